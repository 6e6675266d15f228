/- The contract of the reference's Decode of manifests, over lists alone. -/
import Derived.Test.YtibahgondccdiaaMfQ
namespace Go.Proofs.Ytibahgondccdiaa.PAll
open Go.RowKit Go.Proofs.Ytibahgondccdiaa.Oct Go.Proofs.Ytibahgondccdiaa.HX Go.Proofs.YtibahgondccdiaaW.PrintWords Go.Proofs.YtibahgondccdiaaW.PrintLast Go.Proofs.YtibahgondccdiaaW.PrintMore
attribute [local go_sem] max2_int min2_int max_two min_two max_three min_three max_four min_four   -- for this text's walks alone
set_option linter.unusedVariables false
set_option linter.unusedSimpArgs false
def cartageref16_Decode_h.T14 : Bool × List (List Nat × List Nat) := (true, [([], []), ([0], [0]), ([1], [1]), ([], []), ([3], [3]), ([4], [4]), ([5], [5]), ([], []), ([7], [7]), ([8], [8]), ([9], [9]), ([], []), ([11], [11]), ([12], [12]), ([13], [13]), ([14], [14]), ([], []), ([16], [16]), ([17], [17]), ([18], [18]), ([], []), ([20], [20]), ([21], [21]), ([22], [22]), ([19, 23], [19, 23]), ([2, 6, 10, 15, 24], [2, 6, 10, 15, 24]), ([], []), ([26, 25, 0, 1, 2, 3, 4, 5, 6, 7, 8, 9, 10, 11, 12, 13, 14, 15, 16, 17, 18, 19, 20, 21, 22, 23, 24, 25, 26], [25, 26])])
def cartageref16_Decode_h.B14 : List Nat := [0, 1, 3, 0, 8, 24, 56, 0, 128, 384, 896, 0, 2048, 6144, 14336, 30720, 0, 65536, 196608, 458752, 0, 1048576, 3145728, 7340032, 16711680, 33554431, 0, 134217727]
theorem cartageref16_Decode_h.tab14 : rtab .any (opsOf Try.f16 14) = cartageref16_Decode_h.T14 := by kernel_rfl
theorem cartageref16_Decode_h.bits14 : waitsOk cartageref16_Decode_h.T14.2 cartageref16_Decode_h.B14 = true := by kernel_rfl
def cartageref16_Decode_h.T15 : Bool × List (List Nat × List Nat) := (true, [([], []), ([0], [0]), ([1], [1]), ([2, 1], [2]), ([3], [3]), ([4, 3, 3], [3, 4]), ([5, 3], [3, 5]), ([3], [3]), ([7, 3], [3, 7]), ([6, 8, 3], [3, 6, 8]), ([3, 9], [3, 9])])
def cartageref16_Decode_h.B15 : List Nat := [0, 1, 3, 7, 15, 31, 63, 15, 143, 511, 1023]
theorem cartageref16_Decode_h.tab15 : rtab .any (opsOf Try.f16 15) = cartageref16_Decode_h.T15 := by kernel_rfl
theorem cartageref16_Decode_h.bits15 : waitsOk cartageref16_Decode_h.T15.2 cartageref16_Decode_h.B15 = true := by kernel_rfl
def cartageref16_DecodeX_h.T15 : Bool × List (List Nat × List Nat) := (true, [([], []), ([0], [0]), ([1], [1]), ([2, 1], [2]), ([3], [3]), ([4, 3, 3], [3, 4]), ([5, 3], [3, 5]), ([3], [3]), ([7, 3], [3, 7]), ([6, 8, 3], [3, 6, 8]), ([3, 9], [3, 9])])
def cartageref16_DecodeX_h.B15 : List Nat := [0, 1, 3, 7, 15, 31, 63, 15, 143, 511, 1023]
theorem cartageref16_DecodeX_h.tab15 : rtab .any (opsOf Try.f16 15) = cartageref16_DecodeX_h.T15 := by kernel_rfl
theorem cartageref16_DecodeX_h.bits15 : waitsOk cartageref16_DecodeX_h.T15.2 cartageref16_DecodeX_h.B15 = true := by kernel_rfl

theorem ref_decode_w {A : Option Addr} {c : Nat} {l : List Int} {w : World} (h : Kd.C (Kd.int .u8) w A l.length l) (hc : l.length ≤ c) (hb : Bytes l) (hl : l.length ≤ 1000000) :
    Calls Try.prog 30 #[.slice A l.length c] w fun e w' => ∃ A' c', e = .returned (.tuple #[.slice A' (dec l).1.length c', .int .i64 (dec l).2.1, .int .i64 (dec l).2.2]) ∧ (dec l).1.length ≤ c' ∧ Kd.C (Kd.int .u8) w' A' (dec l).1.length (dec l).1 ∧ Below w.heap.size w w' := by
  refine (cartageref04_Decode.calls 100000 _ _ l _ _ _ _ h hc (ref_decode_is hb (by omega) 100000 (by omega))).mono ?_
  rintro e w3 ⟨v3, rfl, ho3, hb3⟩
  obtain ⟨A3, c3, rfl⟩ := Kd.R_slice ho3
  have O3 := R_C ho3
  exact ⟨A3, c3, rfl, O3.2.1, O3.2.2, hb3⟩
theorem ref_get8_w {A : Option Addr} {c : Nat} {l : List Int} {w : World} (h : Kd.C (Kd.int .u8) w A l.length l) (hc : l.length ≤ c) (hb : Bytes l) (hl : l.length = 48) (j : Nat) (hj : j < 6) :
    Calls Try.prog 31 #[.slice A l.length c, .int .i64 (8 * (j : Int)), .int .i64 8] w fun e w' => (∃ b, e = .returned (.tuple #[.int .u64 (at8 l j), .bool b])) ∧ ∃ m, w' = w.drewN m := by
  have hg : cartageref01_Get.f 20 l (8 * (j : Int)) 8 = some (at8 l j, true) := by
    unfold at8
    rw [if_pos (by omega), ref_get_is hb (by omega) (by omega) (by omega) (by omega) (by omega) 20 (by omega), show (8 * (j : Int)).toNat = 8 * j by omega]; rfl
  refine (cartageref01_Get.calls 20 _ _ l _ _ _ _ _ h hc hg).mono ?_
  rintro e w3 ⟨rfl, ⟨m, rfl⟩⟩
  exact ⟨⟨_, rfl⟩, m, rfl⟩

theorem rdright_w (m : Mf) (wf : m.Wf) (w : World) :
    Calls Try.prog 11 #[.agg #[.int .u64 m.s, .int .i64 m.n, .int .i64 m.h, .int .i64 m.t, .int .i64 m.k, .int .u32 m.p]] w fun e w' => e = .returned (.bool m.right) ∧ Below w.heap.size w w' :=
  cartageref16_Right.calls 10 _ _ _ _ _ _ _ _ (ref_right_is wf 10 (by omega))
theorem name_w {a : Nat} {w w' : World} (_ : Below a w w') : ∃ w3, w3 = w' := ⟨_, rfl⟩
set_option maxHeartbeats 8000000 in
set_option maxRecDepth 100000 in
theorem rdecode_w {A : Option Addr} {c : Nat} {l : List Int} {w : World} (h : Kd.C (Kd.int .u8) w A l.length l) (hc : l.length ≤ c) (hb : Bytes l) (hl : l.length ≤ 1000000) :
    Calls Try.prog 16 #[.slice A l.length c] w fun e w' => e = .returned (.tuple #[.agg #[.int .u64 (mdec l).s, .int .i64 (mdec l).n, .int .i64 (mdec l).h, .int .i64 (mdec l).t, .int .i64 (mdec l).k, .int .u32 (mdec l).p], .int .i64 (mderr l)]) ∧ Below w.heap.size w w' := by
  have HC := Aside0.mk h
  have LC := Aside0.mk hc
  have HBY := Aside0.mk hb
  have HB := Aside0.mk (Below.refl w.heap.size w)
  have hmx := h.2.1
  obtain ⟨mm, hmm⟩ : ∃ q, mdec l = q := ⟨_, rfl⟩
  obtain ⟨me, hme⟩ : ∃ q, mderr l = q := ⟨_, rfl⟩
  rw [hmm, hme]
  have HM := Aside0.mk hmm
  have HE := Aside0.mk hme
  have SH := Aside0.mk (fun h => okM_shape hb (b := l) h)
  clear h hc hb hmm hme
  go_enter Try.func16, Try.ntmps16
  go_wp2_with ((with_reducible refine gate_dst (N := 2) rfl ?_); refine box_event ?hg (N := 2) ?hd (cs := #[.int .u64 0, .int .i64 0, .int .i64 0, .int .i64 0, .int .i64 0, .int .u32 0]) (t := 34) ?hr ?_; (case hd => rfl); (case hg => rfl); (case hr => first | (go_simp; done) | (go_simp; rfl)); intro g hg w0 hbox hb; have B0 := Aside0.mk hb; have BK := Aside0.mk hbox; clear hb hbox; have GE := Aside0.mk (show w.heap.size ≤ g from by rw [hg]; exact Nat.le_refl _); clear hg)
  refine (ref_decode_w (Kd.C_below HC.out B0.out) LC.out HBY.out hl).mono ?_
  rintro e w1 ⟨A1, c1, rfl, hle1, hC1, hb1⟩
  have B1 := Aside0.mk (below_step B0.out hb1)
  have BK1 := Aside0.mk (blk_below BK.out hb1)
  have HC1 := Aside0.mk (Kd.C_below HC.out B1.out)
  have T1 := Aside0.mk (And.intro hle1 hC1)
  have HT := Aside0.mk (dec_text HBY.out)
  clear hle1 hC1 hb1 BK B0 HC HB
  obtain ⟨h0, h1, h2, h3, h4, h5⟩ := six_cells BK1.out
  obtain ⟨f0, f1, f2, f3, f4, f5⟩ := six_free BK1.out
  by_cases he : (dec l).2.2 = 0
  · have hmd : mm = if OkM l then nums (dec l).1 else Mf.zero := HM.out.symm
    have hmr : me = if OkM l then 0 else 2 := by
      rw [← HE.out]; unfold mderr; rw [if_pos he]
    have hok : OkM l ↔ (nums (dec l).1).Right ∧ Oct.enc (nums (dec l).1).text = l := ⟨fun h => h.2, fun h => ⟨he, h⟩⟩
    have HOK := Aside0.mk hok
    have HMD := Aside0.mk hmd
    have HMR := Aside0.mk hmr
    have e1 : ((dec l).2.2 == 0) = true := beq_iff_eq.mpr he
    clear hok hmd hmr he HM HE
    have wf := Aside0.mk (nums_wf HT.out.1)
    generalize (dec l).2.2 = er at *
    generalize (dec l).2.1 = sz at *
    generalize (dec l).1 = t at *
    obtain rfl : er = 0 := beq_iff_eq.mp e1
    clear e1
    by_cases hsh : t.length = 48 ∧ sz = l.length
    · obtain ⟨ht48, rfl⟩ := hsh
      have T48 := Aside0.mk ht48
      have n48 : ((t.length : Int) == 48) = true := by rw [ht48]; rfl
      have n48' : ((t.length : Int) != 48) = false := by rw [ht48]; rfl
      clear ht48 h0 h1 h2 h3 h4 h5 f0 f1 f2 f3 f4 f5
      go_wp2_with ((with_reducible refine gate_dst (N := 32) rfl ?_); refine Kd.R_lit (Kd.int .u64) w1.heap.size 22 ?hg (N := 32) ?hd (xs := ([] : List Int)) (inner := []) (ok := fun _ => True) (okp := fun _ => True) ?hr ?hp (fun _ hk => hk) trivial (Below.refl _ _) (Nat.le_refl _) (by simp) ?_; (case hd => rfl); (case hg => rfl); (case hr => first | (go_simp; done) | (go_simp; rfl)); (case hp => exact (Reps.none _ _)); intro v6 w6 ho6 hb6 hg_ hnew_; obtain ⟨A6, c6, rfl⟩ := Kd.R_slice ho6; have O6 := Aside0.mk ho6; have B6 := Aside0.mk hb6; clear ho6 hb6 hg_ hnew_)
      go_loopg [7, 8] 6 (fun kq v7 v8 w' => ∃ j : Nat, kq + j = 6 ∧ v8 = .int .i64 (j : Nat) ∧ Aside0 (Kd.R (Kd.int .u64) 22 w' w1.heap.size (fun _ => True) v7 (firsts t j)) ∧ Aside0 (Below w1.heap.size w1 w') ∧ Aside0 (∀ i, 0 < i → i < j → at8 t i ≤ 1099511627777))
      case atStart => exact ⟨0, by omega, by first | rfl | simp, O6, B6, ⟨fun i h0 h1 => absurd h1 (by omega)⟩⟩
      case round =>
        clear O6 B6
        obtain ⟨j, hj, rfl, O6, B6, HLE⟩ := hrel
        by_cases hj6 : j < 6
        · go_wp2_with fail
          refine (ref_get8_w (Kd.C_below T1.out.2 B6.out) T1.out.1 HT.out.1 T48.out j hj6).mono ?_
          rintro e w2 ⟨⟨b, rfl⟩, m2, rfl⟩
          have O7 := Aside0.mk (Kd.R_drewN O6.out m2)
          have B7 := Aside0.mk (pw_below_drewN B6.out m2)
          have hx := at8_bounds HT.out.1 j
          have HFS := Aside0.mk (firsts_succ t j)
          have HFL := Aside0.mk (firsts_length t j)
          have HX := Aside0.mk (show 0 < j → at8 t j > 1099511627777 → ¬ OkM l from fun a b h => by have := (SH.out h).2.2 j a hj6; omega)
          have HX2 := Aside0.mk (show (0 < j → at8 t j ≤ 1099511627777) → ∀ i, 0 < i → i < j + 1 → at8 t i ≤ 1099511627777 from fun a i h0 h1 => by
            by_cases hij : i = j
            · subst hij; exact a h0
            · exact HLE.out i h0 (by omega))
          clear O6 B6 HLE
          generalize firsts t j = fs at *
          generalize at8 t j = x at *
          by_cases hbad : 0 < j ∧ x > 1099511627777
          · have hno := HX.out hbad.1 hbad.2
            have hm1 := Aside0.mk (HMD.out.trans (if_neg hno))
            have hm2 := Aside0.mk (HMR.out.trans (if_neg hno))
            have BK2 := Aside0.mk (blk_below BK1.out B7.out)
            obtain ⟨h0, h1, h2, h3, h4, h5⟩ := six_cells BK2.out
            obtain ⟨f0, f1, f2, f3, f4, f5⟩ := six_free BK2.out
            have d1 : decide ((0 : Int) < (j : Int)) = true := decide_eq_true (by omega)
            have d1' : decide (0 < j) = true := decide_eq_true hbad.1
            have d1'' : 0 < j := hbad.1
            have d2 : decide (1099511627777 < x) = true := decide_eq_true hbad.2
            clear hno HX HX2 hbad
            go_wp2
            refine bodyPost_ret (results_ct rfl _ _ g 34 #[.int .u64 0, .int .i64 0, .int .i64 0, .int .i64 0, .int .i64 0, .int .u32 0] (0, 0) _ rfl (six_put BK2.out _ _ _ _ _ _) Try.underlying34 rfl (by kernel_rfl)) rfl ?_
            exact ⟨by rw [hm1.out, hm2.out]; rfl, six_below (below_step B1.out B7.out) GE.out _ _ _ _ _ _⟩
          · have hok2 := HX2.out (fun a => by omega)
            have HL2 := Aside0.mk hok2
            have hb2 : j = 0 ∨ 0 < j ∧ x ≤ 1099511627777 := by omega
            clear hok2 HX HX2 hbad
            rcases hb2 with rfl | ⟨h0j, hxs⟩
            · go_wp2_with ((with_reducible refine gate_builtin (b := .append) (xs := #[.tmp 51, .tmp 53]) rfl ?_); at_builtin; refine Kd.R_append (Kd.int .u64) (w0 := w1) w1.heap.size rfl (.tmp 51) (.tmp 53) 63 22 (.int .u64 0) 8 rfl Try.underlying63 info22 rfl (by decide) (by omega) _ fs x [.int .u64 x] (fun _ => True) (fun _ => False) rfl rfl rfl (fun _ hk => hk.elim) (fun _ _ => trivial) O7.out B7.out (below_size B7.out) (by have := HFL.out; omega) ?_; intro v8 w8 ho8 hb8 hg_ hnew_; have O8 := Aside0.mk ho8; have B8 := Aside0.mk hb8; clear ho8 hb8 hg_ hnew_)
              obtain ⟨k1, rfl⟩ : ∃ k1, gk = k1 + 1 := ⟨gk - 1, by omega⟩
              go_roundg k1
              case measure => omega
              case rel => exact ⟨1, by omega, by simp, ⟨by rw [HFS.out]; exact O8.out⟩, B8, HL2⟩
            · have d1 : decide ((0 : Int) < (j : Int)) = true := decide_eq_true (by omega)
              have d1' : decide (0 < j) = true := decide_eq_true h0j
              have d2 : decide (1099511627777 < x) = false := decide_eq_false (by omega)
              go_wp2_with ((with_reducible refine gate_builtin (b := .append) (xs := #[.tmp 51, .tmp 53]) rfl ?_); at_builtin; refine Kd.R_append (Kd.int .u64) (w0 := w1) w1.heap.size rfl (.tmp 51) (.tmp 53) 63 22 (.int .u64 0) 8 rfl Try.underlying63 info22 rfl (by decide) (by omega) _ fs x [.int .u64 x] (fun _ => True) (fun _ => False) rfl rfl rfl (fun _ hk => hk.elim) (fun _ _ => trivial) O7.out B7.out (below_size B7.out) (by have := HFL.out; omega) ?_; intro v8 w8 ho8 hb8 hg_ hnew_; have O8 := Aside0.mk ho8; have B8 := Aside0.mk hb8; clear ho8 hb8 hg_ hnew_)
              obtain ⟨k1, rfl⟩ : ∃ k1, gk = k1 + 1 := ⟨gk - 1, by omega⟩
              go_roundg k1
              case measure => omega
              case rel => exact ⟨j + 1, by omega, by simp, ⟨by rw [HFS.out]; exact O8.out⟩, B8, HL2⟩
        · obtain rfl : j = 6 := by omega
          obtain ⟨w3, hw3⟩ := name_w B6.out
          rw [firsts_six] at O6
          obtain ⟨g7, cap7, rfl, hg71, hg72, hg73⟩ := Kd.R_form O6.out (by simp)
          simp only [List.length_cons, List.length_nil, Nat.zero_add, Nat.reduceAdd] at O6 ⊢
          have k0 := (Kd.R_celln (0 : Int) O6.out 0 (by decide) (by decide)).1
          have k1 := (Kd.R_celln (0 : Int) O6.out 1 (by decide) (by decide)).1
          have k2 := (Kd.R_celln (0 : Int) O6.out 2 (by decide) (by decide)).1
          have k3 := (Kd.R_celln (0 : Int) O6.out 3 (by decide) (by decide)).1
          have k4 := (Kd.R_celln (0 : Int) O6.out 4 (by decide) (by decide)).1
          have k5 := (Kd.R_celln (0 : Int) O6.out 5 (by decide) (by decide)).1
          have HN := Aside0.mk (show nums t = ⟨at8 t 0, wrap64 (at8 t 1), wrap64 (at8 t 2), wrap64 (wrap64 (at8 t 3) - 1), wrap64 (at8 t 4), at8 t 5 % 4294967296⟩ from rfl)
          have hb0 := at8_bounds HT.out.1 0
          have B2 := Aside0.mk (below_step B1.out B6.out)
          have BK2 := Aside0.mk (blk_below BK1.out B6.out)
          have HC2 := Aside0.mk (Kd.C_below HC1.out B6.out)
          clear HLE O6 B6 B1 BK1 HC1 T1 hg71 hg72 hg73
          generalize at8 t 0 = x0 at *
          generalize at8 t 1 = x1 at *
          generalize at8 t 2 = x2 at *
          generalize at8 t 3 = x3 at *
          generalize at8 t 4 = x4 at *
          generalize at8 t 5 = x5 at *
          subst hw3
          change w3.cell? ⟨g7, 0, none⟩ = some (Value.int .u64 x0) at k0
          change w3.cell? ⟨g7, 1, none⟩ = some (Value.int .u64 x1) at k1
          change w3.cell? ⟨g7, 2, none⟩ = some (Value.int .u64 x2) at k2
          change w3.cell? ⟨g7, 3, none⟩ = some (Value.int .u64 x3) at k3
          change w3.cell? ⟨g7, 4, none⟩ = some (Value.int .u64 x4) at k4
          change w3.cell? ⟨g7, 5, none⟩ = some (Value.int .u64 x5) at k5
          go_wp2_with fail
          refine start_ (n := 28) (S := fun w' => Below w3.heap.size w3 w') (ds := []) #[false, false, false, false, false, false, false, false, false, false, false, false, false, false, false, false, false, false, false, false, false, false, false, false, false, false, false, false] (by kernel_rfl) rfl rfl (below_drew (Below.refl _ _)) (fun hHeld => ?_); refine with_tabW cartageref16_Decode_h.tab14 cartageref16_Decode_h.bits14 (fun HT_ HW_ => ?_)
          refine pure_ (i := 0) (N := some 55) (v := ?_) (a' := ?_) #[true, false, false, false, false, false, false, false, false, false, false, false, false, false, false, false, false, false, false, false, false, false, false, false, false, false, false, false] rfl rfl (any_of HT_.out (by kernel_rfl)) (fun _ _ _ h => h) (Or.inl ⟨by rfl, ?_⟩) ?_ ?_
          rotate_left
          · intro w'
            go_simp
            with_reducible rfl
          rotate_left
          · simp only [Act.put, List.setIfInBounds_toArray, List.set_cons_zero, List.set_cons_succ, i64_w, i32_w]
            rfl
          refine pure_ (i := 1) (N := some 56) (v := ?_) (a' := ?_) #[true, true, false, false, false, false, false, false, false, false, false, false, false, false, false, false, false, false, false, false, false, false, false, false, false, false, false, false] rfl rfl (any_of HT_.out (by kernel_rfl)) (fun _ _ _ h => h) (Or.inl ⟨by rfl, ?_⟩) ?_ ?_
          rotate_left
          · intro w'
            go_simp
            with_reducible rfl
          rotate_left
          · simp only [Act.put, List.setIfInBounds_toArray, List.set_cons_zero, List.set_cons_succ, i64_w, i32_w]
            rfl
          refine take_ (i := 2) (N := some 57) (v := ?_) (a' := ?_) #[true, true, true, false, false, false, false, false, false, false, false, false, false, false, false, false, false, false, false, false, false, false, false, false, false, false, false, false] rfl rfl (take_ofW HT_.out HW_.out (by kernel_rfl)) (fun _ _ _ h => h) (Or.inl ⟨by rfl, ?_⟩) hHeld ?_ ?_
          rotate_left
          · rintro w' s0
            have q0 := pw_cell_below s0 k0
            have q1 := pw_cell_below s0 k1
            have q2 := pw_cell_below s0 k2
            have q3 := pw_cell_below s0 k3
            have q4 := pw_cell_below s0 k4
            have q5 := pw_cell_below s0 k5
            go_simp
            (try with_reducible rfl)
          rotate_left
          · simp only [Act.put, List.setIfInBounds_toArray, List.set_cons_zero, List.set_cons_succ, i64_w, i32_w]
            rfl
          refine pure_ (i := 3) (N := some 58) (v := ?_) (a' := ?_) #[true, true, true, true, false, false, false, false, false, false, false, false, false, false, false, false, false, false, false, false, false, false, false, false, false, false, false, false] rfl rfl (any_of HT_.out (by kernel_rfl)) (fun _ _ _ h => h) (Or.inl ⟨by rfl, ?_⟩) ?_ ?_
          rotate_left
          · intro w'
            go_simp
            with_reducible rfl
          rotate_left
          · simp only [Act.put, List.setIfInBounds_toArray, List.set_cons_zero, List.set_cons_succ, i64_w, i32_w]
            rfl
          refine pure_ (i := 4) (N := some 59) (v := ?_) (a' := ?_) #[true, true, true, true, true, false, false, false, false, false, false, false, false, false, false, false, false, false, false, false, false, false, false, false, false, false, false, false] rfl rfl (any_of HT_.out (by kernel_rfl)) (fun _ _ _ h => h) (Or.inl ⟨by rfl, ?_⟩) ?_ ?_
          rotate_left
          · intro w'
            go_simp
            with_reducible rfl
          rotate_left
          · simp only [Act.put, List.setIfInBounds_toArray, List.set_cons_zero, List.set_cons_succ, i64_w, i32_w]
            rfl
          refine take_ (i := 5) (N := some 60) (v := ?_) (a' := ?_) #[true, true, true, true, true, true, false, false, false, false, false, false, false, false, false, false, false, false, false, false, false, false, false, false, false, false, false, false] rfl rfl (take_ofW HT_.out HW_.out (by kernel_rfl)) (fun _ _ _ h => h) (Or.inl ⟨by rfl, ?_⟩) hHeld ?_ ?_
          rotate_left
          · rintro w' s0
            have q0 := pw_cell_below s0 k0
            have q1 := pw_cell_below s0 k1
            have q2 := pw_cell_below s0 k2
            have q3 := pw_cell_below s0 k3
            have q4 := pw_cell_below s0 k4
            have q5 := pw_cell_below s0 k5
            go_simp
            (try with_reducible rfl)
          rotate_left
          · simp only [Act.put, List.setIfInBounds_toArray, List.set_cons_zero, List.set_cons_succ, i64_w, i32_w]
            rfl
          refine pure_ (i := 6) (N := some 61) (v := ?_) (a' := ?_) #[true, true, true, true, true, true, true, false, false, false, false, false, false, false, false, false, false, false, false, false, false, false, false, false, false, false, false, false] rfl rfl (any_of HT_.out (by kernel_rfl)) (fun _ _ _ h => h) (Or.inl ⟨by rfl, ?_⟩) ?_ ?_
          rotate_left
          · intro w'
            go_simp
            with_reducible rfl
          rotate_left
          · simp only [Act.put, List.setIfInBounds_toArray, List.set_cons_zero, List.set_cons_succ, i64_w, i32_w]
            rfl
          refine pure_ (i := 7) (N := some 62) (v := ?_) (a' := ?_) #[true, true, true, true, true, true, true, true, false, false, false, false, false, false, false, false, false, false, false, false, false, false, false, false, false, false, false, false] rfl rfl (any_of HT_.out (by kernel_rfl)) (fun _ _ _ h => h) (Or.inl ⟨by rfl, ?_⟩) ?_ ?_
          rotate_left
          · intro w'
            go_simp
            with_reducible rfl
          rotate_left
          · simp only [Act.put, List.setIfInBounds_toArray, List.set_cons_zero, List.set_cons_succ, i64_w, i32_w]
            rfl
          refine pure_ (i := 8) (N := some 63) (v := ?_) (a' := ?_) #[true, true, true, true, true, true, true, true, true, false, false, false, false, false, false, false, false, false, false, false, false, false, false, false, false, false, false, false] rfl rfl (any_of HT_.out (by kernel_rfl)) (fun _ _ _ h => h) (Or.inl ⟨by rfl, ?_⟩) ?_ ?_
          rotate_left
          · intro w'
            go_simp
            with_reducible rfl
          rotate_left
          · simp only [Act.put, List.setIfInBounds_toArray, List.set_cons_zero, List.set_cons_succ, i64_w, i32_w]
            rfl
          refine take_ (i := 9) (N := some 64) (v := ?_) (a' := ?_) #[true, true, true, true, true, true, true, true, true, true, false, false, false, false, false, false, false, false, false, false, false, false, false, false, false, false, false, false] rfl rfl (take_ofW HT_.out HW_.out (by kernel_rfl)) (fun _ _ _ h => h) (Or.inl ⟨by rfl, ?_⟩) hHeld ?_ ?_
          rotate_left
          · rintro w' s0
            have q0 := pw_cell_below s0 k0
            have q1 := pw_cell_below s0 k1
            have q2 := pw_cell_below s0 k2
            have q3 := pw_cell_below s0 k3
            have q4 := pw_cell_below s0 k4
            have q5 := pw_cell_below s0 k5
            go_simp
            (try with_reducible rfl)
          rotate_left
          · simp only [Act.put, List.setIfInBounds_toArray, List.set_cons_zero, List.set_cons_succ, i64_w, i32_w]
            rfl
          refine pure_ (i := 10) (N := some 65) (v := ?_) (a' := ?_) #[true, true, true, true, true, true, true, true, true, true, true, false, false, false, false, false, false, false, false, false, false, false, false, false, false, false, false, false] rfl rfl (any_of HT_.out (by kernel_rfl)) (fun _ _ _ h => h) (Or.inl ⟨by rfl, ?_⟩) ?_ ?_
          rotate_left
          · intro w'
            go_simp
            with_reducible rfl
          rotate_left
          · simp only [Act.put, List.setIfInBounds_toArray, List.set_cons_zero, List.set_cons_succ, i64_w, i32_w]
            rfl
          refine pure_ (i := 11) (N := some 66) (v := ?_) (a' := ?_) #[true, true, true, true, true, true, true, true, true, true, true, true, false, false, false, false, false, false, false, false, false, false, false, false, false, false, false, false] rfl rfl (any_of HT_.out (by kernel_rfl)) (fun _ _ _ h => h) (Or.inl ⟨by rfl, ?_⟩) ?_ ?_
          rotate_left
          · intro w'
            go_simp
            with_reducible rfl
          rotate_left
          · simp only [Act.put, List.setIfInBounds_toArray, List.set_cons_zero, List.set_cons_succ, i64_w, i32_w]
            rfl
          refine pure_ (i := 12) (N := some 67) (v := ?_) (a' := ?_) #[true, true, true, true, true, true, true, true, true, true, true, true, true, false, false, false, false, false, false, false, false, false, false, false, false, false, false, false] rfl rfl (any_of HT_.out (by kernel_rfl)) (fun _ _ _ h => h) (Or.inl ⟨by rfl, ?_⟩) ?_ ?_
          rotate_left
          · intro w'
            go_simp
            with_reducible rfl
          rotate_left
          · simp only [Act.put, List.setIfInBounds_toArray, List.set_cons_zero, List.set_cons_succ, i64_w, i32_w]
            rfl
          refine take_ (i := 13) (N := some 68) (v := ?_) (a' := ?_) #[true, true, true, true, true, true, true, true, true, true, true, true, true, true, false, false, false, false, false, false, false, false, false, false, false, false, false, false] rfl rfl (take_ofW HT_.out HW_.out (by kernel_rfl)) (fun _ _ _ h => h) (Or.inl ⟨by rfl, ?_⟩) hHeld ?_ ?_
          rotate_left
          · rintro w' s0
            have q0 := pw_cell_below s0 k0
            have q1 := pw_cell_below s0 k1
            have q2 := pw_cell_below s0 k2
            have q3 := pw_cell_below s0 k3
            have q4 := pw_cell_below s0 k4
            have q5 := pw_cell_below s0 k5
            go_simp
            (try with_reducible rfl)
          rotate_left
          · simp only [Act.put, List.setIfInBounds_toArray, List.set_cons_zero, List.set_cons_succ, i64_w, i32_w]
            rfl
          refine pure_ (i := 14) (N := some 69) (v := ?_) (a' := ?_) #[true, true, true, true, true, true, true, true, true, true, true, true, true, true, true, false, false, false, false, false, false, false, false, false, false, false, false, false] rfl rfl (any_of HT_.out (by kernel_rfl)) (fun _ _ _ h => h) (Or.inl ⟨by rfl, ?_⟩) ?_ ?_
          rotate_left
          · intro w'
            go_simp
            with_reducible rfl
          rotate_left
          · simp only [Act.put, List.setIfInBounds_toArray, List.set_cons_zero, List.set_cons_succ, i64_w, i32_w]
            rfl
          refine pure_ (i := 15) (N := some 70) (v := ?_) (a' := ?_) #[true, true, true, true, true, true, true, true, true, true, true, true, true, true, true, true, false, false, false, false, false, false, false, false, false, false, false, false] rfl rfl (any_of HT_.out (by kernel_rfl)) (fun _ _ _ h => h) (Or.inl ⟨by rfl, ?_⟩) ?_ ?_
          rotate_left
          · intro w'
            go_simp
            with_reducible rfl
          rotate_left
          · simp only [Act.put, List.setIfInBounds_toArray, List.set_cons_zero, List.set_cons_succ, i64_w, i32_w]
            rfl
          refine pure_ (i := 16) (N := some 71) (v := ?_) (a' := ?_) #[true, true, true, true, true, true, true, true, true, true, true, true, true, true, true, true, true, false, false, false, false, false, false, false, false, false, false, false] rfl rfl (any_of HT_.out (by kernel_rfl)) (fun _ _ _ h => h) (Or.inl ⟨by rfl, ?_⟩) ?_ ?_
          rotate_left
          · intro w'
            go_simp
            with_reducible rfl
          rotate_left
          · simp only [Act.put, List.setIfInBounds_toArray, List.set_cons_zero, List.set_cons_succ, i64_w, i32_w]
            rfl
          refine pure_ (i := 17) (N := some 72) (v := ?_) (a' := ?_) #[true, true, true, true, true, true, true, true, true, true, true, true, true, true, true, true, true, true, false, false, false, false, false, false, false, false, false, false] rfl rfl (any_of HT_.out (by kernel_rfl)) (fun _ _ _ h => h) (Or.inl ⟨by rfl, ?_⟩) ?_ ?_
          rotate_left
          · intro w'
            go_simp
            with_reducible rfl
          rotate_left
          · simp only [Act.put, List.setIfInBounds_toArray, List.set_cons_zero, List.set_cons_succ, i64_w, i32_w]
            rfl
          refine take_ (i := 18) (N := some 73) (v := ?_) (a' := ?_) #[true, true, true, true, true, true, true, true, true, true, true, true, true, true, true, true, true, true, true, false, false, false, false, false, false, false, false, false] rfl rfl (take_ofW HT_.out HW_.out (by kernel_rfl)) (fun _ _ _ h => h) (Or.inl ⟨by rfl, ?_⟩) hHeld ?_ ?_
          rotate_left
          · rintro w' s0
            have q0 := pw_cell_below s0 k0
            have q1 := pw_cell_below s0 k1
            have q2 := pw_cell_below s0 k2
            have q3 := pw_cell_below s0 k3
            have q4 := pw_cell_below s0 k4
            have q5 := pw_cell_below s0 k5
            go_simp
            (try with_reducible rfl)
          rotate_left
          · simp only [Act.put, List.setIfInBounds_toArray, List.set_cons_zero, List.set_cons_succ, i64_w, i32_w]
            rfl
          refine pure_ (i := 19) (N := some 74) (v := ?_) (a' := ?_) #[true, true, true, true, true, true, true, true, true, true, true, true, true, true, true, true, true, true, true, true, false, false, false, false, false, false, false, false] rfl rfl (any_of HT_.out (by kernel_rfl)) (fun _ _ _ h => h) (Or.inl ⟨by rfl, ?_⟩) ?_ ?_
          rotate_left
          · intro w'
            go_simp
            with_reducible rfl
          rotate_left
          · simp only [Act.put, List.setIfInBounds_toArray, List.set_cons_zero, List.set_cons_succ, i64_w, i32_w]
            rfl
          refine pure_ (i := 20) (N := some 75) (v := ?_) (a' := ?_) #[true, true, true, true, true, true, true, true, true, true, true, true, true, true, true, true, true, true, true, true, true, false, false, false, false, false, false, false] rfl rfl (any_of HT_.out (by kernel_rfl)) (fun _ _ _ h => h) (Or.inl ⟨by rfl, ?_⟩) ?_ ?_
          rotate_left
          · intro w'
            go_simp
            with_reducible rfl
          rotate_left
          · simp only [Act.put, List.setIfInBounds_toArray, List.set_cons_zero, List.set_cons_succ, i64_w, i32_w]
            rfl
          refine pure_ (i := 21) (N := some 76) (v := ?_) (a' := ?_) #[true, true, true, true, true, true, true, true, true, true, true, true, true, true, true, true, true, true, true, true, true, true, false, false, false, false, false, false] rfl rfl (any_of HT_.out (by kernel_rfl)) (fun _ _ _ h => h) (Or.inl ⟨by rfl, ?_⟩) ?_ ?_
          rotate_left
          · intro w'
            go_simp
            with_reducible rfl
          rotate_left
          · simp only [Act.put, List.setIfInBounds_toArray, List.set_cons_zero, List.set_cons_succ, i64_w, i32_w]
            rfl
          refine take_ (i := 22) (N := some 77) (v := ?_) (a' := ?_) #[true, true, true, true, true, true, true, true, true, true, true, true, true, true, true, true, true, true, true, true, true, true, true, false, false, false, false, false] rfl rfl (take_ofW HT_.out HW_.out (by kernel_rfl)) (fun _ _ _ h => h) (Or.inl ⟨by rfl, ?_⟩) hHeld ?_ ?_
          rotate_left
          · rintro w' s0
            have q0 := pw_cell_below s0 k0
            have q1 := pw_cell_below s0 k1
            have q2 := pw_cell_below s0 k2
            have q3 := pw_cell_below s0 k3
            have q4 := pw_cell_below s0 k4
            have q5 := pw_cell_below s0 k5
            go_simp
            (try with_reducible rfl)
          rotate_left
          · simp only [Act.put, List.setIfInBounds_toArray, List.set_cons_zero, List.set_cons_succ, i64_w, i32_w]
            rfl
          refine pure_ (i := 23) (N := some 78) (v := ?_) (a' := ?_) #[true, true, true, true, true, true, true, true, true, true, true, true, true, true, true, true, true, true, true, true, true, true, true, true, false, false, false, false] rfl rfl (any_of HT_.out (by kernel_rfl)) (fun _ _ _ h => h) (Or.inl ⟨by rfl, ?_⟩) ?_ ?_
          rotate_left
          · intro w'
            go_simp
            with_reducible rfl
          rotate_left
          · simp only [Act.put, List.setIfInBounds_toArray, List.set_cons_zero, List.set_cons_succ, i64_w, i32_w]
            rfl
          refine pure_ (i := 24) (N := some 79) (v := ?_) (a' := ?_) #[true, true, true, true, true, true, true, true, true, true, true, true, true, true, true, true, true, true, true, true, true, true, true, true, true, false, false, false] rfl rfl (any_of HT_.out (by kernel_rfl)) (fun _ _ _ h => h) (Or.inl ⟨by rfl, ?_⟩) ?_ ?_
          rotate_left
          · intro w'
            go_simp
            with_reducible rfl
          rotate_left
          · simp only [Act.put, List.setIfInBounds_toArray, List.set_cons_zero, List.set_cons_succ, i64_w, i32_w]
            rfl
          refine pure_ (i := 25) (N := some 80) (v := ?_) (a' := ?_) #[true, true, true, true, true, true, true, true, true, true, true, true, true, true, true, true, true, true, true, true, true, true, true, true, true, true, false, false] rfl rfl (any_of HT_.out (by kernel_rfl)) (fun _ _ _ h => h) (Or.inl ⟨by rfl, ?_⟩) ?_ ?_
          rotate_left
          · intro w'
            go_simp
            with_reducible rfl
          rotate_left
          · simp only [Act.put, List.setIfInBounds_toArray, List.set_cons_zero, List.set_cons_succ, i64_w, i32_w]
            rfl
          refine one_ (i := 26) (N := some 11) #[true, true, true, true, true, true, true, true, true, true, true, true, true, true, true, true, true, true, true, true, true, true, true, true, true, true, true, false] rfl rfl (one_of HT_.out (by kernel_rfl)) (by decide) (fun K hK => ?_)
          refine value_ (w1 := w3.drew.alloc (.cells #[.int .u64 0, .int .i64 0, .int .i64 0, .int .i64 0, .int .i64 0, .int .u32 0] 34)) (v := .pointer (some ⟨w3.heap.size, 0, none⟩)) (by rfl) rfl ?_ ?_
          · go_simp
            try rfl
          have GA := Aside0.mk (show (w3.drew.alloc (.cells #[.int .u64 0, .int .i64 0, .int .i64 0, .int .i64 0, .int .i64 0, .int .u32 0] 34)).heap[w3.heap.size]? = _ from blk_new w3.drew (.cells #[.int .u64 0, .int .i64 0, .int .i64 0, .int .i64 0, .int .i64 0, .int .u32 0] 34))
          have BA := Aside0.mk (hHeld.alloc (below_size hHeld) (.cells #[.int .u64 0, .int .i64 0, .int .i64 0, .int .i64 0, .int .i64 0, .int .u32 0] 34))
          have B2A := Aside0.mk (below_step B2.out BA.out)
          have BK2A := Aside0.mk (blk_below BK2.out BA.out)
          have HC2A := Aside0.mk (Kd.C_below HC2.out BA.out)
          have BSA := Aside0.mk (Nat.le_refl w3.heap.size)
          obtain ⟨f0, f1, f2, f3, f4, f5⟩ := six_free GA.out
          obtain ⟨c0, c1, c2, c3, c4, c5⟩ := six_cells GA.out
          generalize w3.drew.alloc (.cells #[.int .u64 0, .int .i64 0, .int .i64 0, .int .i64 0, .int .i64 0, .int .u32 0] 34) = wB at *
          refine hK.out _ _ BA.out (fun hHeld => ?_)
          clear hK K
          refine norm_ (a' := ?_) ?_ ?_
          rotate_left
          · show Act.put _ (some 11) _ = _
            simp only [Act.put, List.setIfInBounds_toArray, List.set_cons_zero, List.set_cons_succ, i64_w, i32_w]
            rfl
          refine one_ (i := 27) (N := none) #[true, true, true, true, true, true, true, true, true, true, true, true, true, true, true, true, true, true, true, true, true, true, true, true, true, true, true, true] rfl rfl (one_of HT_.out (by kernel_rfl)) (by decide) (fun K hK => ?_)
          refine skip_ (w1 := ?_) (by rfl) rfl ?_ ?_
          rotate_left 1
          · go_simp
            rfl
          refine hK.out _ _ (six_below BA.out BSA.out _ _ _ _ _ _) (fun hHeld => ?_)
          clear hK K
          refine done_ (done_of HT_.out (by kernel_rfl)) ?_
          have hC1 := six_below BA.out BSA.out (.int .u64 x0) (.int .i64 (wrap64 x1)) (.int .i64 (wrap64 x2)) (.int .i64 (wrap64 (wrap64 x3 - 1))) (.int .i64 (wrap64 x4)) (.int .u32 (IntKind.u32.wrap x5))
          have GB : Aside0 (((((((wB.setCell ⟨w3.heap.size, 0, none⟩ (.int .u64 x0)).setCell ⟨w3.heap.size, 1, none⟩ (.int .i64 (wrap64 x1))).setCell ⟨w3.heap.size, 2, none⟩ (.int .i64 (wrap64 x2))).setCell ⟨w3.heap.size, 3, none⟩ (.int .i64 (wrap64 (wrap64 x3 - 1)))).setCell ⟨w3.heap.size, 4, none⟩ (.int .i64 (wrap64 x4))).setCell ⟨w3.heap.size, 5, none⟩ (.int .u32 (IntKind.u32.wrap x5))).heap[w3.heap.size]? = some (.cells #[.int .u64 (nums t).s, .int .i64 (nums t).n, .int .i64 (nums t).h, .int .i64 (nums t).t, .int .i64 (nums t).k, .int .u32 (nums t).p] 34 (0, 0))) := ⟨by rw [HN.out]; exact six_put GA.out (.int .u64 x0) (.int .i64 (wrap64 x1)) (.int .i64 (wrap64 x2)) (.int .i64 (wrap64 (wrap64 x3 - 1))) (.int .i64 (wrap64 x4)) (.int .u32 (IntKind.u32.wrap x5))⟩
          have BB := Aside0.mk (below_step B2.out hC1)
          have BKB := Aside0.mk (blk_below BK2.out hC1)
          have HCB := Aside0.mk (Kd.C_below HC2.out hC1)
          clear hC1 GA BA B2 BK2 HC2 B2A BK2A HC2A BSA hHeld k0 k1 k2 k3 k4 k5 c0 c1 c2 c3 c4 c5 f0 f1 f2 f3 f4 f5 HN HT_ HW_
          generalize ((((((wB.setCell ⟨w3.heap.size, 0, none⟩ (.int .u64 x0)).setCell ⟨w3.heap.size, 1, none⟩ (.int .i64 (wrap64 x1))).setCell ⟨w3.heap.size, 2, none⟩ (.int .i64 (wrap64 x2))).setCell ⟨w3.heap.size, 3, none⟩ (.int .i64 (wrap64 (wrap64 x3 - 1)))).setCell ⟨w3.heap.size, 4, none⟩ (.int .i64 (wrap64 x4))).setCell ⟨w3.heap.size, 5, none⟩ (.int .u32 (IntKind.u32.wrap x5))) = w4 at *
          generalize w3.heap.size = gm at *
          have MW := wf
          clear wf HT hb0
          generalize nums t = m at *
          have RE := Aside0.mk (ref_mencode_is m 100200 (by omega))
          have E3 := Aside0.mk (fun w => rdright_w m MW.out w)
          have hx54 := Aside0.mk (enc_bytes m.text_bytes)
          by_cases hr : m.Right
          · have hrr : m.right = true := decide_eq_true hr
            by_cases hq : Oct.enc m.text = l
            · have hm1 := Aside0.mk (HMD.out.trans (if_pos (HOK.out.mpr ⟨hr, hq⟩)))
              have hm2 := Aside0.mk (HMR.out.trans (if_pos (HOK.out.mpr ⟨hr, hq⟩)))
              rw [hq] at RE
              have E4 : Aside0 (∀ w, Calls Try.prog 11 #[.agg #[.int .u64 m.s, .int .i64 m.n, .int .i64 m.h, .int .i64 m.t, .int .i64 m.k, .int .u32 m.p]] w fun e w' => e = .returned (.bool true) ∧ Below w.heap.size w w') := ⟨fun w => by have := E3.out w; rwa [hrr] at this⟩
              clear hr hrr hq E3 HOK HMD HMR hx54
              go_wp2_with fail
              refine start_ (n := 11) (S := fun w' => Below w4.heap.size w4 w') (ds := []) #[false, false, false, false, false, false, false, false, false, false, false] (by kernel_rfl) rfl rfl (below_drew (Below.refl _ _)) (fun hHeld => ?_); refine with_tabW cartageref16_Decode_h.tab15 cartageref16_Decode_h.bits15 (fun HT_ HW_ => ?_)
              refine take_ (i := 0) (N := some 81) (v := ?_) (a' := ?_) #[true, false, false, false, false, false, false, false, false, false, false] rfl rfl (take_ofW HT_.out HW_.out (by kernel_rfl)) (fun _ _ _ h => h) (Or.inl ⟨by rfl, ?_⟩) hHeld ?_ ?_
              rotate_left
              · rintro w' s0
                obtain ⟨h0, h1, h2, h3, h4, h5⟩ := six_cells (blk_below GB.out s0)
                have hcv := Kd.C_string (P := Try.prog) (A := A) (c := c) Try.underlying29 Try.underlying5 Try.underlying9 (Kd.C_below HCB.out s0)
                go_simp
                (try with_reducible rfl)
              rotate_left
              · simp only [Act.put, List.setIfInBounds_toArray, List.set_cons_zero, List.set_cons_succ, i64_w, i32_w]
                rfl
              refine one_ (i := 1) (N := some 82) #[true, true, false, false, false, false, false, false, false, false, false] rfl rfl (one_of HT_.out (by kernel_rfl)) (by decide) (fun K hK => ?_)
              refine goes_ Try.func11 (by kernel_rfl) rfl #[.agg #[.int .u64 m.s, .int .i64 m.n, .int .i64 m.h, .int .i64 m.t, .int .i64 m.k, .int .u32 m.p]] (by rfl) rfl rfl (by (try simp only [List.map_toArray, List.map_cons, List.map_nil]); rfl) ?_
              refine (E4.out _).mono ?_
              rintro e w5 ⟨rfl, hb5⟩
              have B5 := Aside0.mk (below_step hHeld hb5)
              clear hb5 hHeld
              refine ⟨_, rfl, ?_⟩
              refine hK.out _ _ B5.out (fun hHeld => ?_)
              clear hK K
              refine norm_ (a' := ?_) ?_ ?_
              rotate_left
              · show Act.put _ (some 82) _ = _
                simp only [Act.put, List.setIfInBounds_toArray, List.set_cons_zero, List.set_cons_succ, i64_w, i32_w]
                rfl
              refine pure_ (i := 2) (N := some 83) (v := ?_) (a' := ?_) #[true, true, true, false, false, false, false, false, false, false, false] rfl rfl (any_of HT_.out (by kernel_rfl)) (fun _ _ _ h => h) (Or.inl ⟨by rfl, ?_⟩) ?_ ?_
              rotate_left
              · intro w'
                go_simp
                with_reducible rfl
              rotate_left
              · simp only [Act.put, List.setIfInBounds_toArray, List.set_cons_zero, List.set_cons_succ, i64_w, i32_w]
                rfl
              refine pure_ (i := 3) (N := some 84) (v := ?_) (a' := ?_) #[true, true, true, true, false, false, false, false, false, false, false] rfl rfl (any_of HT_.out (by kernel_rfl)) (fun _ _ _ h => h) (Or.inl ⟨by rfl, ?_⟩) ?_ ?_
              rotate_left
              · intro w'
                go_simp
                with_reducible rfl
              rotate_left
              · simp only [Act.put, List.setIfInBounds_toArray, List.set_cons_zero, List.set_cons_succ, i64_w, i32_w]
                rfl
              refine take_ (i := 4) (N := some 85) (v := ?_) (a' := ?_) #[true, true, true, true, true, false, false, false, false, false, false] rfl rfl (take_ofW HT_.out HW_.out (by kernel_rfl)) (fun _ _ _ h => h) (Or.inl ⟨by rfl, ?_⟩) hHeld ?_ ?_
              rotate_left
              · rintro w' s0
                obtain ⟨h0, h1, h2, h3, h4, h5⟩ := six_cells (blk_below GB.out s0)
                have hcv := Kd.C_string (P := Try.prog) (A := A) (c := c) Try.underlying29 Try.underlying5 Try.underlying9 (Kd.C_below HCB.out s0)
                go_simp
                (try with_reducible rfl)
              rotate_left
              · simp only [Act.put, List.setIfInBounds_toArray, List.set_cons_zero, List.set_cons_succ, i64_w, i32_w]
                rfl
              refine pure_ (i := 7) (N := some 88) (v := ?_) (a' := ?_) #[true, true, true, true, true, false, false, true, false, false, false] rfl rfl (any_of HT_.out (by kernel_rfl)) (fun _ _ _ h => h) (Or.inl ⟨by rfl, ?_⟩) ?_ ?_
              rotate_left
              · intro w'
                go_simp
                with_reducible rfl
              rotate_left
              · simp only [Act.put, List.setIfInBounds_toArray, List.set_cons_zero, List.set_cons_succ, i64_w, i32_w]
                rfl
              refine take_ (i := 8) (N := some 89) (v := ?_) (a' := ?_) #[true, true, true, true, true, false, false, true, true, false, false] rfl rfl (take_ofW HT_.out HW_.out (by kernel_rfl)) (fun _ _ _ h => h) (Or.inl ⟨by rfl, ?_⟩) hHeld ?_ ?_
              rotate_left
              · rintro w' s0
                obtain ⟨h0, h1, h2, h3, h4, h5⟩ := six_cells (blk_below GB.out s0)
                have hcv := Kd.C_string (P := Try.prog) (A := A) (c := c) Try.underlying29 Try.underlying5 Try.underlying9 (Kd.C_below HCB.out s0)
                go_simp
                (try with_reducible rfl)
              rotate_left
              · simp only [Act.put, List.setIfInBounds_toArray, List.set_cons_zero, List.set_cons_succ, i64_w, i32_w]
                rfl
              refine one_ (i := 5) (N := some 86) #[true, true, true, true, true, true, false, true, true, false, false] rfl rfl (one_of HT_.out (by kernel_rfl)) (by decide) (fun K hK => ?_)
              refine goes_ Try.func15 (by kernel_rfl) rfl #[.agg #[.int .u64 m.s, .int .i64 m.n, .int .i64 m.h, .int .i64 m.t, .int .i64 m.k, .int .u32 m.p]] (by rfl) rfl rfl (by (try simp only [List.map_toArray, List.map_cons, List.map_nil]); rfl) ?_
              refine (cartageref16_Encode.calls 100200 _ _ _ _ _ _ _ _ RE.out).mono ?_
              rintro e w8 ⟨v8, rfl, ho8, hb8⟩
              obtain ⟨A8, c8, rfl⟩ := Kd.R_slice ho8
              have B8 := Aside0.mk (below_step B5.out hb8)
              have hcv8 := Kd.C_string (P := Try.prog) (A := A8) (c := c8) Try.underlying29 Try.underlying5 Try.underlying9 (R_C ho8).2.2
              clear hb8 ho8 hHeld B5
              refine ⟨_, rfl, ?_⟩
              refine hK.out _ _ B8.out (fun hHeld => ?_)
              clear hK K
              refine norm_ (a' := ?_) ?_ ?_
              rotate_left
              · show Act.put _ (some 86) _ = _
                simp only [Act.put, List.setIfInBounds_toArray, List.set_cons_zero, List.set_cons_succ, i64_w, i32_w]
                rfl
              refine one_ (i := 6) (N := some 87) #[true, true, true, true, true, true, true, true, true, false, false] rfl rfl (one_of HT_.out (by kernel_rfl)) (by decide) (fun K hK => ?_)
              refine value_ (w1 := ?_) (v := ?_) (by rfl) rfl ?_ ?_
              rotate_left 2
              · go_simp
                constructor
                · rfl
                · rfl
              refine hK.out _ _ hHeld (fun hHeld => ?_)
              clear hK K
              refine norm_ (a' := ?_) ?_ ?_
              rotate_left
              · show Act.put _ (some 87) _ = _
                simp only [Act.put, List.setIfInBounds_toArray, List.set_cons_zero, List.set_cons_succ, i64_w, i32_w]
                rfl
              refine pure_ (i := 9) (N := some 90) (v := ?_) (a' := ?_) #[true, true, true, true, true, true, true, true, true, true, false] rfl rfl (any_of HT_.out (by kernel_rfl)) (fun _ _ _ h => h) (Or.inl ⟨by rfl, ?_⟩) ?_ ?_
              rotate_left
              · intro w'
                go_simp
                with_reducible rfl
              rotate_left
              · simp only [Act.put, List.setIfInBounds_toArray, List.set_cons_zero, List.set_cons_succ, i64_w, i32_w]
                rfl
              refine pure_ (i := 10) (N := some 91) (v := ?_) (a' := ?_) #[true, true, true, true, true, true, true, true, true, true, true] rfl rfl (any_of HT_.out (by kernel_rfl)) (fun _ _ _ h => h) (Or.inl ⟨by rfl, ?_⟩) ?_ ?_
              rotate_left
              · intro w'
                go_simp
                with_reducible rfl
              rotate_left
              · simp only [Act.put, List.setIfInBounds_toArray, List.set_cons_zero, List.set_cons_succ, i64_w, i32_w]
                rfl
              refine done_ (done_of HT_.out (by kernel_rfl)) ?_
              have GB8 := blk_below GB.out B8.out
              have BK8 := Aside0.mk (blk_below BKB.out B8.out)
              obtain ⟨h0, h1, h2, h3, h4, h5⟩ := six_cells GB8
              obtain ⟨i0, i1, i2, i3, i4, i5⟩ := six_cells BK8.out
              obtain ⟨f0, f1, f2, f3, f4, f5⟩ := six_free BK8.out
              clear GB8
              go_wp2
              refine bodyPost_ret (results_ct rfl _ _ g 34 #[.int .u64 m.s, .int .i64 m.n, .int .i64 m.h, .int .i64 m.t, .int .i64 m.k, .int .u32 m.p] (0, 0) _ rfl (six_put BK8.out _ _ _ _ _ _) Try.underlying34 rfl (by kernel_rfl)) rfl ?_
              exact ⟨by rw [hm1.out, hm2.out]; rfl, six_below (below_step BB.out B8.out) GE.out _ _ _ _ _ _⟩
            · have hm1 := Aside0.mk (HMD.out.trans (if_neg fun h => hq (HOK.out.mp h).2))
              have hm2 := Aside0.mk (HMR.out.trans (if_neg fun h => hq (HOK.out.mp h).2))
              have E4 : Aside0 (∀ w, Calls Try.prog 11 #[.agg #[.int .u64 m.s, .int .i64 m.n, .int .i64 m.h, .int .i64 m.t, .int .i64 m.k, .int .u32 m.p]] w fun e w' => e = .returned (.bool true) ∧ Below w.heap.size w w') := ⟨fun w => by have := E3.out w; rwa [hrr] at this⟩
              have n1 : ((strOfNums (Oct.enc m.text)).toList == (strOfNums l).toList) = false := beq_eq_false_iff_ne.mpr (fun h => hq ((str_eq hx54.out HBY.out).mp h))
              clear hr hrr hq E3 HOK HMD HMR hx54
              generalize Oct.enc m.text = xe at *
              go_wp2_with fail
              refine start_ (n := 11) (S := fun w' => Below w4.heap.size w4 w') (ds := []) #[false, false, false, false, false, false, false, false, false, false, false] (by kernel_rfl) rfl rfl (below_drew (Below.refl _ _)) (fun hHeld => ?_); refine with_tabW cartageref16_Decode_h.tab15 cartageref16_Decode_h.bits15 (fun HT_ HW_ => ?_)
              refine take_ (i := 0) (N := some 81) (v := ?_) (a' := ?_) #[true, false, false, false, false, false, false, false, false, false, false] rfl rfl (take_ofW HT_.out HW_.out (by kernel_rfl)) (fun _ _ _ h => h) (Or.inl ⟨by rfl, ?_⟩) hHeld ?_ ?_
              rotate_left
              · rintro w' s0
                obtain ⟨h0, h1, h2, h3, h4, h5⟩ := six_cells (blk_below GB.out s0)
                have hcv := Kd.C_string (P := Try.prog) (A := A) (c := c) Try.underlying29 Try.underlying5 Try.underlying9 (Kd.C_below HCB.out s0)
                go_simp
                (try with_reducible rfl)
              rotate_left
              · simp only [Act.put, List.setIfInBounds_toArray, List.set_cons_zero, List.set_cons_succ, i64_w, i32_w]
                rfl
              refine one_ (i := 1) (N := some 82) #[true, true, false, false, false, false, false, false, false, false, false] rfl rfl (one_of HT_.out (by kernel_rfl)) (by decide) (fun K hK => ?_)
              refine goes_ Try.func11 (by kernel_rfl) rfl #[.agg #[.int .u64 m.s, .int .i64 m.n, .int .i64 m.h, .int .i64 m.t, .int .i64 m.k, .int .u32 m.p]] (by rfl) rfl rfl (by (try simp only [List.map_toArray, List.map_cons, List.map_nil]); rfl) ?_
              refine (E4.out _).mono ?_
              rintro e w5 ⟨rfl, hb5⟩
              have B5 := Aside0.mk (below_step hHeld hb5)
              clear hb5 hHeld
              refine ⟨_, rfl, ?_⟩
              refine hK.out _ _ B5.out (fun hHeld => ?_)
              clear hK K
              refine norm_ (a' := ?_) ?_ ?_
              rotate_left
              · show Act.put _ (some 82) _ = _
                simp only [Act.put, List.setIfInBounds_toArray, List.set_cons_zero, List.set_cons_succ, i64_w, i32_w]
                rfl
              refine pure_ (i := 2) (N := some 83) (v := ?_) (a' := ?_) #[true, true, true, false, false, false, false, false, false, false, false] rfl rfl (any_of HT_.out (by kernel_rfl)) (fun _ _ _ h => h) (Or.inl ⟨by rfl, ?_⟩) ?_ ?_
              rotate_left
              · intro w'
                go_simp
                with_reducible rfl
              rotate_left
              · simp only [Act.put, List.setIfInBounds_toArray, List.set_cons_zero, List.set_cons_succ, i64_w, i32_w]
                rfl
              refine pure_ (i := 3) (N := some 84) (v := ?_) (a' := ?_) #[true, true, true, true, false, false, false, false, false, false, false] rfl rfl (any_of HT_.out (by kernel_rfl)) (fun _ _ _ h => h) (Or.inl ⟨by rfl, ?_⟩) ?_ ?_
              rotate_left
              · intro w'
                go_simp
                with_reducible rfl
              rotate_left
              · simp only [Act.put, List.setIfInBounds_toArray, List.set_cons_zero, List.set_cons_succ, i64_w, i32_w]
                rfl
              refine take_ (i := 4) (N := some 85) (v := ?_) (a' := ?_) #[true, true, true, true, true, false, false, false, false, false, false] rfl rfl (take_ofW HT_.out HW_.out (by kernel_rfl)) (fun _ _ _ h => h) (Or.inl ⟨by rfl, ?_⟩) hHeld ?_ ?_
              rotate_left
              · rintro w' s0
                obtain ⟨h0, h1, h2, h3, h4, h5⟩ := six_cells (blk_below GB.out s0)
                have hcv := Kd.C_string (P := Try.prog) (A := A) (c := c) Try.underlying29 Try.underlying5 Try.underlying9 (Kd.C_below HCB.out s0)
                go_simp
                (try with_reducible rfl)
              rotate_left
              · simp only [Act.put, List.setIfInBounds_toArray, List.set_cons_zero, List.set_cons_succ, i64_w, i32_w]
                rfl
              refine pure_ (i := 7) (N := some 88) (v := ?_) (a' := ?_) #[true, true, true, true, true, false, false, true, false, false, false] rfl rfl (any_of HT_.out (by kernel_rfl)) (fun _ _ _ h => h) (Or.inl ⟨by rfl, ?_⟩) ?_ ?_
              rotate_left
              · intro w'
                go_simp
                with_reducible rfl
              rotate_left
              · simp only [Act.put, List.setIfInBounds_toArray, List.set_cons_zero, List.set_cons_succ, i64_w, i32_w]
                rfl
              refine take_ (i := 8) (N := some 89) (v := ?_) (a' := ?_) #[true, true, true, true, true, false, false, true, true, false, false] rfl rfl (take_ofW HT_.out HW_.out (by kernel_rfl)) (fun _ _ _ h => h) (Or.inl ⟨by rfl, ?_⟩) hHeld ?_ ?_
              rotate_left
              · rintro w' s0
                obtain ⟨h0, h1, h2, h3, h4, h5⟩ := six_cells (blk_below GB.out s0)
                have hcv := Kd.C_string (P := Try.prog) (A := A) (c := c) Try.underlying29 Try.underlying5 Try.underlying9 (Kd.C_below HCB.out s0)
                go_simp
                (try with_reducible rfl)
              rotate_left
              · simp only [Act.put, List.setIfInBounds_toArray, List.set_cons_zero, List.set_cons_succ, i64_w, i32_w]
                rfl
              refine one_ (i := 5) (N := some 86) #[true, true, true, true, true, true, false, true, true, false, false] rfl rfl (one_of HT_.out (by kernel_rfl)) (by decide) (fun K hK => ?_)
              refine goes_ Try.func15 (by kernel_rfl) rfl #[.agg #[.int .u64 m.s, .int .i64 m.n, .int .i64 m.h, .int .i64 m.t, .int .i64 m.k, .int .u32 m.p]] (by rfl) rfl rfl (by (try simp only [List.map_toArray, List.map_cons, List.map_nil]); rfl) ?_
              refine (cartageref16_Encode.calls 100200 _ _ _ _ _ _ _ _ RE.out).mono ?_
              rintro e w8 ⟨v8, rfl, ho8, hb8⟩
              obtain ⟨A8, c8, rfl⟩ := Kd.R_slice ho8
              have B8 := Aside0.mk (below_step B5.out hb8)
              have hcv8 := Kd.C_string (P := Try.prog) (A := A8) (c := c8) Try.underlying29 Try.underlying5 Try.underlying9 (R_C ho8).2.2
              clear hb8 ho8 hHeld B5
              refine ⟨_, rfl, ?_⟩
              refine hK.out _ _ B8.out (fun hHeld => ?_)
              clear hK K
              refine norm_ (a' := ?_) ?_ ?_
              rotate_left
              · show Act.put _ (some 86) _ = _
                simp only [Act.put, List.setIfInBounds_toArray, List.set_cons_zero, List.set_cons_succ, i64_w, i32_w]
                rfl
              refine one_ (i := 6) (N := some 87) #[true, true, true, true, true, true, true, true, true, false, false] rfl rfl (one_of HT_.out (by kernel_rfl)) (by decide) (fun K hK => ?_)
              refine value_ (w1 := ?_) (v := ?_) (by rfl) rfl ?_ ?_
              rotate_left 2
              · go_simp
                constructor
                · rfl
                · rfl
              refine hK.out _ _ hHeld (fun hHeld => ?_)
              clear hK K
              refine norm_ (a' := ?_) ?_ ?_
              rotate_left
              · show Act.put _ (some 87) _ = _
                simp only [Act.put, List.setIfInBounds_toArray, List.set_cons_zero, List.set_cons_succ, i64_w, i32_w]
                rfl
              refine pure_ (i := 9) (N := some 90) (v := ?_) (a' := ?_) #[true, true, true, true, true, true, true, true, true, true, false] rfl rfl (any_of HT_.out (by kernel_rfl)) (fun _ _ _ h => h) (Or.inl ⟨by rfl, ?_⟩) ?_ ?_
              rotate_left
              · intro w'
                go_simp
                with_reducible rfl
              rotate_left
              · simp only [Act.put, List.setIfInBounds_toArray, List.set_cons_zero, List.set_cons_succ, i64_w, i32_w]
                rfl
              refine pure_ (i := 10) (N := some 91) (v := ?_) (a' := ?_) #[true, true, true, true, true, true, true, true, true, true, true] rfl rfl (any_of HT_.out (by kernel_rfl)) (fun _ _ _ h => h) (Or.inl ⟨by rfl, ?_⟩) ?_ ?_
              rotate_left
              · intro w'
                go_simp
                with_reducible rfl
              rotate_left
              · simp only [Act.put, List.setIfInBounds_toArray, List.set_cons_zero, List.set_cons_succ, i64_w, i32_w]
                rfl
              refine done_ (done_of HT_.out (by kernel_rfl)) ?_
              have BK8 := Aside0.mk (blk_below BKB.out B8.out)
              obtain ⟨i0, i1, i2, i3, i4, i5⟩ := six_cells BK8.out
              obtain ⟨f0, f1, f2, f3, f4, f5⟩ := six_free BK8.out
              go_wp2
              refine bodyPost_ret (results_ct rfl _ _ g 34 #[.int .u64 0, .int .i64 0, .int .i64 0, .int .i64 0, .int .i64 0, .int .u32 0] (0, 0) _ rfl (six_put BK8.out _ _ _ _ _ _) Try.underlying34 rfl (by kernel_rfl)) rfl ?_
              exact ⟨by rw [hm1.out, hm2.out]; rfl, six_below (below_step BB.out B8.out) GE.out _ _ _ _ _ _⟩
          · have hrr : m.right = false := decide_eq_false hr
            have hm1 := Aside0.mk (HMD.out.trans (if_neg fun h => hr (HOK.out.mp h).1))
            have hm2 := Aside0.mk (HMR.out.trans (if_neg fun h => hr (HOK.out.mp h).1))
            have E4 : Aside0 (∀ w, Calls Try.prog 11 #[.agg #[.int .u64 m.s, .int .i64 m.n, .int .i64 m.h, .int .i64 m.t, .int .i64 m.k, .int .u32 m.p]] w fun e w' => e = .returned (.bool false) ∧ Below w.heap.size w w') := ⟨fun w => by have := E3.out w; rwa [hrr] at this⟩
            clear hr hrr E3 HOK HMD HMR hx54 RE
            go_wp2_with fail
            refine start_ (n := 11) (S := fun w' => Below w4.heap.size w4 w') (ds := []) #[false, false, false, false, false, false, false, false, false, false, false] (by kernel_rfl) rfl rfl (below_drew (Below.refl _ _)) (fun hHeld => ?_); refine with_tabW cartageref16_DecodeX_h.tab15 cartageref16_DecodeX_h.bits15 (fun HT_ HW_ => ?_)
            refine take_ (i := 0) (N := some 81) (v := ?_) (a' := ?_) #[true, false, false, false, false, false, false, false, false, false, false] rfl rfl (take_ofW HT_.out HW_.out (by kernel_rfl)) (fun _ _ _ h => h) (Or.inl ⟨by rfl, ?_⟩) hHeld ?_ ?_
            rotate_left
            · rintro w' s0
              obtain ⟨h0, h1, h2, h3, h4, h5⟩ := six_cells (blk_below GB.out s0)
              have hcv := Kd.C_string (P := Try.prog) (A := A) (c := c) Try.underlying29 Try.underlying5 Try.underlying9 (Kd.C_below HCB.out s0)
              go_simp
              (try with_reducible rfl)
            rotate_left
            · simp only [Act.put, List.setIfInBounds_toArray, List.set_cons_zero, List.set_cons_succ, i64_w, i32_w]
              rfl
            refine one_ (i := 1) (N := some 82) #[true, true, false, false, false, false, false, false, false, false, false] rfl rfl (one_of HT_.out (by kernel_rfl)) (by decide) (fun K hK => ?_)
            refine goes_ Try.func11 (by kernel_rfl) rfl #[.agg #[.int .u64 m.s, .int .i64 m.n, .int .i64 m.h, .int .i64 m.t, .int .i64 m.k, .int .u32 m.p]] (by rfl) rfl rfl (by (try simp only [List.map_toArray, List.map_cons, List.map_nil]); rfl) ?_
            refine (E4.out _).mono ?_
            rintro e w5 ⟨rfl, hb5⟩
            have B5 := Aside0.mk (below_step hHeld hb5)
            clear hb5 hHeld
            refine ⟨_, rfl, ?_⟩
            refine hK.out _ _ B5.out (fun hHeld => ?_)
            clear hK K
            refine norm_ (a' := ?_) ?_ ?_
            rotate_left
            · show Act.put _ (some 82) _ = _
              simp only [Act.put, List.setIfInBounds_toArray, List.set_cons_zero, List.set_cons_succ, i64_w, i32_w]
              rfl
            refine pure_ (i := 2) (N := some 83) (v := ?_) (a' := ?_) #[true, true, true, false, false, false, false, false, false, false, false] rfl rfl (any_of HT_.out (by kernel_rfl)) (fun _ _ _ h => h) (Or.inl ⟨by rfl, ?_⟩) ?_ ?_
            rotate_left
            · intro w'
              go_simp
              with_reducible rfl
            rotate_left
            · simp only [Act.put, List.setIfInBounds_toArray, List.set_cons_zero, List.set_cons_succ, i64_w, i32_w]
              rfl
            refine pure_ (i := 3) (N := some 84) (v := ?_) (a' := ?_) #[true, true, true, true, false, false, false, false, false, false, false] rfl rfl (any_of HT_.out (by kernel_rfl)) (fun _ _ _ h => h) (Or.inl ⟨by rfl, ?_⟩) ?_ ?_
            rotate_left
            · intro w'
              go_simp
              with_reducible rfl
            rotate_left
            · simp only [Act.put, List.setIfInBounds_toArray, List.set_cons_zero, List.set_cons_succ, i64_w, i32_w]
              rfl
            refine pure_ (i := 4) (N := some 85) (v := undef) (a' := ?_) #[true, true, true, true, true, false, false, false, false, false, false] rfl rfl (any_of HT_.out (by kernel_rfl)) (fun _ _ _ h => h) (Or.inr ⟨by rfl, rfl⟩) ?_ ?_
            rotate_left
            · simp only [Act.put, List.setIfInBounds_toArray, List.set_cons_zero, List.set_cons_succ, i64_w, i32_w]
              rfl
            refine pure_ (i := 5) (N := some 86) (v := undef) (a' := ?_) #[true, true, true, true, true, true, false, false, false, false, false] rfl rfl (any_of HT_.out (by kernel_rfl)) (fun _ _ _ h => h) (Or.inr ⟨by rfl, rfl⟩) ?_ ?_
            rotate_left
            · simp only [Act.put, List.setIfInBounds_toArray, List.set_cons_zero, List.set_cons_succ, i64_w, i32_w]
              rfl
            refine pure_ (i := 6) (N := some 87) (v := undef) (a' := ?_) #[true, true, true, true, true, true, true, false, false, false, false] rfl rfl (any_of HT_.out (by kernel_rfl)) (fun _ _ _ h => h) (Or.inr ⟨by rfl, rfl⟩) ?_ ?_
            rotate_left
            · simp only [Act.put, List.setIfInBounds_toArray, List.set_cons_zero, List.set_cons_succ, i64_w, i32_w]
              rfl
            refine pure_ (i := 7) (N := some 88) (v := undef) (a' := ?_) #[true, true, true, true, true, true, true, true, false, false, false] rfl rfl (any_of HT_.out (by kernel_rfl)) (fun _ _ _ h => h) (Or.inr ⟨by rfl, rfl⟩) ?_ ?_
            rotate_left
            · simp only [Act.put, List.setIfInBounds_toArray, List.set_cons_zero, List.set_cons_succ, i64_w, i32_w]
              rfl
            refine pure_ (i := 8) (N := some 89) (v := undef) (a' := ?_) #[true, true, true, true, true, true, true, true, true, false, false] rfl rfl (any_of HT_.out (by kernel_rfl)) (fun _ _ _ h => h) (Or.inr ⟨by rfl, rfl⟩) ?_ ?_
            rotate_left
            · simp only [Act.put, List.setIfInBounds_toArray, List.set_cons_zero, List.set_cons_succ, i64_w, i32_w]
              rfl
            refine pure_ (i := 9) (N := some 90) (v := undef) (a' := ?_) #[true, true, true, true, true, true, true, true, true, true, false] rfl rfl (any_of HT_.out (by kernel_rfl)) (fun _ _ _ h => h) (Or.inr ⟨by rfl, rfl⟩) ?_ ?_
            rotate_left
            · simp only [Act.put, List.setIfInBounds_toArray, List.set_cons_zero, List.set_cons_succ, i64_w, i32_w]
              rfl
            refine pure_ (i := 10) (N := some 91) (v := ?_) (a' := ?_) #[true, true, true, true, true, true, true, true, true, true, true] rfl rfl (any_of HT_.out (by kernel_rfl)) (fun _ _ _ h => h) (Or.inl ⟨by rfl, ?_⟩) ?_ ?_
            rotate_left
            · intro w'
              go_simp
              with_reducible rfl
            rotate_left
            · simp only [Act.put, List.setIfInBounds_toArray, List.set_cons_zero, List.set_cons_succ, i64_w, i32_w]
              rfl
            refine done_ (done_of HT_.out (by kernel_rfl)) ?_
            have BK8 := Aside0.mk (blk_below BKB.out B5.out)
            obtain ⟨i0, i1, i2, i3, i4, i5⟩ := six_cells BK8.out
            obtain ⟨f0, f1, f2, f3, f4, f5⟩ := six_free BK8.out
            go_wp2
            refine bodyPost_ret (results_ct rfl _ _ g 34 #[.int .u64 0, .int .i64 0, .int .i64 0, .int .i64 0, .int .i64 0, .int .u32 0] (0, 0) _ rfl (six_put BK8.out _ _ _ _ _ _) Try.underlying34 rfl (by kernel_rfl)) rfl ?_
            exact ⟨by rw [hm1.out, hm2.out]; rfl, six_below (below_step BB.out B5.out) GE.out _ _ _ _ _ _⟩
    · have hno : ¬ OkM l := fun h => hsh ⟨(SH.out h).1, (SH.out h).2.1⟩
      have hm1 := Aside0.mk (HMD.out.trans (if_neg hno))
      have hm2 := Aside0.mk (HMR.out.trans (if_neg hno))
      have hcs : (((t.length : Int) == 48) = false ∧ ((t.length : Int) != 48) = true) ∨ (((t.length : Int) == 48) = true ∧ ((t.length : Int) != 48) = false ∧ (sz == (l.length : Int)) = false ∧ (sz != (l.length : Int)) = true) := by
        by_cases a : t.length = 48
        · exact .inr ⟨by rw [a]; rfl, by rw [a]; rfl, beq_eq_false_iff_ne.mpr fun b => hsh ⟨a, b⟩, bne_iff_ne.mpr fun b => hsh ⟨a, b⟩⟩
        · exact .inl ⟨beq_eq_false_iff_ne.mpr (by omega), bne_iff_ne.mpr (by omega)⟩
      clear hno hsh
      rcases hcs with ⟨k1, k2⟩ | ⟨k1, k2, k3, k4⟩
      all_goals
        go_wp2
        refine bodyPost_ret (results_ct rfl _ _ g 34 #[.int .u64 0, .int .i64 0, .int .i64 0, .int .i64 0, .int .i64 0, .int .u32 0] (0, 0) _ rfl (six_put BK1.out _ _ _ _ _ _) Try.underlying34 rfl (by kernel_rfl)) rfl ?_
        exact ⟨by rw [hm1.out, hm2.out]; rfl, six_below B1.out GE.out _ _ _ _ _ _⟩
  · have hno : ¬ OkM l := fun h => he h.1
    have hm : mm = Mf.zero := HM.out.symm.trans (if_neg hno)
    have hr : me = (dec l).2.2 := by rw [← HE.out]; unfold mderr; rw [if_neg hno, if_neg he]
    have e2 : ((dec l).2.2 != 0) = true := bne_iff_ne.mpr he
    have HM1 := Aside0.mk hm
    have HR1 := Aside0.mk hr
    clear hm hr hno he HM HE
    generalize (dec l).2.2 = er at *
    go_wp2
    refine bodyPost_ret (results_ct rfl _ _ g 34 #[.int .u64 0, .int .i64 0, .int .i64 0, .int .i64 0, .int .i64 0, .int .u32 0] (0, 0) _ rfl (six_put BK1.out _ _ _ _ _ _) Try.underlying34 rfl (by kernel_rfl)) rfl ?_
    exact ⟨by rw [HM1.out, HR1.out]; rfl, six_below B1.out GE.out _ _ _ _ _ _⟩
end Go.Proofs.Ytibahgondccdiaa.PAll
