/- BlockTells: blocks are what the document says. Conditions: none. -/
import Derived.Test.YtaaojocooklfaaaRefW
import Derived.Deep.RegionHeld3
namespace Go.Proofs.Ytaaojocooklfaaa.PAll
open Go.RowKit Go.Proofs.Ytaaojocooklfaaa.Oct Go.Proofs.Ytaaojocooklfaaa.HX Go.Proofs.YtaaojocooklfaaaW.PrintWords Go.Proofs.YtaaojocooklfaaaW.PrintLast Go.Proofs.YtaaojocooklfaaaW.PrintMore
attribute [local go_sem] max2_int min2_int max_two min_two max_three min_three max_four min_four   -- for this text's walks alone
set_option linter.unusedVariables false
set_option linter.unusedSimpArgs false

def cartagelaw04_BlockTells.T8 : Bool × List (List Nat × List Nat) := (true, [([], []), ([0], [0]), ([], []), ([], []), ([2, 3], [2, 3]), ([4], [4]), ([5], [5]), ([6], [6]), ([1, 7], [1, 7]), ([8], [8]), ([9], [9]), ([10, 9], [9, 10]), ([11, 9, 9], [9, 11]), ([12], [12]), ([13, 12], [12, 13]), ([14, 12, 12], [12, 14]), ([15], [15]), ([16, 15], [15, 16]), ([17, 15], [15, 17]), ([15, 18, 12], [12, 15, 18]), ([12, 19, 9], [9, 12, 19]), ([9, 20], [9, 20]), ([21, 15], [21]), ([22], [22]), ([23, 22], [22, 23]), ([24, 22, 22], [22, 24]), ([25], [25]), ([26, 25], [25, 26]), ([25], [25]), ([25], [25]), ([28, 29, 25], [25, 28, 29]), ([30, 25], [25, 30]), ([31, 25, 25], [25, 31]), ([32, 25], [25, 32]), ([27, 33, 25], [25, 27, 33]), ([25, 34, 22], [22, 25, 34]), ([22, 35], [22, 35])])
def cartagelaw04_BlockTells.B8 : List Nat := [0, 1, 0, 0, 12, 28, 60, 124, 255, 511, 1023, 2047, 4095, 8191, 16383, 32767, 65535, 131071, 262143, 524287, 1048575, 2097151, 4194303, 8388607, 16777215, 33554431, 67108863, 134217727, 67108863, 67108863, 872415231, 1946157055, 4093640703, 8388607999, 17179869183, 34359738367, 68719476735]
theorem cartagelaw04_BlockTells.tab8 : rtab .any (opsOf Try.f5 8) = cartagelaw04_BlockTells.T8 := by kernel_rfl
theorem cartagelaw04_BlockTells.bits8 : waitsOk cartagelaw04_BlockTells.T8.2 cartagelaw04_BlockTells.B8 = true := by kernel_rfl
theorem tellsK {w6 w' : World} {p : Addr} {v : Value} {A : Option Addr} {n c : Nat} {b : List Int} (hcell : w6.cell? p = some v) (hC : Kd.C (Kd.int .u8) w6 A n b) (hb : Below w6.heap.size w6 w') :
    Below w6.heap.size w6 w' ∧ w'.cell? p = some v ∧ (convert 22 9 (.slice A n c)).run Try.prog w' = .ok (.string (strOfNums b)) w' :=
  ⟨hb, pw_cell_below hb hcell, Kd.C_string (P := Try.prog) (A := A) (c := c) Try.underlying22 Try.underlying5 Try.underlying9 (Kd.C_below hC hb)⟩
set_option maxHeartbeats 4000000 in
set_option maxRecDepth 100000 in
theorem cartagelaw04_BlockTells.calls (A0 : Option Addr) (c0 : Nat) (l0 : List (List Int)) (w : World) (hr0 : Kd.C (Kd.slice 5 (Kd.int .u8)) w A0 l0.length l0) (hc0 : l0.length ≤ c0) (hb0 : ∀ t ∈ l0, Bytes t) :
    Calls Try.prog 5 #[.slice A0 l0.length c0] w fun e w' => e = .returned (.bool true) ∧ Below w.heap.size w w' := by
  have m0 := few_mem hb0
  have n0 := (few_length l0).1
  have R0 := Aside0.mk hr0
  have C0 := Aside0.mk hc0
  have M0 := Aside0.mk m0
  clear hr0 hc0 m0 hb0
  go_enter Try.func5, Try.ntmps5
  go_wp2_with fail
  refine (shown_true _).mono ?_
  rintro e w1 ⟨rfl, hb1⟩
  have B1 := Aside0.mk hb1
  clear hb1
  go_wp2_with fail
  refine (few_w (Kd.C_below R0.out B1.out) C0.out).mono ?_
  rintro e w2 ⟨A2, c2, rfl, hle2, hS2, hb2⟩
  have B2 := Aside0.mk (below_step B1.out hb2)
  have S2 := Aside0.mk (R_C (Kd.S_R hS2)).2.2
  have L2 := Aside0.mk hle2
  have F2 := few_is l0 R0.out.2.1 30 (by omega)
  clear hb2 hle2 hS2 B1 R0 C0
  have hfew : few (few l0) = few l0 := by
    unfold few
    rw [← List.map_take, List.take_take, List.map_map]
    congr 1
    funext t
    simp [List.take_take]
  have HF := Aside0.mk hfew
  clear hfew F2
  generalize few l0 = x at *
  go_wp2_with fail
  refine (few_w S2.out L2.out).mono ?_
  rw [HF.out]
  rintro e w3 ⟨A3, c3, rfl, hle3, hS3, hb3⟩
  have B3 := Aside0.mk (below_step B2.out hb3)
  have S3 := Aside0.mk (Kd.C_below S2.out hb3)
  have T3 := Aside0.mk (R_C (Kd.S_R hS3)).2.2
  have L3 := Aside0.mk hle3
  clear hb3 hle3 hS3 B2 S2 HF
  go_wp2
  go_loopg [5] x.length (fun kq v5 w' => ∃ k : Nat, kq + k = x.length ∧ v5 = .int .i64 (k : Nat) ∧ Aside0 (Below w.heap.size w w') ∧ Aside0 (Kd.C (Kd.slice 5 (Kd.int .u8)) w' A2 x.length x) ∧ Aside0 (Kd.C (Kd.slice 5 (Kd.int .u8)) w' A3 x.length x))
  case atStart => exact ⟨0, by omega, by first | rfl | simp, B3, S3, T3⟩
  case round =>
    clear S3 B3 T3
    rename_i wr
    obtain ⟨k, hk, rfl, HB, HC, HD⟩ := hrel
    by_cases hlt : k < x.length
    · obtain ⟨ad, A, c, rfl, hcell, hle, hC⟩ := cartagelaw04_same.at_row HC.out k hlt
      obtain ⟨t, ht⟩ : ∃ t, x[k] = t := ⟨_, rfl⟩
      rw [ht] at hcell hle hC
      have hbt : Bytes t ∧ t.length ≤ 1010 := ht ▸ M0.out _ (List.getElem_mem hlt)
      have CT := Aside0.mk hC
      have LT := Aside0.mk hle
      have BT := Aside0.mk hbt.1
      have hlt' := hbt.2
      clear ht hle hC hbt
      go_wp2_with fail
      refine (encode_w CT.out LT.out BT.out).mono ?_
      rintro e w6 ⟨A6, c6, rfl, hle6, hC6, hb6⟩
      have B6 := Aside0.mk (below_step HB.out hb6)
      have C6 := Aside0.mk (Kd.C_below HC.out hb6)
      have D6 := Aside0.mk (Kd.C_below HD.out hb6)
      have T6 := Aside0.mk (Kd.C_below CT.out hb6)
      have hcell6 : w6.cell? (ad.add k) = some (.slice A t.length c) := pw_cell_below hb6 hcell
      by_cases hs : t.length ≤ 1000
      · simp only [if_pos hs] at hle6 hC6 ⊢
        have E6 := Aside0.mk hC6
        clear hle6 hC6 hb6 hcell HB HC HD CT
        have hconv := Kd.C_string (P := Try.prog) (A := A6) (c := c6) Try.underlying22 Try.underlying5 Try.underlying9 E6.out
        have d1 : decide ((t.length : Int) ≤ 1000) = true := decide_eq_true (by omega)
        have e1 : (t.length : Int) ≤ 1000 := by omega
        go_wp2_with fail
        refine start_ (n := 37) (S := fun w' => Below w6.heap.size w6 w' ∧ w'.cell? (ad.add k) = some (.slice A t.length c) ∧ (convert 22 9 (.slice A6 (enc t).length c6)).run Try.prog w' = .ok (.string (strOfNums (enc t))) w') (ds := []) #[false, false, false, false, false, false, false, false, false, false, false, false, false, false, false, false, false, false, false, false, false, false, false, false, false, false, false, false, false, false, false, false, false, false, false, false, false] (by kernel_rfl) rfl rfl (tellsK hcell6 E6.out (below_drew (Below.refl _ _))) (fun hHeld => ?_); refine with_tabW cartagelaw04_BlockTells.tab8 cartagelaw04_BlockTells.bits8 (fun HT_ HW_ => ?_)
        refine pure_ (i := 0) (N := some 31) (v := ?_) (a' := ?_) #[true, false, false, false, false, false, false, false, false, false, false, false, false, false, false, false, false, false, false, false, false, false, false, false, false, false, false, false, false, false, false, false, false, false, false, false, false] rfl rfl (any_of HT_.out (by kernel_rfl)) (fun _ _ _ h => h) (Or.inl ⟨by rfl, ?_⟩) ?_ ?_
        rotate_left
        · intro w'
          go_simp
          with_reducible rfl
        rotate_left
        · simp only [Act.put, List.setIfInBounds_toArray, List.set_cons_zero, List.set_cons_succ, i64_w, i32_w]
          rfl
        refine pure_ (i := 1) (N := some 32) (v := ?_) (a' := ?_) #[true, true, false, false, false, false, false, false, false, false, false, false, false, false, false, false, false, false, false, false, false, false, false, false, false, false, false, false, false, false, false, false, false, false, false, false, false] rfl rfl (any_of HT_.out (by kernel_rfl)) (fun _ _ _ h => h) (Or.inl ⟨by rfl, ?_⟩) ?_ ?_
        rotate_left
        · intro w'
          go_simp
          with_reducible rfl
        rotate_left
        · simp only [Act.put, List.setIfInBounds_toArray, List.set_cons_zero, List.set_cons_succ, i64_w, i32_w]
          rfl
        refine pure_ (i := 2) (N := some 33) (v := ?_) (a' := ?_) #[true, true, true, false, false, false, false, false, false, false, false, false, false, false, false, false, false, false, false, false, false, false, false, false, false, false, false, false, false, false, false, false, false, false, false, false, false] rfl rfl (any_of HT_.out (by kernel_rfl)) (fun _ _ _ h => h) (Or.inl ⟨by rfl, ?_⟩) ?_ ?_
        rotate_left
        · intro w'
          go_simp
          with_reducible rfl
        rotate_left
        · simp only [Act.put, List.setIfInBounds_toArray, List.set_cons_zero, List.set_cons_succ, i64_w, i32_w]
          rfl
        refine pure_ (i := 3) (N := some 34) (v := ?_) (a' := ?_) #[true, true, true, true, false, false, false, false, false, false, false, false, false, false, false, false, false, false, false, false, false, false, false, false, false, false, false, false, false, false, false, false, false, false, false, false, false] rfl rfl (any_of HT_.out (by kernel_rfl)) (fun _ _ _ h => h) (Or.inl ⟨by rfl, ?_⟩) ?_ ?_
        rotate_left
        · intro w'
          go_simp
          with_reducible rfl
        rotate_left
        · simp only [Act.put, List.setIfInBounds_toArray, List.set_cons_zero, List.set_cons_succ, i64_w, i32_w]
          rfl
        refine pure_ (i := 4) (N := some 35) (v := ?_) (a' := ?_) #[true, true, true, true, true, false, false, false, false, false, false, false, false, false, false, false, false, false, false, false, false, false, false, false, false, false, false, false, false, false, false, false, false, false, false, false, false] rfl rfl (any_of HT_.out (by kernel_rfl)) (fun _ _ _ h => h) (Or.inl ⟨by rfl, ?_⟩) ?_ ?_
        rotate_left
        · intro w'
          go_simp
          with_reducible rfl
        rotate_left
        · simp only [Act.put, List.setIfInBounds_toArray, List.set_cons_zero, List.set_cons_succ, i64_w, i32_w]
          rfl
        refine take_ (i := 5) (N := some 36) (v := ?_) (a' := ?_) #[true, true, true, true, true, true, false, false, false, false, false, false, false, false, false, false, false, false, false, false, false, false, false, false, false, false, false, false, false, false, false, false, false, false, false, false, false] rfl rfl (take_ofW HT_.out HW_.out (by kernel_rfl)) (fun _ _ _ h => h) (Or.inl ⟨by rfl, ?_⟩) hHeld ?_ ?_
        rotate_left
        · rintro w' ⟨s0, s1, s2⟩
          go_simp
          (try with_reducible rfl)
        rotate_left
        · simp only [Act.put, List.setIfInBounds_toArray, List.set_cons_zero, List.set_cons_succ, i64_w, i32_w]
          rfl
        refine pure_ (i := 6) (N := some 37) (v := ?_) (a' := ?_) #[true, true, true, true, true, true, true, false, false, false, false, false, false, false, false, false, false, false, false, false, false, false, false, false, false, false, false, false, false, false, false, false, false, false, false, false, false] rfl rfl (any_of HT_.out (by kernel_rfl)) (fun _ _ _ h => h) (Or.inl ⟨by rfl, ?_⟩) ?_ ?_
        rotate_left
        · intro w'
          go_simp
          with_reducible rfl
        rotate_left
        · simp only [Act.put, List.setIfInBounds_toArray, List.set_cons_zero, List.set_cons_succ, i64_w, i32_w]
          rfl
        refine pure_ (i := 7) (N := some 38) (v := ?_) (a' := ?_) #[true, true, true, true, true, true, true, true, false, false, false, false, false, false, false, false, false, false, false, false, false, false, false, false, false, false, false, false, false, false, false, false, false, false, false, false, false] rfl rfl (any_of HT_.out (by kernel_rfl)) (fun _ _ _ h => h) (Or.inl ⟨by rfl, ?_⟩) ?_ ?_
        rotate_left
        · intro w'
          go_simp
          with_reducible rfl
        rotate_left
        · simp only [Act.put, List.setIfInBounds_toArray, List.set_cons_zero, List.set_cons_succ, i64_w, i32_w]
          rfl
        refine pure_ (i := 8) (N := some 39) (v := ?_) (a' := ?_) #[true, true, true, true, true, true, true, true, true, false, false, false, false, false, false, false, false, false, false, false, false, false, false, false, false, false, false, false, false, false, false, false, false, false, false, false, false] rfl rfl (any_of HT_.out (by kernel_rfl)) (fun _ _ _ h => h) (Or.inl ⟨by rfl, ?_⟩) ?_ ?_
        rotate_left
        · intro w'
          go_simp
          with_reducible rfl
        rotate_left
        · simp only [Act.put, List.setIfInBounds_toArray, List.set_cons_zero, List.set_cons_succ, i64_w, i32_w]
          rfl
        refine pure_ (i := 9) (N := some 40) (v := ?_) (a' := ?_) #[true, true, true, true, true, true, true, true, true, true, false, false, false, false, false, false, false, false, false, false, false, false, false, false, false, false, false, false, false, false, false, false, false, false, false, false, false] rfl rfl (any_of HT_.out (by kernel_rfl)) (fun _ _ _ h => h) (Or.inl ⟨by rfl, ?_⟩) ?_ ?_
        rotate_left
        · intro w'
          go_simp
          with_reducible rfl
        rotate_left
        · simp only [Act.put, List.setIfInBounds_toArray, List.set_cons_zero, List.set_cons_succ, i64_w, i32_w]
          rfl
        refine pure_ (i := 10) (N := some 41) (v := ?_) (a' := ?_) #[true, true, true, true, true, true, true, true, true, true, true, false, false, false, false, false, false, false, false, false, false, false, false, false, false, false, false, false, false, false, false, false, false, false, false, false, false] rfl rfl (any_of HT_.out (by kernel_rfl)) (fun _ _ _ h => h) (Or.inl ⟨by rfl, ?_⟩) ?_ ?_
        rotate_left
        · intro w'
          go_simp
          with_reducible rfl
        rotate_left
        · simp only [Act.put, List.setIfInBounds_toArray, List.set_cons_zero, List.set_cons_succ, i64_w, i32_w]
          rfl
        refine pure_ (i := 11) (N := some 42) (v := ?_) (a' := ?_) #[true, true, true, true, true, true, true, true, true, true, true, true, false, false, false, false, false, false, false, false, false, false, false, false, false, false, false, false, false, false, false, false, false, false, false, false, false] rfl rfl (any_of HT_.out (by kernel_rfl)) (fun _ _ _ h => h) (Or.inl ⟨by rfl, ?_⟩) ?_ ?_
        rotate_left
        · intro w'
          go_simp
          with_reducible rfl
        rotate_left
        · simp only [Act.put, List.setIfInBounds_toArray, List.set_cons_zero, List.set_cons_succ, i64_w, i32_w]
          rfl
        refine pure_ (i := 12) (N := some 43) (v := ?_) (a' := ?_) #[true, true, true, true, true, true, true, true, true, true, true, true, true, false, false, false, false, false, false, false, false, false, false, false, false, false, false, false, false, false, false, false, false, false, false, false, false] rfl rfl (any_of HT_.out (by kernel_rfl)) (fun _ _ _ h => h) (Or.inl ⟨by rfl, ?_⟩) ?_ ?_
        rotate_left
        · intro w'
          go_simp
          with_reducible rfl
        rotate_left
        · simp only [Act.put, List.setIfInBounds_toArray, List.set_cons_zero, List.set_cons_succ, i64_w, i32_w]
          rfl
        refine pure_ (i := 13) (N := some 44) (v := undef) (a' := ?_) #[true, true, true, true, true, true, true, true, true, true, true, true, true, true, false, false, false, false, false, false, false, false, false, false, false, false, false, false, false, false, false, false, false, false, false, false, false] rfl rfl (any_of HT_.out (by kernel_rfl)) (fun _ _ _ h => h) (Or.inr ⟨by rfl, rfl⟩) ?_ ?_
        rotate_left
        · simp only [Act.put, List.setIfInBounds_toArray, List.set_cons_zero, List.set_cons_succ, i64_w, i32_w]
          rfl
        refine pure_ (i := 14) (N := some 45) (v := undef) (a' := ?_) #[true, true, true, true, true, true, true, true, true, true, true, true, true, true, true, false, false, false, false, false, false, false, false, false, false, false, false, false, false, false, false, false, false, false, false, false, false] rfl rfl (any_of HT_.out (by kernel_rfl)) (fun _ _ _ h => h) (Or.inr ⟨by rfl, rfl⟩) ?_ ?_
        rotate_left
        · simp only [Act.put, List.setIfInBounds_toArray, List.set_cons_zero, List.set_cons_succ, i64_w, i32_w]
          rfl
        refine pure_ (i := 15) (N := some 46) (v := undef) (a' := ?_) #[true, true, true, true, true, true, true, true, true, true, true, true, true, true, true, true, false, false, false, false, false, false, false, false, false, false, false, false, false, false, false, false, false, false, false, false, false] rfl rfl (any_of HT_.out (by kernel_rfl)) (fun _ _ _ h => h) (Or.inr ⟨by rfl, rfl⟩) ?_ ?_
        rotate_left
        · simp only [Act.put, List.setIfInBounds_toArray, List.set_cons_zero, List.set_cons_succ, i64_w, i32_w]
          rfl
        refine pure_ (i := 16) (N := some 47) (v := undef) (a' := ?_) #[true, true, true, true, true, true, true, true, true, true, true, true, true, true, true, true, true, false, false, false, false, false, false, false, false, false, false, false, false, false, false, false, false, false, false, false, false] rfl rfl (any_of HT_.out (by kernel_rfl)) (fun _ _ _ h => h) (Or.inr ⟨by rfl, rfl⟩) ?_ ?_
        rotate_left
        · simp only [Act.put, List.setIfInBounds_toArray, List.set_cons_zero, List.set_cons_succ, i64_w, i32_w]
          rfl
        refine pure_ (i := 17) (N := some 48) (v := undef) (a' := ?_) #[true, true, true, true, true, true, true, true, true, true, true, true, true, true, true, true, true, true, false, false, false, false, false, false, false, false, false, false, false, false, false, false, false, false, false, false, false] rfl rfl (any_of HT_.out (by kernel_rfl)) (fun _ _ _ h => h) (Or.inr ⟨by rfl, rfl⟩) ?_ ?_
        rotate_left
        · simp only [Act.put, List.setIfInBounds_toArray, List.set_cons_zero, List.set_cons_succ, i64_w, i32_w]
          rfl
        refine pure_ (i := 18) (N := some 49) (v := undef) (a' := ?_) #[true, true, true, true, true, true, true, true, true, true, true, true, true, true, true, true, true, true, true, false, false, false, false, false, false, false, false, false, false, false, false, false, false, false, false, false, false] rfl rfl (any_of HT_.out (by kernel_rfl)) (fun _ _ _ h => h) (Or.inr ⟨by rfl, rfl⟩) ?_ ?_
        rotate_left
        · simp only [Act.put, List.setIfInBounds_toArray, List.set_cons_zero, List.set_cons_succ, i64_w, i32_w]
          rfl
        refine pure_ (i := 19) (N := some 50) (v := undef) (a' := ?_) #[true, true, true, true, true, true, true, true, true, true, true, true, true, true, true, true, true, true, true, true, false, false, false, false, false, false, false, false, false, false, false, false, false, false, false, false, false] rfl rfl (any_of HT_.out (by kernel_rfl)) (fun _ _ _ h => h) (Or.inr ⟨by rfl, rfl⟩) ?_ ?_
        rotate_left
        · simp only [Act.put, List.setIfInBounds_toArray, List.set_cons_zero, List.set_cons_succ, i64_w, i32_w]
          rfl
        refine pure_ (i := 20) (N := some 51) (v := ?_) (a' := ?_) #[true, true, true, true, true, true, true, true, true, true, true, true, true, true, true, true, true, true, true, true, true, false, false, false, false, false, false, false, false, false, false, false, false, false, false, false, false] rfl rfl (any_of HT_.out (by kernel_rfl)) (fun _ _ _ h => h) (Or.inl ⟨by rfl, ?_⟩) ?_ ?_
        rotate_left
        · intro w'
          go_simp
          with_reducible rfl
        rotate_left
        · simp only [Act.put, List.setIfInBounds_toArray, List.set_cons_zero, List.set_cons_succ, i64_w, i32_w]
          rfl
        refine pure_ (i := 21) (N := some 52) (v := ?_) (a' := ?_) #[true, true, true, true, true, true, true, true, true, true, true, true, true, true, true, true, true, true, true, true, true, true, false, false, false, false, false, false, false, false, false, false, false, false, false, false, false] rfl rfl (any_of HT_.out (by kernel_rfl)) (fun _ _ _ h => h) (Or.inl ⟨by rfl, ?_⟩) ?_ ?_
        rotate_left
        · intro w'
          go_simp
          with_reducible rfl
        rotate_left
        · simp only [Act.put, List.setIfInBounds_toArray, List.set_cons_zero, List.set_cons_succ, i64_w, i32_w]
          rfl
        refine pure_ (i := 22) (N := some 53) (v := ?_) (a' := ?_) #[true, true, true, true, true, true, true, true, true, true, true, true, true, true, true, true, true, true, true, true, true, true, true, false, false, false, false, false, false, false, false, false, false, false, false, false, false] rfl rfl (any_of HT_.out (by kernel_rfl)) (fun _ _ _ h => h) (Or.inl ⟨by rfl, ?_⟩) ?_ ?_
        rotate_left
        · intro w'
          go_simp
          with_reducible rfl
        rotate_left
        · simp only [Act.put, List.setIfInBounds_toArray, List.set_cons_zero, List.set_cons_succ, i64_w, i32_w]
          rfl
        refine pure_ (i := 23) (N := some 54) (v := ?_) (a' := ?_) #[true, true, true, true, true, true, true, true, true, true, true, true, true, true, true, true, true, true, true, true, true, true, true, true, false, false, false, false, false, false, false, false, false, false, false, false, false] rfl rfl (any_of HT_.out (by kernel_rfl)) (fun _ _ _ h => h) (Or.inl ⟨by rfl, ?_⟩) ?_ ?_
        rotate_left
        · intro w'
          go_simp
          with_reducible rfl
        rotate_left
        · simp only [Act.put, List.setIfInBounds_toArray, List.set_cons_zero, List.set_cons_succ, i64_w, i32_w]
          rfl
        refine pure_ (i := 24) (N := some 55) (v := ?_) (a' := ?_) #[true, true, true, true, true, true, true, true, true, true, true, true, true, true, true, true, true, true, true, true, true, true, true, true, true, false, false, false, false, false, false, false, false, false, false, false, false] rfl rfl (any_of HT_.out (by kernel_rfl)) (fun _ _ _ h => h) (Or.inl ⟨by rfl, ?_⟩) ?_ ?_
        rotate_left
        · intro w'
          go_simp
          with_reducible rfl
        rotate_left
        · simp only [Act.put, List.setIfInBounds_toArray, List.set_cons_zero, List.set_cons_succ, i64_w, i32_w]
          rfl
        refine pure_ (i := 25) (N := some 56) (v := ?_) (a' := ?_) #[true, true, true, true, true, true, true, true, true, true, true, true, true, true, true, true, true, true, true, true, true, true, true, true, true, true, false, false, false, false, false, false, false, false, false, false, false] rfl rfl (any_of HT_.out (by kernel_rfl)) (fun _ _ _ h => h) (Or.inl ⟨by rfl, ?_⟩) ?_ ?_
        rotate_left
        · intro w'
          go_simp
          with_reducible rfl
        rotate_left
        · simp only [Act.put, List.setIfInBounds_toArray, List.set_cons_zero, List.set_cons_succ, i64_w, i32_w]
          rfl
        refine pure_ (i := 26) (N := some 57) (v := ?_) (a' := ?_) #[true, true, true, true, true, true, true, true, true, true, true, true, true, true, true, true, true, true, true, true, true, true, true, true, true, true, true, false, false, false, false, false, false, false, false, false, false] rfl rfl (any_of HT_.out (by kernel_rfl)) (fun _ _ _ h => h) (Or.inl ⟨by rfl, ?_⟩) ?_ ?_
        rotate_left
        · intro w'
          go_simp
          with_reducible rfl
        rotate_left
        · simp only [Act.put, List.setIfInBounds_toArray, List.set_cons_zero, List.set_cons_succ, i64_w, i32_w]
          rfl
        refine take_ (i := 27) (N := some 58) (v := ?_) (a' := ?_) #[true, true, true, true, true, true, true, true, true, true, true, true, true, true, true, true, true, true, true, true, true, true, true, true, true, true, true, true, false, false, false, false, false, false, false, false, false] rfl rfl (take_ofW HT_.out HW_.out (by kernel_rfl)) (fun _ _ _ h => h) (Or.inl ⟨by rfl, ?_⟩) hHeld ?_ ?_
        rotate_left
        · rintro w' ⟨s0, s1, s2⟩
          go_simp
          (try with_reducible rfl)
        rotate_left
        · simp only [Act.put, List.setIfInBounds_toArray, List.set_cons_zero, List.set_cons_succ, i64_w, i32_w]
          rfl
        refine pure_ (i := 28) (N := some 59) (v := ?_) (a' := ?_) #[true, true, true, true, true, true, true, true, true, true, true, true, true, true, true, true, true, true, true, true, true, true, true, true, true, true, true, true, true, false, false, false, false, false, false, false, false] rfl rfl (any_of HT_.out (by kernel_rfl)) (fun _ _ _ h => h) (Or.inl ⟨by rfl, ?_⟩) ?_ ?_
        rotate_left
        · intro w'
          go_simp
          with_reducible rfl
        rotate_left
        · simp only [Act.put, List.setIfInBounds_toArray, List.set_cons_zero, List.set_cons_succ, i64_w, i32_w]
          rfl
        refine pure_ (i := 29) (N := some 60) (v := ?_) (a' := ?_) #[true, true, true, true, true, true, true, true, true, true, true, true, true, true, true, true, true, true, true, true, true, true, true, true, true, true, true, true, true, true, false, false, false, false, false, false, false] rfl rfl (any_of HT_.out (by kernel_rfl)) (fun _ _ _ h => h) (Or.inl ⟨by rfl, ?_⟩) ?_ ?_
        rotate_left
        · intro w'
          go_simp
          with_reducible rfl
        rotate_left
        · simp only [Act.put, List.setIfInBounds_toArray, List.set_cons_zero, List.set_cons_succ, i64_w, i32_w]
          rfl
        refine pure_ (i := 30) (N := some 61) (v := ?_) (a' := ?_) #[true, true, true, true, true, true, true, true, true, true, true, true, true, true, true, true, true, true, true, true, true, true, true, true, true, true, true, true, true, true, true, false, false, false, false, false, false] rfl rfl (any_of HT_.out (by kernel_rfl)) (fun _ _ _ h => h) (Or.inl ⟨by rfl, ?_⟩) ?_ ?_
        rotate_left
        · intro w'
          go_simp
          with_reducible rfl
        rotate_left
        · simp only [Act.put, List.setIfInBounds_toArray, List.set_cons_zero, List.set_cons_succ, i64_w, i32_w]
          rfl
        refine take_ (i := 31) (N := some 62) (v := ?_) (a' := ?_) #[true, true, true, true, true, true, true, true, true, true, true, true, true, true, true, true, true, true, true, true, true, true, true, true, true, true, true, true, true, true, true, true, false, false, false, false, false] rfl rfl (take_ofW HT_.out HW_.out (by kernel_rfl)) (fun _ _ _ h => h) (Or.inl ⟨by rfl, ?_⟩) hHeld ?_ ?_
        rotate_left
        · rintro w' ⟨s0, s1, s2⟩
          go_simp
          (try with_reducible rfl)
        rotate_left
        · simp only [Act.put, List.setIfInBounds_toArray, List.set_cons_zero, List.set_cons_succ, i64_w, i32_w]
          rfl
        refine one_ (i := 32) (N := some 63) #[true, true, true, true, true, true, true, true, true, true, true, true, true, true, true, true, true, true, true, true, true, true, true, true, true, true, true, true, true, true, true, true, true, false, false, false, false] rfl rfl (one_of HT_.out (by kernel_rfl)) (by decide) (fun K hK => ?_)
        refine goes_ Try.func14 (by kernel_rfl) rfl #[.slice A t.length c] (by rfl) rfl rfl (by (try simp only [List.map_toArray, List.map_cons, List.map_nil]); rfl) ?_
        refine (ref_encode_w (Kd.C_below T6.out hHeld.1) LT.out BT.out (by omega)).mono ?_
        rintro e w7 ⟨A7, c7, rfl, hle7, hC7, hb7⟩
        have B7 := Aside0.mk (below_step hHeld.1 hb7)
        have hcv7 := Kd.C_string (P := Try.prog) (A := A7) (c := c7) Try.underlying22 Try.underlying5 Try.underlying9 hC7
        clear hle7 hC7 hb7 hHeld
        refine ⟨_, rfl, ?_⟩
        refine hK.out _ _ (tellsK hcell6 E6.out B7.out) (fun hHeld => ?_)
        clear hK K
        refine norm_ (a' := ?_) ?_ ?_
        rotate_left
        · show Act.put _ (some 63) _ = _
          simp only [Act.put, List.setIfInBounds_toArray, List.set_cons_zero, List.set_cons_succ, i64_w, i32_w]
          rfl
        refine one_ (i := 33) (N := some 64) #[true, true, true, true, true, true, true, true, true, true, true, true, true, true, true, true, true, true, true, true, true, true, true, true, true, true, true, true, true, true, true, true, true, true, false, false, false] rfl rfl (one_of HT_.out (by kernel_rfl)) (by decide) (fun K hK => ?_)
        refine value_ (w1 := ?_) (v := ?_) (by rfl) rfl ?_ ?_
        rotate_left 2
        · go_simp
          constructor
          · rfl
          · rfl
        refine hK.out _ _ hHeld (fun hHeld => ?_)
        clear hK K
        refine norm_ (a' := ?_) ?_ ?_
        rotate_left
        · show Act.put _ (some 64) _ = _
          simp only [Act.put, List.setIfInBounds_toArray, List.set_cons_zero, List.set_cons_succ, i64_w, i32_w]
          rfl
        refine pure_ (i := 34) (N := some 65) (v := ?_) (a' := ?_) #[true, true, true, true, true, true, true, true, true, true, true, true, true, true, true, true, true, true, true, true, true, true, true, true, true, true, true, true, true, true, true, true, true, true, true, false, false] rfl rfl (any_of HT_.out (by kernel_rfl)) (fun _ _ _ h => h) (Or.inl ⟨by rfl, ?_⟩) ?_ ?_
        rotate_left
        · intro w'
          go_simp
          with_reducible rfl
        rotate_left
        · simp only [Act.put, List.setIfInBounds_toArray, List.set_cons_zero, List.set_cons_succ, i64_w, i32_w]
          rfl
        refine pure_ (i := 35) (N := some 66) (v := ?_) (a' := ?_) #[true, true, true, true, true, true, true, true, true, true, true, true, true, true, true, true, true, true, true, true, true, true, true, true, true, true, true, true, true, true, true, true, true, true, true, true, false] rfl rfl (any_of HT_.out (by kernel_rfl)) (fun _ _ _ h => h) (Or.inl ⟨by rfl, ?_⟩) ?_ ?_
        rotate_left
        · intro w'
          go_simp
          with_reducible rfl
        rotate_left
        · simp only [Act.put, List.setIfInBounds_toArray, List.set_cons_zero, List.set_cons_succ, i64_w, i32_w]
          rfl
        refine pure_ (i := 36) (N := some 67) (v := ?_) (a' := ?_) #[true, true, true, true, true, true, true, true, true, true, true, true, true, true, true, true, true, true, true, true, true, true, true, true, true, true, true, true, true, true, true, true, true, true, true, true, true] rfl rfl (any_of HT_.out (by kernel_rfl)) (fun _ _ _ h => h) (Or.inl ⟨by rfl, ?_⟩) ?_ ?_
        rotate_left
        · intro w'
          go_simp
          with_reducible rfl
        rotate_left
        · simp only [Act.put, List.setIfInBounds_toArray, List.set_cons_zero, List.set_cons_succ, i64_w, i32_w]
          rfl
        refine done_ (done_of HT_.out (by kernel_rfl)) ?_
        clear hHeld hcv7 hconv hcell6
        go_wp2
        obtain ⟨k1, rfl⟩ : ∃ k1, gk = k1 + 1 := ⟨gk - 1, by omega⟩
        go_roundg k1
        case measure => omega
        case rel => exact ⟨k + 1, by omega, by simp, ⟨below_step B6.out B7.out⟩, ⟨Kd.C_below C6.out B7.out⟩, ⟨Kd.C_below D6.out B7.out⟩⟩
      · simp only [if_neg hs] at hle6 hC6 ⊢
        clear hle6 hC6 hb6 hcell HB HC HD CT T6
        have d1 : decide ((t.length : Int) ≤ 1000) = false := decide_eq_false (by omega)
        have e1 : ¬ (t.length : Int) ≤ 1000 := by omega
        go_wp2
        go_quiet (fail)
        go_wp2
        obtain ⟨k1, rfl⟩ : ∃ k1, gk = k1 + 1 := ⟨gk - 1, by omega⟩
        go_roundg k1
        case measure => omega
        case rel => exact ⟨k + 1, by omega, by simp, ⟨pw_below_drewN B6.out _⟩, ⟨Kd.C_drewN C6.out _⟩, ⟨Kd.C_drewN D6.out _⟩⟩
    · obtain rfl : k = x.length := by omega
      go_wp2_with fail
      refine (join_w HC.out L2.out (fun t ht => (M0.out t ht).1) (by omega)).mono ?_
      rintro e w4 ⟨A4, c4, rfl, hle4, hC4, hb4⟩
      have B4 := Aside0.mk (below_step HB.out hb4)
      have C4 := Aside0.mk (Kd.C_below HC.out hb4)
      have D4 := Aside0.mk (Kd.C_below HD.out hb4)
      have E4 := Aside0.mk hC4
      clear hb4 hle4 hC4 HB HC HD
      go_wp2_with fail
      refine (ref_join_w C4.out L2.out (fun t ht => (M0.out t ht).1) (by omega)).mono ?_
      rintro e w5 ⟨A5, c5, rfl, hle5, hC5, hb5⟩
      have B5 := Aside0.mk (below_step B4.out hb5)
      have C5 := Aside0.mk (Kd.C_below C4.out hb5)
      have D5 := Aside0.mk (Kd.C_below D4.out hb5)
      have hv1 := Kd.C_string (P := Try.prog) (A := A4) (c := c4) Try.underlying22 Try.underlying5 Try.underlying9 (Kd.C_below E4.out hb5)
      have hv2 := Kd.C_string (P := Try.prog) (A := A5) (c := c5) Try.underlying22 Try.underlying5 Try.underlying9 hC5
      clear hb5 hle5 hC5 B4 C4 D4 E4
      have hj : joinErr x = 0 ∧ joinOk x = true ∨ joinErr x = 1 ∧ joinOk x = false := by
        unfold joinErr joinOk
        by_cases g : ∀ t ∈ x, t.length ≤ 1000
        · rw [if_pos g, decide_eq_true g]; exact .inl ⟨rfl, rfl⟩
        · rw [if_neg g, decide_eq_false g]; exact .inr ⟨rfl, rfl⟩
      generalize joinErr x = e0 at *
      generalize joinOk x = o0 at *
      generalize joined x = y0 at *
      rcases hj with ⟨rfl, rfl⟩ | ⟨rfl, rfl⟩
      all_goals
        go_wp2_with fail
        refine (same_w0 C5.out L2.out D5.out L3.out).mono ?_
        rintro e w6 ⟨rfl, m6, rfl⟩
        go_wp2
        go_ret
        exact ⟨rfl, pw_below_drewN B5.out _⟩
theorem cartagelaw04_BlockTells.walk (a0 : Option Addr) (len0 cap0 : Nat) (z0 : List (List Int)) (w : World)
    (w0 : z0.length = len0 ∧ z0.length ≤ cap0 ∧ Kd.C (Kd.slice 5 (Kd.int .u8)) w a0 z0.length z0 ∧ ∀ t ∈ z0, ∀ n ∈ t, (Lit.int .u8 n).wf = true) :
    Calls Try.prog 5 #[.slice a0 len0 cap0] w fun e w' => e = .returned (.bool true) ∧ Below w.heap.size w w' := by
  obtain ⟨rfl, hc0, hr0, hw0⟩ := w0
  exact cartagelaw04_BlockTells.calls _ _ z0 w hr0 hc0 (fun t ht => bytes_of_wf (hw0 t ht))
end Go.Proofs.Ytaaojocooklfaaa.PAll
