/- BlockJoins: the blocks of two rows of texts are those of the one, and those of the other one behind. Conditions: none. -/
import Derived.Test.YtaaojocooklfaaaRefW
namespace Go.Proofs.Ytaaojocooklfaaa.PAll
open Go.RowKit Go.Proofs.Ytaaojocooklfaaa.Oct Go.Proofs.Ytaaojocooklfaaa.HX Go.Proofs.YtaaojocooklfaaaW.PrintWords Go.Proofs.YtaaojocooklfaaaW.PrintLast Go.Proofs.YtaaojocooklfaaaW.PrintMore
attribute [local go_sem] max2_int min2_int max_two min_two max_three min_three max_four min_four   -- for this text's walks alone
set_option linter.unusedVariables false
set_option linter.unusedSimpArgs false

theorem joins {a b : List (List Int)} : ((joinErr a = 0 ∧ joinErr b = 0) ∧ joinErr (a ++ b) = 0 ∧ joined (a ++ b) = joined a ++ joined b) ∨ ((joinErr a = 1 ∨ joinErr a = 0 ∧ joinErr b = 1) ∧ joinErr (a ++ b) = 1 ∧ joined (a ++ b) = []) := by
  by_cases ha : ∀ t ∈ a, t.length ≤ 1000
  · by_cases hb : ∀ t ∈ b, t.length ≤ 1000
    · have hab : ∀ t ∈ a ++ b, t.length ≤ 1000 := fun t ht => (List.mem_append.1 ht).elim (ha t) (hb t)
      rw [(joined_ok ha).1, (joined_ok ha).2, (joined_ok hb).1, (joined_ok hb).2, (joined_ok hab).1, (joined_ok hab).2, Oct.encs_append]
      exact .inl ⟨⟨rfl, rfl⟩, rfl, rfl⟩
    · have hab : ¬ ∀ t ∈ a ++ b, t.length ≤ 1000 := fun h => hb fun t ht => h t (List.mem_append_right _ ht)
      rw [(joined_ok ha).2, (joined_no hb).2, (joined_no hab).1, (joined_no hab).2]
      exact .inr ⟨.inr ⟨rfl, rfl⟩, rfl, rfl⟩
  · have hab : ¬ ∀ t ∈ a ++ b, t.length ≤ 1000 := fun h => ha fun t ht => h t (List.mem_append_left _ ht)
    rw [(joined_no ha).2, (joined_no hab).1, (joined_no hab).2]
    exact .inr ⟨.inl rfl, rfl, rfl⟩

theorem joined_length (l : List (List Int)) : (joined l).length ≤ 1006 * l.length := by
  unfold joined
  split
  · exact encs_length_le ‹_›
  · simp
theorem joins_apart {v : Value} {n : Nat} (h : ∀ k, v.ownBlock = some k → n ≤ k) : ∀ k, k < n → True ∧ some k ≠ v.ownBlock := fun k hk => ⟨trivial, fun e => absurd (h k e.symm) (by omega)⟩
def Two (w : World) (A : Option Addr) (x : List Int) (B : Option Addr) (y : List Int) (n : Nat) : Prop := Kd.F (Kd.int .u8) w (fun k => k < n) A x.length x ∧ Kd.F (Kd.int .u8) w (fun k => k < n) B y.length y
theorem two_grown {w w1 : World} {A : Option Addr} {x : List Int} {B : Option Addr} {y : List Int} {n : Nat} {v : Value} (h : Two w A x B y n) (hg : w.grownBy w1 v.ownBlock) (hv : ∀ k, v.ownBlock = some k → n ≤ k) : Two w1 A x B y n :=
  ⟨Kd.F_grown h.1 hg (fun k hk => (joins_apart hv k hk).2), Kd.F_grown h.2 hg (fun k hk => (joins_apart hv k hk).2)⟩

set_option maxHeartbeats 4000000 in
set_option maxRecDepth 100000 in
theorem cartagelaw04_BlockJoins.calls (A0 : Option Addr) (c0 : Nat) (l0 : List (List Int)) (A1 : Option Addr) (c1 : Nat) (l1 : List (List Int)) (w : World) (hr0 : Kd.C (Kd.slice 5 (Kd.int .u8)) w A0 l0.length l0) (hc0 : l0.length ≤ c0) (hb0 : ∀ t ∈ l0, Bytes t) (hr1 : Kd.C (Kd.slice 5 (Kd.int .u8)) w A1 l1.length l1) (hc1 : l1.length ≤ c1) (hb1 : ∀ t ∈ l1, Bytes t) :
    Calls Try.prog 7 #[.slice A0 l0.length c0, .slice A1 l1.length c1] w fun e w' => e = .returned (.bool true) ∧ Below w.heap.size w w' := by
  have m0 := few_mem hb0
  have m1 := few_mem hb1
  have n0 := (few_length l0).1
  have n1 := (few_length l1).1
  have J := Aside0.mk (@joins (few l0) (few l1))
  have R0 := Aside0.mk hr0
  have R1 := Aside0.mk hr1
  have C0 := Aside0.mk hc0
  have C1 := Aside0.mk hc1
  have M0 := Aside0.mk m0
  have M1 := Aside0.mk m1
  clear hr0 hr1 hc0 hc1 m0 m1 hb0 hb1
  go_enter Try.func7, Try.ntmps7
  go_wp2_with fail
  refine (shown_true _).mono ?_
  rintro e w1 ⟨rfl, hb1⟩
  have B1 := Aside0.mk hb1
  clear hb1
  go_wp2_with fail
  refine (few_w (Kd.C_below R0.out B1.out) C0.out).mono ?_
  rintro e w2 ⟨A2, c2, rfl, hle2, hS2, hb2⟩
  have B2 := Aside0.mk (below_step B1.out hb2)
  have S2 := Aside0.mk (R_C (Kd.S_R hS2)).2.2
  have L2 := Aside0.mk hle2
  clear hb2 hle2 hS2 B1
  go_wp2_with fail
  refine (few_w (Kd.C_below R1.out B2.out) C1.out).mono ?_
  rintro e w3 ⟨A3, c3, rfl, hle3, hS3, hb3⟩
  have B3 := Aside0.mk (below_step B2.out hb3)
  have S3 := Aside0.mk (Kd.C_below S2.out hb3)
  have T3 := Aside0.mk (R_C (Kd.S_R hS3)).2.2
  have L3 := Aside0.mk hle3
  clear hb3 hle3 hS3 B2 S2 R0 R1 C0 C1
  generalize few l0 = x0 at *
  generalize few l1 = x1 at *
  go_wp2_with fail
  refine (join_w S3.out L2.out (fun t ht => (M0.out t ht).1) (by omega)).mono ?_
  rintro e w4 ⟨A4, c4, rfl, hle4, hC4, hb4⟩
  have B4 := Aside0.mk (below_step B3.out hb4)
  have S4 := Aside0.mk (Kd.C_below S3.out hb4)
  have T4 := Aside0.mk (Kd.C_below T3.out hb4)
  have U4 := Aside0.mk hC4
  clear hb4 hle4 hC4 B3 S3 T3
  go_wp2_with fail
  refine (join_w T4.out L3.out (fun t ht => (M1.out t ht).1) (by omega)).mono ?_
  rintro e w5 ⟨A5, c5, rfl, hle5, hC5, hb5⟩
  have B5 := Aside0.mk (below_step B4.out hb5)
  have S5 := Aside0.mk (Kd.C_below S4.out hb5)
  have T5 := Aside0.mk (Kd.C_below T4.out hb5)
  have U5 := Aside0.mk (Kd.C_below U4.out hb5)
  have V5 := Aside0.mk hC5
  clear hb5 hle5 hC5 B4 S4 T4 U4
  have F5 := Aside0.mk (Kd.C_F (Kd.heap_slice 5 (Kd.heap_int .u8)) S5.out)
  have G5 := Aside0.mk (Kd.C_F (Kd.heap_slice 5 (Kd.heap_int .u8)) T5.out)
  have sz5 : w.heap.size ≤ w5.heap.size := below_size B5.out
  have N5 := Aside0.mk sz5
  clear sz5
  go_wp2_with (first | ((with_reducible refine gate_dst (N := 28) rfl ?_); refine Kd.N_lit (Kd.slice 5 (Kd.int .u8)) (w0 := w) w.heap.size 22 ?hg (N' := 28) ?hd (xs := ([] : List (List Int))) (inner := []) (ok := fun _ => True) (okp := fun _ => True) ?hr ?hp (fun _ hk => hk) trivial B5.out N5.out (by simp) ?_; (case hd => rfl); (case hg => rfl); (case hr => first | (go_simp; done) | (go_simp; rfl)); (case hp => exact (Reps.none _ _)); intro v6 w6 hN6 hb6 hg6 ha6; have N6 := Aside0.mk hN6; have B6 := Aside0.mk hb6; have I6 := Aside0.mk (own_new ha6); have Q6 := Aside0.mk (grown_below hg6); clear hN6 hb6 hg6 ha6) | ((with_reducible refine gate_builtin (b := .append) (xs := #[.tmp 28, .tmp 29]) rfl ?_); at_builtin; refine Kd.N_append_rows (Kd.slice 5 (Kd.int .u8)) (w0 := w) w.heap.size rfl (.tmp 28) (.tmp 29) 31 22 (.slice none 0 0) 24 rfl Try.underlying31 info22 rfl (by decide) (by omega) v6 [] x0 A2 x0.length c2 (fun _ => True) (fun k => k < w5.heap.size) rfl rfl N6.out (Kd.F_below F5.out Q6.out) (joins_apart I6.out) (fun _ _ => trivial) B6.out (below_size B6.out) (by simp; omega) ?_; intro v7 w7 hN7 hb7 hg7 ha7; have N7 := Aside0.mk hN7; have B7 := Aside0.mk hb7; have I7 := Aside0.mk (own_then I6.out (below_size Q6.out) ha7); have G7 := Aside0.mk (Kd.F_grown (Kd.F_below G5.out Q6.out) hg7 (fun k hk => (joins_apart I6.out k hk).2)); have Z7 := Aside0.mk (two_grown (n := w5.heap.size) ⟨Kd.F_below (Kd.C_F (Kd.heap_int .u8) U5.out) Q6.out, Kd.F_below (Kd.C_F (Kd.heap_int .u8) V5.out) Q6.out⟩ hg7 I6.out); clear hN7 hb7 hg7 ha7) | ((with_reducible refine gate_builtin (b := .append) (xs := #[.tmp 30, .tmp 31]) rfl ?_); at_builtin; refine Kd.N_append_rows (Kd.slice 5 (Kd.int .u8)) (w0 := w) w.heap.size rfl (.tmp 30) (.tmp 31) 31 22 (.slice none 0 0) 24 rfl Try.underlying31 info22 rfl (by decide) (by omega) v7 ([] ++ x0) x1 A3 x1.length c3 (fun _ => True) (fun k => k < w5.heap.size) rfl rfl N7.out G7.out (joins_apart I7.out) (fun _ _ => trivial) B7.out (below_size B7.out) (by simp; omega) ?_; intro v8 w8 hN8 hb8 hg8 ha8; simp only [List.nil_append] at hN8; obtain ⟨A8, c8, rfl⟩ := Kd.N_slice hN8; have N8 := Aside0.mk (Kd.N_reads' hN8).2; have B8 := Aside0.mk hb8; have Z8 := Aside0.mk (two_grown Z7.out hg8 I7.out); clear hN8 hb8 hg8 ha8))
  rw [← List.length_append]
  refine (join_w N8.out.2 N8.out.1 (fun t ht => (List.mem_append.1 ht).elim (fun h => (M0.out t h).1) (fun h => (M1.out t h).1)) (by simp; omega)).mono ?_
  rintro e w9 ⟨A9, c9, rfl, hle9, hC9, hb9⟩
  have B9 := Aside0.mk (below_step B8.out hb9)
  have Z9 := Aside0.mk (show Two w9 A4 (joined x0) A5 (joined x1) w5.heap.size from ⟨Kd.F_below Z8.out.1 hb9, Kd.F_below Z8.out.2 hb9⟩)
  have hv1 := Kd.C_string (P := Try.prog) (A := A4) (c := c4) Try.underlying22 Try.underlying5 Try.underlying9 (Kd.F_now Z9.out.1)
  have hv2 := Kd.C_string (P := Try.prog) (A := A5) (c := c5) Try.underlying22 Try.underlying5 Try.underlying9 (Kd.F_now Z9.out.2)
  have hv3 := Kd.C_string (P := Try.prog) (A := A9) (c := c9) Try.underlying22 Try.underlying5 Try.underlying9 hC9
  clear hb9 hle9 hC9 B8 Z8 Z7 N8 N7 N6 B7 B6 I6 I7 Q6 G7 F5 G5 S5 T5 U5 V5 Z9 L2 L3 B5 N5 M0 M1
  have k0 := joined_length x0
  have k1 := joined_length x1
  generalize joinErr x0 = e0 at *
  generalize joinErr x1 = e1 at *
  generalize joinErr (x0 ++ x1) = e2 at *
  generalize joined x0 = y0 at *
  generalize joined x1 = y1 at *
  generalize joined (x0 ++ x1) = y2 at *
  have j := J.out
  clear J
  rcases j with ⟨⟨rfl, rfl⟩, rfl, hy⟩ | ⟨rfl | ⟨rfl, rfl⟩, rfl, rfl⟩
  · have hs : ((strOfNums y2).toList == (strOfNums y0 ++ strOfNums y1).toList) = true := by
      rw [hy, beq_iff_eq]
      have : strOfNums (y0 ++ y1) = strOfNums y0 ++ strOfNums y1 := by
        apply ByteArray.ext
        simp [strOfNums]
      rw [this]
    have hz : (strOfNums y0).size + (strOfNums y1).size ≤ 9223372036854775807 := by rw [strOfNums_size, strOfNums_size]; omega
    clear hy
    go_wp2
    go_ret
    exact ⟨rfl, B9.out⟩
  all_goals
    simp only [List.length_nil]
    go_wp2
    go_ret
    exact ⟨rfl, B9.out⟩
theorem cartagelaw04_BlockJoins.walk (a0 : Option Addr) (len0 cap0 : Nat) (z0 : List (List Int)) (a1 : Option Addr) (len1 cap1 : Nat) (z1 : List (List Int)) (w : World)
    (w0 : z0.length = len0 ∧ z0.length ≤ cap0 ∧ Kd.C (Kd.slice 5 (Kd.int .u8)) w a0 z0.length z0 ∧ ∀ t ∈ z0, ∀ n ∈ t, (Lit.int .u8 n).wf = true)
    (w1 : z1.length = len1 ∧ z1.length ≤ cap1 ∧ Kd.C (Kd.slice 5 (Kd.int .u8)) w a1 z1.length z1 ∧ ∀ t ∈ z1, ∀ n ∈ t, (Lit.int .u8 n).wf = true) :
    Calls Try.prog 7 #[.slice a0 len0 cap0, .slice a1 len1 cap1] w fun e w' => e = .returned (.bool true) ∧ Below w.heap.size w w' := by
  obtain ⟨rfl, hc0, hr0, hw0⟩ := w0
  obtain ⟨rfl, hc1, hr1, hw1⟩ := w1
  exact cartagelaw04_BlockJoins.calls _ _ z0 _ _ z1 w hr0 hc0 (fun t ht => bytes_of_wf (hw0 t ht)) hr1 hc1 (fun t ht => bytes_of_wf (hw1 t ht))
end Go.Proofs.Ytaaojocooklfaaa.PAll
