-- Laid by hp.py (wip/tools), a program of this work, over the kit's print; Lean checks it.
import Derived.Test.YtaohmpblmlkioaaPAllx0
namespace Go.Proofs.Ytaohmpblmlkioaa.PAll
open Go.RowKit Go.Proofs.YtaohmpblmlkioaaW.PrintWords Go.Proofs.YtaohmpblmlkioaaW.PrintLast Go.Proofs.YtaohmpblmlkioaaW.PrintMore
attribute [local go_sem] max2_int min2_int max_two min_two max_three min_three max_four min_four   -- for this text's walks alone
set_option linter.unusedVariables false
set_option linter.unusedSimpArgs false

/-! ### cartagelaw15_few: function 10 -/
def cartagelaw15_few.f (l0_0 : List Int) (l0_1 : List Bool) : Option (List Int × List Bool) := (some (([] : List Int) : List Int)).bind fun y224 => (if 0 ≤ (mn (l0_0.length : Int) 250) then (if (mn (l0_0.length : Int) 250) ≤ (l0_0.length : Int) then (if y224.length + (l0_0.take ((mn (l0_0.length : Int) 250) : Int).toNat).length < 17592186044416 then ((some (([] : List Bool) : List Bool)).bind fun y231 => (if 0 ≤ (mn (l0_1.length : Int) 250) then (if (mn (l0_1.length : Int) 250) ≤ (l0_1.length : Int) then (if y231.length + (l0_1.take ((mn (l0_1.length : Int) 250) : Int).toNat).length < 140737488355328 then (some ((y224 ++ (l0_0.take ((mn (l0_0.length : Int) 250) : Int).toNat)), (y231 ++ (l0_1.take ((mn (l0_1.length : Int) 250) : Int).toNat)))) else (none)) else (none)) else (none))) else (none)) else (none)) else (none))
def cartagelaw15_few.T1 : Bool × List (List Nat × List Nat) := (true, [([], []), ([], []), ([1], [1]), ([], []), ([3], [3]), ([4], [4]), ([5], [5]), ([2, 6], [2, 6]), ([0, 7], [0, 7]), ([], []), ([], []), ([10], [10]), ([], []), ([12], [12]), ([13], [13]), ([14], [14]), ([11, 15], [11, 15]), ([9, 16, 8], [9, 16]), ([8, 17], [8, 17]), ([18, 17, 0, 1, 2, 3, 4, 5, 6, 7, 8, 9, 10, 11, 12, 13, 14, 15, 16, 17, 18], [18])])
def cartagelaw15_few.B1 : List Nat := [0, 0, 2, 0, 8, 24, 56, 126, 255, 0, 0, 1024, 0, 4096, 12288, 28672, 64512, 131071, 262143, 524287]
theorem cartagelaw15_few.tab1 : rtab .any (opsOf Try.f10 1) = cartagelaw15_few.T1 := by kernel_rfl
theorem cartagelaw15_few.bits1 : waitsOk cartagelaw15_few.T1.2 cartagelaw15_few.B1 = true := by kernel_rfl
set_option maxHeartbeats 8000000 in
set_option maxRecDepth 100000 in
theorem cartagelaw15_few.calls (A0_0 : Option Addr) (c0_0 : Nat) (l0_0 : List Int) (A0_1 : Option Addr) (c0_1 : Nat) (l0_1 : List Bool) (r1 : List Int) (r2 : List Bool) (w : World) (hr0_0 : Kd.C (Kd.int .u64) w A0_0 l0_0.length l0_0) (hc0_0 : l0_0.length ≤ c0_0) (hr0_1 : Kd.C Kd.bool w A0_1 l0_1.length l0_1) (hc0_1 : l0_1.length ≤ c0_1) (h : cartagelaw15_few.f l0_0 l0_1 = some (r1, r2)) :
    Calls Try.prog 10 #[.agg #[.slice A0_0 l0_0.length c0_0, .slice A0_1 l0_1.length c0_1]] w fun e w' => ∃ v0_ v1_ : Value, e = .returned (.agg #[v0_, v1_]) ∧ Kd.R (Kd.int .u64) 39 w' w.heap.size (fun _ => True) v0_ r1 ∧ Kd.R Kd.bool 4 w' w.heap.size (fun _ => True) v1_ r2 ∧ Below w.heap.size w w' := by
  have hu25 := Try.underlying25
  have HR0_0 := Aside0.mk hr0_0
  have HC0_0 := Aside0.mk hc0_0
  clear hr0_0 hc0_0
  have HR0_1 := Aside0.mk hr0_1
  have HC0_1 := Aside0.mk hc0_1
  clear hr0_1 hc0_1
  have HB := Aside0.mk (Below.refl w.heap.size w)
  have H : ((some (([] : List Int) : List Int)).bind fun y224 => (if 0 ≤ (mn (l0_0.length : Int) 250) then (if (mn (l0_0.length : Int) 250) ≤ (l0_0.length : Int) then (if y224.length + (l0_0.take ((mn (l0_0.length : Int) 250) : Int).toNat).length < 17592186044416 then ((some (([] : List Bool) : List Bool)).bind fun y231 => (if 0 ≤ (mn (l0_1.length : Int) 250) then (if (mn (l0_1.length : Int) 250) ≤ (l0_1.length : Int) then (if y231.length + (l0_1.take ((mn (l0_1.length : Int) 250) : Int).toNat).length < 140737488355328 then (some ((y224 ++ (l0_0.take ((mn (l0_0.length : Int) 250) : Int).toNat)), (y231 ++ (l0_1.take ((mn (l0_1.length : Int) 250) : Int).toNat)))) else (none)) else (none)) else (none))) else (none)) else (none)) else (none))) = some (r1, r2) := h
  clear h
  obtain ⟨y224, hy224⟩ : ∃ y_ : List Int, y_ = (([] : List Int)) := ⟨_, rfl⟩
  replace H : (if 0 ≤ (mn (l0_0.length : Int) 250) then (if (mn (l0_0.length : Int) 250) ≤ (l0_0.length : Int) then (if y224.length + (l0_0.take ((mn (l0_0.length : Int) 250) : Int).toNat).length < 17592186044416 then ((some (([] : List Bool) : List Bool)).bind fun y231 => (if 0 ≤ (mn (l0_1.length : Int) 250) then (if (mn (l0_1.length : Int) 250) ≤ (l0_1.length : Int) then (if y231.length + (l0_1.take ((mn (l0_1.length : Int) 250) : Int).toNat).length < 140737488355328 then (some ((y224 ++ (l0_0.take ((mn (l0_0.length : Int) 250) : Int).toNat)), (y231 ++ (l0_1.take ((mn (l0_1.length : Int) 250) : Int).toNat)))) else (none)) else (none)) else (none))) else (none)) else (none)) else (none)) = some (r1, r2) := by first | (rw [hy224]; with_reducible exact H) | (have H2_ := (Option.bind_some _ _).symm.trans H; rw [hy224]; with_reducible exact H2_) | (have H2_ := (Option.bind_some _ _).symm.trans H; with_reducible exact H2_) | with_reducible exact H | (rw [hy224]; exact H) | exact H
  have Ny224 := Aside0.mk hy224
  clear hy224
  obtain ⟨ji2, hji2⟩ : ∃ j_ : Int, (mn (l0_0.length : Int) 250) = j_ := ⟨_, rfl⟩
  replace H : (if 0 ≤ (ji2) then (if (ji2) ≤ (l0_0.length : Int) then (if y224.length + (l0_0.take ((ji2) : Int).toNat).length < 17592186044416 then ((some (([] : List Bool) : List Bool)).bind fun y231 => (if 0 ≤ (mn (l0_1.length : Int) 250) then (if (mn (l0_1.length : Int) 250) ≤ (l0_1.length : Int) then (if y231.length + (l0_1.take ((mn (l0_1.length : Int) 250) : Int).toNat).length < 140737488355328 then (some ((y224 ++ (l0_0.take ((ji2) : Int).toNat)), (y231 ++ (l0_1.take ((mn (l0_1.length : Int) 250) : Int).toNat)))) else (none)) else (none)) else (none))) else (none)) else (none)) else (none)) = some (r1, r2) := by first | (rw [hji2] at H; exact H) | (simp only [hji2] at H ⊢; exact H)
  (try (have hji2h : ji2 ≤ 250 := by (rw [← hji2]; unfold mn; (repeat' split) <;> omega)))
  (try (have hji2g : ji2 ≤ 64 := by omega))
  (try (have hji2l : 0 ≤ ji2 := by (rw [← hji2]; unfold mn; (repeat' split) <;> omega)))
  (try (have hji2m : 0 ≤ ji2 := by omega))
  have hji2_ : (if 250 < (l0_0.length : Int) then 250 else (l0_0.length : Int)) = ji2 := hji2
  by_cases c3 : 0 ≤ (ji2)
  · rw [if_pos c3] at H
    have c3b0 := eq_true c3
    have c3b1 : decide (0 ≤ (ji2)) = true := decide_eq_true c3
    clear c3
    by_cases c4 : (ji2) ≤ (l0_0.length : Int)
    · rw [if_pos c4] at H
      have c4b0 := eq_true c4
      have c4b1 : decide ((ji2) ≤ (l0_0.length : Int)) = true := decide_eq_true c4
      clear c4
      by_cases c5 : y224.length + (l0_0.take ((ji2) : Int).toNat).length < 17592186044416
      · rw [if_pos c5] at H
        have LMc5 := Aside0.mk c5
        clear c5
        obtain ⟨y228, hy228⟩ : ∃ y_ : List Int, y_ = (y224 ++ (l0_0.take ((ji2) : Int).toNat)) := ⟨_, rfl⟩
        replace H : ((some (([] : List Bool) : List Bool)).bind fun y231 => (if 0 ≤ (mn (l0_1.length : Int) 250) then (if (mn (l0_1.length : Int) 250) ≤ (l0_1.length : Int) then (if y231.length + (l0_1.take ((mn (l0_1.length : Int) 250) : Int).toNat).length < 140737488355328 then (some (y228, (y231 ++ (l0_1.take ((mn (l0_1.length : Int) 250) : Int).toNat)))) else (none)) else (none)) else (none))) = some (r1, r2) := by first | (rw [hy228]; with_reducible exact H) | (have H2_ := (Option.bind_some _ _).symm.trans H; rw [hy228]; with_reducible exact H2_) | (have H2_ := (Option.bind_some _ _).symm.trans H; with_reducible exact H2_) | with_reducible exact H | (rw [hy228]; exact H) | exact H
        have Ny228 := Aside0.mk hy228
        clear hy228
        obtain ⟨y231, hy231⟩ : ∃ y_ : List Bool, y_ = (([] : List Bool)) := ⟨_, rfl⟩
        replace H : (if 0 ≤ (mn (l0_1.length : Int) 250) then (if (mn (l0_1.length : Int) 250) ≤ (l0_1.length : Int) then (if y231.length + (l0_1.take ((mn (l0_1.length : Int) 250) : Int).toNat).length < 140737488355328 then (some (y228, (y231 ++ (l0_1.take ((mn (l0_1.length : Int) 250) : Int).toNat)))) else (none)) else (none)) else (none)) = some (r1, r2) := by first | (rw [hy231]; with_reducible exact H) | (have H2_ := (Option.bind_some _ _).symm.trans H; rw [hy231]; with_reducible exact H2_) | (have H2_ := (Option.bind_some _ _).symm.trans H; with_reducible exact H2_) | with_reducible exact H | (rw [hy231]; exact H) | exact H
        have Ny231 := Aside0.mk hy231
        clear hy231
        obtain ⟨ji6, hji6⟩ : ∃ j_ : Int, (mn (l0_1.length : Int) 250) = j_ := ⟨_, rfl⟩
        replace H : (if 0 ≤ (ji6) then (if (ji6) ≤ (l0_1.length : Int) then (if y231.length + (l0_1.take ((ji6) : Int).toNat).length < 140737488355328 then (some (y228, (y231 ++ (l0_1.take ((ji6) : Int).toNat)))) else (none)) else (none)) else (none)) = some (r1, r2) := by first | (rw [hji6] at H; exact H) | (simp only [hji6] at H ⊢; exact H)
        (try (have hji6h : ji6 ≤ 250 := by (rw [← hji6]; unfold mn; (repeat' split) <;> omega)))
        (try (have hji6g : ji6 ≤ 64 := by omega))
        (try (have hji6l : 0 ≤ ji6 := by (rw [← hji6]; unfold mn; (repeat' split) <;> omega)))
        (try (have hji6m : 0 ≤ ji6 := by omega))
        have hji6_ : (if 250 < (l0_1.length : Int) then 250 else (l0_1.length : Int)) = ji6 := hji6
        by_cases c7 : 0 ≤ (ji6)
        · rw [if_pos c7] at H
          have c7b0 := eq_true c7
          have c7b1 : decide (0 ≤ (ji6)) = true := decide_eq_true c7
          clear c7
          by_cases c8 : (ji6) ≤ (l0_1.length : Int)
          · rw [if_pos c8] at H
            have c8b0 := eq_true c8
            have c8b1 : decide ((ji6) ≤ (l0_1.length : Int)) = true := decide_eq_true c8
            clear c8
            by_cases c9 : y231.length + (l0_1.take ((ji6) : Int).toNat).length < 140737488355328
            · rw [if_pos c9] at H
              have LMc9 := Aside0.mk c9
              clear c9
              obtain ⟨y235, hy235⟩ : ∃ y_ : List Bool, y_ = (y231 ++ (l0_1.take ((ji6) : Int).toNat)) := ⟨_, rfl⟩
              replace H : (some (y228, y235)) = some (r1, r2) := by first | (rw [hy235]; with_reducible exact H) | (have H2_ := (Option.bind_some _ _).symm.trans H; rw [hy235]; with_reducible exact H2_) | (have H2_ := (Option.bind_some _ _).symm.trans H; with_reducible exact H2_) | with_reducible exact H | (rw [hy235]; exact H) | exact H
              have Ny235 := Aside0.mk hy235
              clear hy235
              simp only [Option.some.injEq, Prod.mk.injEq] at H
              obtain ⟨rfl, rfl⟩ := H
              (try have hji2y : max ji2 0 = ji2 := Int.max_eq_left (by omega))
              (try have hji6y : max ji6 0 = ji6 := Int.max_eq_left (by omega))
              go_enter Try.func10, Try.ntmps10
              try go_wp2_with (first | ((with_reducible refine gate_dst (N := 1) rfl ?_); refine box_event ?hg (N := 1) ?hd (cs := #[.slice A0_0 l0_0.length c0_0, .slice A0_1 l0_1.length c0_1]) (t := 25) ?hr ?_; (case hd => rfl); (case hg => rfl); (case hr => first | (go_simp; done) | (go_simp; rfl)); intro gb222 hg w10 hbox hb; have n0_ := Aside0.mk (below_step (by repeat (first | (with_reducible first | exact HB.out | apply below_alloc | apply pw_below_drewN | apply below_drew1) | exact HB.out)) hb); have n1_ := Aside0.mk (hbox); have n2_ := Aside0.mk ((by rw [hg]; exact (below_size (by repeat (first | (with_reducible first | exact HB.out | apply below_alloc | apply pw_below_drewN | apply below_drew1) | exact HB.out))) : w.heap.size ≤ gb222)); have n3_ := Aside0.mk ((by rw [hg]; exact (below_size (by repeat (first | (with_reducible first | exact HB.out | apply below_alloc | apply pw_below_drewN | apply below_drew1) | exact HB.out))) : w.heap.size ≤ gb222)); clear HB; have HB := n0_; have BK222 := n1_; have GW222 := n2_; have GE222 := n3_; clear n0_ n1_ n2_ n3_; clear hb hbox hg) | ((with_reducible refine gate_dst (N := 2) rfl ?_); refine box_event ?hg (N := 2) ?hd (cs := #[.slice none 0 0, .slice none 0 0]) (t := 25) ?hr ?_; (case hd => rfl); (case hg => rfl); (case hr => first | (go_simp; done) | (go_simp; rfl)); intro gb223 hg w11 hbox hb; have n0_ := Aside0.mk (blk_below (g := gb222) (o := .cells #[.slice A0_0 l0_0.length c0_0, .slice A0_1 l0_1.length c0_1] 25 (0, 0)) (by (with_reducible repeat (first | refine blk_drewN ?_ _ | refine blk_drew ?_ | refine blk_alloc ?_ _)); exact BK222.out) hb); have n1_ := Aside0.mk (below_step (by repeat (first | (with_reducible first | exact HB.out | apply below_alloc | apply pw_below_drewN | apply below_drew1 | refine below_set ?_ GE222.out) | exact HB.out)) hb); have n2_ := Aside0.mk (hbox); have n3_ := Aside0.mk ((by rw [hg]; exact (below_size (by repeat (first | (with_reducible first | exact HB.out | apply below_alloc | apply pw_below_drewN | apply below_drew1 | refine below_set ?_ GE222.out) | exact HB.out))) : w.heap.size ≤ gb223)); have n4_ := Aside0.mk ((by rw [hg]; exact (below_size (by repeat (first | (with_reducible first | exact HB.out | apply below_alloc | apply pw_below_drewN | apply below_drew1 | refine below_set ?_ GE222.out) | exact HB.out))) : w.heap.size ≤ gb223)); have n5_ := Aside0.mk ((by rw [hg]; exact Nat.ne_of_lt (blk_lt (g := gb222) (o := .cells #[.slice A0_0 l0_0.length c0_0, .slice A0_1 l0_1.length c0_1] 25 (0, 0)) (by (with_reducible repeat (first | refine blk_drewN ?_ _ | refine blk_drew ?_ | refine blk_alloc ?_ _)); exact BK222.out)) : gb222 ≠ gb223)); have n6_ := Aside0.mk ((by rw [hg]; exact Nat.ne_of_gt (blk_lt (g := gb222) (o := .cells #[.slice A0_0 l0_0.length c0_0, .slice A0_1 l0_1.length c0_1] 25 (0, 0)) (by (with_reducible repeat (first | refine blk_drewN ?_ _ | refine blk_drew ?_ | refine blk_alloc ?_ _)); exact BK222.out)) : gb223 ≠ gb222)); clear BK222; clear HB; have BK222 := n0_; have HB := n1_; have BK223 := n2_; have GW223 := n3_; have GE223 := n4_; have NB222_223 := n5_; have NB223_222 := n6_; clear n0_ n1_ n2_ n3_ n4_ n5_ n6_; clear hb hbox hg))
              have n0_ := Aside0.mk (blk_drew BK222.out)
              have n1_ := Aside0.mk (blk_drew BK223.out)
              have n2_ := Aside0.mk (below_drew1 HB.out)
              clear BK222
              clear BK223
              clear HB
              have BK222 := n0_
              have BK223 := n1_
              have HB := n2_
              clear n0_ n1_ n2_
              obtain ⟨i013, hi013, _, hsz13, _⟩ := info_parts info39
              obtain ⟨hcut13, hA13, hC13⟩ := print_take_of (P := Try.prog) (Value.int .u64) 0 22 39 .i64 Try.underlying22 hi013 hsz13 A0_0 c0_0 l0_0 (ji2) (of_decide_eq_true (by first | (with_reducible assumption) | assumption)) (of_decide_eq_true (by first | (with_reducible assumption) | assumption)) HC0_0.out
              (try have HLK13 := Aside0.mk (show (List.take (((ji2)) : Int).toNat (l0_0)).length = (((ji2)) : Int).toNat from by (rw [List.length_take]; exact Nat.min_eq_left (by have z_ : ((ji2) : Int) ≤ ((l0_0).length : Int) := of_decide_eq_true (by first | (with_reducible assumption) | assumption); omega))))
              have HR227 := Aside0.mk (Kd.C_of_reads (h1 := fun _ => rfl) (hA13 _ (Kd.reads_of_C HR0_0.out)))
              have HC227 := Aside0.mk hC13
              clear hA13 hC13 hi013 hsz13
              obtain ⟨i014, hi014, _, hsz14, _⟩ := info_parts info4
              obtain ⟨hcut14, hA14, hC14⟩ := print_take_of (P := Try.prog) Value.bool false 23 4 .i64 Try.underlying23 hi014 hsz14 A0_1 c0_1 l0_1 (ji6) (of_decide_eq_true (by first | (with_reducible assumption) | assumption)) (of_decide_eq_true (by first | (with_reducible assumption) | assumption)) HC0_1.out
              (try have HLK14 := Aside0.mk (show (List.take (((ji6)) : Int).toNat (l0_1)).length = (((ji6)) : Int).toNat from by (rw [List.length_take]; exact Nat.min_eq_left (by have z_ : ((ji6) : Int) ≤ ((l0_1).length : Int) := of_decide_eq_true (by first | (with_reducible assumption) | assumption); omega))))
              have HR234 := Aside0.mk (Kd.C_of_reads (h1 := fun _ => rfl) (hA14 _ (Kd.reads_of_C HR0_1.out)))
              have HC234 := Aside0.mk hC14
              clear hA14 hC14 hi014 hsz14
              refine start_ (n := 20) (S := fun w' => w'.cell? ⟨gb222, 0, none⟩ = some (.slice A0_0 l0_0.length c0_0) ∧ w'.cell? ⟨gb222, 1, none⟩ = some (.slice A0_1 l0_1.length c0_1)) (ds := []) #[false, false, false, false, false, false, false, false, false, false, false, false, false, false, false, false, false, false, false, false] (by kernel_rfl) rfl rfl ⟨(blk_cell BK222.out 0).trans rfl, (blk_cell BK222.out 1).trans rfl⟩ (fun hHeld => ?_); refine with_tabW cartagelaw15_few.tab1 cartagelaw15_few.bits1 (fun HT_ HW_ => ?_)
              generalize w11.drew = w12 at BK222 BK223 HB HR227 HR234 hHeld ⊢
              refine pure_ (i := 1) (N := some 4) (v := ?_) (a' := ?_) #[false, true, false, false, false, false, false, false, false, false, false, false, false, false, false, false, false, false, false, false] rfl rfl (any_of HT_.out (by kernel_rfl)) (fun _ _ _ h => h) (Or.inl ⟨by rfl, ?_⟩) ?_ ?_
              rotate_left
              · intro w'
                go_simp
                with_reducible rfl
              rotate_left
              · simp only [Act.put, List.setIfInBounds_toArray, List.set_cons_zero, List.set_cons_succ, i64_w, i32_w]
                rfl
              refine pure_ (i := 3) (N := some 6) (v := ?_) (a' := ?_) #[false, true, false, true, false, false, false, false, false, false, false, false, false, false, false, false, false, false, false, false] rfl rfl (any_of HT_.out (by kernel_rfl)) (fun _ _ _ h => h) (Or.inl ⟨by rfl, ?_⟩) ?_ ?_
              rotate_left
              · intro w'
                go_simp
                with_reducible rfl
              rotate_left
              · simp only [Act.put, List.setIfInBounds_toArray, List.set_cons_zero, List.set_cons_succ, i64_w, i32_w]
                rfl
              refine pure_ (i := 10) (N := some 13) (v := ?_) (a' := ?_) #[false, true, false, true, false, false, false, false, false, false, true, false, false, false, false, false, false, false, false, false] rfl rfl (any_of HT_.out (by kernel_rfl)) (fun _ _ _ h => h) (Or.inl ⟨by rfl, ?_⟩) ?_ ?_
              rotate_left
              · intro w'
                go_simp
                with_reducible rfl
              rotate_left
              · simp only [Act.put, List.setIfInBounds_toArray, List.set_cons_zero, List.set_cons_succ, i64_w, i32_w]
                rfl
              refine pure_ (i := 12) (N := some 15) (v := ?_) (a' := ?_) #[false, true, false, true, false, false, false, false, false, false, true, false, true, false, false, false, false, false, false, false] rfl rfl (any_of HT_.out (by kernel_rfl)) (fun _ _ _ h => h) (Or.inl ⟨by rfl, ?_⟩) ?_ ?_
              rotate_left
              · intro w'
                go_simp
                with_reducible rfl
              rotate_left
              · simp only [Act.put, List.setIfInBounds_toArray, List.set_cons_zero, List.set_cons_succ, i64_w, i32_w]
                rfl
              refine take_ (i := 2) (N := some 5) (v := ?_) (a' := ?_) #[false, true, true, true, false, false, false, false, false, false, true, false, true, false, false, false, false, false, false, false] rfl rfl (take_ofW HT_.out HW_.out (by kernel_rfl)) (fun _ _ _ h => h) (Or.inl ⟨by rfl, ?_⟩) hHeld ?_ ?_
              rotate_left
              · rintro w' ⟨s0, s1⟩
                go_simp
                with_reducible rfl
              rotate_left
              · simp only [Act.put, List.setIfInBounds_toArray, List.set_cons_zero, List.set_cons_succ, i64_w, i32_w]
                rfl
              refine take_ (i := 4) (N := some 7) (v := ?_) (a' := ?_) #[false, true, true, true, true, false, false, false, false, false, true, false, true, false, false, false, false, false, false, false] rfl rfl (take_ofW HT_.out HW_.out (by kernel_rfl)) (fun _ _ _ h => h) (Or.inl ⟨by rfl, ?_⟩) hHeld ?_ ?_
              rotate_left
              · rintro w' ⟨s0, s1⟩
                go_simp
                with_reducible rfl
              rotate_left
              · simp only [Act.put, List.setIfInBounds_toArray, List.set_cons_zero, List.set_cons_succ, i64_w, i32_w]
                rfl
              refine pure_ (i := 5) (N := some 8) (v := ?_) (a' := ?_) #[false, true, true, true, true, true, false, false, false, false, true, false, true, false, false, false, false, false, false, false] rfl rfl (any_of HT_.out (by kernel_rfl)) (fun _ _ _ h => h) (Or.inl ⟨by rfl, ?_⟩) ?_ ?_
              rotate_left
              · intro w'
                go_simp
                with_reducible rfl
              rotate_left
              · simp only [Act.put, List.setIfInBounds_toArray, List.set_cons_zero, List.set_cons_succ, i64_w, i32_w]
                rfl
              refine pure_ (i := 6) (N := some 9) (v := ?_) (a' := ?_) #[false, true, true, true, true, true, true, false, false, false, true, false, true, false, false, false, false, false, false, false] rfl rfl (any_of HT_.out (by kernel_rfl)) (fun _ _ _ h => h) (Or.inl ⟨by rfl, ?_⟩) ?_ ?_
              rotate_left
              · intro w'
                go_simp
                with_reducible rfl
              rotate_left
              · simp only [Act.put, List.setIfInBounds_toArray, List.set_cons_zero, List.set_cons_succ, i64_w, i32_w]
                rfl
              refine pure_ (i := 7) (N := some 10) (v := ?_) (a' := ?_) #[false, true, true, true, true, true, true, true, false, false, true, false, true, false, false, false, false, false, false, false] rfl rfl (any_of HT_.out (by kernel_rfl)) (fun _ _ _ h => h) (Or.inl ⟨by rfl, ?_⟩) ?_ ?_
              rotate_left
              · intro w'
                go_simp
                with_reducible rfl
              rotate_left
              · simp only [Act.put, List.setIfInBounds_toArray, List.set_cons_zero, List.set_cons_succ, i64_w, i32_w]
                rfl
              refine take_ (i := 11) (N := some 14) (v := ?_) (a' := ?_) #[false, true, true, true, true, true, true, true, false, false, true, true, true, false, false, false, false, false, false, false] rfl rfl (take_ofW HT_.out HW_.out (by kernel_rfl)) (fun _ _ _ h => h) (Or.inl ⟨by rfl, ?_⟩) hHeld ?_ ?_
              rotate_left
              · rintro w' ⟨s0, s1⟩
                go_simp
                with_reducible rfl
              rotate_left
              · simp only [Act.put, List.setIfInBounds_toArray, List.set_cons_zero, List.set_cons_succ, i64_w, i32_w]
                rfl
              refine take_ (i := 13) (N := some 16) (v := ?_) (a' := ?_) #[false, true, true, true, true, true, true, true, false, false, true, true, true, true, false, false, false, false, false, false] rfl rfl (take_ofW HT_.out HW_.out (by kernel_rfl)) (fun _ _ _ h => h) (Or.inl ⟨by rfl, ?_⟩) hHeld ?_ ?_
              rotate_left
              · rintro w' ⟨s0, s1⟩
                go_simp
                with_reducible rfl
              rotate_left
              · simp only [Act.put, List.setIfInBounds_toArray, List.set_cons_zero, List.set_cons_succ, i64_w, i32_w]
                rfl
              refine pure_ (i := 14) (N := some 17) (v := ?_) (a' := ?_) #[false, true, true, true, true, true, true, true, false, false, true, true, true, true, true, false, false, false, false, false] rfl rfl (any_of HT_.out (by kernel_rfl)) (fun _ _ _ h => h) (Or.inl ⟨by rfl, ?_⟩) ?_ ?_
              rotate_left
              · intro w'
                go_simp
                with_reducible rfl
              rotate_left
              · simp only [Act.put, List.setIfInBounds_toArray, List.set_cons_zero, List.set_cons_succ, i64_w, i32_w]
                rfl
              refine pure_ (i := 15) (N := some 18) (v := ?_) (a' := ?_) #[false, true, true, true, true, true, true, true, false, false, true, true, true, true, true, true, false, false, false, false] rfl rfl (any_of HT_.out (by kernel_rfl)) (fun _ _ _ h => h) (Or.inl ⟨by rfl, ?_⟩) ?_ ?_
              rotate_left
              · intro w'
                go_simp
                with_reducible rfl
              rotate_left
              · simp only [Act.put, List.setIfInBounds_toArray, List.set_cons_zero, List.set_cons_succ, i64_w, i32_w]
                rfl
              refine pure_ (i := 16) (N := some 19) (v := ?_) (a' := ?_) #[false, true, true, true, true, true, true, true, false, false, true, true, true, true, true, true, true, false, false, false] rfl rfl (any_of HT_.out (by kernel_rfl)) (fun _ _ _ h => h) (Or.inl ⟨by rfl, ?_⟩) ?_ ?_
              rotate_left
              · intro w'
                go_simp
                with_reducible rfl
              rotate_left
              · simp only [Act.put, List.setIfInBounds_toArray, List.set_cons_zero, List.set_cons_succ, i64_w, i32_w]
                rfl
              refine join_ (σ := Value × Value × Value) 3 #[true, true, true, true, true, true, true, true, true, true, true, true, true, true, true, true, true, false, false, false] (fun s_ => [(3, s_.1), (11, s_.2.1), (12, s_.2.2)]) (fun s_ w' => (w'.cell? ⟨gb222, 0, none⟩ = some (.slice A0_0 l0_0.length c0_0) ∧ w'.cell? ⟨gb222, 1, none⟩ = some (.slice A0_1 l0_1.length c0_1)) ∧ (Kd.R (Kd.int .u64) 39 w' w.heap.size (fun _ => True) s_.2.1 y228) ∧ (Kd.R Kd.bool 4 w' w.heap.size (fun _ => True) s_.2.2 y231) ∧ (w'.heap[gb222]? = some (.cells #[.slice A0_0 l0_0.length c0_0, .slice A0_1 l0_1.length c0_1] 25 (0, 0))) ∧ (w'.heap[gb223]? = some (.cells #[.slice none 0 0, .slice none 0 0] 25 (0, 0))) ∧ (Below w.heap.size w w')) ?_ ?_
              rotate_left
              · intro hCont
                refine two_ (i := 0) (j := 9) (Ni := some 3) (Nj := some 12) #[true, true, true, true, true, true, true, true, false, false, true, true, true, true, true, true, true, false, false, false] #[false, true, true, true, true, true, true, true, false, true, true, true, true, true, true, true, true, false, false, false] rfl rfl rfl rfl (two_of HT_.out (by kernel_rfl)) (by decide) (by decide) (fun K hK => ?_) (fun K hK => ?_)
                · skip
                  refine Kd.R_lit_step (Kd.int .u64) _ 39 ?hg (N := 3) ?hd (xs := ([] : List Int)) (inner := []) (ok := fun _ => True) (okp := fun _ => True) ?hr ?hp (fun _ hk => hk) trivial (Below.refl _ _) (Nat.le_refl _) (by simp) ?_; (case hd => rfl); (case hg => rfl); (case hr => first | (go_simp; done) | (go_simp; rfl)); (case hp => exact (Reps.none _ _))
                  intro v225 w15 ho16 hb hg_ hnew_
                  clear hg_ hnew_
                  (first | rw [← Ny224.out] at ho16 | (simp only [Int.reduceToNat] at ho16; rw [← Ny224.out] at ho16))
                  have n0_ := Aside0.mk (Kd.R_lower ho16 (below_size (by repeat (first | (with_reducible first | exact HB.out | apply below_alloc | apply pw_below_drewN | apply below_drew1 | refine below_set ?_ GE222.out | refine below_set ?_ GE223.out) | exact HB.out))))
                  have n1_ := Aside0.mk (blk_below (g := gb222) (o := .cells #[.slice A0_0 l0_0.length c0_0, .slice A0_1 l0_1.length c0_1] 25 (0, 0)) (by (with_reducible repeat (first | refine blk_drewN ?_ _ | refine blk_drew ?_ | refine blk_alloc ?_ _)); exact BK222.out) hb)
                  have n2_ := Aside0.mk (blk_below (g := gb223) (o := .cells #[.slice none 0 0, .slice none 0 0] 25 (0, 0)) (by (with_reducible repeat (first | refine blk_drewN ?_ _ | refine blk_drew ?_ | refine blk_alloc ?_ _)); exact BK223.out) hb)
                  have n3_ := Aside0.mk (below_step (by repeat (first | (with_reducible first | exact HB.out | apply below_alloc | apply pw_below_drewN | apply below_drew1 | refine below_set ?_ GE222.out | refine below_set ?_ GE223.out) | exact HB.out)) hb)
                  clear BK222
                  clear BK223
                  clear HB
                  have HO226 := n0_
                  have BK222 := n1_
                  have BK223 := n2_
                  have HB := n3_
                  clear n0_ n1_ n2_ n3_
                  clear hb ho16
                  refine hK.out _ _ ⟨(blk_cell BK222.out 0).trans rfl, (blk_cell BK222.out 1).trans rfl⟩ (fun hHeld => ?_)
                  clear hK K
                  refine norm_ (a' := ?_) ?_ ?_
                  rotate_left
                  · show Act.put _ (some 3) _ = _
                    simp only [Act.put, List.setIfInBounds_toArray, List.set_cons_zero, List.set_cons_succ, i64_w, i32_w]
                    rfl
                  refine two_ (i := 8) (j := 9) (Ni := some 11) (Nj := some 12) #[true, true, true, true, true, true, true, true, true, false, true, true, true, true, true, true, true, false, false, false] #[true, true, true, true, true, true, true, true, false, true, true, true, true, true, true, true, true, false, false, false] rfl rfl rfl rfl (two_of HT_.out (by kernel_rfl)) (by decide) (by decide) (fun K hK => ?_) (fun K hK => ?_)
                  · skip
                    refine Kd.R_append_rows_step (Kd.int .u64) (w0 := w) w.heap.size (by rfl) (.tmp 3) (.tmp 10) 22 39 (.int .u64 0) 8 rfl Try.underlying22 info39 rfl (by decide) (by omega) v225 y224 (l0_0.take ((ji2) : Int).toNat) _ _ _ (fun _ => True) (fun _ => False) rfl rfl ?aO ?aR (fun _ _ h => h) (fun _ h => h.elim) ?aF ?aB ?aS ?aL ?_
                    (case aR => first | (exact (Go.Proofs.Ytaohmpblmlkioaa.HW.C_len HLK13.out (Kd.C_below HR227.out HB.out))) | (rw [← show (l0_0.take ((ji2) : Int).toNat).length = (ji2).toNat from (by first | exact HLK13.out | (rw [List.length_take]; have h_ : ((ji2) : Int) ≤ (l0_0.length : Int) := of_decide_eq_true (by first | (with_reducible assumption) | assumption); omega))]; repeat (first | exact (Kd.C_below HR227.out HB.out) | (with_reducible refine Kd.C_alloc ?_ _) | (with_reducible refine Kd.C_drewN ?_ _) | (with_reducible refine Kd.C_drew ?_))) | (repeat (first | exact (Kd.C_below HR227.out HB.out) | (with_reducible refine Kd.C_alloc ?_ _) | (with_reducible refine Kd.C_drewN ?_ _) | (with_reducible refine Kd.C_drew ?_))))
                    (case aB => exact (by repeat (first | (with_reducible first | exact HB.out | apply below_alloc | apply pw_below_drewN | apply below_drew1 | refine below_set ?_ GE222.out | refine below_set ?_ GE223.out) | exact HB.out)))
                    (case aF => exact (fun _ _ => trivial))
                    (case aO => exact (by (with_reducible repeat (first | apply Kd.R_alloc | apply Kd.R_drewN | apply Kd.R_drew)); exact HO226.out))
                    (case aS => exact (below_size (by repeat (first | (with_reducible first | exact HB.out | apply below_alloc | apply pw_below_drewN | apply below_drew1 | refine below_set ?_ GE222.out | refine below_set ?_ GE223.out) | exact HB.out))))
                    (case aL => have := LMc5.out; have hlx_ := (show (l0_0.take ((ji2) : Int).toNat).length = (ji2).toNat from (by first | exact HLK13.out | (rw [List.length_take]; have h_ : ((ji2) : Int) ≤ (l0_0.length : Int) := of_decide_eq_true (by first | (with_reducible assumption) | assumption); omega))); omega)
                    intro v229 w17 ho hb hg hat
                    rw [← Ny228.out] at ho
                    have n0_ := Aside0.mk (blk_grown (g := gb222) (o := .cells #[.slice A0_0 l0_0.length c0_0, .slice A0_1 l0_1.length c0_1] 25 (0, 0)) (by (with_reducible repeat (first | refine blk_drewN ?_ _ | refine blk_drew ?_ | refine blk_alloc ?_ _)); exact BK222.out) hg (Kd.R_ne HO226.out BK222.out (by decide)))
                    have n1_ := Aside0.mk (blk_grown (g := gb223) (o := .cells #[.slice none 0 0, .slice none 0 0] 25 (0, 0)) (by (with_reducible repeat (first | refine blk_drewN ?_ _ | refine blk_drew ?_ | refine blk_alloc ?_ _)); exact BK223.out) hg (Kd.R_ne HO226.out BK223.out (by decide)))
                    have n2_ := Aside0.mk (hb)
                    have n3_ := Aside0.mk (ho)
                    clear BK222
                    clear BK223
                    clear HB
                    clear HO226
                    have BK222 := n0_
                    have BK223 := n1_
                    have HB := n2_
                    have HO230 := n3_
                    clear n0_ n1_ n2_ n3_
                    clear ho hb hg hat
                    refine hK.out _ _ ⟨(blk_cell BK222.out 0).trans rfl, (blk_cell BK222.out 1).trans rfl⟩ (fun hHeld => ?_)
                    clear hK K
                    refine norm_ (a' := ?_) ?_ ?_
                    rotate_left
                    · show Act.put _ (some 11) _ = _
                      simp only [Act.put, List.setIfInBounds_toArray, List.set_cons_zero, List.set_cons_succ, i64_w, i32_w]
                      rfl
                    refine one_ (i := 9) (N := some 12) #[true, true, true, true, true, true, true, true, true, true, true, true, true, true, true, true, true, false, false, false] rfl rfl (one_of HT_.out (by kernel_rfl)) (by decide) (fun K hK => ?_)
                    refine Kd.R_lit_step Kd.bool _ 4 ?hg (N := 12) ?hd (xs := ([] : List Bool)) (inner := []) (ok := fun _ => True) (okp := fun _ => True) ?hr ?hp (fun _ hk => hk) trivial (Below.refl _ _) (Nat.le_refl _) (by simp) ?_; (case hd => rfl); (case hg => rfl); (case hr => first | (go_simp; done) | (go_simp; rfl)); (case hp => exact (Reps.none _ _))
                    intro v232 w18 ho19 hb hg_ hnew_
                    clear hg_ hnew_
                    (first | rw [← Ny231.out] at ho19 | (simp only [Int.reduceToNat] at ho19; rw [← Ny231.out] at ho19))
                    have n0_ := Aside0.mk (Kd.R_below (by (with_reducible repeat (first | apply Kd.R_alloc | apply Kd.R_drewN | apply Kd.R_drew)); exact HO230.out) hb)
                    have n1_ := Aside0.mk (Kd.R_lower ho19 (below_size (by repeat (first | (with_reducible first | exact HB.out | apply below_alloc | apply pw_below_drewN | apply below_drew1 | refine below_set ?_ GE222.out | refine below_set ?_ GE223.out) | exact HB.out))))
                    have n2_ := Aside0.mk (blk_below (g := gb222) (o := .cells #[.slice A0_0 l0_0.length c0_0, .slice A0_1 l0_1.length c0_1] 25 (0, 0)) (by (with_reducible repeat (first | refine blk_drewN ?_ _ | refine blk_drew ?_ | refine blk_alloc ?_ _)); exact BK222.out) hb)
                    have n3_ := Aside0.mk (blk_below (g := gb223) (o := .cells #[.slice none 0 0, .slice none 0 0] 25 (0, 0)) (by (with_reducible repeat (first | refine blk_drewN ?_ _ | refine blk_drew ?_ | refine blk_alloc ?_ _)); exact BK223.out) hb)
                    have n4_ := Aside0.mk (below_step (by repeat (first | (with_reducible first | exact HB.out | apply below_alloc | apply pw_below_drewN | apply below_drew1 | refine below_set ?_ GE222.out | refine below_set ?_ GE223.out) | exact HB.out)) hb)
                    clear HO230
                    clear BK222
                    clear BK223
                    clear HB
                    have HO230 := n0_
                    have HO233 := n1_
                    have BK222 := n2_
                    have BK223 := n3_
                    have HB := n4_
                    clear n0_ n1_ n2_ n3_ n4_
                    clear hb ho19
                    refine hK.out _ _ ⟨(blk_cell BK222.out 0).trans rfl, (blk_cell BK222.out 1).trans rfl⟩ (fun hHeld => ?_)
                    clear hK K
                    refine norm_ (a' := ?_) ?_ ?_
                    rotate_left
                    · show Act.put _ (some 12) _ = _
                      simp only [Act.put, List.setIfInBounds_toArray, List.set_cons_zero, List.set_cons_succ, i64_w, i32_w]
                      rfl
                    exact norm_ (by simp only [putAll, Act.put, List.setIfInBounds_toArray, List.set_cons_zero, List.set_cons_succ]) (hCont (v225, v229, v232) _ ⟨hHeld, (by (with_reducible repeat (first | apply Kd.R_alloc | apply Kd.R_drewN | apply Kd.R_drew)); exact HO230.out), (by (with_reducible repeat (first | apply Kd.R_alloc | apply Kd.R_drewN | apply Kd.R_drew)); exact HO233.out), (by (with_reducible repeat (first | refine blk_drewN ?_ _ | refine blk_drew ?_ | refine blk_alloc ?_ _)); exact BK222.out), (by (with_reducible repeat (first | refine blk_drewN ?_ _ | refine blk_drew ?_ | refine blk_alloc ?_ _)); exact BK223.out), (by repeat (first | (with_reducible first | exact HB.out | apply below_alloc | apply pw_below_drewN | apply below_drew1 | refine below_set ?_ GE222.out | refine below_set ?_ GE223.out) | exact HB.out))⟩)
                  · skip
                    refine Kd.R_lit_step Kd.bool _ 4 ?hg (N := 12) ?hd (xs := ([] : List Bool)) (inner := []) (ok := fun _ => True) (okp := fun _ => True) ?hr ?hp (fun _ hk => hk) trivial (Below.refl _ _) (Nat.le_refl _) (by simp) ?_; (case hd => rfl); (case hg => rfl); (case hr => first | (go_simp; done) | (go_simp; rfl)); (case hp => exact (Reps.none _ _))
                    intro v232 w17 ho18 hb hg_ hnew_
                    clear hg_ hnew_
                    (first | rw [← Ny231.out] at ho18 | (simp only [Int.reduceToNat] at ho18; rw [← Ny231.out] at ho18))
                    have n0_ := Aside0.mk (Kd.R_below (by (with_reducible repeat (first | apply Kd.R_alloc | apply Kd.R_drewN | apply Kd.R_drew)); exact HO226.out) hb)
                    have n1_ := Aside0.mk (Kd.R_lower ho18 (below_size (by repeat (first | (with_reducible first | exact HB.out | apply below_alloc | apply pw_below_drewN | apply below_drew1 | refine below_set ?_ GE222.out | refine below_set ?_ GE223.out) | exact HB.out))))
                    have n2_ := Aside0.mk (blk_below (g := gb222) (o := .cells #[.slice A0_0 l0_0.length c0_0, .slice A0_1 l0_1.length c0_1] 25 (0, 0)) (by (with_reducible repeat (first | refine blk_drewN ?_ _ | refine blk_drew ?_ | refine blk_alloc ?_ _)); exact BK222.out) hb)
                    have n3_ := Aside0.mk (blk_below (g := gb223) (o := .cells #[.slice none 0 0, .slice none 0 0] 25 (0, 0)) (by (with_reducible repeat (first | refine blk_drewN ?_ _ | refine blk_drew ?_ | refine blk_alloc ?_ _)); exact BK223.out) hb)
                    have n4_ := Aside0.mk (below_step (by repeat (first | (with_reducible first | exact HB.out | apply below_alloc | apply pw_below_drewN | apply below_drew1 | refine below_set ?_ GE222.out | refine below_set ?_ GE223.out) | exact HB.out)) hb)
                    clear HO226
                    clear BK222
                    clear BK223
                    clear HB
                    have HO226 := n0_
                    have HO233 := n1_
                    have BK222 := n2_
                    have BK223 := n3_
                    have HB := n4_
                    clear n0_ n1_ n2_ n3_ n4_
                    clear hb ho18
                    refine hK.out _ _ ⟨(blk_cell BK222.out 0).trans rfl, (blk_cell BK222.out 1).trans rfl⟩ (fun hHeld => ?_)
                    clear hK K
                    refine norm_ (a' := ?_) ?_ ?_
                    rotate_left
                    · show Act.put _ (some 12) _ = _
                      simp only [Act.put, List.setIfInBounds_toArray, List.set_cons_zero, List.set_cons_succ, i64_w, i32_w]
                      rfl
                    refine one_ (i := 8) (N := some 11) #[true, true, true, true, true, true, true, true, true, true, true, true, true, true, true, true, true, false, false, false] rfl rfl (one_of HT_.out (by kernel_rfl)) (by decide) (fun K hK => ?_)
                    refine Kd.R_append_rows_step (Kd.int .u64) (w0 := w) w.heap.size (by rfl) (.tmp 3) (.tmp 10) 22 39 (.int .u64 0) 8 rfl Try.underlying22 info39 rfl (by decide) (by omega) v225 y224 (l0_0.take ((ji2) : Int).toNat) _ _ _ (fun _ => True) (fun _ => False) rfl rfl ?aO ?aR (fun _ _ h => h) (fun _ h => h.elim) ?aF ?aB ?aS ?aL ?_
                    (case aR => first | (exact (Go.Proofs.Ytaohmpblmlkioaa.HW.C_len HLK13.out (Kd.C_below HR227.out HB.out))) | (rw [← show (l0_0.take ((ji2) : Int).toNat).length = (ji2).toNat from (by first | exact HLK13.out | (rw [List.length_take]; have h_ : ((ji2) : Int) ≤ (l0_0.length : Int) := of_decide_eq_true (by first | (with_reducible assumption) | assumption); omega))]; repeat (first | exact (Kd.C_below HR227.out HB.out) | (with_reducible refine Kd.C_alloc ?_ _) | (with_reducible refine Kd.C_drewN ?_ _) | (with_reducible refine Kd.C_drew ?_))) | (repeat (first | exact (Kd.C_below HR227.out HB.out) | (with_reducible refine Kd.C_alloc ?_ _) | (with_reducible refine Kd.C_drewN ?_ _) | (with_reducible refine Kd.C_drew ?_))))
                    (case aB => exact (by repeat (first | (with_reducible first | exact HB.out | apply below_alloc | apply pw_below_drewN | apply below_drew1 | refine below_set ?_ GE222.out | refine below_set ?_ GE223.out) | exact HB.out)))
                    (case aF => exact (fun _ _ => trivial))
                    (case aO => exact (by (with_reducible repeat (first | apply Kd.R_alloc | apply Kd.R_drewN | apply Kd.R_drew)); exact HO226.out))
                    (case aS => exact (below_size (by repeat (first | (with_reducible first | exact HB.out | apply below_alloc | apply pw_below_drewN | apply below_drew1 | refine below_set ?_ GE222.out | refine below_set ?_ GE223.out) | exact HB.out))))
                    (case aL => have := LMc5.out; have hlx_ := (show (l0_0.take ((ji2) : Int).toNat).length = (ji2).toNat from (by first | exact HLK13.out | (rw [List.length_take]; have h_ : ((ji2) : Int) ≤ (l0_0.length : Int) := of_decide_eq_true (by first | (with_reducible assumption) | assumption); omega))); omega)
                    intro v229 w19 ho hb hg hat
                    rw [← Ny228.out] at ho
                    have n0_ := Aside0.mk (blk_grown (g := gb222) (o := .cells #[.slice A0_0 l0_0.length c0_0, .slice A0_1 l0_1.length c0_1] 25 (0, 0)) (by (with_reducible repeat (first | refine blk_drewN ?_ _ | refine blk_drew ?_ | refine blk_alloc ?_ _)); exact BK222.out) hg (Kd.R_ne HO226.out BK222.out (by decide)))
                    have n1_ := Aside0.mk (blk_grown (g := gb223) (o := .cells #[.slice none 0 0, .slice none 0 0] 25 (0, 0)) (by (with_reducible repeat (first | refine blk_drewN ?_ _ | refine blk_drew ?_ | refine blk_alloc ?_ _)); exact BK223.out) hg (Kd.R_ne HO226.out BK223.out (by decide)))
                    have n2_ := Aside0.mk (Kd.R_over' (by (with_reducible repeat (first | apply Kd.R_alloc | apply Kd.R_drewN | apply Kd.R_drew)); exact HO233.out) (Kd.R_typed (by (with_reducible repeat (first | apply Kd.R_alloc | apply Kd.R_drewN | apply Kd.R_drew)); exact HO226.out)) (by decide) hg)
                    have n3_ := Aside0.mk (hb)
                    have n4_ := Aside0.mk (ho)
                    clear BK222
                    clear BK223
                    clear HO233
                    clear HB
                    clear HO226
                    have BK222 := n0_
                    have BK223 := n1_
                    have HO233 := n2_
                    have HB := n3_
                    have HO230 := n4_
                    clear n0_ n1_ n2_ n3_ n4_
                    clear ho hb hg hat
                    refine hK.out _ _ ⟨(blk_cell BK222.out 0).trans rfl, (blk_cell BK222.out 1).trans rfl⟩ (fun hHeld => ?_)
                    clear hK K
                    refine norm_ (a' := ?_) ?_ ?_
                    rotate_left
                    · show Act.put _ (some 11) _ = _
                      simp only [Act.put, List.setIfInBounds_toArray, List.set_cons_zero, List.set_cons_succ, i64_w, i32_w]
                      rfl
                    exact norm_ (by simp only [putAll, Act.put, List.setIfInBounds_toArray, List.set_cons_zero, List.set_cons_succ]) (hCont (v225, v229, v232) _ ⟨hHeld, (by (with_reducible repeat (first | apply Kd.R_alloc | apply Kd.R_drewN | apply Kd.R_drew)); exact HO230.out), (by (with_reducible repeat (first | apply Kd.R_alloc | apply Kd.R_drewN | apply Kd.R_drew)); exact HO233.out), (by (with_reducible repeat (first | refine blk_drewN ?_ _ | refine blk_drew ?_ | refine blk_alloc ?_ _)); exact BK222.out), (by (with_reducible repeat (first | refine blk_drewN ?_ _ | refine blk_drew ?_ | refine blk_alloc ?_ _)); exact BK223.out), (by repeat (first | (with_reducible first | exact HB.out | apply below_alloc | apply pw_below_drewN | apply below_drew1 | refine below_set ?_ GE222.out | refine below_set ?_ GE223.out) | exact HB.out))⟩)
                · skip
                  refine Kd.R_lit_step Kd.bool _ 4 ?hg (N := 12) ?hd (xs := ([] : List Bool)) (inner := []) (ok := fun _ => True) (okp := fun _ => True) ?hr ?hp (fun _ hk => hk) trivial (Below.refl _ _) (Nat.le_refl _) (by simp) ?_; (case hd => rfl); (case hg => rfl); (case hr => first | (go_simp; done) | (go_simp; rfl)); (case hp => exact (Reps.none _ _))
                  intro v232 w15 ho16 hb hg_ hnew_
                  clear hg_ hnew_
                  (first | rw [← Ny231.out] at ho16 | (simp only [Int.reduceToNat] at ho16; rw [← Ny231.out] at ho16))
                  have n0_ := Aside0.mk (Kd.R_lower ho16 (below_size (by repeat (first | (with_reducible first | exact HB.out | apply below_alloc | apply pw_below_drewN | apply below_drew1 | refine below_set ?_ GE222.out | refine below_set ?_ GE223.out) | exact HB.out))))
                  have n1_ := Aside0.mk (blk_below (g := gb222) (o := .cells #[.slice A0_0 l0_0.length c0_0, .slice A0_1 l0_1.length c0_1] 25 (0, 0)) (by (with_reducible repeat (first | refine blk_drewN ?_ _ | refine blk_drew ?_ | refine blk_alloc ?_ _)); exact BK222.out) hb)
                  have n2_ := Aside0.mk (blk_below (g := gb223) (o := .cells #[.slice none 0 0, .slice none 0 0] 25 (0, 0)) (by (with_reducible repeat (first | refine blk_drewN ?_ _ | refine blk_drew ?_ | refine blk_alloc ?_ _)); exact BK223.out) hb)
                  have n3_ := Aside0.mk (below_step (by repeat (first | (with_reducible first | exact HB.out | apply below_alloc | apply pw_below_drewN | apply below_drew1 | refine below_set ?_ GE222.out | refine below_set ?_ GE223.out) | exact HB.out)) hb)
                  clear BK222
                  clear BK223
                  clear HB
                  have HO233 := n0_
                  have BK222 := n1_
                  have BK223 := n2_
                  have HB := n3_
                  clear n0_ n1_ n2_ n3_
                  clear hb ho16
                  refine hK.out _ _ ⟨(blk_cell BK222.out 0).trans rfl, (blk_cell BK222.out 1).trans rfl⟩ (fun hHeld => ?_)
                  clear hK K
                  refine norm_ (a' := ?_) ?_ ?_
                  rotate_left
                  · show Act.put _ (some 12) _ = _
                    simp only [Act.put, List.setIfInBounds_toArray, List.set_cons_zero, List.set_cons_succ, i64_w, i32_w]
                    rfl
                  refine one_ (i := 0) (N := some 3) #[true, true, true, true, true, true, true, true, false, true, true, true, true, true, true, true, true, false, false, false] rfl rfl (one_of HT_.out (by kernel_rfl)) (by decide) (fun K hK => ?_)
                  refine Kd.R_lit_step (Kd.int .u64) _ 39 ?hg (N := 3) ?hd (xs := ([] : List Int)) (inner := []) (ok := fun _ => True) (okp := fun _ => True) ?hr ?hp (fun _ hk => hk) trivial (Below.refl _ _) (Nat.le_refl _) (by simp) ?_; (case hd => rfl); (case hg => rfl); (case hr => first | (go_simp; done) | (go_simp; rfl)); (case hp => exact (Reps.none _ _))
                  intro v225 w17 ho18 hb hg_ hnew_
                  clear hg_ hnew_
                  (first | rw [← Ny224.out] at ho18 | (simp only [Int.reduceToNat] at ho18; rw [← Ny224.out] at ho18))
                  have n0_ := Aside0.mk (Kd.R_below (by (with_reducible repeat (first | apply Kd.R_alloc | apply Kd.R_drewN | apply Kd.R_drew)); exact HO233.out) hb)
                  have n1_ := Aside0.mk (Kd.R_lower ho18 (below_size (by repeat (first | (with_reducible first | exact HB.out | apply below_alloc | apply pw_below_drewN | apply below_drew1 | refine below_set ?_ GE222.out | refine below_set ?_ GE223.out) | exact HB.out))))
                  have n2_ := Aside0.mk (blk_below (g := gb222) (o := .cells #[.slice A0_0 l0_0.length c0_0, .slice A0_1 l0_1.length c0_1] 25 (0, 0)) (by (with_reducible repeat (first | refine blk_drewN ?_ _ | refine blk_drew ?_ | refine blk_alloc ?_ _)); exact BK222.out) hb)
                  have n3_ := Aside0.mk (blk_below (g := gb223) (o := .cells #[.slice none 0 0, .slice none 0 0] 25 (0, 0)) (by (with_reducible repeat (first | refine blk_drewN ?_ _ | refine blk_drew ?_ | refine blk_alloc ?_ _)); exact BK223.out) hb)
                  have n4_ := Aside0.mk (below_step (by repeat (first | (with_reducible first | exact HB.out | apply below_alloc | apply pw_below_drewN | apply below_drew1 | refine below_set ?_ GE222.out | refine below_set ?_ GE223.out) | exact HB.out)) hb)
                  clear HO233
                  clear BK222
                  clear BK223
                  clear HB
                  have HO233 := n0_
                  have HO226 := n1_
                  have BK222 := n2_
                  have BK223 := n3_
                  have HB := n4_
                  clear n0_ n1_ n2_ n3_ n4_
                  clear hb ho18
                  refine hK.out _ _ ⟨(blk_cell BK222.out 0).trans rfl, (blk_cell BK222.out 1).trans rfl⟩ (fun hHeld => ?_)
                  clear hK K
                  refine norm_ (a' := ?_) ?_ ?_
                  rotate_left
                  · show Act.put _ (some 3) _ = _
                    simp only [Act.put, List.setIfInBounds_toArray, List.set_cons_zero, List.set_cons_succ, i64_w, i32_w]
                    rfl
                  refine one_ (i := 8) (N := some 11) #[true, true, true, true, true, true, true, true, true, true, true, true, true, true, true, true, true, false, false, false] rfl rfl (one_of HT_.out (by kernel_rfl)) (by decide) (fun K hK => ?_)
                  refine Kd.R_append_rows_step (Kd.int .u64) (w0 := w) w.heap.size (by rfl) (.tmp 3) (.tmp 10) 22 39 (.int .u64 0) 8 rfl Try.underlying22 info39 rfl (by decide) (by omega) v225 y224 (l0_0.take ((ji2) : Int).toNat) _ _ _ (fun _ => True) (fun _ => False) rfl rfl ?aO ?aR (fun _ _ h => h) (fun _ h => h.elim) ?aF ?aB ?aS ?aL ?_
                  (case aR => first | (exact (Go.Proofs.Ytaohmpblmlkioaa.HW.C_len HLK13.out (Kd.C_below HR227.out HB.out))) | (rw [← show (l0_0.take ((ji2) : Int).toNat).length = (ji2).toNat from (by first | exact HLK13.out | (rw [List.length_take]; have h_ : ((ji2) : Int) ≤ (l0_0.length : Int) := of_decide_eq_true (by first | (with_reducible assumption) | assumption); omega))]; repeat (first | exact (Kd.C_below HR227.out HB.out) | (with_reducible refine Kd.C_alloc ?_ _) | (with_reducible refine Kd.C_drewN ?_ _) | (with_reducible refine Kd.C_drew ?_))) | (repeat (first | exact (Kd.C_below HR227.out HB.out) | (with_reducible refine Kd.C_alloc ?_ _) | (with_reducible refine Kd.C_drewN ?_ _) | (with_reducible refine Kd.C_drew ?_))))
                  (case aB => exact (by repeat (first | (with_reducible first | exact HB.out | apply below_alloc | apply pw_below_drewN | apply below_drew1 | refine below_set ?_ GE222.out | refine below_set ?_ GE223.out) | exact HB.out)))
                  (case aF => exact (fun _ _ => trivial))
                  (case aO => exact (by (with_reducible repeat (first | apply Kd.R_alloc | apply Kd.R_drewN | apply Kd.R_drew)); exact HO226.out))
                  (case aS => exact (below_size (by repeat (first | (with_reducible first | exact HB.out | apply below_alloc | apply pw_below_drewN | apply below_drew1 | refine below_set ?_ GE222.out | refine below_set ?_ GE223.out) | exact HB.out))))
                  (case aL => have := LMc5.out; have hlx_ := (show (l0_0.take ((ji2) : Int).toNat).length = (ji2).toNat from (by first | exact HLK13.out | (rw [List.length_take]; have h_ : ((ji2) : Int) ≤ (l0_0.length : Int) := of_decide_eq_true (by first | (with_reducible assumption) | assumption); omega))); omega)
                  intro v229 w19 ho hb hg hat
                  rw [← Ny228.out] at ho
                  have n0_ := Aside0.mk (blk_grown (g := gb222) (o := .cells #[.slice A0_0 l0_0.length c0_0, .slice A0_1 l0_1.length c0_1] 25 (0, 0)) (by (with_reducible repeat (first | refine blk_drewN ?_ _ | refine blk_drew ?_ | refine blk_alloc ?_ _)); exact BK222.out) hg (Kd.R_ne HO226.out BK222.out (by decide)))
                  have n1_ := Aside0.mk (blk_grown (g := gb223) (o := .cells #[.slice none 0 0, .slice none 0 0] 25 (0, 0)) (by (with_reducible repeat (first | refine blk_drewN ?_ _ | refine blk_drew ?_ | refine blk_alloc ?_ _)); exact BK223.out) hg (Kd.R_ne HO226.out BK223.out (by decide)))
                  have n2_ := Aside0.mk (Kd.R_over' (by (with_reducible repeat (first | apply Kd.R_alloc | apply Kd.R_drewN | apply Kd.R_drew)); exact HO233.out) (Kd.R_typed (by (with_reducible repeat (first | apply Kd.R_alloc | apply Kd.R_drewN | apply Kd.R_drew)); exact HO226.out)) (by decide) hg)
                  have n3_ := Aside0.mk (hb)
                  have n4_ := Aside0.mk (ho)
                  clear BK222
                  clear BK223
                  clear HO233
                  clear HB
                  clear HO226
                  have BK222 := n0_
                  have BK223 := n1_
                  have HO233 := n2_
                  have HB := n3_
                  have HO230 := n4_
                  clear n0_ n1_ n2_ n3_ n4_
                  clear ho hb hg hat
                  refine hK.out _ _ ⟨(blk_cell BK222.out 0).trans rfl, (blk_cell BK222.out 1).trans rfl⟩ (fun hHeld => ?_)
                  clear hK K
                  refine norm_ (a' := ?_) ?_ ?_
                  rotate_left
                  · show Act.put _ (some 11) _ = _
                    simp only [Act.put, List.setIfInBounds_toArray, List.set_cons_zero, List.set_cons_succ, i64_w, i32_w]
                    rfl
                  exact norm_ (by simp only [putAll, Act.put, List.setIfInBounds_toArray, List.set_cons_zero, List.set_cons_succ]) (hCont (v225, v229, v232) _ ⟨hHeld, (by (with_reducible repeat (first | apply Kd.R_alloc | apply Kd.R_drewN | apply Kd.R_drew)); exact HO230.out), (by (with_reducible repeat (first | apply Kd.R_alloc | apply Kd.R_drewN | apply Kd.R_drew)); exact HO233.out), (by (with_reducible repeat (first | refine blk_drewN ?_ _ | refine blk_drew ?_ | refine blk_alloc ?_ _)); exact BK222.out), (by (with_reducible repeat (first | refine blk_drewN ?_ _ | refine blk_drew ?_ | refine blk_alloc ?_ _)); exact BK223.out), (by repeat (first | (with_reducible first | exact HB.out | apply below_alloc | apply pw_below_drewN | apply below_drew1 | refine below_set ?_ GE222.out | refine below_set ?_ GE223.out) | exact HB.out))⟩)
              rintro ⟨v225, v229, v232⟩ w20 ⟨hS_, h0_, h1_, h2_, h3_, h4_⟩
              have n0_ : Aside0 (Kd.R (Kd.int .u64) 39 w20 w.heap.size (fun _ => True) v229 y228) := ⟨h0_⟩
              have n1_ : Aside0 (Kd.R Kd.bool 4 w20 w.heap.size (fun _ => True) v232 y231) := ⟨h1_⟩
              have n2_ : Aside0 (w20.heap[gb222]? = some (.cells #[.slice A0_0 l0_0.length c0_0, .slice A0_1 l0_1.length c0_1] 25 (0, 0))) := ⟨h2_⟩
              have n3_ : Aside0 (w20.heap[gb223]? = some (.cells #[.slice none 0 0, .slice none 0 0] 25 (0, 0))) := ⟨h3_⟩
              have n4_ : Aside0 (Below w.heap.size w w20) := ⟨h4_⟩
              clear BK222
              clear BK223
              clear HB
              clear h0_ h1_ h2_ h3_ h4_
              have HO230 := n0_
              have HO233 := n1_
              have BK222 := n2_
              have BK223 := n3_
              have HB := n4_
              clear n0_ n1_ n2_ n3_ n4_
              have hHeld : w20.cell? ⟨gb222, 0, none⟩ = some (.slice A0_0 l0_0.length c0_0) ∧ w20.cell? ⟨gb222, 1, none⟩ = some (.slice A0_1 l0_1.length c0_1) := hS_
              refine norm_ (a' := ?_) ?_ ?_
              rotate_left
              · simp only [putAll, Act.put, List.setIfInBounds_toArray, List.set_cons_zero, List.set_cons_succ]
                rfl
              refine one_ (i := 17) (N := some 20) #[true, true, true, true, true, true, true, true, true, true, true, true, true, true, true, true, true, true, false, false] rfl rfl (one_of HT_.out (by kernel_rfl)) (by decide) (fun K hK => ?_)
              refine Kd.R_append_rows_step Kd.bool (w0 := w) w.heap.size (by rfl) (.tmp 12) (.tmp 19) 23 4 (.bool false) 1 rfl Try.underlying23 info4 rfl (by decide) (by omega) v232 y231 (l0_1.take ((ji6) : Int).toNat) _ _ _ (fun _ => True) (fun _ => False) rfl rfl ?aO ?aR (fun _ _ h => h) (fun _ h => h.elim) ?aF ?aB ?aS ?aL ?_
              (case aR => first | (exact (Go.Proofs.Ytaohmpblmlkioaa.HW.C_len HLK14.out (Kd.C_below HR234.out HB.out))) | (rw [← show (l0_1.take ((ji6) : Int).toNat).length = (ji6).toNat from (by first | exact HLK14.out | (rw [List.length_take]; have h_ : ((ji6) : Int) ≤ (l0_1.length : Int) := of_decide_eq_true (by first | (with_reducible assumption) | assumption); omega))]; repeat (first | exact (Kd.C_below HR234.out HB.out) | (with_reducible refine Kd.C_alloc ?_ _) | (with_reducible refine Kd.C_drewN ?_ _) | (with_reducible refine Kd.C_drew ?_))) | (repeat (first | exact (Kd.C_below HR234.out HB.out) | (with_reducible refine Kd.C_alloc ?_ _) | (with_reducible refine Kd.C_drewN ?_ _) | (with_reducible refine Kd.C_drew ?_))))
              (case aB => exact (by repeat (first | (with_reducible first | exact HB.out | apply below_alloc | apply pw_below_drewN | apply below_drew1 | refine below_set ?_ GE222.out | refine below_set ?_ GE223.out) | exact HB.out)))
              (case aF => exact (fun _ _ => trivial))
              (case aO => exact (by (with_reducible repeat (first | apply Kd.R_alloc | apply Kd.R_drewN | apply Kd.R_drew)); exact HO233.out))
              (case aS => exact (below_size (by repeat (first | (with_reducible first | exact HB.out | apply below_alloc | apply pw_below_drewN | apply below_drew1 | refine below_set ?_ GE222.out | refine below_set ?_ GE223.out) | exact HB.out))))
              (case aL => have := LMc9.out; have hlx_ := (show (l0_1.take ((ji6) : Int).toNat).length = (ji6).toNat from (by first | exact HLK14.out | (rw [List.length_take]; have h_ : ((ji6) : Int) ≤ (l0_1.length : Int) := of_decide_eq_true (by first | (with_reducible assumption) | assumption); omega))); omega)
              intro v236 w21 ho hb hg hat
              rw [← Ny235.out] at ho
              have n0_ := Aside0.mk (blk_grown (g := gb222) (o := .cells #[.slice A0_0 l0_0.length c0_0, .slice A0_1 l0_1.length c0_1] 25 (0, 0)) (by (with_reducible repeat (first | refine blk_drewN ?_ _ | refine blk_drew ?_ | refine blk_alloc ?_ _)); exact BK222.out) hg (Kd.R_ne HO233.out BK222.out (by decide)))
              have n1_ := Aside0.mk (blk_grown (g := gb223) (o := .cells #[.slice none 0 0, .slice none 0 0] 25 (0, 0)) (by (with_reducible repeat (first | refine blk_drewN ?_ _ | refine blk_drew ?_ | refine blk_alloc ?_ _)); exact BK223.out) hg (Kd.R_ne HO233.out BK223.out (by decide)))
              have n2_ := Aside0.mk (Kd.R_over' (by (with_reducible repeat (first | apply Kd.R_alloc | apply Kd.R_drewN | apply Kd.R_drew)); exact HO230.out) (Kd.R_typed (by (with_reducible repeat (first | apply Kd.R_alloc | apply Kd.R_drewN | apply Kd.R_drew)); exact HO233.out)) (by decide) hg)
              have n3_ := Aside0.mk (hb)
              have n4_ := Aside0.mk (ho)
              clear BK222
              clear BK223
              clear HO230
              clear HB
              clear HO233
              have BK222 := n0_
              have BK223 := n1_
              have HO230 := n2_
              have HB := n3_
              have HO237 := n4_
              clear n0_ n1_ n2_ n3_ n4_
              clear ho hb hg hat
              obtain ⟨Ao22, co22, eo22⟩ := Kd.R_slice HO237.out
              (first | subst eo22 | (injection eo22 with f1_ f2_ f3_; have f4_ := f1_.symm; have f5_ := f3_.symm; clear f1_ f2_ f3_; subst f4_; subst f5_))
              obtain ⟨Ao23, co23, eo23⟩ := Kd.R_slice HO230.out
              (first | subst eo23 | (injection eo23 with f1_ f2_ f3_; have f4_ := f1_.symm; have f5_ := f3_.symm; clear f1_ f2_ f3_; subst f4_; subst f5_))
              refine hK.out _ _ ⟨(blk_cell BK222.out 0).trans rfl, (blk_cell BK222.out 1).trans rfl⟩ (fun hHeld => ?_)
              clear hK K
              refine norm_ (a' := ?_) ?_ ?_
              rotate_left
              · show Act.put _ (some 20) _ = _
                simp only [Act.put, List.setIfInBounds_toArray, List.set_cons_zero, List.set_cons_succ, i64_w, i32_w]
                rfl
              refine pure_ (i := 18) (N := some 21) (v := ?_) (a' := ?_) #[true, true, true, true, true, true, true, true, true, true, true, true, true, true, true, true, true, true, true, false] rfl rfl (any_of HT_.out (by kernel_rfl)) (fun _ _ _ h => h) (Or.inl ⟨by rfl, ?_⟩) ?_ ?_
              rotate_left
              · intro w'
                go_simp
                with_reducible rfl
              rotate_left
              · simp only [Act.put, List.setIfInBounds_toArray, List.set_cons_zero, List.set_cons_succ, i64_w, i32_w]
                rfl
              refine one_ (i := 19) (N := none) #[true, true, true, true, true, true, true, true, true, true, true, true, true, true, true, true, true, true, true, true] rfl rfl (one_of HT_.out (by kernel_rfl)) (by decide) (fun K hK => ?_)
              have hs24 : w21.cell? ⟨gb223, 0, none⟩ = some (.slice none 0 0) := (blk_cell BK223.out 0).trans rfl
              have hfs24 := blk_frozen BK223.out 0
              have hns24_0 := NB222_223.out
              have hms24_0 := NB223_222.out
              have hs25 : w21.cell? ⟨gb223, 1, none⟩ = some (.slice none 0 0) := (blk_cell BK223.out 1).trans rfl
              have hfs25 := blk_frozen BK223.out 1
              have hns25_0 := NB222_223.out
              have hms25_0 := NB223_222.out
              refine skip_ (w1 := ?_) (by rfl) rfl ?_ ?_
              rotate_left
              · go_simp
                rfl
              refine hK.out _ _ ⟨((cell_far (p := ⟨gb223, _, none⟩) NB222_223.out _).trans (((cell_far (p := ⟨gb223, _, none⟩) NB222_223.out _).trans (hHeld.1)))), ((cell_far (p := ⟨gb223, _, none⟩) NB222_223.out _).trans (((cell_far (p := ⟨gb223, _, none⟩) NB222_223.out _).trans (hHeld.2))))⟩ (fun hHeld => ?_)
              clear hK K
              refine done_ (done_of HT_.out (by kernel_rfl)) ?_
              try go_wp2
              refine bodyPost_ret (results_cell_row rfl _ _ gb223 25 #[.slice Ao23 y228.length co23, .slice Ao22 y235.length co22] (0, 0) _ rfl (by (with_reducible repeat (first | refine blk_drewN ?_ _ | refine blk_drew ?_ | refine blk_alloc ?_ _)); refine blk_put (cs := #[.slice Ao23 y228.length co23, .slice none 0 0]) ?_ 1 _ rfl; (with_reducible repeat (first | refine blk_drewN ?_ _ | refine blk_drew ?_ | refine blk_alloc ?_ _)); refine blk_put (cs := #[.slice none 0 0, .slice none 0 0]) ?_ 0 _ rfl; (with_reducible repeat (first | refine blk_drewN ?_ _ | refine blk_drew ?_ | refine blk_alloc ?_ _)); exact BK223.out) Try.underlying25 rfl (by kernel_rfl)) rfl ?_
              exact ⟨_, _, by first | rfl | (simp [errW_none, errW_some] <;> rfl) | (simp only [← hji2, ← hji6]; first | rfl | (simp [errW_none, errW_some] <;> rfl)) | (simp [*, errW_none, errW_some] <;> rfl), by (with_reducible repeat (first | apply Kd.R_alloc | apply Kd.R_drewN | apply Kd.R_drew)); exact Kd.R_mono (Kd.R_far (p := ⟨gb223, 1, none⟩) (Kd.R_far (p := ⟨gb223, 0, none⟩) (Kd.R_types HO230.out BK223.out (by decide)) (fun _ hk => hk.2) (.slice Ao23 y228.length co23)) (fun _ hk => hk.2) (.slice Ao22 y235.length co22)) (fun _ hk => trivial), by (with_reducible repeat (first | apply Kd.R_alloc | apply Kd.R_drewN | apply Kd.R_drew)); exact Kd.R_mono (Kd.R_far (p := ⟨gb223, 1, none⟩) (Kd.R_far (p := ⟨gb223, 0, none⟩) (Kd.R_types HO237.out BK223.out (by decide)) (fun _ hk => hk.2) (.slice Ao23 y228.length co23)) (fun _ hk => hk.2) (.slice Ao22 y235.length co22)) (fun _ hk => trivial), by repeat (first | (with_reducible first | exact HB.out | apply below_alloc | apply pw_below_drewN | apply below_drew1 | refine below_set ?_ GE222.out | refine below_set ?_ GE223.out) | exact HB.out)⟩
            · rw [if_neg c9] at H
              exact absurd H (by simp)
          · rw [if_neg c8] at H
            exact absurd H (by simp)
        · rw [if_neg c7] at H
          exact absurd H (by simp)
      · rw [if_neg c5] at H
        exact absurd H (by simp)
    · rw [if_neg c4] at H
      exact absurd H (by simp)
  · rw [if_neg c3] at H
    exact absurd H (by simp)

/-! ### cartageref15_Right: function 12 -/
def cartageref15_Right.f (a0 : Int) (l1_0 : List Int) (l1_1 : List Bool) : Option (Bool) := if a0 ≥ 0 then (if (l1_0.length : Int) = (l1_1.length : Int) then (some (decide ((l1_0.length : Int) ≤ 1048576))) else (some false)) else (some false)
set_option maxHeartbeats 8000000 in
set_option maxRecDepth 100000 in
theorem cartageref15_Right.calls (a0 : Int) (A1_0 : Option Addr) (c1_0 : Nat) (l1_0 : List Int) (A1_1 : Option Addr) (c1_1 : Nat) (l1_1 : List Bool) (r : Bool) (w : World) (hr1_0 : Kd.C (Kd.int .u64) w A1_0 l1_0.length l1_0) (hc1_0 : l1_0.length ≤ c1_0) (hr1_1 : Kd.C Kd.bool w A1_1 l1_1.length l1_1) (hc1_1 : l1_1.length ≤ c1_1) (h : cartageref15_Right.f a0 l1_0 l1_1 = some r) :
    Calls Try.prog 12 #[.int .i64 a0, .agg #[.slice A1_0 l1_0.length c1_0, .slice A1_1 l1_1.length c1_1]] w fun e w' => e = .returned (.bool r) ∧ Below w.heap.size w w' := by
  have hu25 := Try.underlying25
  have HR1_0 := Aside0.mk hr1_0
  have HC1_0 := Aside0.mk hc1_0
  clear hr1_0 hc1_0
  have HR1_1 := Aside0.mk hr1_1
  have HC1_1 := Aside0.mk hc1_1
  clear hr1_1 hc1_1
  have HB := Aside0.mk (Below.refl w.heap.size w)
  have H : (if a0 ≥ 0 then (if (l1_0.length : Int) = (l1_1.length : Int) then (some (decide ((l1_0.length : Int) ≤ 1048576))) else (some false)) else (some false)) = some r := h
  clear h
  by_cases c3 : a0 ≥ 0
  · rw [if_pos c3] at H
    have c3b0 : decide (0 ≤ a0) = true := decide_eq_true c3
    clear c3
    by_cases c4 : (l1_0.length : Int) = (l1_1.length : Int)
    · rw [if_pos c4] at H
      have c4b0 : ((l1_0.length : Int) == (l1_1.length : Int)) = true := beq_iff_eq.mpr c4
      have c4b1 : ((l1_0.length : Int) != (l1_1.length : Int)) = false := bne_eq_false_iff_eq.mpr c4
      have c4b2 : (l1_0.length == l1_1.length) = true := by first | simpa using c4 | (simp at c4 ⊢; omega)
      clear c4
      obtain rfl := Option.some.inj H
      go_enter Try.func12, Try.ntmps12
      go_wp2_with (first | ((with_reducible refine gate_dst (N := 3) rfl ?_); (try (refine gate_guard (by rfl) ?_; dsimp only)); refine box_event ?hg (N := 3) ?hd (cs := #[.slice A1_0 l1_0.length c1_0, .slice A1_1 l1_1.length c1_1]) (t := 25) ?hr ?_; (case hd => rfl); (case hg => rfl); (case hr => first | (go_simp; done) | (go_simp; rfl)); intro gb238 hg w5 hbox hb; have n0_ := Aside0.mk (below_step (by repeat (first | (with_reducible first | exact HB.out | apply below_alloc | apply pw_below_drewN | apply below_drew1) | exact HB.out)) hb); have n1_ := Aside0.mk (hbox); have n2_ := Aside0.mk ((by rw [hg]; exact (below_size (by repeat (first | (with_reducible first | exact HB.out | apply below_alloc | apply pw_below_drewN | apply below_drew1) | exact HB.out))) : w.heap.size ≤ gb238)); have n3_ := Aside0.mk ((by rw [hg]; exact (below_size (by repeat (first | (with_reducible first | exact HB.out | apply below_alloc | apply pw_below_drewN | apply below_drew1) | exact HB.out))) : w.heap.size ≤ gb238)); clear HB; have HB := n0_; have BK238 := n1_; have GW238 := n2_; have GE238 := n3_; clear n0_ n1_ n2_ n3_; clear hb hbox hg; have hcz6_0 : w5.cell? ⟨gb238, 0, none⟩ = some (.slice A1_0 l1_0.length c1_0) := (blk_cell BK238.out 0).trans rfl; have hcz6_1 : w5.cell? ⟨gb238, 1, none⟩ = some (.slice A1_1 l1_1.length c1_1) := (blk_cell BK238.out 1).trans rfl; have hfz6_0 := blk_frozen BK238.out 0; have hfz6_1 := blk_frozen BK238.out 1))
      go_ret
      exact ⟨by first | rfl | (simp [errW_none, errW_some] <;> rfl) | (simp [*, errW_none, errW_some] <;> rfl), by repeat (first | (with_reducible first | exact HB.out | apply below_alloc | apply pw_below_drewN | apply below_drew1 | refine below_set ?_ GE238.out) | exact HB.out)⟩
    · rw [if_neg c4] at H
      have c4b0 : ((l1_0.length : Int) == (l1_1.length : Int)) = false := beq_eq_false_iff_ne.mpr c4
      have c4b1 : ((l1_0.length : Int) != (l1_1.length : Int)) = true := bne_iff_ne.mpr c4
      have c4b2 : (l1_0.length == l1_1.length) = false := by first | simpa using c4 | (simp at c4 ⊢; omega)
      obtain rfl := Option.some.inj H
      go_enter Try.func12, Try.ntmps12
      go_wp2_with (first | ((with_reducible refine gate_dst (N := 3) rfl ?_); (try (refine gate_guard (by rfl) ?_; dsimp only)); refine box_event ?hg (N := 3) ?hd (cs := #[.slice A1_0 l1_0.length c1_0, .slice A1_1 l1_1.length c1_1]) (t := 25) ?hr ?_; (case hd => rfl); (case hg => rfl); (case hr => first | (go_simp; done) | (go_simp; rfl)); intro gb238 hg w7 hbox hb; have n0_ := Aside0.mk (below_step (by repeat (first | (with_reducible first | exact HB.out | apply below_alloc | apply pw_below_drewN | apply below_drew1) | exact HB.out)) hb); have n1_ := Aside0.mk (hbox); have n2_ := Aside0.mk ((by rw [hg]; exact (below_size (by repeat (first | (with_reducible first | exact HB.out | apply below_alloc | apply pw_below_drewN | apply below_drew1) | exact HB.out))) : w.heap.size ≤ gb238)); have n3_ := Aside0.mk ((by rw [hg]; exact (below_size (by repeat (first | (with_reducible first | exact HB.out | apply below_alloc | apply pw_below_drewN | apply below_drew1) | exact HB.out))) : w.heap.size ≤ gb238)); clear HB; have HB := n0_; have BK238 := n1_; have GW238 := n2_; have GE238 := n3_; clear n0_ n1_ n2_ n3_; clear hb hbox hg; have hcz8_0 : w7.cell? ⟨gb238, 0, none⟩ = some (.slice A1_0 l1_0.length c1_0) := (blk_cell BK238.out 0).trans rfl; have hcz8_1 : w7.cell? ⟨gb238, 1, none⟩ = some (.slice A1_1 l1_1.length c1_1) := (blk_cell BK238.out 1).trans rfl; have hfz8_0 := blk_frozen BK238.out 0; have hfz8_1 := blk_frozen BK238.out 1))
      go_ret
      exact ⟨by first | rfl | (simp [errW_none, errW_some] <;> rfl) | (simp [*, errW_none, errW_some] <;> rfl), by repeat (first | (with_reducible first | exact HB.out | apply below_alloc | apply pw_below_drewN | apply below_drew1 | refine below_set ?_ GE238.out) | exact HB.out)⟩
  · rw [if_neg c3] at H
    have c3b0 : decide (0 ≤ a0) = false := decide_eq_false c3
    clear c3
    obtain rfl := Option.some.inj H
    go_enter Try.func12, Try.ntmps12
    go_wp2_with (first | ((with_reducible refine gate_dst (N := 3) rfl ?_); (try (refine gate_guard (by rfl) ?_; dsimp only)); refine box_event ?hg (N := 3) ?hd (cs := #[.slice A1_0 l1_0.length c1_0, .slice A1_1 l1_1.length c1_1]) (t := 25) ?hr ?_; (case hd => rfl); (case hg => rfl); (case hr => first | (go_simp; done) | (go_simp; rfl)); intro gb238 hg w9 hbox hb; have n0_ := Aside0.mk (below_step (by repeat (first | (with_reducible first | exact HB.out | apply below_alloc | apply pw_below_drewN | apply below_drew1) | exact HB.out)) hb); have n1_ := Aside0.mk (hbox); have n2_ := Aside0.mk ((by rw [hg]; exact (below_size (by repeat (first | (with_reducible first | exact HB.out | apply below_alloc | apply pw_below_drewN | apply below_drew1) | exact HB.out))) : w.heap.size ≤ gb238)); have n3_ := Aside0.mk ((by rw [hg]; exact (below_size (by repeat (first | (with_reducible first | exact HB.out | apply below_alloc | apply pw_below_drewN | apply below_drew1) | exact HB.out))) : w.heap.size ≤ gb238)); clear HB; have HB := n0_; have BK238 := n1_; have GW238 := n2_; have GE238 := n3_; clear n0_ n1_ n2_ n3_; clear hb hbox hg))
    go_ret
    exact ⟨by first | rfl | (simp [errW_none, errW_some] <;> rfl) | (simp [*, errW_none, errW_some] <;> rfl), by repeat (first | (with_reducible first | exact HB.out | apply below_alloc | apply pw_below_drewN | apply below_drew1 | refine below_set ?_ GE238.out) | exact HB.out)⟩

end Go.Proofs.Ytaohmpblmlkioaa.PAll
