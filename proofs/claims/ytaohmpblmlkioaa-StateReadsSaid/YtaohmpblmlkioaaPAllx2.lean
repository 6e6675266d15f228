-- Laid by hp.py (wip/tools), a program of this work, over the kit's print; Lean checks it.
import Derived.Test.YtaohmpblmlkioaaPAllx0
import Derived.Test.YtaohmpblmlkioaaPAllx1
namespace Go.Proofs.Ytaohmpblmlkioaa.PAll
open Go.RowKit Go.Proofs.YtaohmpblmlkioaaW.PrintWords Go.Proofs.YtaohmpblmlkioaaW.PrintLast Go.Proofs.YtaohmpblmlkioaaW.PrintMore
attribute [local go_sem] max2_int min2_int max_two min_two max_three min_three max_four min_four   -- for this text's walks alone
set_option linter.unusedVariables false
set_option linter.unusedSimpArgs false

/-! ### state_Encode: function 11 -/
mutual
def state_Encode.j0 : Nat → Int → Int → Bool → List Int → List Bool → Option (List Int × Int)
  | 0, _, _, _, _, _ => none
  | k + 1, x0, x6, x27, x136000, x136001 => if x27 = true then (some (([] : List Int), 1)) else ((state_pair.f k x0 x6).bind fun t136 => (state_Encode.l0 k x6 (([t136] : List (List Int))) ([] : List Int) x136000 (x136000.length : Int) 0 x136000 x136001))
def state_Encode.l0 : Nat → Int → List (List Int) → List Int → List Int → Int → Int → List Int → List Bool → Option (List Int × Int)
  | 0, _, _, _, _, _, _, _, _ => none
  | k + 1, x6, x7, x8, x33, x34, x35, x136000, x136001 => if x35 < x34 then (if 0 ≤ x35 then (if x35 < (x33.length : Int) then (if x35 < (x136001.length : Int) then (if rdOf false x136001 x35 = true then ((octets_Put.f k x8 8 (rd x33 x35)).bind fun t148 => (if t148.length < 140737488355328 then ((some (t148 ++ [1] : List Int)).bind fun y151 => (if (y151.length : Int) = 900 then (if x7.length < 5864062014805 then (state_Encode.l0 k x6 (x7 ++ [y151]) ([] : List Int) x33 x34 (wrap64 (x35 + 1)) x136000 x136001) else (none)) else (if x35 = (wrap64 (x6 - 1)) then (if x7.length < 5864062014805 then (state_Encode.l0 k x6 (x7 ++ [y151]) ([] : List Int) x33 x34 (wrap64 (x35 + 1)) x136000 x136001) else (none)) else (state_Encode.l0 k x6 x7 y151 x33 x34 (wrap64 (x35 + 1)) x136000 x136001)))) else (none))) else ((octets_Put.f k x8 8 (rd x33 x35)).bind fun t160 => (if t160.length < 140737488355328 then ((some (t160 ++ [0] : List Int)).bind fun y163 => (if (y163.length : Int) = 900 then (if x7.length < 5864062014805 then (state_Encode.l0 k x6 (x7 ++ [y163]) ([] : List Int) x33 x34 (wrap64 (x35 + 1)) x136000 x136001) else (none)) else (if x35 = (wrap64 (x6 - 1)) then (if x7.length < 5864062014805 then (state_Encode.l0 k x6 (x7 ++ [y163]) ([] : List Int) x33 x34 (wrap64 (x35 + 1)) x136000 x136001) else (none)) else (state_Encode.l0 k x6 x7 y163 x33 x34 (wrap64 (x35 + 1)) x136000 x136001)))) else (none)))) else (none)) else (none)) else (none)) else ((block_Join.f k x7).bind fun bt142 => (some (bt142.1, bt142.2)))
end
def state_Encode.f (k : Nat) (a0 : Int) (l1_0 : List Int) (l1_1 : List Bool) : Option (List Int × Int) := if a0 < 0 then (state_Encode.j0 k a0 (l1_0.length : Int) true l1_0 l1_1) else (if (l1_0.length : Int) = (l1_1.length : Int) then (state_Encode.j0 k a0 (l1_0.length : Int) (decide ((l1_0.length : Int) > 1048576)) l1_0 l1_1) else (state_Encode.j0 k a0 (l1_0.length : Int) true l1_0 l1_1))
theorem state_Encode.mono_l : ∀ k, (∀ y0 y1 y2 y3 y4, LeO (state_Encode.j0 k y0 y1 y2 y3 y4) (state_Encode.j0 (k + 1) y0 y1 y2 y3 y4)) ∧ (∀ y0 y1 y2 y3 y4 y5 y6 y7, LeO (state_Encode.l0 k y0 y1 y2 y3 y4 y5 y6 y7) (state_Encode.l0 (k + 1) y0 y1 y2 y3 y4 y5 y6 y7))
  | 0 => ⟨fun _ _ _ _ _ r h => by simp [state_Encode.j0] at h, fun _ _ _ _ _ _ _ _ r h => by simp [state_Encode.l0] at h⟩
  | k + 1 => by
    obtain ⟨ih0, ih1⟩ := state_Encode.mono_l k
    refine ⟨?_, ?_⟩
    · intro y0 y1 y2 y3 y4
      unfold state_Encode.j0
      repeat' first
      | (with_reducible exact ih0 _ _ _ _ _)
      | (with_reducible exact ih1 _ _ _ _ _ _ _ _)
      | (with_reducible exact block_Join.mono _ _)
      | (with_reducible exact octets_Put.mono _ _ _ _)
      | (with_reducible exact state_pair.mono _ _ _)
      | (with_reducible exact LeO.refl _)
      | (with_reducible exact LeO.none _)
      | (with_reducible refine LeO.ite ?_ ?_)
      | (with_reducible refine LeO.bind ?_ (fun _ => ?_))
      | exact ih0 _ _ _ _ _
      | exact ih1 _ _ _ _ _ _ _ _
      | exact block_Join.mono _ _
      | exact octets_Put.mono _ _ _ _
      | exact state_pair.mono _ _ _
      | exact LeO.none _
      | refine LeO.ite ?_ ?_
      | refine LeO.bind ?_ (fun _ => ?_)
    · intro y0 y1 y2 y3 y4 y5 y6 y7
      unfold state_Encode.l0
      repeat' first
      | (with_reducible exact ih0 _ _ _ _ _)
      | (with_reducible exact ih1 _ _ _ _ _ _ _ _)
      | (with_reducible exact block_Join.mono _ _)
      | (with_reducible exact octets_Put.mono _ _ _ _)
      | (with_reducible exact state_pair.mono _ _ _)
      | (with_reducible exact LeO.refl _)
      | (with_reducible exact LeO.none _)
      | (with_reducible refine LeO.ite ?_ ?_)
      | (with_reducible refine LeO.bind ?_ (fun _ => ?_))
      | exact ih0 _ _ _ _ _
      | exact ih1 _ _ _ _ _ _ _ _
      | exact block_Join.mono _ _
      | exact octets_Put.mono _ _ _ _
      | exact state_pair.mono _ _ _
      | exact LeO.none _
      | refine LeO.ite ?_ ?_
      | refine LeO.bind ?_ (fun _ => ?_)
theorem state_Encode.mono : ∀ a0 a1 a2 k, LeO (state_Encode.f k a0 a1 a2) (state_Encode.f (k + 1) a0 a1 a2) := by
  intro a0 a1 a2 k
  obtain ⟨ih0, ih1⟩ := state_Encode.mono_l k
  unfold state_Encode.f
  repeat' first
      | (with_reducible exact ih0 _ _ _ _ _)
      | (with_reducible exact ih1 _ _ _ _ _ _ _ _)
      | (with_reducible exact block_Join.mono _ _)
      | (with_reducible exact octets_Put.mono _ _ _ _)
      | (with_reducible exact state_pair.mono _ _ _)
      | (with_reducible exact LeO.refl _)
      | (with_reducible exact LeO.none _)
      | (with_reducible refine LeO.ite ?_ ?_)
      | (with_reducible refine LeO.bind ?_ (fun _ => ?_))
      | exact ih0 _ _ _ _ _
      | exact ih1 _ _ _ _ _ _ _ _
      | exact block_Join.mono _ _
      | exact octets_Put.mono _ _ _ _
      | exact state_pair.mono _ _ _
      | exact LeO.none _
      | refine LeO.ite ?_ ?_
      | refine LeO.bind ?_ (fun _ => ?_)
set_option maxHeartbeats 8000000 in
set_option maxRecDepth 100000 in
theorem state_Encode.calls (k : Nat) (a0 : Int) (A1_0 : Option Addr) (c1_0 : Nat) (l1_0 : List Int) (A1_1 : Option Addr) (c1_1 : Nat) (l1_1 : List Bool) (r1 : List Int) (r2 : Int) (w : World) (hr1_0 : Kd.C (Kd.int .u64) w A1_0 l1_0.length l1_0) (hc1_0 : l1_0.length ≤ c1_0) (hr1_1 : Kd.C Kd.bool w A1_1 l1_1.length l1_1) (hc1_1 : l1_1.length ≤ c1_1) (h : state_Encode.f k a0 l1_0 l1_1 = some (r1, r2)) :
    Calls Try.prog 11 #[.int .i64 a0, .agg #[.slice A1_0 l1_0.length c1_0, .slice A1_1 l1_1.length c1_1]] w fun e w' => ∃ v0_ : Value, e = .returned (.tuple #[v0_, .int .i64 r2]) ∧ Kd.R (Kd.int .u8) 5 w' w.heap.size (fun _ => True) v0_ r1 ∧ Below w.heap.size w w' := by
  have hu25 := Try.underlying25
  have HR1_0 := Aside0.mk hr1_0
  have HC1_0 := Aside0.mk hc1_0
  clear hr1_0 hc1_0
  have HR1_1 := Aside0.mk hr1_1
  have HC1_1 := Aside0.mk hc1_1
  clear hr1_1 hc1_1
  have HB := Aside0.mk (Below.refl w.heap.size w)
  have H : (if a0 < 0 then (state_Encode.j0 k a0 (l1_0.length : Int) true l1_0 l1_1) else (if (l1_0.length : Int) = (l1_1.length : Int) then (state_Encode.j0 k a0 (l1_0.length : Int) (decide ((l1_0.length : Int) > 1048576)) l1_0 l1_1) else (state_Encode.j0 k a0 (l1_0.length : Int) true l1_0 l1_1))) = some (r1, r2) := h
  clear h
  have HC3 := Aside0.mk H
  clear H
  go_enter Try.func11, Try.ntmps11
  go_upto_region 2 with (first | ((with_reducible refine gate_dst (N := 3) rfl ?_); (try (refine gate_guard (by rfl) ?_; dsimp only)); refine box_event ?hg (N := 3) ?hd (cs := #[.slice A1_0 l1_0.length c1_0, .slice A1_1 l1_1.length c1_1]) (t := 25) ?hr ?_; (case hd => rfl); (case hg => rfl); (case hr => first | (go_simp; done) | (go_simp; rfl)); intro gb135 hg w4 hbox hb; have n0_ := Aside0.mk (below_step (by repeat (first | (with_reducible first | exact HB.out | apply below_alloc | apply pw_below_drewN | apply below_drew1) | exact HB.out)) hb); have n1_ := Aside0.mk (hbox); have n2_ := Aside0.mk ((by rw [hg]; exact (below_size (by repeat (first | (with_reducible first | exact HB.out | apply below_alloc | apply pw_below_drewN | apply below_drew1) | exact HB.out))) : w.heap.size ≤ gb135)); have n3_ := Aside0.mk ((by rw [hg]; exact (below_size (by repeat (first | (with_reducible first | exact HB.out | apply below_alloc | apply pw_below_drewN | apply below_drew1) | exact HB.out))) : w.heap.size ≤ gb135)); clear HB; have HB := n0_; have BK135 := n1_; have GW135 := n2_; have GE135 := n3_; clear n0_ n1_ n2_ n3_; clear hb hbox hg; have hcz5_0 : w4.cell? ⟨gb135, 0, none⟩ = some (.slice A1_0 l1_0.length c1_0) := (blk_cell BK135.out 0).trans rfl; have hcz5_1 : w4.cell? ⟨gb135, 1, none⟩ = some (.slice A1_1 l1_1.length c1_1) := (blk_cell BK135.out 1).trans rfl; have hfz5_0 := blk_frozen BK135.out 0; have hfz5_1 := blk_frozen BK135.out 1))
  (try simp only [Act.put, List.setIfInBounds_toArray, List.set_cons_zero, List.set_cons_succ])
  go_cut [27] (fun v27 wc => ∃ (kq : Nat) (x27_2 : Bool), v27 = .bool x27_2 ∧ Aside0 (state_Encode.j0 kq a0 (l1_0.length : Int) x27_2 l1_0 l1_1 = some (r1, r2)) ∧ Aside0 (kq ≤ k) ∧ Aside0 (wc.heap[gb135]? = some (.cells #[(.slice A1_0 l1_0.length c1_0), (.slice A1_1 l1_1.length c1_1)] 25 (0, 0))) ∧ Aside0 (Below w.heap.size w wc))
  case first =>
    have H := HC3.out
    clear HC3
    by_cases c6 : a0 < 0
    · rw [if_pos c6] at H
      have c6b0 : decide (a0 < 0) = true := decide_eq_true c6
      clear c6
      (first | rw [c6b0] | (simp only [i64_w, i32_w]; rw [c6b0]) | skip)
      have H' := Aside0.mk H
      clear H
      go_wp2
      go_meet
      case rel => exact ⟨_, (true), (by first | rfl | (simp; done) | (simp [*]; done)), H', ⟨by first | omega | exact Nat.le_refl _⟩, ⟨by (with_reducible repeat (first | refine blk_drewN ?_ _ | refine blk_drew ?_ | refine blk_alloc ?_ _)); exact BK135.out⟩, ⟨by repeat (first | (with_reducible first | exact HB.out | apply below_alloc | apply pw_below_drewN | apply below_drew1 | refine below_set ?_ GE135.out) | exact HB.out)⟩⟩
    · rw [if_neg c6] at H
      have c6b0 : decide (a0 < 0) = false := decide_eq_false c6
      clear c6
      (first | rw [c6b0] | (simp only [i64_w, i32_w]; rw [c6b0]) | skip)
      by_cases c7 : (l1_0.length : Int) = (l1_1.length : Int)
      · rw [if_pos c7] at H
        have c7b0 : ((l1_0.length : Int) == (l1_1.length : Int)) = true := beq_iff_eq.mpr c7
        have c7b1 : ((l1_0.length : Int) != (l1_1.length : Int)) = false := bne_eq_false_iff_eq.mpr c7
        have c7b2 : (l1_0.length == l1_1.length) = true := by first | simpa using c7 | (simp at c7 ⊢; omega)
        clear c7
        have H' := Aside0.mk H
        clear H
        have hcz8_0 : w4.cell? ⟨gb135, 0, none⟩ = some (.slice A1_0 l1_0.length c1_0) := (blk_cell BK135.out 0).trans rfl
        have hcz8_1 : w4.cell? ⟨gb135, 1, none⟩ = some (.slice A1_1 l1_1.length c1_1) := (blk_cell BK135.out 1).trans rfl
        have hfz8_0 := blk_frozen BK135.out 0
        have hfz8_1 := blk_frozen BK135.out 1
        go_wp2
        go_meet
        case rel => exact ⟨_, (decide ((l1_0.length : Int) > 1048576)), (by first | rfl | (simp; done) | (simp [*]; done)), H', ⟨by first | omega | exact Nat.le_refl _⟩, ⟨by (with_reducible repeat (first | refine blk_drewN ?_ _ | refine blk_drew ?_ | refine blk_alloc ?_ _)); exact BK135.out⟩, ⟨by repeat (first | (with_reducible first | exact HB.out | apply below_alloc | apply pw_below_drewN | apply below_drew1 | refine below_set ?_ GE135.out) | exact HB.out)⟩⟩
      · rw [if_neg c7] at H
        have c7b0 : ((l1_0.length : Int) == (l1_1.length : Int)) = false := beq_eq_false_iff_ne.mpr c7
        have c7b1 : ((l1_0.length : Int) != (l1_1.length : Int)) = true := bne_iff_ne.mpr c7
        have c7b2 : (l1_0.length == l1_1.length) = false := by first | simpa using c7 | (simp at c7 ⊢; omega)
        have H' := Aside0.mk H
        clear H
        have hcz9_0 : w4.cell? ⟨gb135, 0, none⟩ = some (.slice A1_0 l1_0.length c1_0) := (blk_cell BK135.out 0).trans rfl
        have hcz9_1 : w4.cell? ⟨gb135, 1, none⟩ = some (.slice A1_1 l1_1.length c1_1) := (blk_cell BK135.out 1).trans rfl
        have hfz9_0 := blk_frozen BK135.out 0
        have hfz9_1 := blk_frozen BK135.out 1
        go_wp2
        go_meet
        case rel => exact ⟨_, (true), (by first | rfl | (simp; done) | (simp [*]; done)), H', ⟨by first | omega | exact Nat.le_refl _⟩, ⟨by (with_reducible repeat (first | refine blk_drewN ?_ _ | refine blk_drew ?_ | refine blk_alloc ?_ _)); exact BK135.out⟩, ⟨by repeat (first | (with_reducible first | exact HB.out | apply below_alloc | apply pw_below_drewN | apply below_drew1 | refine below_set ?_ GE135.out) | exact HB.out)⟩⟩
  case rest =>
    clear HC3
    try clear c1
    try clear p2
    try clear c6
    try clear c6b0
    try clear c7
    try clear c7b0
    try clear c7b1
    try clear c7b2
    try clear hcz5_0
    try clear hcz5_1
    try clear hcz8_0
    try clear hcz8_1
    try clear hcz9_0
    try clear hcz9_1
    try clear hfz5_0
    try clear hfz5_1
    try clear hfz8_0
    try clear hfz8_1
    try clear hfz9_0
    try clear hfz9_1
    obtain ⟨kq, x27_2, rfl, HA, HJ2, BK135, HB⟩ := hcut
    cases kq with
    | zero => exact absurd HA.out (by simp [state_Encode.j0])
    | succ kj2 =>
      have H := HA.out
      clear HA
      simp only [state_Encode.j0] at H
      by_cases c10 : x27_2 = true
      · subst c10
        have H1 : (some (([] : List Int), 1)) = some (r1, r2) := by rw [if_pos rfl] at H; exact H
        clear H
        have H := H1
        clear H1
        simp only [Option.some.injEq, Prod.mk.injEq] at H
        obtain ⟨rfl, rfl⟩ := H
        go_wp2
        go_ret2
        exact ⟨_, by first | rfl | (simp [errW_none, errW_some] <;> rfl) | (simp [*, errW_none, errW_some] <;> rfl), by first | exact Kd.R_nil _ _ _ _ _ | exact Kd.N_nil _ _ _ _ _ | exact Kd.V_nil _ _ _ _ _ | exact Kd.Q_nil _ _ _ _ _ | exact Kd.S_nil _ _ _ _ _, by repeat (first | (with_reducible first | exact HB.out | apply below_alloc | apply pw_below_drewN | apply below_drew1 | refine below_set ?_ GE135.out) | exact HB.out)⟩
      · replace c10 := Bool.eq_false_iff.mpr c10
        subst c10
        have H1 : ((state_pair.f kj2 a0 (l1_0.length : Int)).bind fun t136 => (state_Encode.l0 kj2 (l1_0.length : Int) (([t136] : List (List Int))) ([] : List Int) l1_0 (l1_0.length : Int) 0 l1_0 l1_1)) = some (r1, r2) := by rw [if_neg (show ¬ (false = true) by decide)] at H; exact H
        clear H
        have H := H1
        clear H1
        replace H := Option.bind_eq_some_iff.mp H
        obtain ⟨t136, A110, H⟩ := H
        replace H : (state_Encode.l0 kj2 (l1_0.length : Int) (([t136] : List (List Int))) ([] : List Int) l1_0 (l1_0.length : Int) 0 l1_0 l1_1) = some (r1, r2) := H
        have A11 := Aside0.mk A110
        clear A110
        obtain ⟨y139, hy139⟩ : ∃ y_ : List (List Int), y_ = (([t136] : List (List Int))) := ⟨_, rfl⟩
        replace H : (state_Encode.l0 kj2 (l1_0.length : Int) y139 ([] : List Int) l1_0 (l1_0.length : Int) 0 l1_0 l1_1) = some (r1, r2) := by first | (rw [hy139]; with_reducible exact H) | (have H2_ := (Option.bind_some _ _).symm.trans H; rw [hy139]; with_reducible exact H2_) | (have H2_ := (Option.bind_some _ _).symm.trans H; with_reducible exact H2_) | with_reducible exact H | (rw [hy139]; exact H) | exact H
        have Ny139 := Aside0.mk hy139
        clear hy139
        have H' := Aside0.mk H
        clear H
        go_wp2_with (first | ((with_reducible refine gate_callee (f := 17) rfl ?_); refine goesL_ (some 30) rfl rfl Try.func17 (by kernel_rfl) rfl #[.int .i64 a0, .int .i64 (l1_0.length : Int)] rfl (by (try simp only [List.map_toArray, List.map_cons, List.map_nil]); first | done | rfl | (simp only [List.length_drop, List.length_take]; rfl)) ?_; (with_reducible refine (state_pair.calls kj2 a0 (l1_0.length : Int) t136 _ A11.out).mono ?_); rintro e w12 ⟨v137, rfl, ho0, hb⟩; refine ⟨_, rfl, ?_⟩; have n0_ := Aside0.mk (Kd.R_lower ho0 (below_size (by repeat (first | (with_reducible first | exact HB.out | apply below_alloc | apply pw_below_drewN | apply below_drew1 | refine below_set ?_ GE135.out) | exact HB.out)))); have n1_ := Aside0.mk (blk_below (g := gb135) (o := .cells #[.slice A1_0 l1_0.length c1_0, .slice A1_1 l1_1.length c1_1] 25 (0, 0)) (by (with_reducible repeat (first | refine blk_drewN ?_ _ | refine blk_drew ?_ | refine blk_alloc ?_ _)); exact BK135.out) hb); have n2_ := Aside0.mk (below_step (by repeat (first | (with_reducible first | exact HB.out | apply below_alloc | apply pw_below_drewN | apply below_drew1 | refine below_set ?_ GE135.out) | exact HB.out)) hb); clear BK135; clear HB; have HO138 := n0_; have BK135 := n1_; have HB := n2_; clear n0_ n1_ n2_; (try clear hb); (try clear hb2); (try clear hk); (try clear hi); (try clear ho0); obtain ⟨Ao13, co13, eo13⟩ := Kd.R_slice HO138.out; subst eo13) | ((with_reducible refine gate_dst (N := 31) rfl ?_); (try (refine gate_guard (by rfl) ?_; dsimp only)); refine Kd.N_lit (Kd.slice 5 (Kd.int .u8)) _ 28 ?hg (N' := 31) ?hd (xs := ([t136] : List (List Int))) (inner := [.slice Ao13 t136.length co13]) (ok := (fun k_ => k_ ≠ gb135)) (okp := (fun k_ => k_ ≠ gb135)) ?hr ?hp (fun _ hk => hk) ((show ∀ k_, w12.heap.size ≤ k_ → (fun k_ => k_ ≠ gb135) k_ from fun k_ hk => Kd.freshB (g := gb135) (o := .cells #[.slice A1_0 l1_0.length c1_0, .slice A1_1 l1_1.length c1_1] 25 (0, 0)) (by (with_reducible repeat (first | refine blk_drewN ?_ _ | refine blk_drew ?_ | refine blk_alloc ?_ _)); exact BK135.out) k_ hk) _ (Nat.le_refl _)) (Below.refl _ _) (Nat.le_refl _) (by simp) ?_; (case hd => rfl); (case hg => rfl); (case hr => first | (go_simp; done) | (go_simp; rfl)); (case hp => exact (Reps.one (show Kd.FK (Kd.slice 5 (Kd.int .u8)) _ _ t136 [.slice Ao13 t136.length co13] from (Kd.FK_slice_mk (Kd.R_reads' (Kd.R_mono (ok' := (fun k_ => k_ ≠ gb135)) (Kd.R_types (HO138.out) BK135.out (by decide)) (fun k_ hk => hk.2))).2.1 (Kd.R_F (Kd.R_mono (ok' := (fun k_ => k_ ≠ gb135)) (Kd.R_types (HO138.out) BK135.out (by decide)) (fun k_ hk => hk.2))))) (Reps.none _ _))); intro v140 w14 ho15 hb hg_ hnew_; clear hg_ hnew_; (first | rw [← Ny139.out] at ho15 | (simp only [Int.reduceToNat] at ho15; rw [← Ny139.out] at ho15)); have n0_ := Aside0.mk (Kd.N_lower ho15 (below_size (by repeat (first | (with_reducible first | exact HB.out | apply below_alloc | apply pw_below_drewN | apply below_drew1 | refine below_set ?_ GE135.out) | exact HB.out)))); have n1_ := Aside0.mk (blk_below (g := gb135) (o := .cells #[.slice A1_0 l1_0.length c1_0, .slice A1_1 l1_1.length c1_1] 25 (0, 0)) (by (with_reducible repeat (first | refine blk_drewN ?_ _ | refine blk_drew ?_ | refine blk_alloc ?_ _)); exact BK135.out) hb); have n2_ := Aside0.mk (below_step (by repeat (first | (with_reducible first | exact HB.out | apply below_alloc | apply pw_below_drewN | apply below_drew1 | refine below_set ?_ GE135.out) | exact HB.out)) hb); clear BK135; clear HB; clear HO138; have HO141 := n0_; have BK135 := n1_; have HB := n2_; clear n0_ n1_ n2_; clear hb ho15; have hcz16_0 : w14.cell? ⟨gb135, 0, none⟩ = some (.slice A1_0 l1_0.length c1_0) := (blk_cell BK135.out 0).trans rfl; have hcz16_1 : w14.cell? ⟨gb135, 1, none⟩ = some (.slice A1_1 l1_1.length c1_1) := (blk_cell BK135.out 1).trans rfl; have hfz16_0 := blk_frozen BK135.out 0; have hfz16_1 := blk_frozen BK135.out 1))
        go_loopg [7, 8, 35] kj2 (fun kq v7 v8 v35 w' => ∃ (x7_2 : List (List Int)) (x8_2 : List Int) (x35_2 : Int), v35 = .int .i64 x35_2 ∧ Aside0 (state_Encode.l0 kq (l1_0.length : Int) x7_2 x8_2 l1_0 (l1_0.length : Int) x35_2 l1_0 l1_1 = some (r1, r2)) ∧ Aside0 (kq ≤ kj2) ∧ Aside0 (Kd.N (Kd.slice 5 (Kd.int .u8)) 28 w' w.heap.size (fun k_ => some k_ ≠ (v8 : Value).ownBlock ∧ k_ ≠ gb135) v7 x7_2) ∧ Aside0 (Kd.R (Kd.int .u8) 5 w' w.heap.size (fun _ => True) v8 x8_2) ∧ Aside0 (w'.heap[gb135]? = some (.cells #[(.slice A1_0 l1_0.length c1_0), (.slice A1_1 l1_1.length c1_1)] 25 (0, 0))) ∧ Aside0 (Below w.heap.size w w'))
        case atStart => exact ⟨(y139), (([] : List Int)), (0), (by first | rfl | (simp; done) | (simp [*]; done)), H', ⟨Nat.le_refl _⟩, ⟨by (with_reducible repeat (first | apply Kd.N_alloc | apply Kd.N_drewN | apply Kd.N_drew)); exact Kd.N_mono HO141.out (fun _ hk => ⟨(by simp [Value.ownBlock]), hk⟩)⟩, ⟨by first | exact Kd.R_nil _ _ _ _ _ | exact Kd.N_nil _ _ _ _ _ | exact Kd.V_nil _ _ _ _ _ | exact Kd.Q_nil _ _ _ _ _ | exact Kd.S_nil _ _ _ _ _⟩, ⟨by (with_reducible repeat (first | refine blk_drewN ?_ _ | refine blk_drew ?_ | refine blk_alloc ?_ _)); exact BK135.out⟩, ⟨by repeat (first | (with_reducible first | exact HB.out | apply below_alloc | apply pw_below_drewN | apply below_drew1 | refine below_set ?_ GE135.out) | exact HB.out)⟩⟩
        case round =>
          clear H'
          try clear c1
          try clear p2
          try clear c6
          try clear c6b0
          try clear c7
          try clear c7b0
          try clear c7b1
          try clear c7b2
          try clear c10
          try clear c11
          try clear hcz16_0
          try clear hcz16_1
          try clear hcz5_0
          try clear hcz5_1
          try clear hcz8_0
          try clear hcz8_1
          try clear hcz9_0
          try clear hcz9_1
          try clear hfz16_0
          try clear hfz16_1
          try clear hfz5_0
          try clear hfz5_1
          try clear hfz8_0
          try clear hfz8_1
          try clear hfz9_0
          try clear hfz9_1
          try clear p2
          obtain ⟨x7_2, x8_2, x35_2, rfl, HA, HK2, HO_7, HO_8, BK135, HB⟩ := hrel
          cases gk with
          | zero => exact absurd HA.out (by simp [state_Encode.l0])
          | succ k2 =>
            have H := HA.out
            clear HA
            simp only [state_Encode.l0] at H
            by_cases c17 : x35_2 < (l1_0.length : Int)
            · rw [if_pos c17] at H
              have c17b0 : decide (x35_2 < (l1_0.length : Int)) = true := decide_eq_true c17
              clear c17
              by_cases c18 : 0 ≤ x35_2
              · rw [if_pos c18] at H
                have c18b0 : decide (0 ≤ x35_2) = true := decide_eq_true c18
                clear c18
                by_cases c19 : x35_2 < (l1_0.length : Int)
                · rw [if_pos c19] at H
                  have c19b0 : decide (x35_2 < (l1_0.length : Int)) = true := decide_eq_true c19
                  clear c19
                  by_cases c20 : x35_2 < (l1_1.length : Int)
                  · rw [if_pos c20] at H
                    have c20b0 : decide (x35_2 < (l1_1.length : Int)) = true := decide_eq_true c20
                    clear c20
                    obtain ⟨bq21, hbq21⟩ : ∃ b_ : Bool, b_ = (rdOf false l1_1 x35_2) := ⟨_, rfl⟩
                    replace H : (if bq21 = true then ((octets_Put.f k2 x8_2 8 (rd l1_0 x35_2)).bind fun t148 => (if t148.length < 140737488355328 then ((some (t148 ++ [1] : List Int)).bind fun y151 => (if (y151.length : Int) = 900 then (if x7_2.length < 5864062014805 then (state_Encode.l0 k2 (l1_0.length : Int) (x7_2 ++ [y151]) ([] : List Int) l1_0 (l1_0.length : Int) (wrap64 (x35_2 + 1)) l1_0 l1_1) else (none)) else (if x35_2 = (wrap64 ((l1_0.length : Int) - 1)) then (if x7_2.length < 5864062014805 then (state_Encode.l0 k2 (l1_0.length : Int) (x7_2 ++ [y151]) ([] : List Int) l1_0 (l1_0.length : Int) (wrap64 (x35_2 + 1)) l1_0 l1_1) else (none)) else (state_Encode.l0 k2 (l1_0.length : Int) x7_2 y151 l1_0 (l1_0.length : Int) (wrap64 (x35_2 + 1)) l1_0 l1_1)))) else (none))) else ((octets_Put.f k2 x8_2 8 (rd l1_0 x35_2)).bind fun t160 => (if t160.length < 140737488355328 then ((some (t160 ++ [0] : List Int)).bind fun y163 => (if (y163.length : Int) = 900 then (if x7_2.length < 5864062014805 then (state_Encode.l0 k2 (l1_0.length : Int) (x7_2 ++ [y163]) ([] : List Int) l1_0 (l1_0.length : Int) (wrap64 (x35_2 + 1)) l1_0 l1_1) else (none)) else (if x35_2 = (wrap64 ((l1_0.length : Int) - 1)) then (if x7_2.length < 5864062014805 then (state_Encode.l0 k2 (l1_0.length : Int) (x7_2 ++ [y163]) ([] : List Int) l1_0 (l1_0.length : Int) (wrap64 (x35_2 + 1)) l1_0 l1_1) else (none)) else (state_Encode.l0 k2 (l1_0.length : Int) x7_2 y163 l1_0 (l1_0.length : Int) (wrap64 (x35_2 + 1)) l1_0 l1_1)))) else (none)))) = some (r1, r2) := by rw [← hbq21] at H; exact H
                    have Nbq21 := Aside0.mk hbq21
                    clear hbq21
                    by_cases c22 : bq21 = true
                    · subst c22
                      have H1 : ((octets_Put.f k2 x8_2 8 (rd l1_0 x35_2)).bind fun t148 => (if t148.length < 140737488355328 then ((some (t148 ++ [1] : List Int)).bind fun y151 => (if (y151.length : Int) = 900 then (if x7_2.length < 5864062014805 then (state_Encode.l0 k2 (l1_0.length : Int) (x7_2 ++ [y151]) ([] : List Int) l1_0 (l1_0.length : Int) (wrap64 (x35_2 + 1)) l1_0 l1_1) else (none)) else (if x35_2 = (wrap64 ((l1_0.length : Int) - 1)) then (if x7_2.length < 5864062014805 then (state_Encode.l0 k2 (l1_0.length : Int) (x7_2 ++ [y151]) ([] : List Int) l1_0 (l1_0.length : Int) (wrap64 (x35_2 + 1)) l1_0 l1_1) else (none)) else (state_Encode.l0 k2 (l1_0.length : Int) x7_2 y151 l1_0 (l1_0.length : Int) (wrap64 (x35_2 + 1)) l1_0 l1_1)))) else (none))) = some (r1, r2) := by rw [if_pos rfl] at H; exact H
                      clear H
                      have H := H1
                      clear H1
                      replace H := Option.bind_eq_some_iff.mp H
                      obtain ⟨t148, A230, H⟩ := H
                      replace H : (if t148.length < 140737488355328 then ((some (t148 ++ [1] : List Int)).bind fun y151 => (if (y151.length : Int) = 900 then (if x7_2.length < 5864062014805 then (state_Encode.l0 k2 (l1_0.length : Int) (x7_2 ++ [y151]) ([] : List Int) l1_0 (l1_0.length : Int) (wrap64 (x35_2 + 1)) l1_0 l1_1) else (none)) else (if x35_2 = (wrap64 ((l1_0.length : Int) - 1)) then (if x7_2.length < 5864062014805 then (state_Encode.l0 k2 (l1_0.length : Int) (x7_2 ++ [y151]) ([] : List Int) l1_0 (l1_0.length : Int) (wrap64 (x35_2 + 1)) l1_0 l1_1) else (none)) else (state_Encode.l0 k2 (l1_0.length : Int) x7_2 y151 l1_0 (l1_0.length : Int) (wrap64 (x35_2 + 1)) l1_0 l1_1)))) else (none)) = some (r1, r2) := H
                      have A23 := Aside0.mk A230
                      clear A230
                      by_cases c24 : t148.length < 140737488355328
                      · rw [if_pos c24] at H
                        have LMc24 := Aside0.mk c24
                        clear c24
                        obtain ⟨y151, hy151⟩ : ∃ y_ : List Int, y_ = (t148 ++ [1]) := ⟨_, rfl⟩
                        replace H : (if (y151.length : Int) = 900 then (if x7_2.length < 5864062014805 then (state_Encode.l0 k2 (l1_0.length : Int) (x7_2 ++ [y151]) ([] : List Int) l1_0 (l1_0.length : Int) (wrap64 (x35_2 + 1)) l1_0 l1_1) else (none)) else (if x35_2 = (wrap64 ((l1_0.length : Int) - 1)) then (if x7_2.length < 5864062014805 then (state_Encode.l0 k2 (l1_0.length : Int) (x7_2 ++ [y151]) ([] : List Int) l1_0 (l1_0.length : Int) (wrap64 (x35_2 + 1)) l1_0 l1_1) else (none)) else (state_Encode.l0 k2 (l1_0.length : Int) x7_2 y151 l1_0 (l1_0.length : Int) (wrap64 (x35_2 + 1)) l1_0 l1_1))) = some (r1, r2) := by first | (rw [hy151]; with_reducible exact H) | (have H2_ := (Option.bind_some _ _).symm.trans H; rw [hy151]; with_reducible exact H2_) | (have H2_ := (Option.bind_some _ _).symm.trans H; with_reducible exact H2_) | with_reducible exact H | (rw [hy151]; exact H) | exact H
                        have Ny151 := Aside0.mk hy151
                        clear hy151
                        by_cases c25 : (y151.length : Int) = 900
                        · rw [if_pos c25] at H
                          have c25b0 : ((y151.length : Int) == 900) = true := beq_iff_eq.mpr c25
                          have c25b1 : ((y151.length : Int) != 900) = false := bne_eq_false_iff_eq.mpr c25
                          clear c25
                          by_cases c26 : x7_2.length < 5864062014805
                          · rw [if_pos c26] at H
                            have LMc26 := Aside0.mk c26
                            clear c26
                            obtain ⟨y154, hy154⟩ : ∃ y_ : List (List Int), y_ = (x7_2 ++ [y151]) := ⟨_, rfl⟩
                            replace H : (state_Encode.l0 k2 (l1_0.length : Int) y154 ([] : List Int) l1_0 (l1_0.length : Int) (wrap64 (x35_2 + 1)) l1_0 l1_1) = some (r1, r2) := by first | (rw [hy154]; with_reducible exact H) | (have H2_ := (Option.bind_some _ _).symm.trans H; rw [hy154]; with_reducible exact H2_) | (have H2_ := (Option.bind_some _ _).symm.trans H; with_reducible exact H2_) | with_reducible exact H | (rw [hy154]; exact H) | exact H
                            have Ny154 := Aside0.mk hy154
                            clear hy154
                            have H' := Aside0.mk H
                            clear H
                            have p146 : 0 ≤ (x35_2 : Int) := of_decide_eq_true (by first | (with_reducible assumption) | assumption)
                            have q146 : x35_2 < (l1_0.length : Int) := of_decide_eq_true (by first | (with_reducible assumption) | assumption)
                            obtain ⟨ad146, e146, hx146_0⟩ := Kd.at_int HR1_0.out x35_2 p146 q146
                            cases e146
                            replace hx146_0 := (HB.out.cell (World.block_lt_of_cell? w _ hx146_0)).trans hx146_0
                            replace p146 := eq_true p146
                            replace q146 := eq_true q146
                            have hcz27_0 : wr.cell? ⟨gb135, 0, none⟩ = some (.slice (some ad146) l1_0.length c1_0) := (blk_cell BK135.out 0).trans rfl
                            have hcz27_1 : wr.cell? ⟨gb135, 1, none⟩ = some (.slice A1_1 l1_1.length c1_1) := (blk_cell BK135.out 1).trans rfl
                            have hfz27_0 := blk_frozen BK135.out 0
                            have hfz27_1 := blk_frozen BK135.out 1
                            have p147 : 0 ≤ (x35_2 : Int) := of_decide_eq_true (by first | (with_reducible assumption) | assumption)
                            have q147 : x35_2 < (l1_1.length : Int) := of_decide_eq_true (by first | (with_reducible assumption) | assumption)
                            obtain ⟨ad147, e147, hx147_0⟩ := Kd.at_bool HR1_1.out x35_2 p147 q147
                            (try rw [← Nbq21.out] at hx147_0)
                            cases e147
                            replace hx147_0 := (HB.out.cell (World.block_lt_of_cell? w _ hx147_0)).trans hx147_0
                            replace p147 := eq_true p147
                            replace q147 := eq_true q147
                            obtain ⟨Ao28, co28, eo28⟩ := Kd.R_slice HO_8.out
                            subst eo28
                            go_wp2_with (first | ((with_reducible refine gate_callee (f := 18) rfl ?_); refine goesL_ (some 47) rfl rfl Try.func18 (by kernel_rfl) rfl #[.slice Ao28 x8_2.length co28, .int .i64 8, .int .u64 (rd l1_0 x35_2)] rfl (by (try simp only [List.map_toArray, List.map_cons, List.map_nil]); first | done | rfl | (simp only [List.length_drop, List.length_take]; rfl)) ?_; (with_reducible refine (octets_Put.calls k2 _ _ x8_2 8 (rd l1_0 x35_2) t148 _ ?side1 ?side2 A23.out).mono ?_); (case side1 => repeat (first | exact (Kd.R_reads' HO_8.out).2.2 | (with_reducible refine Kd.C_alloc ?_ _) | (with_reducible refine Kd.C_drewN ?_ _) | (with_reducible refine Kd.C_drew ?_))); (case side2 => exact (Kd.R_reads' HO_8.out).2.1); rintro e w29 ⟨v149, rfl, ho0, hb⟩; refine ⟨_, rfl, ?_⟩; have n0_ := Aside0.mk (Kd.N_elder' (by (with_reducible repeat (first | apply Kd.N_alloc | apply Kd.N_drewN | apply Kd.N_drew)); exact HO_7.out) (Kd.R_base ho0) hb); have n1_ := Aside0.mk (Kd.R_elder' (by (with_reducible repeat (first | apply Kd.R_alloc | apply Kd.R_drewN | apply Kd.R_drew)); exact HO_8.out) (Kd.R_base ho0) hb); have n2_ := Aside0.mk (Kd.R_lower (Kd.R_new' ho0 (Kd.R_lt (by (with_reducible repeat (first | apply Kd.R_alloc | apply Kd.R_drewN | apply Kd.R_drew)); exact HO_8.out))) (below_size (by repeat (first | (with_reducible first | exact HB.out | apply below_alloc | apply pw_below_drewN | apply below_drew1 | refine below_set ?_ GE135.out) | exact HB.out)))); have n3_ := Aside0.mk (blk_below (g := gb135) (o := .cells #[.slice (some ad146) l1_0.length c1_0, .slice (some ad147) l1_1.length c1_1] 25 (0, 0)) (by (with_reducible repeat (first | refine blk_drewN ?_ _ | refine blk_drew ?_ | refine blk_alloc ?_ _)); exact BK135.out) hb); have n4_ := Aside0.mk (below_step (by repeat (first | (with_reducible first | exact HB.out | apply below_alloc | apply pw_below_drewN | apply below_drew1 | refine below_set ?_ GE135.out) | exact HB.out)) hb); clear HO_7; clear HO_8; clear BK135; clear HB; have HO_7 := n0_; have HO_8 := n1_; have HO150 := n2_; have BK135 := n3_; have HB := n4_; clear n0_ n1_ n2_ n3_ n4_; (try clear hb); (try clear hb2); (try clear hk); (try clear hi); (try clear ho0)) | ((with_reducible refine gate_builtin (b := .append) (xs := #[.tmp 47, .tmp 49]) rfl ?_); (try (refine gate_guard (by rfl) ?_; dsimp only)); at_builtin; refine Kd.R_append (Kd.int .u8) (w0 := w) w.heap.size rfl (.tmp 47) (.tmp 49) 28 5 (.int .u8 0) 1 rfl Try.underlying28 info5 rfl (by decide) (by omega) v149 t148 1 [.int .u8 1] (fun k_ => some k_ ≠ (.slice Ao28 x8_2.length co28 : Value).ownBlock) (fun _ => False) rfl rfl ?aP (fun _ hk => hk.elim) ?aF ?aO ?aB ?aS ?aL ?_; (case aP => exact rfl); (case aB => exact (by repeat (first | (with_reducible first | exact HB.out | apply below_alloc | apply pw_below_drewN | apply below_drew1 | refine below_set ?_ GE135.out) | exact HB.out))); (case aF => exact (fun k_ hk => Kd.fresh' (Kd.R_lt (by (with_reducible repeat (first | apply Kd.R_alloc | apply Kd.R_drewN | apply Kd.R_drew)); exact HO_8.out)) k_ hk)); (case aO => exact (by (with_reducible repeat (first | apply Kd.R_alloc | apply Kd.R_drewN | apply Kd.R_drew)); exact Kd.R_mono HO150.out (fun _ hk => hk.2))); (case aS => exact (below_size (by repeat (first | (with_reducible first | exact HB.out | apply below_alloc | apply pw_below_drewN | apply below_drew1 | refine below_set ?_ GE135.out) | exact HB.out)))); (case aL => have := LMc24.out; omega); intro v152 w30 ho hb hg hat; rw [← Ny151.out] at ho; have n0_ := Aside0.mk (Kd.N_afterv (ok := (fun k_ => some k_ ≠ (.slice Ao28 x8_2.length co28 : Value).ownBlock ∧ k_ ≠ gb135)) (by (with_reducible repeat (first | apply Kd.N_alloc | apply Kd.N_drewN | apply Kd.N_drew)); exact HO_7.out) hg hat); have n1_ := Aside0.mk (Kd.R_after (ok := (fun _ => True)) (by (with_reducible repeat (first | apply Kd.R_alloc | apply Kd.R_drewN | apply Kd.R_drew)); exact HO_8.out) hg hat); have n2_ := Aside0.mk (blk_grown (g := gb135) (o := .cells #[.slice (some ad146) l1_0.length c1_0, .slice (some ad147) l1_1.length c1_1] 25 (0, 0)) (by (with_reducible repeat (first | refine blk_drewN ?_ _ | refine blk_drew ?_ | refine blk_alloc ?_ _)); exact BK135.out) hg (Kd.R_ne HO150.out BK135.out (by decide))); have n3_ := Aside0.mk (hb); have n4_ := Aside0.mk (ho); clear HO_7; clear HO_8; clear BK135; clear HB; clear HO150; have HO_7 := n0_; have HO_8 := n1_; have BK135 := n2_; have HB := n3_; have HO153 := n4_; clear n0_ n1_ n2_ n3_ n4_; clear ho hb hg hat; obtain ⟨Ao31, co31, eo31⟩ := Kd.R_slice HO153.out; subst eo31) | ((with_reducible refine gate_builtin (b := .append) (xs := #[.tmp 60, .tmp 62]) rfl ?_); (try (refine gate_guard (by rfl) ?_; dsimp only)); at_builtin; refine Kd.N_append (Kd.slice 5 (Kd.int .u8)) (w0 := w) w.heap.size rfl (.tmp 60) (.tmp 62) 42 28 (.slice none 0 0) 24 rfl Try.underlying42 info28 rfl (by decide) (by omega) u7 x7_2 y151 [.slice Ao31 y151.length co31] (fun k_ => some k_ ≠ (.slice Ao28 x8_2.length co28 : Value).ownBlock ∧ k_ ≠ gb135) (fun k_ => ((fun k_ => some k_ ≠ (.slice Ao28 x8_2.length co28 : Value).ownBlock ∧ k_ ≠ gb135)) k_ ∧ some k_ ≠ (u7 : Value).ownBlock) rfl rfl ?aP (fun _ hk => hk) ?aF ?aO ?aB ?aS ?aL ?_; (case aP => exact (Kd.FK_slice_mk (Kd.R_reads' (Kd.R_mono (ok' := (fun k_ => ((fun k_ => some k_ ≠ (.slice Ao28 x8_2.length co28 : Value).ownBlock ∧ k_ ≠ gb135)) k_ ∧ some k_ ≠ (u7 : Value).ownBlock)) (Kd.R_types (Kd.R_apart' (HO153.out) (Kd.N_typed HO_7.out) (by decide)) BK135.out (by decide)) (fun k_ hk => ⟨⟨hk.1.1, hk.2⟩, hk.1.2⟩))).2.1 (Kd.R_F (Kd.R_mono (ok' := (fun k_ => ((fun k_ => some k_ ≠ (.slice Ao28 x8_2.length co28 : Value).ownBlock ∧ k_ ≠ gb135)) k_ ∧ some k_ ≠ (u7 : Value).ownBlock)) (Kd.R_types (Kd.R_apart' (HO153.out) (Kd.N_typed HO_7.out) (by decide)) BK135.out (by decide)) (fun k_ hk => ⟨⟨hk.1.1, hk.2⟩, hk.1.2⟩))))); (case aB => exact (by repeat (first | (with_reducible first | exact HB.out | apply below_alloc | apply pw_below_drewN | apply below_drew1 | refine below_set ?_ GE135.out) | exact HB.out))); (case aF => exact (fun k_ hk => ⟨Kd.fresh' (Kd.R_lt (by (with_reducible repeat (first | apply Kd.R_alloc | apply Kd.R_drewN | apply Kd.R_drew)); exact HO_8.out)) k_ hk, Kd.freshB (g := gb135) (o := .cells #[.slice (some ad146) l1_0.length c1_0, .slice (some ad147) l1_1.length c1_1] 25 (0, 0)) (by (with_reducible repeat (first | refine blk_drewN ?_ _ | refine blk_drew ?_ | refine blk_alloc ?_ _)); exact BK135.out) k_ hk⟩)); (case aO => exact (by (with_reducible repeat (first | apply Kd.N_alloc | apply Kd.N_drewN | apply Kd.N_drew)); exact Kd.N_mono HO_7.out (fun _ hk => ⟨hk.1.1, hk.1.2⟩))); (case aS => exact (below_size (by repeat (first | (with_reducible first | exact HB.out | apply below_alloc | apply pw_below_drewN | apply below_drew1 | refine below_set ?_ GE135.out) | exact HB.out)))); (case aL => have := LMc26.out; omega); intro v155 w32 ho hb hg hat; rw [← Ny154.out] at ho; have n0_ := Aside0.mk (Kd.R_over' (by (with_reducible repeat (first | apply Kd.R_alloc | apply Kd.R_drewN | apply Kd.R_drew)); exact HO_8.out) (Kd.N_typed (by (with_reducible repeat (first | apply Kd.N_alloc | apply Kd.N_drewN | apply Kd.N_drew)); exact HO_7.out)) (by decide) hg); have n1_ := Aside0.mk (blk_grown (g := gb135) (o := .cells #[.slice (some ad146) l1_0.length c1_0, .slice (some ad147) l1_1.length c1_1] 25 (0, 0)) (by (with_reducible repeat (first | refine blk_drewN ?_ _ | refine blk_drew ?_ | refine blk_alloc ?_ _)); exact BK135.out) hg (Kd.N_ne HO_7.out BK135.out (by decide))); have n2_ := Aside0.mk (hb); have n3_ := Aside0.mk (ho); clear HO_8; clear BK135; clear HB; clear HO_7; clear HO153; have HO_8 := n0_; have BK135 := n1_; have HB := n2_; have HO156 := n3_; clear n0_ n1_ n2_ n3_; clear ho hb hg hat))
                            go_roundg k2
                            case measure => have := HJ2.out; have := HK2.out; omega
                            case rel => exact ⟨(y154), (([] : List Int)), (wrap64 (x35_2 + 1)), (by first | rfl | (simp; done) | (simp [*]; done)), H', ⟨by have := HJ2.out; have := HK2.out; omega⟩, ⟨by (with_reducible repeat (first | apply Kd.N_alloc | apply Kd.N_drewN | apply Kd.N_drew)); exact Kd.N_mono HO156.out (fun _ hk => ⟨(by simp [Value.ownBlock]), hk.2⟩)⟩, ⟨by first | exact Kd.R_nil _ _ _ _ _ | exact Kd.N_nil _ _ _ _ _ | exact Kd.V_nil _ _ _ _ _ | exact Kd.Q_nil _ _ _ _ _ | exact Kd.S_nil _ _ _ _ _⟩, ⟨by (with_reducible repeat (first | refine blk_drewN ?_ _ | refine blk_drew ?_ | refine blk_alloc ?_ _)); exact BK135.out⟩, ⟨by repeat (first | (with_reducible first | exact HB.out | apply below_alloc | apply pw_below_drewN | apply below_drew1 | refine below_set ?_ GE135.out) | exact HB.out)⟩⟩
                          · rw [if_neg c26] at H
                            exact absurd H (by simp)
                        · rw [if_neg c25] at H
                          have c25b0 : ((y151.length : Int) == 900) = false := beq_eq_false_iff_ne.mpr c25
                          have c25b1 : ((y151.length : Int) != 900) = true := bne_iff_ne.mpr c25
                          by_cases c33 : x35_2 = (wrap64 ((l1_0.length : Int) - 1))
                          · rw [if_pos c33] at H
                            have c33b0 : (x35_2 == (wrap64 ((l1_0.length : Int) - 1))) = true := beq_iff_eq.mpr c33
                            have c33b1 : (x35_2 != (wrap64 ((l1_0.length : Int) - 1))) = false := bne_eq_false_iff_eq.mpr c33
                            clear c33
                            by_cases c34 : x7_2.length < 5864062014805
                            · rw [if_pos c34] at H
                              have LMc34 := Aside0.mk c34
                              clear c34
                              obtain ⟨y157, hy157⟩ : ∃ y_ : List (List Int), y_ = (x7_2 ++ [y151]) := ⟨_, rfl⟩
                              replace H : (state_Encode.l0 k2 (l1_0.length : Int) y157 ([] : List Int) l1_0 (l1_0.length : Int) (wrap64 (x35_2 + 1)) l1_0 l1_1) = some (r1, r2) := by first | (rw [hy157]; with_reducible exact H) | (have H2_ := (Option.bind_some _ _).symm.trans H; rw [hy157]; with_reducible exact H2_) | (have H2_ := (Option.bind_some _ _).symm.trans H; with_reducible exact H2_) | with_reducible exact H | (rw [hy157]; exact H) | exact H
                              have Ny157 := Aside0.mk hy157
                              clear hy157
                              have H' := Aside0.mk H
                              clear H
                              have p146 : 0 ≤ (x35_2 : Int) := of_decide_eq_true (by first | (with_reducible assumption) | assumption)
                              have q146 : x35_2 < (l1_0.length : Int) := of_decide_eq_true (by first | (with_reducible assumption) | assumption)
                              obtain ⟨ad146, e146, hx146_0⟩ := Kd.at_int HR1_0.out x35_2 p146 q146
                              cases e146
                              replace hx146_0 := (HB.out.cell (World.block_lt_of_cell? w _ hx146_0)).trans hx146_0
                              replace p146 := eq_true p146
                              replace q146 := eq_true q146
                              have hcz35_0 : wr.cell? ⟨gb135, 0, none⟩ = some (.slice (some ad146) l1_0.length c1_0) := (blk_cell BK135.out 0).trans rfl
                              have hcz35_1 : wr.cell? ⟨gb135, 1, none⟩ = some (.slice A1_1 l1_1.length c1_1) := (blk_cell BK135.out 1).trans rfl
                              have hfz35_0 := blk_frozen BK135.out 0
                              have hfz35_1 := blk_frozen BK135.out 1
                              have p147 : 0 ≤ (x35_2 : Int) := of_decide_eq_true (by first | (with_reducible assumption) | assumption)
                              have q147 : x35_2 < (l1_1.length : Int) := of_decide_eq_true (by first | (with_reducible assumption) | assumption)
                              obtain ⟨ad147, e147, hx147_0⟩ := Kd.at_bool HR1_1.out x35_2 p147 q147
                              (try rw [← Nbq21.out] at hx147_0)
                              cases e147
                              replace hx147_0 := (HB.out.cell (World.block_lt_of_cell? w _ hx147_0)).trans hx147_0
                              replace p147 := eq_true p147
                              replace q147 := eq_true q147
                              obtain ⟨Ao36, co36, eo36⟩ := Kd.R_slice HO_8.out
                              subst eo36
                              go_wp2_with (first | ((with_reducible refine gate_callee (f := 18) rfl ?_); refine goesL_ (some 47) rfl rfl Try.func18 (by kernel_rfl) rfl #[.slice Ao36 x8_2.length co36, .int .i64 8, .int .u64 (rd l1_0 x35_2)] rfl (by (try simp only [List.map_toArray, List.map_cons, List.map_nil]); first | done | rfl | (simp only [List.length_drop, List.length_take]; rfl)) ?_; (with_reducible refine (octets_Put.calls k2 _ _ x8_2 8 (rd l1_0 x35_2) t148 _ ?side1 ?side2 A23.out).mono ?_); (case side1 => repeat (first | exact (Kd.R_reads' HO_8.out).2.2 | (with_reducible refine Kd.C_alloc ?_ _) | (with_reducible refine Kd.C_drewN ?_ _) | (with_reducible refine Kd.C_drew ?_))); (case side2 => exact (Kd.R_reads' HO_8.out).2.1); rintro e w37 ⟨v149, rfl, ho0, hb⟩; refine ⟨_, rfl, ?_⟩; have n0_ := Aside0.mk (Kd.N_elder' (by (with_reducible repeat (first | apply Kd.N_alloc | apply Kd.N_drewN | apply Kd.N_drew)); exact HO_7.out) (Kd.R_base ho0) hb); have n1_ := Aside0.mk (Kd.R_elder' (by (with_reducible repeat (first | apply Kd.R_alloc | apply Kd.R_drewN | apply Kd.R_drew)); exact HO_8.out) (Kd.R_base ho0) hb); have n2_ := Aside0.mk (Kd.R_lower (Kd.R_new' ho0 (Kd.R_lt (by (with_reducible repeat (first | apply Kd.R_alloc | apply Kd.R_drewN | apply Kd.R_drew)); exact HO_8.out))) (below_size (by repeat (first | (with_reducible first | exact HB.out | apply below_alloc | apply pw_below_drewN | apply below_drew1 | refine below_set ?_ GE135.out) | exact HB.out)))); have n3_ := Aside0.mk (blk_below (g := gb135) (o := .cells #[.slice (some ad146) l1_0.length c1_0, .slice (some ad147) l1_1.length c1_1] 25 (0, 0)) (by (with_reducible repeat (first | refine blk_drewN ?_ _ | refine blk_drew ?_ | refine blk_alloc ?_ _)); exact BK135.out) hb); have n4_ := Aside0.mk (below_step (by repeat (first | (with_reducible first | exact HB.out | apply below_alloc | apply pw_below_drewN | apply below_drew1 | refine below_set ?_ GE135.out) | exact HB.out)) hb); clear HO_7; clear HO_8; clear BK135; clear HB; have HO_7 := n0_; have HO_8 := n1_; have HO150 := n2_; have BK135 := n3_; have HB := n4_; clear n0_ n1_ n2_ n3_ n4_; (try clear hb); (try clear hb2); (try clear hk); (try clear hi); (try clear ho0)) | ((with_reducible refine gate_builtin (b := .append) (xs := #[.tmp 47, .tmp 49]) rfl ?_); (try (refine gate_guard (by rfl) ?_; dsimp only)); at_builtin; refine Kd.R_append (Kd.int .u8) (w0 := w) w.heap.size rfl (.tmp 47) (.tmp 49) 28 5 (.int .u8 0) 1 rfl Try.underlying28 info5 rfl (by decide) (by omega) v149 t148 1 [.int .u8 1] (fun k_ => some k_ ≠ (.slice Ao36 x8_2.length co36 : Value).ownBlock) (fun _ => False) rfl rfl ?aP (fun _ hk => hk.elim) ?aF ?aO ?aB ?aS ?aL ?_; (case aP => exact rfl); (case aB => exact (by repeat (first | (with_reducible first | exact HB.out | apply below_alloc | apply pw_below_drewN | apply below_drew1 | refine below_set ?_ GE135.out) | exact HB.out))); (case aF => exact (fun k_ hk => Kd.fresh' (Kd.R_lt (by (with_reducible repeat (first | apply Kd.R_alloc | apply Kd.R_drewN | apply Kd.R_drew)); exact HO_8.out)) k_ hk)); (case aO => exact (by (with_reducible repeat (first | apply Kd.R_alloc | apply Kd.R_drewN | apply Kd.R_drew)); exact Kd.R_mono HO150.out (fun _ hk => hk.2))); (case aS => exact (below_size (by repeat (first | (with_reducible first | exact HB.out | apply below_alloc | apply pw_below_drewN | apply below_drew1 | refine below_set ?_ GE135.out) | exact HB.out)))); (case aL => have := LMc24.out; omega); intro v152 w38 ho hb hg hat; rw [← Ny151.out] at ho; have n0_ := Aside0.mk (Kd.N_afterv (ok := (fun k_ => some k_ ≠ (.slice Ao36 x8_2.length co36 : Value).ownBlock ∧ k_ ≠ gb135)) (by (with_reducible repeat (first | apply Kd.N_alloc | apply Kd.N_drewN | apply Kd.N_drew)); exact HO_7.out) hg hat); have n1_ := Aside0.mk (Kd.R_after (ok := (fun _ => True)) (by (with_reducible repeat (first | apply Kd.R_alloc | apply Kd.R_drewN | apply Kd.R_drew)); exact HO_8.out) hg hat); have n2_ := Aside0.mk (blk_grown (g := gb135) (o := .cells #[.slice (some ad146) l1_0.length c1_0, .slice (some ad147) l1_1.length c1_1] 25 (0, 0)) (by (with_reducible repeat (first | refine blk_drewN ?_ _ | refine blk_drew ?_ | refine blk_alloc ?_ _)); exact BK135.out) hg (Kd.R_ne HO150.out BK135.out (by decide))); have n3_ := Aside0.mk (hb); have n4_ := Aside0.mk (ho); clear HO_7; clear HO_8; clear BK135; clear HB; clear HO150; have HO_7 := n0_; have HO_8 := n1_; have BK135 := n2_; have HB := n3_; have HO153 := n4_; clear n0_ n1_ n2_ n3_ n4_; clear ho hb hg hat; obtain ⟨Ao39, co39, eo39⟩ := Kd.R_slice HO153.out; subst eo39) | ((with_reducible refine gate_builtin (b := .append) (xs := #[.tmp 60, .tmp 62]) rfl ?_); (try (refine gate_guard (by rfl) ?_; dsimp only)); at_builtin; refine Kd.N_append (Kd.slice 5 (Kd.int .u8)) (w0 := w) w.heap.size rfl (.tmp 60) (.tmp 62) 42 28 (.slice none 0 0) 24 rfl Try.underlying42 info28 rfl (by decide) (by omega) u7 x7_2 y151 [.slice Ao39 y151.length co39] (fun k_ => some k_ ≠ (.slice Ao36 x8_2.length co36 : Value).ownBlock ∧ k_ ≠ gb135) (fun k_ => ((fun k_ => some k_ ≠ (.slice Ao36 x8_2.length co36 : Value).ownBlock ∧ k_ ≠ gb135)) k_ ∧ some k_ ≠ (u7 : Value).ownBlock) rfl rfl ?aP (fun _ hk => hk) ?aF ?aO ?aB ?aS ?aL ?_; (case aP => exact (Kd.FK_slice_mk (Kd.R_reads' (Kd.R_mono (ok' := (fun k_ => ((fun k_ => some k_ ≠ (.slice Ao36 x8_2.length co36 : Value).ownBlock ∧ k_ ≠ gb135)) k_ ∧ some k_ ≠ (u7 : Value).ownBlock)) (Kd.R_types (Kd.R_apart' (HO153.out) (Kd.N_typed HO_7.out) (by decide)) BK135.out (by decide)) (fun k_ hk => ⟨⟨hk.1.1, hk.2⟩, hk.1.2⟩))).2.1 (Kd.R_F (Kd.R_mono (ok' := (fun k_ => ((fun k_ => some k_ ≠ (.slice Ao36 x8_2.length co36 : Value).ownBlock ∧ k_ ≠ gb135)) k_ ∧ some k_ ≠ (u7 : Value).ownBlock)) (Kd.R_types (Kd.R_apart' (HO153.out) (Kd.N_typed HO_7.out) (by decide)) BK135.out (by decide)) (fun k_ hk => ⟨⟨hk.1.1, hk.2⟩, hk.1.2⟩))))); (case aB => exact (by repeat (first | (with_reducible first | exact HB.out | apply below_alloc | apply pw_below_drewN | apply below_drew1 | refine below_set ?_ GE135.out) | exact HB.out))); (case aF => exact (fun k_ hk => ⟨Kd.fresh' (Kd.R_lt (by (with_reducible repeat (first | apply Kd.R_alloc | apply Kd.R_drewN | apply Kd.R_drew)); exact HO_8.out)) k_ hk, Kd.freshB (g := gb135) (o := .cells #[.slice (some ad146) l1_0.length c1_0, .slice (some ad147) l1_1.length c1_1] 25 (0, 0)) (by (with_reducible repeat (first | refine blk_drewN ?_ _ | refine blk_drew ?_ | refine blk_alloc ?_ _)); exact BK135.out) k_ hk⟩)); (case aO => exact (by (with_reducible repeat (first | apply Kd.N_alloc | apply Kd.N_drewN | apply Kd.N_drew)); exact Kd.N_mono HO_7.out (fun _ hk => ⟨hk.1.1, hk.1.2⟩))); (case aS => exact (below_size (by repeat (first | (with_reducible first | exact HB.out | apply below_alloc | apply pw_below_drewN | apply below_drew1 | refine below_set ?_ GE135.out) | exact HB.out)))); (case aL => have := LMc34.out; omega); intro v158 w40 ho hb hg hat; rw [← Ny157.out] at ho; have n0_ := Aside0.mk (Kd.R_over' (by (with_reducible repeat (first | apply Kd.R_alloc | apply Kd.R_drewN | apply Kd.R_drew)); exact HO_8.out) (Kd.N_typed (by (with_reducible repeat (first | apply Kd.N_alloc | apply Kd.N_drewN | apply Kd.N_drew)); exact HO_7.out)) (by decide) hg); have n1_ := Aside0.mk (blk_grown (g := gb135) (o := .cells #[.slice (some ad146) l1_0.length c1_0, .slice (some ad147) l1_1.length c1_1] 25 (0, 0)) (by (with_reducible repeat (first | refine blk_drewN ?_ _ | refine blk_drew ?_ | refine blk_alloc ?_ _)); exact BK135.out) hg (Kd.N_ne HO_7.out BK135.out (by decide))); have n2_ := Aside0.mk (hb); have n3_ := Aside0.mk (ho); clear HO_8; clear BK135; clear HB; clear HO_7; clear HO153; have HO_8 := n0_; have BK135 := n1_; have HB := n2_; have HO159 := n3_; clear n0_ n1_ n2_ n3_; clear ho hb hg hat))
                              go_roundg k2
                              case measure => have := HJ2.out; have := HK2.out; omega
                              case rel => exact ⟨(y157), (([] : List Int)), (wrap64 (x35_2 + 1)), (by first | rfl | (simp; done) | (simp [*]; done)), H', ⟨by have := HJ2.out; have := HK2.out; omega⟩, ⟨by (with_reducible repeat (first | apply Kd.N_alloc | apply Kd.N_drewN | apply Kd.N_drew)); exact Kd.N_mono HO159.out (fun _ hk => ⟨(by simp [Value.ownBlock]), hk.2⟩)⟩, ⟨by first | exact Kd.R_nil _ _ _ _ _ | exact Kd.N_nil _ _ _ _ _ | exact Kd.V_nil _ _ _ _ _ | exact Kd.Q_nil _ _ _ _ _ | exact Kd.S_nil _ _ _ _ _⟩, ⟨by (with_reducible repeat (first | refine blk_drewN ?_ _ | refine blk_drew ?_ | refine blk_alloc ?_ _)); exact BK135.out⟩, ⟨by repeat (first | (with_reducible first | exact HB.out | apply below_alloc | apply pw_below_drewN | apply below_drew1 | refine below_set ?_ GE135.out) | exact HB.out)⟩⟩
                            · rw [if_neg c34] at H
                              exact absurd H (by simp)
                          · rw [if_neg c33] at H
                            have c33b0 : (x35_2 == (wrap64 ((l1_0.length : Int) - 1))) = false := beq_eq_false_iff_ne.mpr c33
                            have c33b1 : (x35_2 != (wrap64 ((l1_0.length : Int) - 1))) = true := bne_iff_ne.mpr c33
                            have H' := Aside0.mk H
                            clear H
                            have p146 : 0 ≤ (x35_2 : Int) := of_decide_eq_true (by first | (with_reducible assumption) | assumption)
                            have q146 : x35_2 < (l1_0.length : Int) := of_decide_eq_true (by first | (with_reducible assumption) | assumption)
                            obtain ⟨ad146, e146, hx146_0⟩ := Kd.at_int HR1_0.out x35_2 p146 q146
                            cases e146
                            replace hx146_0 := (HB.out.cell (World.block_lt_of_cell? w _ hx146_0)).trans hx146_0
                            replace p146 := eq_true p146
                            replace q146 := eq_true q146
                            have hcz41_0 : wr.cell? ⟨gb135, 0, none⟩ = some (.slice (some ad146) l1_0.length c1_0) := (blk_cell BK135.out 0).trans rfl
                            have hcz41_1 : wr.cell? ⟨gb135, 1, none⟩ = some (.slice A1_1 l1_1.length c1_1) := (blk_cell BK135.out 1).trans rfl
                            have hfz41_0 := blk_frozen BK135.out 0
                            have hfz41_1 := blk_frozen BK135.out 1
                            have p147 : 0 ≤ (x35_2 : Int) := of_decide_eq_true (by first | (with_reducible assumption) | assumption)
                            have q147 : x35_2 < (l1_1.length : Int) := of_decide_eq_true (by first | (with_reducible assumption) | assumption)
                            obtain ⟨ad147, e147, hx147_0⟩ := Kd.at_bool HR1_1.out x35_2 p147 q147
                            (try rw [← Nbq21.out] at hx147_0)
                            cases e147
                            replace hx147_0 := (HB.out.cell (World.block_lt_of_cell? w _ hx147_0)).trans hx147_0
                            replace p147 := eq_true p147
                            replace q147 := eq_true q147
                            obtain ⟨Ao42, co42, eo42⟩ := Kd.R_slice HO_8.out
                            subst eo42
                            go_wp2_with (first | ((with_reducible refine gate_callee (f := 18) rfl ?_); refine goesL_ (some 47) rfl rfl Try.func18 (by kernel_rfl) rfl #[.slice Ao42 x8_2.length co42, .int .i64 8, .int .u64 (rd l1_0 x35_2)] rfl (by (try simp only [List.map_toArray, List.map_cons, List.map_nil]); first | done | rfl | (simp only [List.length_drop, List.length_take]; rfl)) ?_; (with_reducible refine (octets_Put.calls k2 _ _ x8_2 8 (rd l1_0 x35_2) t148 _ ?side1 ?side2 A23.out).mono ?_); (case side1 => repeat (first | exact (Kd.R_reads' HO_8.out).2.2 | (with_reducible refine Kd.C_alloc ?_ _) | (with_reducible refine Kd.C_drewN ?_ _) | (with_reducible refine Kd.C_drew ?_))); (case side2 => exact (Kd.R_reads' HO_8.out).2.1); rintro e w43 ⟨v149, rfl, ho0, hb⟩; refine ⟨_, rfl, ?_⟩; have n0_ := Aside0.mk (Kd.N_elder' (by (with_reducible repeat (first | apply Kd.N_alloc | apply Kd.N_drewN | apply Kd.N_drew)); exact HO_7.out) (Kd.R_base ho0) hb); have n1_ := Aside0.mk (Kd.R_elder' (by (with_reducible repeat (first | apply Kd.R_alloc | apply Kd.R_drewN | apply Kd.R_drew)); exact HO_8.out) (Kd.R_base ho0) hb); have n2_ := Aside0.mk (Kd.R_lower (Kd.R_new' ho0 (Kd.R_lt (by (with_reducible repeat (first | apply Kd.R_alloc | apply Kd.R_drewN | apply Kd.R_drew)); exact HO_8.out))) (below_size (by repeat (first | (with_reducible first | exact HB.out | apply below_alloc | apply pw_below_drewN | apply below_drew1 | refine below_set ?_ GE135.out) | exact HB.out)))); have n3_ := Aside0.mk (blk_below (g := gb135) (o := .cells #[.slice (some ad146) l1_0.length c1_0, .slice (some ad147) l1_1.length c1_1] 25 (0, 0)) (by (with_reducible repeat (first | refine blk_drewN ?_ _ | refine blk_drew ?_ | refine blk_alloc ?_ _)); exact BK135.out) hb); have n4_ := Aside0.mk (below_step (by repeat (first | (with_reducible first | exact HB.out | apply below_alloc | apply pw_below_drewN | apply below_drew1 | refine below_set ?_ GE135.out) | exact HB.out)) hb); clear HO_7; clear HO_8; clear BK135; clear HB; have HO_7 := n0_; have HO_8 := n1_; have HO150 := n2_; have BK135 := n3_; have HB := n4_; clear n0_ n1_ n2_ n3_ n4_; (try clear hb); (try clear hb2); (try clear hk); (try clear hi); (try clear ho0)) | ((with_reducible refine gate_builtin (b := .append) (xs := #[.tmp 47, .tmp 49]) rfl ?_); (try (refine gate_guard (by rfl) ?_; dsimp only)); at_builtin; refine Kd.R_append (Kd.int .u8) (w0 := w) w.heap.size rfl (.tmp 47) (.tmp 49) 28 5 (.int .u8 0) 1 rfl Try.underlying28 info5 rfl (by decide) (by omega) v149 t148 1 [.int .u8 1] (fun k_ => some k_ ≠ (.slice Ao42 x8_2.length co42 : Value).ownBlock) (fun _ => False) rfl rfl ?aP (fun _ hk => hk.elim) ?aF ?aO ?aB ?aS ?aL ?_; (case aP => exact rfl); (case aB => exact (by repeat (first | (with_reducible first | exact HB.out | apply below_alloc | apply pw_below_drewN | apply below_drew1 | refine below_set ?_ GE135.out) | exact HB.out))); (case aF => exact (fun k_ hk => Kd.fresh' (Kd.R_lt (by (with_reducible repeat (first | apply Kd.R_alloc | apply Kd.R_drewN | apply Kd.R_drew)); exact HO_8.out)) k_ hk)); (case aO => exact (by (with_reducible repeat (first | apply Kd.R_alloc | apply Kd.R_drewN | apply Kd.R_drew)); exact Kd.R_mono HO150.out (fun _ hk => hk.2))); (case aS => exact (below_size (by repeat (first | (with_reducible first | exact HB.out | apply below_alloc | apply pw_below_drewN | apply below_drew1 | refine below_set ?_ GE135.out) | exact HB.out)))); (case aL => have := LMc24.out; omega); intro v152 w44 ho hb hg hat; rw [← Ny151.out] at ho; have n0_ := Aside0.mk (Kd.N_afterv (ok := (fun k_ => some k_ ≠ (.slice Ao42 x8_2.length co42 : Value).ownBlock ∧ k_ ≠ gb135)) (by (with_reducible repeat (first | apply Kd.N_alloc | apply Kd.N_drewN | apply Kd.N_drew)); exact HO_7.out) hg hat); have n1_ := Aside0.mk (Kd.R_after (ok := (fun _ => True)) (by (with_reducible repeat (first | apply Kd.R_alloc | apply Kd.R_drewN | apply Kd.R_drew)); exact HO_8.out) hg hat); have n2_ := Aside0.mk (blk_grown (g := gb135) (o := .cells #[.slice (some ad146) l1_0.length c1_0, .slice (some ad147) l1_1.length c1_1] 25 (0, 0)) (by (with_reducible repeat (first | refine blk_drewN ?_ _ | refine blk_drew ?_ | refine blk_alloc ?_ _)); exact BK135.out) hg (Kd.R_ne HO150.out BK135.out (by decide))); have n3_ := Aside0.mk (hb); have n4_ := Aside0.mk (ho); clear HO_7; clear HO_8; clear BK135; clear HB; clear HO150; have HO_7 := n0_; have HO_8 := n1_; have BK135 := n2_; have HB := n3_; have HO153 := n4_; clear n0_ n1_ n2_ n3_ n4_; clear ho hb hg hat; obtain ⟨Ao45, co45, eo45⟩ := Kd.R_slice HO153.out; subst eo45))
                            go_roundg k2
                            case measure => have := HJ2.out; have := HK2.out; omega
                            case rel => exact ⟨(x7_2), (y151), (wrap64 (x35_2 + 1)), (by first | rfl | (simp; done) | (simp [*]; done)), H', ⟨by have := HJ2.out; have := HK2.out; omega⟩, ⟨by (with_reducible repeat (first | apply Kd.N_alloc | apply Kd.N_drewN | apply Kd.N_drew)); exact Kd.N_mono HO_7.out (fun _ hk => ⟨hk.2, hk.1.2⟩)⟩, ⟨by (with_reducible repeat (first | apply Kd.R_alloc | apply Kd.R_drewN | apply Kd.R_drew)); exact Kd.R_mono HO153.out (fun _ hk => trivial)⟩, ⟨by (with_reducible repeat (first | refine blk_drewN ?_ _ | refine blk_drew ?_ | refine blk_alloc ?_ _)); exact BK135.out⟩, ⟨by repeat (first | (with_reducible first | exact HB.out | apply below_alloc | apply pw_below_drewN | apply below_drew1 | refine below_set ?_ GE135.out) | exact HB.out)⟩⟩
                      · rw [if_neg c24] at H
                        exact absurd H (by simp)
                    · replace c22 := Bool.eq_false_iff.mpr c22
                      subst c22
                      have H1 : ((octets_Put.f k2 x8_2 8 (rd l1_0 x35_2)).bind fun t160 => (if t160.length < 140737488355328 then ((some (t160 ++ [0] : List Int)).bind fun y163 => (if (y163.length : Int) = 900 then (if x7_2.length < 5864062014805 then (state_Encode.l0 k2 (l1_0.length : Int) (x7_2 ++ [y163]) ([] : List Int) l1_0 (l1_0.length : Int) (wrap64 (x35_2 + 1)) l1_0 l1_1) else (none)) else (if x35_2 = (wrap64 ((l1_0.length : Int) - 1)) then (if x7_2.length < 5864062014805 then (state_Encode.l0 k2 (l1_0.length : Int) (x7_2 ++ [y163]) ([] : List Int) l1_0 (l1_0.length : Int) (wrap64 (x35_2 + 1)) l1_0 l1_1) else (none)) else (state_Encode.l0 k2 (l1_0.length : Int) x7_2 y163 l1_0 (l1_0.length : Int) (wrap64 (x35_2 + 1)) l1_0 l1_1)))) else (none))) = some (r1, r2) := by rw [if_neg (show ¬ (false = true) by decide)] at H; exact H
                      clear H
                      have H := H1
                      clear H1
                      replace H := Option.bind_eq_some_iff.mp H
                      obtain ⟨t160, A460, H⟩ := H
                      replace H : (if t160.length < 140737488355328 then ((some (t160 ++ [0] : List Int)).bind fun y163 => (if (y163.length : Int) = 900 then (if x7_2.length < 5864062014805 then (state_Encode.l0 k2 (l1_0.length : Int) (x7_2 ++ [y163]) ([] : List Int) l1_0 (l1_0.length : Int) (wrap64 (x35_2 + 1)) l1_0 l1_1) else (none)) else (if x35_2 = (wrap64 ((l1_0.length : Int) - 1)) then (if x7_2.length < 5864062014805 then (state_Encode.l0 k2 (l1_0.length : Int) (x7_2 ++ [y163]) ([] : List Int) l1_0 (l1_0.length : Int) (wrap64 (x35_2 + 1)) l1_0 l1_1) else (none)) else (state_Encode.l0 k2 (l1_0.length : Int) x7_2 y163 l1_0 (l1_0.length : Int) (wrap64 (x35_2 + 1)) l1_0 l1_1)))) else (none)) = some (r1, r2) := H
                      have A46 := Aside0.mk A460
                      clear A460
                      by_cases c47 : t160.length < 140737488355328
                      · rw [if_pos c47] at H
                        have LMc47 := Aside0.mk c47
                        clear c47
                        obtain ⟨y163, hy163⟩ : ∃ y_ : List Int, y_ = (t160 ++ [0]) := ⟨_, rfl⟩
                        replace H : (if (y163.length : Int) = 900 then (if x7_2.length < 5864062014805 then (state_Encode.l0 k2 (l1_0.length : Int) (x7_2 ++ [y163]) ([] : List Int) l1_0 (l1_0.length : Int) (wrap64 (x35_2 + 1)) l1_0 l1_1) else (none)) else (if x35_2 = (wrap64 ((l1_0.length : Int) - 1)) then (if x7_2.length < 5864062014805 then (state_Encode.l0 k2 (l1_0.length : Int) (x7_2 ++ [y163]) ([] : List Int) l1_0 (l1_0.length : Int) (wrap64 (x35_2 + 1)) l1_0 l1_1) else (none)) else (state_Encode.l0 k2 (l1_0.length : Int) x7_2 y163 l1_0 (l1_0.length : Int) (wrap64 (x35_2 + 1)) l1_0 l1_1))) = some (r1, r2) := by first | (rw [hy163]; with_reducible exact H) | (have H2_ := (Option.bind_some _ _).symm.trans H; rw [hy163]; with_reducible exact H2_) | (have H2_ := (Option.bind_some _ _).symm.trans H; with_reducible exact H2_) | with_reducible exact H | (rw [hy163]; exact H) | exact H
                        have Ny163 := Aside0.mk hy163
                        clear hy163
                        by_cases c48 : (y163.length : Int) = 900
                        · rw [if_pos c48] at H
                          have c48b0 : ((y163.length : Int) == 900) = true := beq_iff_eq.mpr c48
                          have c48b1 : ((y163.length : Int) != 900) = false := bne_eq_false_iff_eq.mpr c48
                          clear c48
                          by_cases c49 : x7_2.length < 5864062014805
                          · rw [if_pos c49] at H
                            have LMc49 := Aside0.mk c49
                            clear c49
                            obtain ⟨y166, hy166⟩ : ∃ y_ : List (List Int), y_ = (x7_2 ++ [y163]) := ⟨_, rfl⟩
                            replace H : (state_Encode.l0 k2 (l1_0.length : Int) y166 ([] : List Int) l1_0 (l1_0.length : Int) (wrap64 (x35_2 + 1)) l1_0 l1_1) = some (r1, r2) := by first | (rw [hy166]; with_reducible exact H) | (have H2_ := (Option.bind_some _ _).symm.trans H; rw [hy166]; with_reducible exact H2_) | (have H2_ := (Option.bind_some _ _).symm.trans H; with_reducible exact H2_) | with_reducible exact H | (rw [hy166]; exact H) | exact H
                            have Ny166 := Aside0.mk hy166
                            clear hy166
                            have H' := Aside0.mk H
                            clear H
                            have p146 : 0 ≤ (x35_2 : Int) := of_decide_eq_true (by first | (with_reducible assumption) | assumption)
                            have q146 : x35_2 < (l1_0.length : Int) := of_decide_eq_true (by first | (with_reducible assumption) | assumption)
                            obtain ⟨ad146, e146, hx146_0⟩ := Kd.at_int HR1_0.out x35_2 p146 q146
                            cases e146
                            replace hx146_0 := (HB.out.cell (World.block_lt_of_cell? w _ hx146_0)).trans hx146_0
                            replace p146 := eq_true p146
                            replace q146 := eq_true q146
                            have hcz50_0 : wr.cell? ⟨gb135, 0, none⟩ = some (.slice (some ad146) l1_0.length c1_0) := (blk_cell BK135.out 0).trans rfl
                            have hcz50_1 : wr.cell? ⟨gb135, 1, none⟩ = some (.slice A1_1 l1_1.length c1_1) := (blk_cell BK135.out 1).trans rfl
                            have hfz50_0 := blk_frozen BK135.out 0
                            have hfz50_1 := blk_frozen BK135.out 1
                            have p147 : 0 ≤ (x35_2 : Int) := of_decide_eq_true (by first | (with_reducible assumption) | assumption)
                            have q147 : x35_2 < (l1_1.length : Int) := of_decide_eq_true (by first | (with_reducible assumption) | assumption)
                            obtain ⟨ad147, e147, hx147_0⟩ := Kd.at_bool HR1_1.out x35_2 p147 q147
                            (try rw [← Nbq21.out] at hx147_0)
                            cases e147
                            replace hx147_0 := (HB.out.cell (World.block_lt_of_cell? w _ hx147_0)).trans hx147_0
                            replace p147 := eq_true p147
                            replace q147 := eq_true q147
                            obtain ⟨Ao51, co51, eo51⟩ := Kd.R_slice HO_8.out
                            subst eo51
                            go_wp2_with (first | ((with_reducible refine gate_callee (f := 18) rfl ?_); refine goesL_ (some 47) rfl rfl Try.func18 (by kernel_rfl) rfl #[.slice Ao51 x8_2.length co51, .int .i64 8, .int .u64 (rd l1_0 x35_2)] rfl (by (try simp only [List.map_toArray, List.map_cons, List.map_nil]); first | done | rfl | (simp only [List.length_drop, List.length_take]; rfl)) ?_; (with_reducible refine (octets_Put.calls k2 _ _ x8_2 8 (rd l1_0 x35_2) t160 _ ?side1 ?side2 A46.out).mono ?_); (case side1 => repeat (first | exact (Kd.R_reads' HO_8.out).2.2 | (with_reducible refine Kd.C_alloc ?_ _) | (with_reducible refine Kd.C_drewN ?_ _) | (with_reducible refine Kd.C_drew ?_))); (case side2 => exact (Kd.R_reads' HO_8.out).2.1); rintro e w52 ⟨v161, rfl, ho0, hb⟩; refine ⟨_, rfl, ?_⟩; have n0_ := Aside0.mk (Kd.N_elder' (by (with_reducible repeat (first | apply Kd.N_alloc | apply Kd.N_drewN | apply Kd.N_drew)); exact HO_7.out) (Kd.R_base ho0) hb); have n1_ := Aside0.mk (Kd.R_elder' (by (with_reducible repeat (first | apply Kd.R_alloc | apply Kd.R_drewN | apply Kd.R_drew)); exact HO_8.out) (Kd.R_base ho0) hb); have n2_ := Aside0.mk (Kd.R_lower (Kd.R_new' ho0 (Kd.R_lt (by (with_reducible repeat (first | apply Kd.R_alloc | apply Kd.R_drewN | apply Kd.R_drew)); exact HO_8.out))) (below_size (by repeat (first | (with_reducible first | exact HB.out | apply below_alloc | apply pw_below_drewN | apply below_drew1 | refine below_set ?_ GE135.out) | exact HB.out)))); have n3_ := Aside0.mk (blk_below (g := gb135) (o := .cells #[.slice (some ad146) l1_0.length c1_0, .slice (some ad147) l1_1.length c1_1] 25 (0, 0)) (by (with_reducible repeat (first | refine blk_drewN ?_ _ | refine blk_drew ?_ | refine blk_alloc ?_ _)); exact BK135.out) hb); have n4_ := Aside0.mk (below_step (by repeat (first | (with_reducible first | exact HB.out | apply below_alloc | apply pw_below_drewN | apply below_drew1 | refine below_set ?_ GE135.out) | exact HB.out)) hb); clear HO_7; clear HO_8; clear BK135; clear HB; have HO_7 := n0_; have HO_8 := n1_; have HO162 := n2_; have BK135 := n3_; have HB := n4_; clear n0_ n1_ n2_ n3_ n4_; (try clear hb); (try clear hb2); (try clear hk); (try clear hi); (try clear ho0)) | ((with_reducible refine gate_builtin (b := .append) (xs := #[.tmp 47, .tmp 49]) rfl ?_); (try (refine gate_guard (by rfl) ?_; dsimp only)); at_builtin; refine Kd.R_append (Kd.int .u8) (w0 := w) w.heap.size rfl (.tmp 47) (.tmp 49) 28 5 (.int .u8 0) 1 rfl Try.underlying28 info5 rfl (by decide) (by omega) v161 t160 0 [.int .u8 0] (fun k_ => some k_ ≠ (.slice Ao51 x8_2.length co51 : Value).ownBlock) (fun _ => False) rfl rfl ?aP (fun _ hk => hk.elim) ?aF ?aO ?aB ?aS ?aL ?_; (case aP => exact rfl); (case aB => exact (by repeat (first | (with_reducible first | exact HB.out | apply below_alloc | apply pw_below_drewN | apply below_drew1 | refine below_set ?_ GE135.out) | exact HB.out))); (case aF => exact (fun k_ hk => Kd.fresh' (Kd.R_lt (by (with_reducible repeat (first | apply Kd.R_alloc | apply Kd.R_drewN | apply Kd.R_drew)); exact HO_8.out)) k_ hk)); (case aO => exact (by (with_reducible repeat (first | apply Kd.R_alloc | apply Kd.R_drewN | apply Kd.R_drew)); exact Kd.R_mono HO162.out (fun _ hk => hk.2))); (case aS => exact (below_size (by repeat (first | (with_reducible first | exact HB.out | apply below_alloc | apply pw_below_drewN | apply below_drew1 | refine below_set ?_ GE135.out) | exact HB.out)))); (case aL => have := LMc47.out; omega); intro v164 w53 ho hb hg hat; rw [← Ny163.out] at ho; have n0_ := Aside0.mk (Kd.N_afterv (ok := (fun k_ => some k_ ≠ (.slice Ao51 x8_2.length co51 : Value).ownBlock ∧ k_ ≠ gb135)) (by (with_reducible repeat (first | apply Kd.N_alloc | apply Kd.N_drewN | apply Kd.N_drew)); exact HO_7.out) hg hat); have n1_ := Aside0.mk (Kd.R_after (ok := (fun _ => True)) (by (with_reducible repeat (first | apply Kd.R_alloc | apply Kd.R_drewN | apply Kd.R_drew)); exact HO_8.out) hg hat); have n2_ := Aside0.mk (blk_grown (g := gb135) (o := .cells #[.slice (some ad146) l1_0.length c1_0, .slice (some ad147) l1_1.length c1_1] 25 (0, 0)) (by (with_reducible repeat (first | refine blk_drewN ?_ _ | refine blk_drew ?_ | refine blk_alloc ?_ _)); exact BK135.out) hg (Kd.R_ne HO162.out BK135.out (by decide))); have n3_ := Aside0.mk (hb); have n4_ := Aside0.mk (ho); clear HO_7; clear HO_8; clear BK135; clear HB; clear HO162; have HO_7 := n0_; have HO_8 := n1_; have BK135 := n2_; have HB := n3_; have HO165 := n4_; clear n0_ n1_ n2_ n3_ n4_; clear ho hb hg hat; obtain ⟨Ao54, co54, eo54⟩ := Kd.R_slice HO165.out; subst eo54) | ((with_reducible refine gate_builtin (b := .append) (xs := #[.tmp 60, .tmp 62]) rfl ?_); (try (refine gate_guard (by rfl) ?_; dsimp only)); at_builtin; refine Kd.N_append (Kd.slice 5 (Kd.int .u8)) (w0 := w) w.heap.size rfl (.tmp 60) (.tmp 62) 42 28 (.slice none 0 0) 24 rfl Try.underlying42 info28 rfl (by decide) (by omega) u7 x7_2 y163 [.slice Ao54 y163.length co54] (fun k_ => some k_ ≠ (.slice Ao51 x8_2.length co51 : Value).ownBlock ∧ k_ ≠ gb135) (fun k_ => ((fun k_ => some k_ ≠ (.slice Ao51 x8_2.length co51 : Value).ownBlock ∧ k_ ≠ gb135)) k_ ∧ some k_ ≠ (u7 : Value).ownBlock) rfl rfl ?aP (fun _ hk => hk) ?aF ?aO ?aB ?aS ?aL ?_; (case aP => exact (Kd.FK_slice_mk (Kd.R_reads' (Kd.R_mono (ok' := (fun k_ => ((fun k_ => some k_ ≠ (.slice Ao51 x8_2.length co51 : Value).ownBlock ∧ k_ ≠ gb135)) k_ ∧ some k_ ≠ (u7 : Value).ownBlock)) (Kd.R_types (Kd.R_apart' (HO165.out) (Kd.N_typed HO_7.out) (by decide)) BK135.out (by decide)) (fun k_ hk => ⟨⟨hk.1.1, hk.2⟩, hk.1.2⟩))).2.1 (Kd.R_F (Kd.R_mono (ok' := (fun k_ => ((fun k_ => some k_ ≠ (.slice Ao51 x8_2.length co51 : Value).ownBlock ∧ k_ ≠ gb135)) k_ ∧ some k_ ≠ (u7 : Value).ownBlock)) (Kd.R_types (Kd.R_apart' (HO165.out) (Kd.N_typed HO_7.out) (by decide)) BK135.out (by decide)) (fun k_ hk => ⟨⟨hk.1.1, hk.2⟩, hk.1.2⟩))))); (case aB => exact (by repeat (first | (with_reducible first | exact HB.out | apply below_alloc | apply pw_below_drewN | apply below_drew1 | refine below_set ?_ GE135.out) | exact HB.out))); (case aF => exact (fun k_ hk => ⟨Kd.fresh' (Kd.R_lt (by (with_reducible repeat (first | apply Kd.R_alloc | apply Kd.R_drewN | apply Kd.R_drew)); exact HO_8.out)) k_ hk, Kd.freshB (g := gb135) (o := .cells #[.slice (some ad146) l1_0.length c1_0, .slice (some ad147) l1_1.length c1_1] 25 (0, 0)) (by (with_reducible repeat (first | refine blk_drewN ?_ _ | refine blk_drew ?_ | refine blk_alloc ?_ _)); exact BK135.out) k_ hk⟩)); (case aO => exact (by (with_reducible repeat (first | apply Kd.N_alloc | apply Kd.N_drewN | apply Kd.N_drew)); exact Kd.N_mono HO_7.out (fun _ hk => ⟨hk.1.1, hk.1.2⟩))); (case aS => exact (below_size (by repeat (first | (with_reducible first | exact HB.out | apply below_alloc | apply pw_below_drewN | apply below_drew1 | refine below_set ?_ GE135.out) | exact HB.out)))); (case aL => have := LMc49.out; omega); intro v167 w55 ho hb hg hat; rw [← Ny166.out] at ho; have n0_ := Aside0.mk (Kd.R_over' (by (with_reducible repeat (first | apply Kd.R_alloc | apply Kd.R_drewN | apply Kd.R_drew)); exact HO_8.out) (Kd.N_typed (by (with_reducible repeat (first | apply Kd.N_alloc | apply Kd.N_drewN | apply Kd.N_drew)); exact HO_7.out)) (by decide) hg); have n1_ := Aside0.mk (blk_grown (g := gb135) (o := .cells #[.slice (some ad146) l1_0.length c1_0, .slice (some ad147) l1_1.length c1_1] 25 (0, 0)) (by (with_reducible repeat (first | refine blk_drewN ?_ _ | refine blk_drew ?_ | refine blk_alloc ?_ _)); exact BK135.out) hg (Kd.N_ne HO_7.out BK135.out (by decide))); have n2_ := Aside0.mk (hb); have n3_ := Aside0.mk (ho); clear HO_8; clear BK135; clear HB; clear HO_7; clear HO165; have HO_8 := n0_; have BK135 := n1_; have HB := n2_; have HO168 := n3_; clear n0_ n1_ n2_ n3_; clear ho hb hg hat))
                            go_roundg k2
                            case measure => have := HJ2.out; have := HK2.out; omega
                            case rel => exact ⟨(y166), (([] : List Int)), (wrap64 (x35_2 + 1)), (by first | rfl | (simp; done) | (simp [*]; done)), H', ⟨by have := HJ2.out; have := HK2.out; omega⟩, ⟨by (with_reducible repeat (first | apply Kd.N_alloc | apply Kd.N_drewN | apply Kd.N_drew)); exact Kd.N_mono HO168.out (fun _ hk => ⟨(by simp [Value.ownBlock]), hk.2⟩)⟩, ⟨by first | exact Kd.R_nil _ _ _ _ _ | exact Kd.N_nil _ _ _ _ _ | exact Kd.V_nil _ _ _ _ _ | exact Kd.Q_nil _ _ _ _ _ | exact Kd.S_nil _ _ _ _ _⟩, ⟨by (with_reducible repeat (first | refine blk_drewN ?_ _ | refine blk_drew ?_ | refine blk_alloc ?_ _)); exact BK135.out⟩, ⟨by repeat (first | (with_reducible first | exact HB.out | apply below_alloc | apply pw_below_drewN | apply below_drew1 | refine below_set ?_ GE135.out) | exact HB.out)⟩⟩
                          · rw [if_neg c49] at H
                            exact absurd H (by simp)
                        · rw [if_neg c48] at H
                          have c48b0 : ((y163.length : Int) == 900) = false := beq_eq_false_iff_ne.mpr c48
                          have c48b1 : ((y163.length : Int) != 900) = true := bne_iff_ne.mpr c48
                          by_cases c56 : x35_2 = (wrap64 ((l1_0.length : Int) - 1))
                          · rw [if_pos c56] at H
                            have c56b0 : (x35_2 == (wrap64 ((l1_0.length : Int) - 1))) = true := beq_iff_eq.mpr c56
                            have c56b1 : (x35_2 != (wrap64 ((l1_0.length : Int) - 1))) = false := bne_eq_false_iff_eq.mpr c56
                            clear c56
                            by_cases c57 : x7_2.length < 5864062014805
                            · rw [if_pos c57] at H
                              have LMc57 := Aside0.mk c57
                              clear c57
                              obtain ⟨y169, hy169⟩ : ∃ y_ : List (List Int), y_ = (x7_2 ++ [y163]) := ⟨_, rfl⟩
                              replace H : (state_Encode.l0 k2 (l1_0.length : Int) y169 ([] : List Int) l1_0 (l1_0.length : Int) (wrap64 (x35_2 + 1)) l1_0 l1_1) = some (r1, r2) := by first | (rw [hy169]; with_reducible exact H) | (have H2_ := (Option.bind_some _ _).symm.trans H; rw [hy169]; with_reducible exact H2_) | (have H2_ := (Option.bind_some _ _).symm.trans H; with_reducible exact H2_) | with_reducible exact H | (rw [hy169]; exact H) | exact H
                              have Ny169 := Aside0.mk hy169
                              clear hy169
                              have H' := Aside0.mk H
                              clear H
                              have p146 : 0 ≤ (x35_2 : Int) := of_decide_eq_true (by first | (with_reducible assumption) | assumption)
                              have q146 : x35_2 < (l1_0.length : Int) := of_decide_eq_true (by first | (with_reducible assumption) | assumption)
                              obtain ⟨ad146, e146, hx146_0⟩ := Kd.at_int HR1_0.out x35_2 p146 q146
                              cases e146
                              replace hx146_0 := (HB.out.cell (World.block_lt_of_cell? w _ hx146_0)).trans hx146_0
                              replace p146 := eq_true p146
                              replace q146 := eq_true q146
                              have hcz58_0 : wr.cell? ⟨gb135, 0, none⟩ = some (.slice (some ad146) l1_0.length c1_0) := (blk_cell BK135.out 0).trans rfl
                              have hcz58_1 : wr.cell? ⟨gb135, 1, none⟩ = some (.slice A1_1 l1_1.length c1_1) := (blk_cell BK135.out 1).trans rfl
                              have hfz58_0 := blk_frozen BK135.out 0
                              have hfz58_1 := blk_frozen BK135.out 1
                              have p147 : 0 ≤ (x35_2 : Int) := of_decide_eq_true (by first | (with_reducible assumption) | assumption)
                              have q147 : x35_2 < (l1_1.length : Int) := of_decide_eq_true (by first | (with_reducible assumption) | assumption)
                              obtain ⟨ad147, e147, hx147_0⟩ := Kd.at_bool HR1_1.out x35_2 p147 q147
                              (try rw [← Nbq21.out] at hx147_0)
                              cases e147
                              replace hx147_0 := (HB.out.cell (World.block_lt_of_cell? w _ hx147_0)).trans hx147_0
                              replace p147 := eq_true p147
                              replace q147 := eq_true q147
                              obtain ⟨Ao59, co59, eo59⟩ := Kd.R_slice HO_8.out
                              subst eo59
                              go_wp2_with (first | ((with_reducible refine gate_callee (f := 18) rfl ?_); refine goesL_ (some 47) rfl rfl Try.func18 (by kernel_rfl) rfl #[.slice Ao59 x8_2.length co59, .int .i64 8, .int .u64 (rd l1_0 x35_2)] rfl (by (try simp only [List.map_toArray, List.map_cons, List.map_nil]); first | done | rfl | (simp only [List.length_drop, List.length_take]; rfl)) ?_; (with_reducible refine (octets_Put.calls k2 _ _ x8_2 8 (rd l1_0 x35_2) t160 _ ?side1 ?side2 A46.out).mono ?_); (case side1 => repeat (first | exact (Kd.R_reads' HO_8.out).2.2 | (with_reducible refine Kd.C_alloc ?_ _) | (with_reducible refine Kd.C_drewN ?_ _) | (with_reducible refine Kd.C_drew ?_))); (case side2 => exact (Kd.R_reads' HO_8.out).2.1); rintro e w60 ⟨v161, rfl, ho0, hb⟩; refine ⟨_, rfl, ?_⟩; have n0_ := Aside0.mk (Kd.N_elder' (by (with_reducible repeat (first | apply Kd.N_alloc | apply Kd.N_drewN | apply Kd.N_drew)); exact HO_7.out) (Kd.R_base ho0) hb); have n1_ := Aside0.mk (Kd.R_elder' (by (with_reducible repeat (first | apply Kd.R_alloc | apply Kd.R_drewN | apply Kd.R_drew)); exact HO_8.out) (Kd.R_base ho0) hb); have n2_ := Aside0.mk (Kd.R_lower (Kd.R_new' ho0 (Kd.R_lt (by (with_reducible repeat (first | apply Kd.R_alloc | apply Kd.R_drewN | apply Kd.R_drew)); exact HO_8.out))) (below_size (by repeat (first | (with_reducible first | exact HB.out | apply below_alloc | apply pw_below_drewN | apply below_drew1 | refine below_set ?_ GE135.out) | exact HB.out)))); have n3_ := Aside0.mk (blk_below (g := gb135) (o := .cells #[.slice (some ad146) l1_0.length c1_0, .slice (some ad147) l1_1.length c1_1] 25 (0, 0)) (by (with_reducible repeat (first | refine blk_drewN ?_ _ | refine blk_drew ?_ | refine blk_alloc ?_ _)); exact BK135.out) hb); have n4_ := Aside0.mk (below_step (by repeat (first | (with_reducible first | exact HB.out | apply below_alloc | apply pw_below_drewN | apply below_drew1 | refine below_set ?_ GE135.out) | exact HB.out)) hb); clear HO_7; clear HO_8; clear BK135; clear HB; have HO_7 := n0_; have HO_8 := n1_; have HO162 := n2_; have BK135 := n3_; have HB := n4_; clear n0_ n1_ n2_ n3_ n4_; (try clear hb); (try clear hb2); (try clear hk); (try clear hi); (try clear ho0)) | ((with_reducible refine gate_builtin (b := .append) (xs := #[.tmp 47, .tmp 49]) rfl ?_); (try (refine gate_guard (by rfl) ?_; dsimp only)); at_builtin; refine Kd.R_append (Kd.int .u8) (w0 := w) w.heap.size rfl (.tmp 47) (.tmp 49) 28 5 (.int .u8 0) 1 rfl Try.underlying28 info5 rfl (by decide) (by omega) v161 t160 0 [.int .u8 0] (fun k_ => some k_ ≠ (.slice Ao59 x8_2.length co59 : Value).ownBlock) (fun _ => False) rfl rfl ?aP (fun _ hk => hk.elim) ?aF ?aO ?aB ?aS ?aL ?_; (case aP => exact rfl); (case aB => exact (by repeat (first | (with_reducible first | exact HB.out | apply below_alloc | apply pw_below_drewN | apply below_drew1 | refine below_set ?_ GE135.out) | exact HB.out))); (case aF => exact (fun k_ hk => Kd.fresh' (Kd.R_lt (by (with_reducible repeat (first | apply Kd.R_alloc | apply Kd.R_drewN | apply Kd.R_drew)); exact HO_8.out)) k_ hk)); (case aO => exact (by (with_reducible repeat (first | apply Kd.R_alloc | apply Kd.R_drewN | apply Kd.R_drew)); exact Kd.R_mono HO162.out (fun _ hk => hk.2))); (case aS => exact (below_size (by repeat (first | (with_reducible first | exact HB.out | apply below_alloc | apply pw_below_drewN | apply below_drew1 | refine below_set ?_ GE135.out) | exact HB.out)))); (case aL => have := LMc47.out; omega); intro v164 w61 ho hb hg hat; rw [← Ny163.out] at ho; have n0_ := Aside0.mk (Kd.N_afterv (ok := (fun k_ => some k_ ≠ (.slice Ao59 x8_2.length co59 : Value).ownBlock ∧ k_ ≠ gb135)) (by (with_reducible repeat (first | apply Kd.N_alloc | apply Kd.N_drewN | apply Kd.N_drew)); exact HO_7.out) hg hat); have n1_ := Aside0.mk (Kd.R_after (ok := (fun _ => True)) (by (with_reducible repeat (first | apply Kd.R_alloc | apply Kd.R_drewN | apply Kd.R_drew)); exact HO_8.out) hg hat); have n2_ := Aside0.mk (blk_grown (g := gb135) (o := .cells #[.slice (some ad146) l1_0.length c1_0, .slice (some ad147) l1_1.length c1_1] 25 (0, 0)) (by (with_reducible repeat (first | refine blk_drewN ?_ _ | refine blk_drew ?_ | refine blk_alloc ?_ _)); exact BK135.out) hg (Kd.R_ne HO162.out BK135.out (by decide))); have n3_ := Aside0.mk (hb); have n4_ := Aside0.mk (ho); clear HO_7; clear HO_8; clear BK135; clear HB; clear HO162; have HO_7 := n0_; have HO_8 := n1_; have BK135 := n2_; have HB := n3_; have HO165 := n4_; clear n0_ n1_ n2_ n3_ n4_; clear ho hb hg hat; obtain ⟨Ao62, co62, eo62⟩ := Kd.R_slice HO165.out; subst eo62) | ((with_reducible refine gate_builtin (b := .append) (xs := #[.tmp 60, .tmp 62]) rfl ?_); (try (refine gate_guard (by rfl) ?_; dsimp only)); at_builtin; refine Kd.N_append (Kd.slice 5 (Kd.int .u8)) (w0 := w) w.heap.size rfl (.tmp 60) (.tmp 62) 42 28 (.slice none 0 0) 24 rfl Try.underlying42 info28 rfl (by decide) (by omega) u7 x7_2 y163 [.slice Ao62 y163.length co62] (fun k_ => some k_ ≠ (.slice Ao59 x8_2.length co59 : Value).ownBlock ∧ k_ ≠ gb135) (fun k_ => ((fun k_ => some k_ ≠ (.slice Ao59 x8_2.length co59 : Value).ownBlock ∧ k_ ≠ gb135)) k_ ∧ some k_ ≠ (u7 : Value).ownBlock) rfl rfl ?aP (fun _ hk => hk) ?aF ?aO ?aB ?aS ?aL ?_; (case aP => exact (Kd.FK_slice_mk (Kd.R_reads' (Kd.R_mono (ok' := (fun k_ => ((fun k_ => some k_ ≠ (.slice Ao59 x8_2.length co59 : Value).ownBlock ∧ k_ ≠ gb135)) k_ ∧ some k_ ≠ (u7 : Value).ownBlock)) (Kd.R_types (Kd.R_apart' (HO165.out) (Kd.N_typed HO_7.out) (by decide)) BK135.out (by decide)) (fun k_ hk => ⟨⟨hk.1.1, hk.2⟩, hk.1.2⟩))).2.1 (Kd.R_F (Kd.R_mono (ok' := (fun k_ => ((fun k_ => some k_ ≠ (.slice Ao59 x8_2.length co59 : Value).ownBlock ∧ k_ ≠ gb135)) k_ ∧ some k_ ≠ (u7 : Value).ownBlock)) (Kd.R_types (Kd.R_apart' (HO165.out) (Kd.N_typed HO_7.out) (by decide)) BK135.out (by decide)) (fun k_ hk => ⟨⟨hk.1.1, hk.2⟩, hk.1.2⟩))))); (case aB => exact (by repeat (first | (with_reducible first | exact HB.out | apply below_alloc | apply pw_below_drewN | apply below_drew1 | refine below_set ?_ GE135.out) | exact HB.out))); (case aF => exact (fun k_ hk => ⟨Kd.fresh' (Kd.R_lt (by (with_reducible repeat (first | apply Kd.R_alloc | apply Kd.R_drewN | apply Kd.R_drew)); exact HO_8.out)) k_ hk, Kd.freshB (g := gb135) (o := .cells #[.slice (some ad146) l1_0.length c1_0, .slice (some ad147) l1_1.length c1_1] 25 (0, 0)) (by (with_reducible repeat (first | refine blk_drewN ?_ _ | refine blk_drew ?_ | refine blk_alloc ?_ _)); exact BK135.out) k_ hk⟩)); (case aO => exact (by (with_reducible repeat (first | apply Kd.N_alloc | apply Kd.N_drewN | apply Kd.N_drew)); exact Kd.N_mono HO_7.out (fun _ hk => ⟨hk.1.1, hk.1.2⟩))); (case aS => exact (below_size (by repeat (first | (with_reducible first | exact HB.out | apply below_alloc | apply pw_below_drewN | apply below_drew1 | refine below_set ?_ GE135.out) | exact HB.out)))); (case aL => have := LMc57.out; omega); intro v170 w63 ho hb hg hat; rw [← Ny169.out] at ho; have n0_ := Aside0.mk (Kd.R_over' (by (with_reducible repeat (first | apply Kd.R_alloc | apply Kd.R_drewN | apply Kd.R_drew)); exact HO_8.out) (Kd.N_typed (by (with_reducible repeat (first | apply Kd.N_alloc | apply Kd.N_drewN | apply Kd.N_drew)); exact HO_7.out)) (by decide) hg); have n1_ := Aside0.mk (blk_grown (g := gb135) (o := .cells #[.slice (some ad146) l1_0.length c1_0, .slice (some ad147) l1_1.length c1_1] 25 (0, 0)) (by (with_reducible repeat (first | refine blk_drewN ?_ _ | refine blk_drew ?_ | refine blk_alloc ?_ _)); exact BK135.out) hg (Kd.N_ne HO_7.out BK135.out (by decide))); have n2_ := Aside0.mk (hb); have n3_ := Aside0.mk (ho); clear HO_8; clear BK135; clear HB; clear HO_7; clear HO165; have HO_8 := n0_; have BK135 := n1_; have HB := n2_; have HO171 := n3_; clear n0_ n1_ n2_ n3_; clear ho hb hg hat))
                              go_roundg k2
                              case measure => have := HJ2.out; have := HK2.out; omega
                              case rel => exact ⟨(y169), (([] : List Int)), (wrap64 (x35_2 + 1)), (by first | rfl | (simp; done) | (simp [*]; done)), H', ⟨by have := HJ2.out; have := HK2.out; omega⟩, ⟨by (with_reducible repeat (first | apply Kd.N_alloc | apply Kd.N_drewN | apply Kd.N_drew)); exact Kd.N_mono HO171.out (fun _ hk => ⟨(by simp [Value.ownBlock]), hk.2⟩)⟩, ⟨by first | exact Kd.R_nil _ _ _ _ _ | exact Kd.N_nil _ _ _ _ _ | exact Kd.V_nil _ _ _ _ _ | exact Kd.Q_nil _ _ _ _ _ | exact Kd.S_nil _ _ _ _ _⟩, ⟨by (with_reducible repeat (first | refine blk_drewN ?_ _ | refine blk_drew ?_ | refine blk_alloc ?_ _)); exact BK135.out⟩, ⟨by repeat (first | (with_reducible first | exact HB.out | apply below_alloc | apply pw_below_drewN | apply below_drew1 | refine below_set ?_ GE135.out) | exact HB.out)⟩⟩
                            · rw [if_neg c57] at H
                              exact absurd H (by simp)
                          · rw [if_neg c56] at H
                            have c56b0 : (x35_2 == (wrap64 ((l1_0.length : Int) - 1))) = false := beq_eq_false_iff_ne.mpr c56
                            have c56b1 : (x35_2 != (wrap64 ((l1_0.length : Int) - 1))) = true := bne_iff_ne.mpr c56
                            have H' := Aside0.mk H
                            clear H
                            have p146 : 0 ≤ (x35_2 : Int) := of_decide_eq_true (by first | (with_reducible assumption) | assumption)
                            have q146 : x35_2 < (l1_0.length : Int) := of_decide_eq_true (by first | (with_reducible assumption) | assumption)
                            obtain ⟨ad146, e146, hx146_0⟩ := Kd.at_int HR1_0.out x35_2 p146 q146
                            cases e146
                            replace hx146_0 := (HB.out.cell (World.block_lt_of_cell? w _ hx146_0)).trans hx146_0
                            replace p146 := eq_true p146
                            replace q146 := eq_true q146
                            have hcz64_0 : wr.cell? ⟨gb135, 0, none⟩ = some (.slice (some ad146) l1_0.length c1_0) := (blk_cell BK135.out 0).trans rfl
                            have hcz64_1 : wr.cell? ⟨gb135, 1, none⟩ = some (.slice A1_1 l1_1.length c1_1) := (blk_cell BK135.out 1).trans rfl
                            have hfz64_0 := blk_frozen BK135.out 0
                            have hfz64_1 := blk_frozen BK135.out 1
                            have p147 : 0 ≤ (x35_2 : Int) := of_decide_eq_true (by first | (with_reducible assumption) | assumption)
                            have q147 : x35_2 < (l1_1.length : Int) := of_decide_eq_true (by first | (with_reducible assumption) | assumption)
                            obtain ⟨ad147, e147, hx147_0⟩ := Kd.at_bool HR1_1.out x35_2 p147 q147
                            (try rw [← Nbq21.out] at hx147_0)
                            cases e147
                            replace hx147_0 := (HB.out.cell (World.block_lt_of_cell? w _ hx147_0)).trans hx147_0
                            replace p147 := eq_true p147
                            replace q147 := eq_true q147
                            obtain ⟨Ao65, co65, eo65⟩ := Kd.R_slice HO_8.out
                            subst eo65
                            go_wp2_with (first | ((with_reducible refine gate_callee (f := 18) rfl ?_); refine goesL_ (some 47) rfl rfl Try.func18 (by kernel_rfl) rfl #[.slice Ao65 x8_2.length co65, .int .i64 8, .int .u64 (rd l1_0 x35_2)] rfl (by (try simp only [List.map_toArray, List.map_cons, List.map_nil]); first | done | rfl | (simp only [List.length_drop, List.length_take]; rfl)) ?_; (with_reducible refine (octets_Put.calls k2 _ _ x8_2 8 (rd l1_0 x35_2) t160 _ ?side1 ?side2 A46.out).mono ?_); (case side1 => repeat (first | exact (Kd.R_reads' HO_8.out).2.2 | (with_reducible refine Kd.C_alloc ?_ _) | (with_reducible refine Kd.C_drewN ?_ _) | (with_reducible refine Kd.C_drew ?_))); (case side2 => exact (Kd.R_reads' HO_8.out).2.1); rintro e w66 ⟨v161, rfl, ho0, hb⟩; refine ⟨_, rfl, ?_⟩; have n0_ := Aside0.mk (Kd.N_elder' (by (with_reducible repeat (first | apply Kd.N_alloc | apply Kd.N_drewN | apply Kd.N_drew)); exact HO_7.out) (Kd.R_base ho0) hb); have n1_ := Aside0.mk (Kd.R_elder' (by (with_reducible repeat (first | apply Kd.R_alloc | apply Kd.R_drewN | apply Kd.R_drew)); exact HO_8.out) (Kd.R_base ho0) hb); have n2_ := Aside0.mk (Kd.R_lower (Kd.R_new' ho0 (Kd.R_lt (by (with_reducible repeat (first | apply Kd.R_alloc | apply Kd.R_drewN | apply Kd.R_drew)); exact HO_8.out))) (below_size (by repeat (first | (with_reducible first | exact HB.out | apply below_alloc | apply pw_below_drewN | apply below_drew1 | refine below_set ?_ GE135.out) | exact HB.out)))); have n3_ := Aside0.mk (blk_below (g := gb135) (o := .cells #[.slice (some ad146) l1_0.length c1_0, .slice (some ad147) l1_1.length c1_1] 25 (0, 0)) (by (with_reducible repeat (first | refine blk_drewN ?_ _ | refine blk_drew ?_ | refine blk_alloc ?_ _)); exact BK135.out) hb); have n4_ := Aside0.mk (below_step (by repeat (first | (with_reducible first | exact HB.out | apply below_alloc | apply pw_below_drewN | apply below_drew1 | refine below_set ?_ GE135.out) | exact HB.out)) hb); clear HO_7; clear HO_8; clear BK135; clear HB; have HO_7 := n0_; have HO_8 := n1_; have HO162 := n2_; have BK135 := n3_; have HB := n4_; clear n0_ n1_ n2_ n3_ n4_; (try clear hb); (try clear hb2); (try clear hk); (try clear hi); (try clear ho0)) | ((with_reducible refine gate_builtin (b := .append) (xs := #[.tmp 47, .tmp 49]) rfl ?_); (try (refine gate_guard (by rfl) ?_; dsimp only)); at_builtin; refine Kd.R_append (Kd.int .u8) (w0 := w) w.heap.size rfl (.tmp 47) (.tmp 49) 28 5 (.int .u8 0) 1 rfl Try.underlying28 info5 rfl (by decide) (by omega) v161 t160 0 [.int .u8 0] (fun k_ => some k_ ≠ (.slice Ao65 x8_2.length co65 : Value).ownBlock) (fun _ => False) rfl rfl ?aP (fun _ hk => hk.elim) ?aF ?aO ?aB ?aS ?aL ?_; (case aP => exact rfl); (case aB => exact (by repeat (first | (with_reducible first | exact HB.out | apply below_alloc | apply pw_below_drewN | apply below_drew1 | refine below_set ?_ GE135.out) | exact HB.out))); (case aF => exact (fun k_ hk => Kd.fresh' (Kd.R_lt (by (with_reducible repeat (first | apply Kd.R_alloc | apply Kd.R_drewN | apply Kd.R_drew)); exact HO_8.out)) k_ hk)); (case aO => exact (by (with_reducible repeat (first | apply Kd.R_alloc | apply Kd.R_drewN | apply Kd.R_drew)); exact Kd.R_mono HO162.out (fun _ hk => hk.2))); (case aS => exact (below_size (by repeat (first | (with_reducible first | exact HB.out | apply below_alloc | apply pw_below_drewN | apply below_drew1 | refine below_set ?_ GE135.out) | exact HB.out)))); (case aL => have := LMc47.out; omega); intro v164 w67 ho hb hg hat; rw [← Ny163.out] at ho; have n0_ := Aside0.mk (Kd.N_afterv (ok := (fun k_ => some k_ ≠ (.slice Ao65 x8_2.length co65 : Value).ownBlock ∧ k_ ≠ gb135)) (by (with_reducible repeat (first | apply Kd.N_alloc | apply Kd.N_drewN | apply Kd.N_drew)); exact HO_7.out) hg hat); have n1_ := Aside0.mk (Kd.R_after (ok := (fun _ => True)) (by (with_reducible repeat (first | apply Kd.R_alloc | apply Kd.R_drewN | apply Kd.R_drew)); exact HO_8.out) hg hat); have n2_ := Aside0.mk (blk_grown (g := gb135) (o := .cells #[.slice (some ad146) l1_0.length c1_0, .slice (some ad147) l1_1.length c1_1] 25 (0, 0)) (by (with_reducible repeat (first | refine blk_drewN ?_ _ | refine blk_drew ?_ | refine blk_alloc ?_ _)); exact BK135.out) hg (Kd.R_ne HO162.out BK135.out (by decide))); have n3_ := Aside0.mk (hb); have n4_ := Aside0.mk (ho); clear HO_7; clear HO_8; clear BK135; clear HB; clear HO162; have HO_7 := n0_; have HO_8 := n1_; have BK135 := n2_; have HB := n3_; have HO165 := n4_; clear n0_ n1_ n2_ n3_ n4_; clear ho hb hg hat; obtain ⟨Ao68, co68, eo68⟩ := Kd.R_slice HO165.out; subst eo68))
                            go_roundg k2
                            case measure => have := HJ2.out; have := HK2.out; omega
                            case rel => exact ⟨(x7_2), (y163), (wrap64 (x35_2 + 1)), (by first | rfl | (simp; done) | (simp [*]; done)), H', ⟨by have := HJ2.out; have := HK2.out; omega⟩, ⟨by (with_reducible repeat (first | apply Kd.N_alloc | apply Kd.N_drewN | apply Kd.N_drew)); exact Kd.N_mono HO_7.out (fun _ hk => ⟨hk.2, hk.1.2⟩)⟩, ⟨by (with_reducible repeat (first | apply Kd.R_alloc | apply Kd.R_drewN | apply Kd.R_drew)); exact Kd.R_mono HO165.out (fun _ hk => trivial)⟩, ⟨by (with_reducible repeat (first | refine blk_drewN ?_ _ | refine blk_drew ?_ | refine blk_alloc ?_ _)); exact BK135.out⟩, ⟨by repeat (first | (with_reducible first | exact HB.out | apply below_alloc | apply pw_below_drewN | apply below_drew1 | refine below_set ?_ GE135.out) | exact HB.out)⟩⟩
                      · rw [if_neg c47] at H
                        exact absurd H (by simp)
                  · rw [if_neg c20] at H
                    exact absurd H (by simp)
                · rw [if_neg c19] at H
                  exact absurd H (by simp)
              · rw [if_neg c18] at H
                exact absurd H (by simp)
            · rw [if_neg c17] at H
              have c17b0 : decide (x35_2 < (l1_0.length : Int)) = false := decide_eq_false c17
              clear c17
              replace H := Option.bind_eq_some_iff.mp H
              obtain ⟨⟨t142, t143⟩, A690, H⟩ := H
              replace H : (some (t142, t143)) = some (r1, r2) := H
              have A69 := Aside0.mk A690
              clear A690
              simp only [Option.some.injEq, Prod.mk.injEq] at H
              obtain ⟨rfl, rfl⟩ := H
              obtain ⟨Ao70, co70, eo70⟩ := Kd.N_slice HO_7.out
              subst eo70
              go_wp2_with (first | ((with_reducible refine gate_callee (f := 19) rfl ?_); refine goesL_ (some 66) rfl rfl Try.func19 (by kernel_rfl) rfl #[.slice Ao70 x7_2.length co70] rfl (by (try simp only [List.map_toArray, List.map_cons, List.map_nil]); first | done | rfl | (simp only [List.length_drop, List.length_take]; rfl)) ?_; (with_reducible refine (block_Join.calls k2 _ _ x7_2 t142 t143 _ ?side1 ?side2 A69.out).mono ?_); (case side1 => repeat (first | exact (Kd.N_reads' HO_7.out).2.2 | (with_reducible refine Kd.C_alloc ?_ _) | (with_reducible refine Kd.C_drewN ?_ _) | (with_reducible refine Kd.C_drew ?_))); (case side2 => exact (Kd.N_reads' HO_7.out).2.1); rintro e w71 ⟨v144, rfl, ho0, hb⟩; refine ⟨_, rfl, ?_⟩; have n0_ := Aside0.mk (Kd.N_elder' (by (with_reducible repeat (first | apply Kd.N_alloc | apply Kd.N_drewN | apply Kd.N_drew)); exact HO_7.out) (Kd.R_base ho0) hb); have n1_ := Aside0.mk (Kd.R_elder' (by (with_reducible repeat (first | apply Kd.R_alloc | apply Kd.R_drewN | apply Kd.R_drew)); exact HO_8.out) (Kd.R_base ho0) hb); have n2_ := Aside0.mk (Kd.R_lower (Kd.R_new' ho0 (Kd.R_lt (by (with_reducible repeat (first | apply Kd.R_alloc | apply Kd.R_drewN | apply Kd.R_drew)); exact HO_8.out))) (below_size (by repeat (first | (with_reducible first | exact HB.out | apply below_alloc | apply pw_below_drewN | apply below_drew1 | refine below_set ?_ GE135.out) | exact HB.out)))); have n3_ := Aside0.mk (blk_below (g := gb135) (o := .cells #[.slice A1_0 l1_0.length c1_0, .slice A1_1 l1_1.length c1_1] 25 (0, 0)) (by (with_reducible repeat (first | refine blk_drewN ?_ _ | refine blk_drew ?_ | refine blk_alloc ?_ _)); exact BK135.out) hb); have n4_ := Aside0.mk (below_step (by repeat (first | (with_reducible first | exact HB.out | apply below_alloc | apply pw_below_drewN | apply below_drew1 | refine below_set ?_ GE135.out) | exact HB.out)) hb); clear HO_7; clear HO_8; clear BK135; clear HB; have HO_7 := n0_; have HO_8 := n1_; have HO145 := n2_; have BK135 := n3_; have HB := n4_; clear n0_ n1_ n2_ n3_ n4_; (try clear hb); (try clear hb2); (try clear hk); (try clear hi); (try clear ho0)))
              go_ret2
              exact ⟨_, by first | rfl | (simp [errW_none, errW_some] <;> rfl) | (simp [*, errW_none, errW_some] <;> rfl), by (with_reducible repeat (first | apply Kd.R_alloc | apply Kd.R_drewN | apply Kd.R_drew)); exact Kd.R_mono HO145.out (fun _ hk => trivial), by repeat (first | (with_reducible first | exact HB.out | apply below_alloc | apply pw_below_drewN | apply below_drew1 | refine below_set ?_ GE135.out) | exact HB.out)⟩

-- NOT PRINTED: function 33 (slices_Backward_byte_byte)

/-! ### octets_Get: function 23 -/
/-- What has come when k rounds are over, from the last on. -/
def octets_Get.come (zs : List Int) (k : Nat) : List (Int × Int) := (List.range k).map fun (j : Nat) => ((zs.length : Int) - 1 - j, zs.getD (zs.length - 1 - j) 0)
theorem octets_Get.come_succ (zs : List Int) (k : Nat) : octets_Get.come zs (k + 1) = octets_Get.come zs k ++ [((zs.length : Int) - 1 - k, zs.getD (zs.length - 1 - k) 0)] := by simp [octets_Get.come, List.range_succ]
theorem octets_Get.come_length (zs : List Int) (k : Nat) : (octets_Get.come zs k).length = k := by simp [octets_Get.come]

/-- What a round must keep: what lay, and the iterator's own box. -/
def octets_Get.Kp (n₀ Bs : Nat) (A B : World) : Prop := Below n₀ A B ∧ ∀ v, A.cell? ⟨Bs, 0, none⟩ = some v → B.cell? ⟨Bs, 0, none⟩ = some v
theorem octets_Get.Kp_t {n₀ Bs : Nat} {A B C : World} (h : octets_Get.Kp n₀ Bs A B) (k : octets_Get.Kp n₀ Bs B C) : octets_Get.Kp n₀ Bs A C := ⟨h.1.trans k.1, fun v hv => k.2 v (h.2 v hv)⟩
theorem octets_Get.Kp_b {n₀ Bs : Nat} {w : World} (hn : n₀ ≤ w.heap.size) (W : World) (l : Nat) (o o' : Obj) (hl : w.heap.size ≤ l) (h : W.heap[l]? = some o) (hc : o.isCells = false) (hw : o.isWalk = false) : octets_Get.Kp n₀ Bs W (W.putObj l o') :=
  ⟨belowK_b hn W l o o' hl h hc hw, fun v hv => cell_kept hv (grownBy_putObj' W l o') (fun r e => by cases e; exact ⟨_, h, hc⟩)⟩

section
attribute [local go_sem] Oper.semAt_some

set_option maxRecDepth 100000 in
set_option maxHeartbeats 2000000 in
theorem octets_Get.back1 (F : Fence) (n : Nat) (h25 : F.fn 38) (hro : F.round = none) (hn : 1 ≤ n) (l Bs n₀ cap len : Nat) (ad : Addr) (zs : List Int) (hlen : zs.length = len) (hreach : len ≤ 140737488351232) (hb : ad.block < n₀) (J Jx : List (Int × Int) → World → Prop)
    (hY : ∀ pre x W, J pre W → pre.length < len → YieldAt F (n - 1) Try.prog l #[.int .i64 x.1, .int .u8 x.2] W fun e W' =>
      (e = .returned (.bool true) ∧ J (pre ++ [x]) W' ∧ octets_Get.Kp n₀ Bs W W') ∨ (e = .returned (.bool false) ∧ Jx (pre ++ [x]) W'))
    (W : World) (hBs : W.cell? ⟨Bs, 0, none⟩ = some (.slice (some ad) len cap)) (hc : ∀ j, j < len → W.cell? (ad.add j) = some (.int .u8 (zs.getD j 0))) (h0 : J [] W) :
    CallsIn F n Try.prog 38 #[.func (.yield l) #[] #[], .pointer (some ⟨Bs, 0, none⟩)] W fun e W' => (∃ v, e = .returned v) ∧
      ((∃ ys, ys = octets_Get.come zs len ∧ J ys W') ∨ (∃ pre, (∃ k, k ≤ len ∧ pre = octets_Get.come zs k) ∧ Jx pre W')) := by
  refine callsIn_of_wp Try.func38 rfl h25 ?_ hro
  simp only [Try.ntmps38, List.size_toArray, List.length_cons, List.length_nil, Nat.reduceAdd, Nat.reduceSub, Array.replicate_succ, Array.replicate_zero, List.push_toArray, List.append_toArray, List.nil_append, List.cons_append]
  have hw1 : IntKind.i64.wrap ((len : Int) - 1) = (len : Int) - 1 := IntWalk.i64_in _ (by omega)
  gi_wp2
  gi_loopw [3] (fun i wr => ∃ (k : Nat) (x : Int), k ≤ len ∧ Aside0 (x = (len : Int) - 1 - k) ∧ -1 ≤ x ∧ x < len ∧ i = .int .i64 x ∧ J (octets_Get.come zs k) wr ∧ Aside0 (octets_Get.Kp n₀ Bs W wr))
    (fun i _ => (intOf i + 1).toNat)
  case atStart => exact ⟨0, (len : Int) - 1, Nat.zero_le _, ⟨by simp⟩, by omega, by omega, by simp, by simpa [octets_Get.come] using h0, ⟨Below.refl _ _, fun _ h => h⟩⟩
  case round =>
    obtain ⟨k, x, hk, hx, hx0, hx1, rfl, hJs, hnx⟩ := hrel
    have hBx := hnx.out.2 _ hBs
    have HJ := Aside0.mk hJs
    clear hJs
    by_cases hlt : 0 ≤ x
    · obtain ⟨v, hv⟩ : ∃ v, v = zs.getD (len - 1 - k) 0 := ⟨_, rfl⟩
      obtain ⟨fn, tmps, assign, body, hy, hR⟩ := hY _ (x, v) wr HJ.out (by rw [octets_Get.come_length]; have := hx.out; omega)
      dsimp only at hy
      have hcx : wr.cell? (ad.add x.toNat) = some (.int .u8 v) := by
        rw [hv, show x.toNat = len - 1 - k by have := hx.out; omega]
        exact (hnx.out.1.cell (p := ad.add (len - 1 - k)) (by rw [add_block]; exact hb)).trans (hc _ (by have := hx.out; omega))
      have HV := Aside0.mk hv
      clear hv hc
      have hw2 : IntKind.i64.wrap (x - 1) = x - 1 := IntWalk.i64_in _ (by omega)
      have hl2 : x.toNat < len := by omega
      gi_wp2
      refine hR.mono ?_
      rintro e W3 (⟨rfl, hJ3, hk3⟩ | ⟨rfl, hJx3⟩)
      · have hBy := hk3.2 _ hBx
        have HK3 := Aside0.mk hk3
        clear hk3
        gi_wp2
        go_roundw
        case rel => exact ⟨k + 1, x - 1, by have := hx.out; omega, ⟨by have := hx.out; omega⟩, by omega, by omega, rfl, by
          rw [octets_Get.come_succ, hlen, ← hx.out, ← HV.out]; exact hJ3, ⟨octets_Get.Kp_t hnx.out HK3.out⟩⟩
        case measure => simp [intOf]; omega
      · gi_wp2
        refine bodyPost_ret (results_none rfl _ _ _) rfl ?_
        exact ⟨⟨_, rfl⟩, .inr ⟨_, ⟨k + 1, by have := hx.out; omega, by rw [octets_Get.come_succ, hlen, ← hx.out, ← HV.out]⟩, hJx3⟩⟩
    · obtain rfl : k = len := by have := hx.out; omega
      gi_wp2
      go_end0
      exact ⟨⟨_, rfl⟩, .inl HJ.out⟩

set_option maxRecDepth 100000 in
set_option maxHeartbeats 1000000 in
/-- .. of no bytes: no round. -/
theorem octets_Get.back0 (F : Fence) (n : Nat) (h25 : F.fn 38) (hro : F.round = none) (l Bs c : Nat) (A : Option Addr) (J : List (Int × Int) → World → Prop) (W : World) (hBs : W.cell? ⟨Bs, 0, none⟩ = some (.slice A 0 c)) (h0 : J [] W) :
    CallsIn F n Try.prog 38 #[.func (.yield l) #[] #[], .pointer (some ⟨Bs, 0, none⟩)] W fun e W' => (∃ v, e = .returned v) ∧ J [] W' := by
  refine callsIn_of_wp Try.func38 rfl h25 ?_ hro
  simp only [Try.ntmps38, List.size_toArray, List.length_cons, List.length_nil, Nat.reduceAdd, Nat.reduceSub, Array.replicate_succ, Array.replicate_zero, List.push_toArray, List.append_toArray, List.nil_append, List.cons_append]
  gi_wp2
  gi_loopw [3] (fun i wr => i = .int .i64 (-1) ∧ J [] wr) (fun _ _ => 0)
  case atStart => exact ⟨by simp, h0⟩
  case round =>
    obtain ⟨rfl, hJs⟩ := hrel
    gi_wp2
    go_end0
    exact ⟨⟨_, rfl⟩, hJs⟩

set_option maxHeartbeats 1000000 in
theorem octets_Get.back (F : Fence) (n : Nat) (h24 : F.fn 33) (hro : F.round = none) (a : Option Addr) (len cap : Nat) (w : World) :
    CallsIn F n Try.prog 33 #[.slice a len cap] w fun e w' => e = .returned (.func (.func 38) #[] #[.pointer (some ⟨w.heap.size, 0, none⟩)]) ∧ w' = w.alloc (.cells #[.slice a len cap] 28) := by
  refine callsIn_of_wp Try.func33 rfl h24 ?_ hro
  simp only [Try.ntmps33, List.size_toArray, List.length_cons, List.length_nil, Nat.reduceAdd, Nat.reduceSub, Array.replicate_succ, Array.replicate_zero, List.push_toArray, List.append_toArray, List.nil_append, List.cons_append]
  gi_wp2
  go_ret
  exact ⟨rfl, rfl⟩

theorem octets_Get.stops (F : Fence) (n : Nat) (h25 : F.fn 38) (hro : F.round = none) (hn : 1 ≤ n) (Bs n₀ cap : Nat) (A : Option Addr) (zs : List Int) (w : World) (hBs : Bs < w.heap.size) (hn₀ : n₀ ≤ w.heap.size) (hreach : zs.length ≤ 140737488351232)
    (hc : w.cell? ⟨Bs, 0, none⟩ = some (.slice A zs.length cap)) (hcs : ∀ W, Below n₀ w W → Kd.C (Kd.int .u8) W A zs.length zs) (hlt : ∀ ad, A = some ad → ad.block < n₀) :
    SeqStopsK F n Try.prog 38 #[.pointer (some ⟨Bs, 0, none⟩)] (fun x : Int × Int => #[Value.int .i64 x.1, Value.int .u8 x.2]) (octets_Get.Kp n₀ Bs) (fun ys => ys = octets_Get.come zs zs.length)
      (fun pre => ∃ k, k ≤ zs.length ∧ pre = octets_Get.come zs k) zs.length w := fun l J Jx W hW _ _ hY h0 => by
  have hc' := (hW.cell (p := ⟨Bs, 0, none⟩) hBs).trans hc
  by_cases hz : 0 < zs.length
  · have hC := hcs W (hW.mono hn₀)
    obtain ⟨ad, rfl, hcell⟩ := hC.2.2 hz
    refine octets_Get.back1 F n h25 hro hn l Bs n₀ cap zs.length ad zs rfl hreach (hlt ad rfl) J Jx hY W hc' (fun j hj => ?_) h0
    obtain ⟨c, hl, hk, hcc⟩ := hcell j _ (List.getElem?_eq_getElem hj)
    have hk' : c = [.int .u8 zs[j]] := hk
    have := hcc 0 (.int .u8 zs[j]) (by rw [hk']; rfl)
    rw [List.getD_eq_getElem?_getD, List.getElem?_eq_getElem hj]
    simpa [Kd.int, Kd.scalar] using this
  · have hz0 : zs = [] := List.eq_nil_of_length_eq_zero (by omega)
    subst hz0
    exact (octets_Get.back0 F n h25 hro l Bs cap A J W hc' h0).mono fun e W' ⟨he, hj⟩ => ⟨he, .inl ⟨_, rfl, by simpa [octets_Get.come] using hj⟩⟩

/-- One byte more, ahead of those behind it. -/
def octets_Get.step (n c : Int) : Int := Go.bits .or .u64 (IntKind.u64.wrap (n * 256)) (IntKind.u64.wrap c)
/-- The number of bytes, the lowest first. -/
def octets_Get.num (l : List Int) : Int := l.reverse.foldl octets_Get.step 0
def octets_Get.f (l0 : List Int) (a1 a2 : Int) : Option (Int × Bool) :=
  if a2 < 1 ∨ 8 < a2 ∨ a1 < 0 ∨ (l0.length : Int) - a2 < a1 then some (0, false) else some (octets_Get.num ((l0.take (a1 + a2).toNat).drop a1.toNat), true)
def octets_Get.sofar (pre : List (Int × Int)) : Int := pre.foldl (fun n x => octets_Get.step n x.2) 0
theorem octets_Get.sofar_snoc (pre : List (Int × Int)) (x : Int × Int) : octets_Get.sofar (pre ++ [x]) = octets_Get.step (octets_Get.sofar pre) x.2 := by simp [octets_Get.sofar]
theorem octets_Get.sofar_come (zs : List Int) : octets_Get.sofar (octets_Get.come zs zs.length) = octets_Get.num zs := by
  have e : zs.reverse = (octets_Get.come zs zs.length).map Prod.snd := by
    apply List.ext_getElem
    · simp [octets_Get.come]
    · intro i h1 h2
      have hi : i < zs.length := by simpa using h1
      simp only [octets_Get.come, List.getElem_reverse, List.map_map, List.getElem_map, List.getElem_range, Function.comp_apply]
      rw [List.getD_eq_getElem?_getD, List.getElem?_eq_getElem (by omega)]
      rfl
  unfold octets_Get.num octets_Get.sofar
  rw [e, List.foldl_map]

set_option maxRecDepth 100000 in
set_option maxHeartbeats 2000000 in
theorem octets_Get.ok (A0 : Option Addr) (c0 : Nat) (l0 : List Int) (a1 a2 : Int) (w : World) (hr0 : Kd.C (Kd.int .u8) w A0 l0.length l0) (hc0 : l0.length ≤ c0) (h1 : 1 ≤ a2) (h2 : a2 ≤ 8) (h3 : 0 ≤ a1) (h4 : a1 + a2 ≤ l0.length) :
    Calls Try.prog 23 #[.slice A0 l0.length c0, .int .i64 a1, .int .i64 a2] w fun e w' => e = .returned (.tuple #[.int .u64 (octets_Get.num ((l0.take (a1 + a2).toNat).drop a1.toNat)), .bool true]) ∧ Below w.heap.size w w' := by
  have hb0 := hr0.2.1
  obtain ⟨i0, hi0, _, hsz0, _⟩ := info_parts info5
  obtain ⟨A', hcut, hA, hC⟩ := print_mid_of (P := Try.prog) (Value.int .u8) 0 28 5 .i64 .i64 Try.underlying28 hi0 hsz0 A0 c0 l0 a1 (a1 + a2) h3 (by omega) h4 hc0
  have hR : Kd.C (Kd.int .u8) w A' ((l0.take (a1 + a2).toNat).drop a1.toNat).length ((l0.take (a1 + a2).toNat).drop a1.toNat) := Kd.C_of_reads (h1 := fun _ => rfl) (hA w (Kd.reads_of_C hr0))
  have hl : ((l0.take (a1 + a2).toNat).drop a1.toNat).length = a2.toNat := by rw [List.length_drop, List.length_take]; omega
  generalize (l0.take (a1 + a2).toNat).drop a1.toNat = zs at hcut hR hl ⊢
  have hlt : ∀ ad, A' = some ad → ad.block < w.heap.size := by
    intro ad e
    obtain ⟨ad', e', hcc⟩ := hR.2.2 (by omega)
    obtain rfl : ad = ad' := by rw [e] at e'; exact Option.some.inj e'
    obtain ⟨c, hcl, hk, hcell⟩ := hcc 0 _ (List.getElem?_eq_getElem (by omega))
    have hk' : c = [.int .u8 zs[0]] := hk
    have := World.block_lt_of_cell? w _ (hcell 0 (.int .u8 zs[0]) (by rw [hk']; rfl))
    rwa [add_block] at this
  clear hA hr0 hi0 hsz0 hC
  have HR := Aside0.mk hR
  have HL := Aside0.mk hl
  have HLT := Aside0.mk hlt
  clear hR hl hlt
  have hw1 : IntKind.i64.wrap (a1 + a2) = a1 + a2 := IntWalk.i64_in _ (by omega)
  have hw2 : IntKind.i64.wrap ((l0.length : Int) - a2) = (l0.length : Int) - a2 := IntWalk.i64_in _ (by omega)
  have d1 : decide (a2 < 1) = false := by simp; omega
  have d2 : decide (8 < a2) = false := by simp; omega
  have d3 : decide (a1 < 0) = false := by simp; omega
  have d4 : decide ((l0.length : Int) - a2 < a1) = false := by simp; omega
  refine (callsIn_wide (n := 6)).1 ?_
  refine callsIn_of_wp_marks Try.func23 rfl trivial ?_ rfl
  simp only [Try.ntmps23, List.size_toArray, List.length_cons, List.length_nil, Nat.reduceAdd, Nat.reduceSub, Array.replicate_succ, Array.replicate_zero, List.push_toArray, List.append_toArray, List.nil_append, List.cons_append]
  gi_wp2_with (refine ⟨trivial, ?_⟩; gi_at_call 33; refine (octets_Get.back Fence.wide _ trivial rfl _ _ _ _).mono ?_; rintro e w' ⟨rfl, rfl⟩)
  have bS := Boxed.new w 39 (.int .u64 0)
  have bN := Boxed.new (w.alloc (.cells #[.int .u64 0] 39)) 28 (.slice A' zs.length (c0 - a1.toNat))
  rw [World.size_alloc] at bN
  have hB0 : Below w.heap.size w ((w.alloc (.cells #[.int .u64 0] 39)).alloc (.cells #[.slice A' zs.length (c0 - a1.toNat)] 28)) := ((Below.refl _ w).alloc (Nat.le_refl _) _).alloc (by simp) _
  refine wpIn_rangeFunc_ownG (F := Fence.wide) rfl (by decide) (gf := 38) (lb := #[.pointer (some ⟨w.heap.size + 1, 0, none⟩)]) rfl trivial (enters_of Try.func38 (by kernel_rfl) rfl)
    (octets_Get.stops Fence.wide (6 - 1) trivial rfl (by decide) (w.heap.size + 1) w.heap.size (c0 - a1.toNat) A' zs _ (by simp) (by simp; omega) (by have := HL.out; omega) bN.cell (fun W hW => Kd.C_below HR.out (hB0.trans hW)) HLT.out) octets_Get.Kp_t (octets_Get.Kp_b (by simp; omega)) (Below.refl _ _) (fun _ => rfl)
    (fun pre W => (W.cell? ⟨w.heap.size, 0, none⟩ = some (.int .u64 (octets_Get.sofar pre)) ∧ W.frozen? ⟨w.heap.size, 0, none⟩ = false) ∧ Below w.heap.size w W)
    (fun _ _ _ => False)
    (OwnFrom.and (Own.from (fun s A B row hs hg hr => ⟨cell_kept hs.1 hg hr, (frozen_kept hs.1 hg hr).trans hs.2⟩) _) (ownFrom_below (Nat.le_refl _) (by simp; omega)))
    (fun _ _ _ _ _ hs _ _ => hs)
    ⟨⟨(bS.alloc _).cell, (bS.alloc _).frozen⟩, hB0⟩
    (fun x => { tmps := #[Value.slice A0 l0.length c0, Value.int IntKind.i64 a1, Value.int IntKind.i64 a2, undef, undef, undef,
                Value.int IntKind.u64 0, Value.bool false, Value.pointer (some { block := w.heap.size, off := 0 }),
                undef, .int .u8 x.2, Value.int IntKind.i64 a2, Value.bool false, Value.bool false, Value.int IntKind.i64 a2,
                Value.bool false, Value.bool false, Value.bool false, Value.int IntKind.i64 a1, Value.bool false,
                Value.bool false, Value.bool false, Value.int IntKind.i64 a1, Value.slice A0 l0.length c0,
                Value.int IntKind.i64 l0.length, Value.int IntKind.i64 a2, Value.int IntKind.i64 ((l0.length : Int) - a2),
                Value.bool false, Value.bool false, Value.slice A0 l0.length c0, Value.int IntKind.i64 a1,
                Value.int IntKind.i64 a1, Value.int IntKind.i64 a2, Value.int IntKind.i64 (a1 + a2),
                Value.slice A' zs.length (c0 - a1.toNat), .func (.func 38) #[] #[.pointer (some ⟨w.heap.size + 1, 0, none⟩)], .int .i64 x.1, .int .u8 x.2, undef, undef, undef, undef, undef, undef], defers := [] }) ?assign ?body ?done ?stop
  case assign =>
    intro l x W K hK
    gi_wp2
    exact hK
  case body =>
    rintro l pre x W ⟨⟨hc, hf⟩, hB⟩ _
    gi_wp2
    exact ⟨(KeepsOthers.setCell _ _ _).from _, ⟨(Below.refl w.heap.size W).setCell (p := ⟨w.heap.size, 0, none⟩) (Nat.le_refl _) _, fun v hv => by
      rw [← hv]; exact World.cell?_of_block (Below.heap_setCell W ⟨w.heap.size, 0, none⟩ _ (w.heap.size + 1) (by simp))⟩,
      ⟨by rw [octets_Get.sofar_snoc]; exact World.cell?_setCell_same' _ _ _ (by rw [hc]; rfl), by rw [World.frozen?_setCell]; exact hf⟩, hB.setCell (p := ⟨w.heap.size, 0, none⟩) (Nat.le_refl _) _⟩
  case done =>
    rintro D ys W hD rfl ⟨⟨hc, _⟩, hB⟩ hK
    gi_wp2
    refine ⟨by simp, .inl ⟨_, _, rfl, run_takeDeferred hK, ?_⟩⟩
    refine ⟨_, results_tmp2 rfl _ _ _, ?_, hB.trans (belowK_b (w := w) (Nat.le_refl _) W D _ _ (by simp at hD; omega) hK rfl rfl)⟩
    rw [octets_Get.sofar_come]; rfl
  case stop =>
    rintro D c pre W _ _ h _
    exact h.elim
end

set_option maxHeartbeats 1000000 in
theorem octets_Get.calls (A0 : Option Addr) (c0 : Nat) (l0 : List Int) (a1 : Int) (a2 : Int) (r1 : Int) (r2 : Bool) (w : World) (hr0 : Kd.C (Kd.int .u8) w A0 l0.length l0) (hc0 : l0.length ≤ c0) (h : octets_Get.f l0 a1 a2 = some (r1, r2)) :
    Calls Try.prog 23 #[.slice A0 l0.length c0, .int .i64 a1, .int .i64 a2] w fun e w' => e = .returned (.tuple #[.int .u64 r1, .bool r2]) ∧ Below w.heap.size w w' := by
  unfold octets_Get.f at h
  have hb0 := hr0.2.1
  by_cases g1 : a2 < 1
  · rw [if_pos (by omega)] at h
    simp only [Option.some.injEq, Prod.mk.injEq] at h
    obtain ⟨rfl, rfl⟩ := h
    clear hr0
    go_enter Try.func23, Try.ntmps23
    go_wp2
    go_ret2
    exact ⟨rfl, Below.refl _ _⟩
  by_cases g2 : 8 < a2
  · rw [if_pos (by omega)] at h
    simp only [Option.some.injEq, Prod.mk.injEq] at h
    obtain ⟨rfl, rfl⟩ := h
    clear hr0
    go_enter Try.func23, Try.ntmps23
    go_wp2
    go_ret2
    exact ⟨rfl, Below.refl _ _⟩
  by_cases g3 : a1 < 0
  · rw [if_pos (by omega)] at h
    simp only [Option.some.injEq, Prod.mk.injEq] at h
    obtain ⟨rfl, rfl⟩ := h
    clear hr0
    go_enter Try.func23, Try.ntmps23
    go_wp2
    go_ret2
    exact ⟨rfl, Below.refl _ _⟩
  have hw2 : IntKind.i64.wrap ((l0.length : Int) - a2) = (l0.length : Int) - a2 := IntWalk.i64_in _ (by omega)
  by_cases g4 : (l0.length : Int) - a2 < a1
  · rw [if_pos (by omega)] at h
    simp only [Option.some.injEq, Prod.mk.injEq] at h
    obtain ⟨rfl, rfl⟩ := h
    clear hr0
    have d4 : decide ((l0.length : Int) - a2 < a1) = true := decide_eq_true g4
    go_enter Try.func23, Try.ntmps23
    go_wp2
    go_ret2
    exact ⟨rfl, Below.refl _ _⟩
  · rw [if_neg (by omega)] at h
    simp only [Option.some.injEq, Prod.mk.injEq] at h
    obtain ⟨rfl, rfl⟩ := h
    exact octets_Get.ok A0 c0 l0 a1 a2 w hr0 hc0 (by omega) (by omega) (by omega) (by omega)

end Go.Proofs.Ytaohmpblmlkioaa.PAll
