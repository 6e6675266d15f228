-- Laid by hp.py (wip/tools), a program of this work, over the kit's print; Lean checks it.
import Derived.Test.YtkkfhgapfcjpdaaPAllx0
import Derived.Test.YtkkfhgapfcjpdaaPAllx1
namespace Go.Proofs.Ytkkfhgapfcjpdaa.PAll
open Go.RowKit Go.Proofs.YtkkfhgapfcjpdaaW.PrintWords Go.Proofs.YtkkfhgapfcjpdaaW.PrintLast Go.Proofs.YtkkfhgapfcjpdaaW.PrintMore
attribute [local go_sem] max2_int min2_int max_two min_two max_three min_three max_four min_four   -- for this text's walks alone
set_option linter.unusedVariables false
set_option linter.unusedSimpArgs false

/-! ### cartagelaw11_PartOnce: function 4 -/
mutual
def cartagelaw11_PartOnce.j0 : Nat → Int → Int → Bool → List Int → Bool → Option (Bool)
  | 0, _, _, _, _, _ => none
  | k + 1, x0, x1, x5, x6, x47 => if x47 = true then (some false) else (cartagelaw11_PartOnce.l0 k x0 x1 x5 x6 0)
def cartagelaw11_PartOnce.l0 : Nat → Int → Int → Bool → List Int → Int → Option (Bool)
  | 0, _, _, _, _, _ => none
  | k + 1, x0, x1, x5, x6, x8 => if x8 < x0 then ((part_Of.f x0 x1 x8).bind fun bt149 => (if bt149.2 = 0 then (if bt149.1 < 0 then (some false) else (if bt149.1 ≥ x1 then (some false) else (if 0 ≤ bt149.1 then (if bt149.1 < (x6.length : Int) then (if (rd x6 bt149.1) > x8 then (some false) else (if 0 ≤ (wrap64 (bt149.1 + 1)) then (if (wrap64 (bt149.1 + 1)) < (x6.length : Int) then (if (rd x6 (wrap64 (bt149.1 + 1))) ≤ x8 then (some false) else (cartagelaw11_PartOnce.l0 k x0 x1 x5 x6 (wrap64 (x8 + 1)))) else (none)) else (none))) else (none)) else (none)))) else (some false))) else (some x5)
end
def cartagelaw11_PartOnce.f (k : Nat) (a0 : Int) (a1 : Int) : Option (Bool) := (cartagelaw11_shown.f k).bind fun t142 => ((part_Bounds.f k (Int.tmod (Go.bits .and .i64 a0 65535) 2001) (wrap64 (1 + (Int.tmod (Go.bits .and .i64 a1 65535) 200)))).bind fun bt143 => (if bt143.2 = 0 then (if (bt143.1.length : Int) = (wrap64 ((wrap64 (1 + (Int.tmod (Go.bits .and .i64 a1 65535) 200))) + 1)) then (if 0 < (bt143.1.length : Int) then (if (rd bt143.1 0) = 0 then (if 0 ≤ (wrap64 (1 + (Int.tmod (Go.bits .and .i64 a1 65535) 200))) then (if (wrap64 (1 + (Int.tmod (Go.bits .and .i64 a1 65535) 200))) < (bt143.1.length : Int) then (cartagelaw11_PartOnce.j0 k (Int.tmod (Go.bits .and .i64 a0 65535) 2001) (wrap64 (1 + (Int.tmod (Go.bits .and .i64 a1 65535) 200))) t142 bt143.1 ((rd bt143.1 (wrap64 (1 + (Int.tmod (Go.bits .and .i64 a1 65535) 200)))) != (Int.tmod (Go.bits .and .i64 a0 65535) 2001))) else (none)) else (none)) else (cartagelaw11_PartOnce.j0 k (Int.tmod (Go.bits .and .i64 a0 65535) 2001) (wrap64 (1 + (Int.tmod (Go.bits .and .i64 a1 65535) 200))) t142 bt143.1 true)) else (none)) else (cartagelaw11_PartOnce.j0 k (Int.tmod (Go.bits .and .i64 a0 65535) 2001) (wrap64 (1 + (Int.tmod (Go.bits .and .i64 a1 65535) 200))) t142 bt143.1 true)) else (cartagelaw11_PartOnce.j0 k (Int.tmod (Go.bits .and .i64 a0 65535) 2001) (wrap64 (1 + (Int.tmod (Go.bits .and .i64 a1 65535) 200))) t142 bt143.1 true)))
theorem cartagelaw11_PartOnce.mono_l : ∀ k, (∀ y0 y1 y2 y3 y4, LeO (cartagelaw11_PartOnce.j0 k y0 y1 y2 y3 y4) (cartagelaw11_PartOnce.j0 (k + 1) y0 y1 y2 y3 y4)) ∧ (∀ y0 y1 y2 y3 y4, LeO (cartagelaw11_PartOnce.l0 k y0 y1 y2 y3 y4) (cartagelaw11_PartOnce.l0 (k + 1) y0 y1 y2 y3 y4))
  | 0 => ⟨fun _ _ _ _ _ r h => by simp [cartagelaw11_PartOnce.j0] at h, fun _ _ _ _ _ r h => by simp [cartagelaw11_PartOnce.l0] at h⟩
  | k + 1 => by
    obtain ⟨ih0, ih1⟩ := cartagelaw11_PartOnce.mono_l k
    refine ⟨?_, ?_⟩
    · intro y0 y1 y2 y3 y4
      unfold cartagelaw11_PartOnce.j0
      repeat' first
      | (with_reducible exact ih0 _ _ _ _ _)
      | (with_reducible exact ih1 _ _ _ _ _)
      | (with_reducible exact cartagelaw11_shown.mono _)
      | (with_reducible exact part_Bounds.mono _ _ _)
      | (with_reducible exact LeO.refl _)
      | (with_reducible exact LeO.none _)
      | (with_reducible refine LeO.ite ?_ ?_)
      | (with_reducible refine LeO.bind ?_ (fun _ => ?_))
      | exact ih0 _ _ _ _ _
      | exact ih1 _ _ _ _ _
      | exact cartagelaw11_shown.mono _
      | exact part_Bounds.mono _ _ _
      | exact LeO.none _
      | refine LeO.ite ?_ ?_
      | refine LeO.bind ?_ (fun _ => ?_)
    · intro y0 y1 y2 y3 y4
      unfold cartagelaw11_PartOnce.l0
      repeat' first
      | (with_reducible exact ih0 _ _ _ _ _)
      | (with_reducible exact ih1 _ _ _ _ _)
      | (with_reducible exact cartagelaw11_shown.mono _)
      | (with_reducible exact part_Bounds.mono _ _ _)
      | (with_reducible exact LeO.refl _)
      | (with_reducible exact LeO.none _)
      | (with_reducible refine LeO.ite ?_ ?_)
      | (with_reducible refine LeO.bind ?_ (fun _ => ?_))
      | exact ih0 _ _ _ _ _
      | exact ih1 _ _ _ _ _
      | exact cartagelaw11_shown.mono _
      | exact part_Bounds.mono _ _ _
      | exact LeO.none _
      | refine LeO.ite ?_ ?_
      | refine LeO.bind ?_ (fun _ => ?_)
theorem cartagelaw11_PartOnce.mono : ∀ a0 a1 k, LeO (cartagelaw11_PartOnce.f k a0 a1) (cartagelaw11_PartOnce.f (k + 1) a0 a1) := by
  intro a0 a1 k
  obtain ⟨ih0, ih1⟩ := cartagelaw11_PartOnce.mono_l k
  unfold cartagelaw11_PartOnce.f
  repeat' first
      | (with_reducible exact ih0 _ _ _ _ _)
      | (with_reducible exact ih1 _ _ _ _ _)
      | (with_reducible exact cartagelaw11_shown.mono _)
      | (with_reducible exact part_Bounds.mono _ _ _)
      | (with_reducible exact LeO.refl _)
      | (with_reducible exact LeO.none _)
      | (with_reducible refine LeO.ite ?_ ?_)
      | (with_reducible refine LeO.bind ?_ (fun _ => ?_))
      | exact ih0 _ _ _ _ _
      | exact ih1 _ _ _ _ _
      | exact cartagelaw11_shown.mono _
      | exact part_Bounds.mono _ _ _
      | exact LeO.none _
      | refine LeO.ite ?_ ?_
      | refine LeO.bind ?_ (fun _ => ?_)
set_option maxHeartbeats 8000000 in
set_option maxRecDepth 100000 in
theorem cartagelaw11_PartOnce.calls (k : Nat) (a0 : Int) (a1 : Int) (r : Bool) (w : World) (h : cartagelaw11_PartOnce.f k a0 a1 = some r) :
    Calls Try.prog 4 #[.int .i64 a0, .int .i64 a1] w fun e w' => e = .returned (.bool r) ∧ Below w.heap.size w w' := by
  have HB := Aside0.mk (Below.refl w.heap.size w)
  have H : ((cartagelaw11_shown.f k).bind fun t142 => ((part_Bounds.f k (Int.tmod (Go.bits .and .i64 a0 65535) 2001) (wrap64 (1 + (Int.tmod (Go.bits .and .i64 a1 65535) 200)))).bind fun bt143 => (if bt143.2 = 0 then (if (bt143.1.length : Int) = (wrap64 ((wrap64 (1 + (Int.tmod (Go.bits .and .i64 a1 65535) 200))) + 1)) then (if 0 < (bt143.1.length : Int) then (if (rd bt143.1 0) = 0 then (if 0 ≤ (wrap64 (1 + (Int.tmod (Go.bits .and .i64 a1 65535) 200))) then (if (wrap64 (1 + (Int.tmod (Go.bits .and .i64 a1 65535) 200))) < (bt143.1.length : Int) then (cartagelaw11_PartOnce.j0 k (Int.tmod (Go.bits .and .i64 a0 65535) 2001) (wrap64 (1 + (Int.tmod (Go.bits .and .i64 a1 65535) 200))) t142 bt143.1 ((rd bt143.1 (wrap64 (1 + (Int.tmod (Go.bits .and .i64 a1 65535) 200)))) != (Int.tmod (Go.bits .and .i64 a0 65535) 2001))) else (none)) else (none)) else (cartagelaw11_PartOnce.j0 k (Int.tmod (Go.bits .and .i64 a0 65535) 2001) (wrap64 (1 + (Int.tmod (Go.bits .and .i64 a1 65535) 200))) t142 bt143.1 true)) else (none)) else (cartagelaw11_PartOnce.j0 k (Int.tmod (Go.bits .and .i64 a0 65535) 2001) (wrap64 (1 + (Int.tmod (Go.bits .and .i64 a1 65535) 200))) t142 bt143.1 true)) else (cartagelaw11_PartOnce.j0 k (Int.tmod (Go.bits .and .i64 a0 65535) 2001) (wrap64 (1 + (Int.tmod (Go.bits .and .i64 a1 65535) 200))) t142 bt143.1 true)))) = some r := h
  clear h
  replace H := Option.bind_eq_some_iff.mp H
  obtain ⟨t142, A30, H⟩ := H
  replace H : ((part_Bounds.f k (Int.tmod (Go.bits .and .i64 a0 65535) 2001) (wrap64 (1 + (Int.tmod (Go.bits .and .i64 a1 65535) 200)))).bind fun bt143 => (if bt143.2 = 0 then (if (bt143.1.length : Int) = (wrap64 ((wrap64 (1 + (Int.tmod (Go.bits .and .i64 a1 65535) 200))) + 1)) then (if 0 < (bt143.1.length : Int) then (if (rd bt143.1 0) = 0 then (if 0 ≤ (wrap64 (1 + (Int.tmod (Go.bits .and .i64 a1 65535) 200))) then (if (wrap64 (1 + (Int.tmod (Go.bits .and .i64 a1 65535) 200))) < (bt143.1.length : Int) then (cartagelaw11_PartOnce.j0 k (Int.tmod (Go.bits .and .i64 a0 65535) 2001) (wrap64 (1 + (Int.tmod (Go.bits .and .i64 a1 65535) 200))) t142 bt143.1 ((rd bt143.1 (wrap64 (1 + (Int.tmod (Go.bits .and .i64 a1 65535) 200)))) != (Int.tmod (Go.bits .and .i64 a0 65535) 2001))) else (none)) else (none)) else (cartagelaw11_PartOnce.j0 k (Int.tmod (Go.bits .and .i64 a0 65535) 2001) (wrap64 (1 + (Int.tmod (Go.bits .and .i64 a1 65535) 200))) t142 bt143.1 true)) else (none)) else (cartagelaw11_PartOnce.j0 k (Int.tmod (Go.bits .and .i64 a0 65535) 2001) (wrap64 (1 + (Int.tmod (Go.bits .and .i64 a1 65535) 200))) t142 bt143.1 true)) else (cartagelaw11_PartOnce.j0 k (Int.tmod (Go.bits .and .i64 a0 65535) 2001) (wrap64 (1 + (Int.tmod (Go.bits .and .i64 a1 65535) 200))) t142 bt143.1 true))) = some r := H
  have A3 := Aside0.mk A30
  clear A30
  replace H := Option.bind_eq_some_iff.mp H
  obtain ⟨⟨t143, t144⟩, A40, H⟩ := H
  replace H : (if t144 = 0 then (if (t143.length : Int) = (wrap64 ((wrap64 (1 + (Int.tmod (Go.bits .and .i64 a1 65535) 200))) + 1)) then (if 0 < (t143.length : Int) then (if (rd t143 0) = 0 then (if 0 ≤ (wrap64 (1 + (Int.tmod (Go.bits .and .i64 a1 65535) 200))) then (if (wrap64 (1 + (Int.tmod (Go.bits .and .i64 a1 65535) 200))) < (t143.length : Int) then (cartagelaw11_PartOnce.j0 k (Int.tmod (Go.bits .and .i64 a0 65535) 2001) (wrap64 (1 + (Int.tmod (Go.bits .and .i64 a1 65535) 200))) t142 t143 ((rd t143 (wrap64 (1 + (Int.tmod (Go.bits .and .i64 a1 65535) 200)))) != (Int.tmod (Go.bits .and .i64 a0 65535) 2001))) else (none)) else (none)) else (cartagelaw11_PartOnce.j0 k (Int.tmod (Go.bits .and .i64 a0 65535) 2001) (wrap64 (1 + (Int.tmod (Go.bits .and .i64 a1 65535) 200))) t142 t143 true)) else (none)) else (cartagelaw11_PartOnce.j0 k (Int.tmod (Go.bits .and .i64 a0 65535) 2001) (wrap64 (1 + (Int.tmod (Go.bits .and .i64 a1 65535) 200))) t142 t143 true)) else (cartagelaw11_PartOnce.j0 k (Int.tmod (Go.bits .and .i64 a0 65535) 2001) (wrap64 (1 + (Int.tmod (Go.bits .and .i64 a1 65535) 200))) t142 t143 true)) = some r := H
  have A4 := Aside0.mk A40
  clear A40
  have HC5 := Aside0.mk H
  clear H
  go_enter Try.func4, Try.ntmps4
  go_upto_region 5 with (first | ((with_reducible refine gate_callee (f := 8) rfl ?_); refine goesL_ (some 11) rfl rfl Try.func8 (by kernel_rfl) rfl #[] rfl (by (try simp only [List.map_toArray, List.map_cons, List.map_nil]); first | done | rfl | (simp only [List.length_drop, List.length_take]; rfl)) ?_; (with_reducible refine (cartagelaw11_shown.calls k  t142 _ A3.out).mono ?_); rintro e w6 ⟨rfl, hb⟩; refine ⟨_, rfl, ?_⟩; have n0_ := Aside0.mk (below_step (by repeat (first | (with_reducible first | exact HB.out | apply below_alloc | apply pw_below_drewN | apply below_drew1) | exact HB.out)) hb); clear HB; have HB := n0_; clear n0_; (try clear hb); (try clear hb2); (try clear hk); (try clear hi)) | ((with_reducible refine gate_callee (f := 9) rfl ?_); refine goesL_ (some 22) rfl rfl Try.func9 (by kernel_rfl) rfl #[.int .i64 (Int.tmod (Go.bits .and .i64 a0 65535) 2001), .int .i64 (wrap64 (1 + (Int.tmod (Go.bits .and .i64 a1 65535) 200)))] rfl (by (try simp only [List.map_toArray, List.map_cons, List.map_nil]); first | done | rfl | (simp only [List.length_drop, List.length_take]; rfl)) ?_; (with_reducible refine (part_Bounds.calls k (Int.tmod (Go.bits .and .i64 a0 65535) 2001) (wrap64 (1 + (Int.tmod (Go.bits .and .i64 a1 65535) 200))) t143 t144 _ A4.out).mono ?_); rintro e w7 ⟨v145, rfl, ho0, hb⟩; refine ⟨_, rfl, ?_⟩; have n0_ := Aside0.mk (Kd.R_lower ho0 (below_size (by repeat (first | (with_reducible first | exact HB.out | apply below_alloc | apply pw_below_drewN | apply below_drew1) | exact HB.out)))); have n1_ := Aside0.mk (below_step (by repeat (first | (with_reducible first | exact HB.out | apply below_alloc | apply pw_below_drewN | apply below_drew1) | exact HB.out)) hb); clear HB; have HO146 := n0_; have HB := n1_; clear n0_ n1_; (try clear hb); (try clear hb2); (try clear hk); (try clear hi); (try clear ho0)))
  (try simp only [Act.put, List.setIfInBounds_toArray, List.set_cons_zero, List.set_cons_succ])
  go_cut [47] (fun v47 wc => ∃ (kq : Nat) (x47_4 : Bool), v47 = .bool x47_4 ∧ Aside0 (cartagelaw11_PartOnce.j0 kq (Int.tmod (Go.bits .and .i64 a0 65535) 2001) (wrap64 (1 + (Int.tmod (Go.bits .and .i64 a1 65535) 200))) t142 t143 x47_4 = some r) ∧ Aside0 (kq ≤ k) ∧ Aside0 (Kd.R (Kd.int .i64) 3 wc w.heap.size (fun _ => True) v145 t143) ∧ Aside0 (Below w.heap.size w wc))
  case first =>
    have H := HC5.out
    clear HC5
    by_cases c8 : t144 = 0
    · rw [if_pos c8] at H
      have c8b0 : (t144 == 0) = true := beq_iff_eq.mpr c8
      have c8b1 : (t144 != 0) = false := bne_eq_false_iff_eq.mpr c8
      clear c8
      (first | rw [c8b0] | (simp only [i64_w, i32_w]; rw [c8b0]) | skip)
      by_cases c9 : (t143.length : Int) = (wrap64 ((wrap64 (1 + (Int.tmod (Go.bits .and .i64 a1 65535) 200))) + 1))
      · rw [if_pos c9] at H
        have c9b0 : ((t143.length : Int) == (wrap64 ((wrap64 (1 + (Int.tmod (Go.bits .and .i64 a1 65535) 200))) + 1))) = true := beq_iff_eq.mpr c9
        have c9b1 : ((t143.length : Int) != (wrap64 ((wrap64 (1 + (Int.tmod (Go.bits .and .i64 a1 65535) 200))) + 1))) = false := bne_eq_false_iff_eq.mpr c9
        clear c9
        by_cases c10 : 0 < (t143.length : Int)
        · rw [if_pos c10] at H
          have c10b0 : decide (0 < (t143.length : Int)) = true := decide_eq_true c10
          have c10b1 : decide (0 < t143.length) = true := decide_eq_true (by omega)
          clear c10
          by_cases c11 : (rd t143 0) = 0
          · rw [if_pos c11] at H
            have c11b0 : ((rd t143 0) == 0) = true := beq_iff_eq.mpr c11
            have c11b1 : ((rd t143 0) != 0) = false := bne_eq_false_iff_eq.mpr c11
            clear c11
            obtain ⟨ji12, hji12⟩ : ∃ j_ : Int, (wrap64 (1 + (Int.tmod (Go.bits .and .i64 a1 65535) 200))) = j_ := ⟨_, rfl⟩
            replace H : (if 0 ≤ (ji12) then (if (ji12) < (t143.length : Int) then (cartagelaw11_PartOnce.j0 k (Int.tmod (Go.bits .and .i64 a0 65535) 2001) ji12 t142 t143 ((rd t143 (ji12)) != (Int.tmod (Go.bits .and .i64 a0 65535) 2001))) else (none)) else (none)) = some r := by first | (rw [hji12] at H; exact H) | (simp only [hji12] at H ⊢; exact H)
            (try rw [hji12] at c9b0)
            (try rw [hji12] at c9b1)
            have hji12w : (IntKind.i64.wrap (1 + (Int.tmod (Go.bits .and .i64 a1 65535) 200))) = ji12 := (i64_w _).trans hji12
            by_cases c13 : 0 ≤ (ji12)
            · rw [if_pos c13] at H
              have c13b0 : decide (0 ≤ (ji12)) = true := decide_eq_true c13
              clear c13
              by_cases c14 : (ji12) < (t143.length : Int)
              · rw [if_pos c14] at H
                have c14b0 : decide ((ji12) < (t143.length : Int)) = true := decide_eq_true c14
                clear c14
                have H' := Aside0.mk H
                clear H
                obtain ⟨Ao15, co15, eo15⟩ := Kd.R_slice HO146.out
                subst eo15
                have p147 : 0 ≤ (0 : Int) := (by omega)
                have q147 : 0 < (t143.length : Int) := of_decide_eq_true (by first | (with_reducible assumption) | assumption)
                obtain ⟨ad147, e147, hx147_0⟩ := Kd.at_int (Kd.R_reads' HO146.out).2.2 0 p147 q147
                cases e147
                have qi147 : (0 < t143.length) = True := eq_true (by omega)
                (try rw [show ((0 : Int)).toNat = 0 from rfl] at hx147_0)
                (try rw [Addr.add_zero'] at hx147_0)
                replace p147 := eq_true p147
                replace q147 := eq_true q147
                have p148 : 0 ≤ ((ji12) : Int) := of_decide_eq_true (by first | (with_reducible assumption) | assumption)
                have q148 : (ji12) < (t143.length : Int) := of_decide_eq_true (by first | (with_reducible assumption) | assumption)
                obtain ⟨ad148, e148, hx148_0⟩ := Kd.at_int (Kd.R_reads' HO146.out).2.2 (ji12) p148 q148
                obtain rfl : ad147 = ad148 := (by injection e148)
                replace p148 := eq_true p148
                replace q148 := eq_true q148
                go_wp2
                (try subst hji12)
                go_meet
                case rel => exact ⟨_, (((rd t143 ((wrap64 (1 + (Int.tmod (Go.bits .and .i64 a1 65535) 200))))) != (Int.tmod (Go.bits .and .i64 a0 65535) 2001))), (by first | rfl | (simp; done) | (simp only [← hji12] <;> (first | rfl | simp)) | (simp [*]; done)), H', ⟨by first | omega | exact Nat.le_refl _⟩, ⟨by (with_reducible repeat (first | apply Kd.R_alloc | apply Kd.R_drewN | apply Kd.R_drew)); exact HO146.out⟩, ⟨by repeat (first | (with_reducible first | exact HB.out | apply below_alloc | apply pw_below_drewN | apply below_drew1) | exact HB.out)⟩⟩
              · rw [if_neg c14] at H
                exact absurd H (by simp)
            · rw [if_neg c13] at H
              exact absurd H (by simp)
          · rw [if_neg c11] at H
            have c11b0 : ((rd t143 0) == 0) = false := beq_eq_false_iff_ne.mpr c11
            have c11b1 : ((rd t143 0) != 0) = true := bne_iff_ne.mpr c11
            have H' := Aside0.mk H
            clear H
            obtain ⟨Ao16, co16, eo16⟩ := Kd.R_slice HO146.out
            subst eo16
            have p147 : 0 ≤ (0 : Int) := (by omega)
            have q147 : 0 < (t143.length : Int) := of_decide_eq_true (by first | (with_reducible assumption) | assumption)
            obtain ⟨ad147, e147, hx147_0⟩ := Kd.at_int (Kd.R_reads' HO146.out).2.2 0 p147 q147
            cases e147
            have qi147 : (0 < t143.length) = True := eq_true (by omega)
            (try rw [show ((0 : Int)).toNat = 0 from rfl] at hx147_0)
            (try rw [Addr.add_zero'] at hx147_0)
            replace p147 := eq_true p147
            replace q147 := eq_true q147
            go_wp2
            go_meet
            case rel => exact ⟨_, (true), (by first | rfl | (simp; done) | (simp [*]; done)), H', ⟨by first | omega | exact Nat.le_refl _⟩, ⟨by (with_reducible repeat (first | apply Kd.R_alloc | apply Kd.R_drewN | apply Kd.R_drew)); exact HO146.out⟩, ⟨by repeat (first | (with_reducible first | exact HB.out | apply below_alloc | apply pw_below_drewN | apply below_drew1) | exact HB.out)⟩⟩
        · rw [if_neg c10] at H
          exact absurd H (by simp)
      · rw [if_neg c9] at H
        have c9b0 : ((t143.length : Int) == (wrap64 ((wrap64 (1 + (Int.tmod (Go.bits .and .i64 a1 65535) 200))) + 1))) = false := beq_eq_false_iff_ne.mpr c9
        have c9b1 : ((t143.length : Int) != (wrap64 ((wrap64 (1 + (Int.tmod (Go.bits .and .i64 a1 65535) 200))) + 1))) = true := bne_iff_ne.mpr c9
        have H' := Aside0.mk H
        clear H
        obtain ⟨Ao17, co17, eo17⟩ := Kd.R_slice HO146.out
        subst eo17
        go_wp2
        go_meet
        case rel => exact ⟨_, (true), (by first | rfl | (simp; done) | (simp [*]; done)), H', ⟨by first | omega | exact Nat.le_refl _⟩, ⟨by (with_reducible repeat (first | apply Kd.R_alloc | apply Kd.R_drewN | apply Kd.R_drew)); exact HO146.out⟩, ⟨by repeat (first | (with_reducible first | exact HB.out | apply below_alloc | apply pw_below_drewN | apply below_drew1) | exact HB.out)⟩⟩
    · rw [if_neg c8] at H
      have c8b0 : (t144 == 0) = false := beq_eq_false_iff_ne.mpr c8
      have c8b1 : (t144 != 0) = true := bne_iff_ne.mpr c8
      (first | rw [c8b0] | (simp only [i64_w, i32_w]; rw [c8b0]) | skip)
      have H' := Aside0.mk H
      clear H
      go_wp2
      go_meet
      case rel => exact ⟨_, (true), (by first | rfl | (simp; done) | (simp [*]; done)), H', ⟨by first | omega | exact Nat.le_refl _⟩, ⟨by (with_reducible repeat (first | apply Kd.R_alloc | apply Kd.R_drewN | apply Kd.R_drew)); exact HO146.out⟩, ⟨by repeat (first | (with_reducible first | exact HB.out | apply below_alloc | apply pw_below_drewN | apply below_drew1) | exact HB.out)⟩⟩
  case rest =>
    clear HC5
    try clear c1
    try clear p1
    try clear q1
    try clear hx1
    try clear qi1
    try clear p2
    try clear c4
    try clear p6
    try clear c8
    try clear c8b0
    try clear c8b1
    try clear c9
    try clear c9b0
    try clear c9b1
    try clear c10
    try clear c10b0
    try clear c10b1
    try clear c11
    try clear c11b0
    try clear c11b1
    try clear c13
    try clear c13b0
    try clear c14
    try clear c14b0
    try clear p14
    try clear q14
    try clear hx14
    try clear qi14
    try clear hx147_0
    try clear hx148_0
    try clear p147
    try clear p148
    try clear q147
    try clear q148
    obtain ⟨kq, x47_4, rfl, HA, HJ4, HO_6, HB⟩ := hcut
    cases kq with
    | zero => exact absurd HA.out (by simp [cartagelaw11_PartOnce.j0])
    | succ kj4 =>
      have H := HA.out
      clear HA
      simp only [cartagelaw11_PartOnce.j0] at H
      by_cases c18 : x47_4 = true
      · subst c18
        have H1 : (some false) = some r := by rw [if_pos rfl] at H; exact H
        clear H
        have H := H1
        clear H1
        obtain rfl := Option.some.inj H
        go_wp2
        go_ret
        exact ⟨by first | rfl | (simp [errW_none, errW_some] <;> rfl) | (simp [*, errW_none, errW_some] <;> rfl), by repeat (first | (with_reducible first | exact HB.out | apply below_alloc | apply pw_below_drewN | apply below_drew1) | exact HB.out)⟩
      · replace c18 := Bool.eq_false_iff.mpr c18
        subst c18
        have H1 : (cartagelaw11_PartOnce.l0 kj4 (Int.tmod (Go.bits .and .i64 a0 65535) 2001) (wrap64 (1 + (Int.tmod (Go.bits .and .i64 a1 65535) 200))) t142 t143 0) = some r := by rw [if_neg (show ¬ (false = true) by decide)] at H; exact H
        clear H
        have H := H1
        clear H1
        have H' := Aside0.mk H
        clear H
        go_wp2
        go_loopg [8] kj4 (fun kq v8 w' => ∃ (x8_2 : Int), v8 = .int .i64 x8_2 ∧ Aside0 (cartagelaw11_PartOnce.l0 kq (Int.tmod (Go.bits .and .i64 a0 65535) 2001) (wrap64 (1 + (Int.tmod (Go.bits .and .i64 a1 65535) 200))) t142 t143 x8_2 = some r) ∧ Aside0 (kq ≤ kj4) ∧ Aside0 (Kd.R (Kd.int .i64) 3 w' w.heap.size (fun _ => True) v145 t143) ∧ Aside0 (Below w.heap.size w w'))
        case atStart => exact ⟨(0), (by first | rfl | (simp; done) | (simp [*]; done)), H', ⟨Nat.le_refl _⟩, ⟨by (with_reducible repeat (first | apply Kd.R_alloc | apply Kd.R_drewN | apply Kd.R_drew)); exact HO_6.out⟩, ⟨by repeat (first | (with_reducible first | exact HB.out | apply below_alloc | apply pw_below_drewN | apply below_drew1) | exact HB.out)⟩⟩
        case round =>
          clear H'
          try clear c1
          try clear p1
          try clear q1
          try clear hx1
          try clear qi1
          try clear p2
          try clear c4
          try clear p6
          try clear c8
          try clear c8b0
          try clear c8b1
          try clear c9
          try clear c9b0
          try clear c9b1
          try clear c10
          try clear c10b0
          try clear c10b1
          try clear c11
          try clear c11b0
          try clear c11b1
          try clear c13
          try clear c13b0
          try clear c14
          try clear c14b0
          try clear p14
          try clear q14
          try clear hx14
          try clear qi14
          try clear c18
          try clear hx147_0
          try clear hx148_0
          try clear p1
          try clear p14
          try clear p147
          try clear p148
          try clear p2
          try clear p6
          try clear q1
          try clear q14
          try clear q147
          try clear q148
          obtain ⟨x8_2, rfl, HA, HK2, HO_6, HB⟩ := hrel
          cases gk with
          | zero => exact absurd HA.out (by simp [cartagelaw11_PartOnce.l0])
          | succ k2 =>
            have H := HA.out
            clear HA
            simp only [cartagelaw11_PartOnce.l0] at H
            by_cases c19 : x8_2 < (Int.tmod (Go.bits .and .i64 a0 65535) 2001)
            · rw [if_pos c19] at H
              have c19b0 : decide (x8_2 < (Int.tmod (Go.bits .and .i64 a0 65535) 2001)) = true := decide_eq_true c19
              clear c19
              replace H := Option.bind_eq_some_iff.mp H
              obtain ⟨⟨t149, t150⟩, A200, H⟩ := H
              replace H : (if t150 = 0 then (if t149 < 0 then (some false) else (if t149 ≥ (wrap64 (1 + (Int.tmod (Go.bits .and .i64 a1 65535) 200))) then (some false) else (if 0 ≤ t149 then (if t149 < (t143.length : Int) then (if (rd t143 t149) > x8_2 then (some false) else (if 0 ≤ (wrap64 (t149 + 1)) then (if (wrap64 (t149 + 1)) < (t143.length : Int) then (if (rd t143 (wrap64 (t149 + 1))) ≤ x8_2 then (some false) else (cartagelaw11_PartOnce.l0 k2 (Int.tmod (Go.bits .and .i64 a0 65535) 2001) (wrap64 (1 + (Int.tmod (Go.bits .and .i64 a1 65535) 200))) t142 t143 (wrap64 (x8_2 + 1)))) else (none)) else (none))) else (none)) else (none)))) else (some false)) = some r := H
              have A20 := Aside0.mk A200
              clear A200
              by_cases c21 : t150 = 0
              · rw [if_pos c21] at H
                have c21b0 : (t150 == 0) = true := beq_iff_eq.mpr c21
                have c21b1 : (t150 != 0) = false := bne_eq_false_iff_eq.mpr c21
                clear c21
                by_cases c22 : t149 < 0
                · rw [if_pos c22] at H
                  have c22b0 : decide (t149 < 0) = true := decide_eq_true c22
                  clear c22
                  obtain rfl := Option.some.inj H
                  go_wp2_with (first | ((with_reducible refine gate_callee (f := 10) rfl ?_); refine goesL_ (some 57) rfl rfl Try.func10 (by kernel_rfl) rfl #[.int .i64 (Int.tmod (Go.bits .and .i64 a0 65535) 2001), .int .i64 (wrap64 (1 + (Int.tmod (Go.bits .and .i64 a1 65535) 200))), .int .i64 x8_2] rfl (by (try simp only [List.map_toArray, List.map_cons, List.map_nil]); first | done | rfl | (simp only [List.length_drop, List.length_take]; rfl)) ?_; (with_reducible refine (part_Of.calls (Int.tmod (Go.bits .and .i64 a0 65535) 2001) (wrap64 (1 + (Int.tmod (Go.bits .and .i64 a1 65535) 200))) x8_2 t149 t150 _ A20.out).mono ?_); rintro e w23 ⟨rfl, hb⟩; refine ⟨_, rfl, ?_⟩; have n0_ := Aside0.mk (Kd.R_below (by (with_reducible repeat (first | apply Kd.R_alloc | apply Kd.R_drewN | apply Kd.R_drew)); exact HO_6.out) hb); have n1_ := Aside0.mk (below_step (by repeat (first | (with_reducible first | exact HB.out | apply below_alloc | apply pw_below_drewN | apply below_drew1) | exact HB.out)) hb); clear HO_6; clear HB; have HO_6 := n0_; have HB := n1_; clear n0_ n1_; (try clear hb); (try clear hb2); (try clear hk); (try clear hi)))
                  go_ret
                  exact ⟨by first | rfl | (simp [errW_none, errW_some] <;> rfl) | (simp [*, errW_none, errW_some] <;> rfl), by repeat (first | (with_reducible first | exact HB.out | apply below_alloc | apply pw_below_drewN | apply below_drew1) | exact HB.out)⟩
                · rw [if_neg c22] at H
                  have c22b0 : decide (t149 < 0) = false := decide_eq_false c22
                  clear c22
                  by_cases c24 : t149 ≥ (wrap64 (1 + (Int.tmod (Go.bits .and .i64 a1 65535) 200)))
                  · rw [if_pos c24] at H
                    have c24b0 : decide ((wrap64 (1 + (Int.tmod (Go.bits .and .i64 a1 65535) 200))) ≤ t149) = true := decide_eq_true c24
                    clear c24
                    obtain rfl := Option.some.inj H
                    go_wp2_with (first | ((with_reducible refine gate_callee (f := 10) rfl ?_); refine goesL_ (some 57) rfl rfl Try.func10 (by kernel_rfl) rfl #[.int .i64 (Int.tmod (Go.bits .and .i64 a0 65535) 2001), .int .i64 (wrap64 (1 + (Int.tmod (Go.bits .and .i64 a1 65535) 200))), .int .i64 x8_2] rfl (by (try simp only [List.map_toArray, List.map_cons, List.map_nil]); first | done | rfl | (simp only [List.length_drop, List.length_take]; rfl)) ?_; (with_reducible refine (part_Of.calls (Int.tmod (Go.bits .and .i64 a0 65535) 2001) (wrap64 (1 + (Int.tmod (Go.bits .and .i64 a1 65535) 200))) x8_2 t149 t150 _ A20.out).mono ?_); rintro e w25 ⟨rfl, hb⟩; refine ⟨_, rfl, ?_⟩; have n0_ := Aside0.mk (Kd.R_below (by (with_reducible repeat (first | apply Kd.R_alloc | apply Kd.R_drewN | apply Kd.R_drew)); exact HO_6.out) hb); have n1_ := Aside0.mk (below_step (by repeat (first | (with_reducible first | exact HB.out | apply below_alloc | apply pw_below_drewN | apply below_drew1) | exact HB.out)) hb); clear HO_6; clear HB; have HO_6 := n0_; have HB := n1_; clear n0_ n1_; (try clear hb); (try clear hb2); (try clear hk); (try clear hi)))
                    go_ret
                    exact ⟨by first | rfl | (simp [errW_none, errW_some] <;> rfl) | (simp [*, errW_none, errW_some] <;> rfl), by repeat (first | (with_reducible first | exact HB.out | apply below_alloc | apply pw_below_drewN | apply below_drew1) | exact HB.out)⟩
                  · rw [if_neg c24] at H
                    have c24b0 : decide ((wrap64 (1 + (Int.tmod (Go.bits .and .i64 a1 65535) 200))) ≤ t149) = false := decide_eq_false c24
                    clear c24
                    by_cases c26 : 0 ≤ t149
                    · rw [if_pos c26] at H
                      have c26b0 : decide (0 ≤ t149) = true := decide_eq_true c26
                      clear c26
                      by_cases c27 : t149 < (t143.length : Int)
                      · rw [if_pos c27] at H
                        have c27b0 : decide (t149 < (t143.length : Int)) = true := decide_eq_true c27
                        clear c27
                        by_cases c28 : (rd t143 t149) > x8_2
                        · rw [if_pos c28] at H
                          have c28b0 : decide (x8_2 < (rd t143 t149)) = true := decide_eq_true c28
                          clear c28
                          obtain rfl := Option.some.inj H
                          go_wp2_with (first | ((with_reducible refine gate_callee (f := 10) rfl ?_); refine goesL_ (some 57) rfl rfl Try.func10 (by kernel_rfl) rfl #[.int .i64 (Int.tmod (Go.bits .and .i64 a0 65535) 2001), .int .i64 (wrap64 (1 + (Int.tmod (Go.bits .and .i64 a1 65535) 200))), .int .i64 x8_2] rfl (by (try simp only [List.map_toArray, List.map_cons, List.map_nil]); first | done | rfl | (simp only [List.length_drop, List.length_take]; rfl)) ?_; (with_reducible refine (part_Of.calls (Int.tmod (Go.bits .and .i64 a0 65535) 2001) (wrap64 (1 + (Int.tmod (Go.bits .and .i64 a1 65535) 200))) x8_2 t149 t150 _ A20.out).mono ?_); rintro e w29 ⟨rfl, hb⟩; refine ⟨_, rfl, ?_⟩; have n0_ := Aside0.mk (Kd.R_below (by (with_reducible repeat (first | apply Kd.R_alloc | apply Kd.R_drewN | apply Kd.R_drew)); exact HO_6.out) hb); have n1_ := Aside0.mk (below_step (by repeat (first | (with_reducible first | exact HB.out | apply below_alloc | apply pw_below_drewN | apply below_drew1) | exact HB.out)) hb); clear HO_6; clear HB; have HO_6 := n0_; have HB := n1_; clear n0_ n1_; (try clear hb); (try clear hb2); (try clear hk); (try clear hi); obtain ⟨Ao30, co30, eo30⟩ := Kd.R_slice HO_6.out; subst eo30; have p151 : 0 ≤ (t149 : Int) := of_decide_eq_true (by first | (with_reducible assumption) | assumption); have q151 : t149 < (t143.length : Int) := of_decide_eq_true (by first | (with_reducible assumption) | assumption); obtain ⟨ad151, e151, hx151_0⟩ := Kd.at_int (Kd.R_reads' HO_6.out).2.2 t149 p151 q151; cases e151; replace p151 := eq_true p151; replace q151 := eq_true q151))
                          go_ret
                          exact ⟨by first | rfl | (simp [errW_none, errW_some] <;> rfl) | (simp [*, errW_none, errW_some] <;> rfl), by repeat (first | (with_reducible first | exact HB.out | apply below_alloc | apply pw_below_drewN | apply below_drew1) | exact HB.out)⟩
                        · rw [if_neg c28] at H
                          have c28b0 : decide (x8_2 < (rd t143 t149)) = false := decide_eq_false c28
                          clear c28
                          obtain ⟨ji31, hji31⟩ : ∃ j_ : Int, (wrap64 (t149 + 1)) = j_ := ⟨_, rfl⟩
                          replace H : (if 0 ≤ (ji31) then (if (ji31) < (t143.length : Int) then (if (rd t143 (ji31)) ≤ x8_2 then (some false) else (cartagelaw11_PartOnce.l0 k2 (Int.tmod (Go.bits .and .i64 a0 65535) 2001) (wrap64 (1 + (Int.tmod (Go.bits .and .i64 a1 65535) 200))) t142 t143 (wrap64 (x8_2 + 1)))) else (none)) else (none)) = some r := by first | (rw [hji31] at H; exact H) | (simp only [hji31] at H ⊢; exact H)
                          (try rw [hji31] at A20)
                          have hji31w : (IntKind.i64.wrap (t149 + 1)) = ji31 := (i64_w _).trans hji31
                          by_cases c32 : 0 ≤ (ji31)
                          · rw [if_pos c32] at H
                            have c32b0 : decide (0 ≤ (ji31)) = true := decide_eq_true c32
                            clear c32
                            by_cases c33 : (ji31) < (t143.length : Int)
                            · rw [if_pos c33] at H
                              have c33b0 : decide ((ji31) < (t143.length : Int)) = true := decide_eq_true c33
                              clear c33
                              by_cases c34 : (rd t143 (ji31)) ≤ x8_2
                              · rw [if_pos c34] at H
                                have c34b0 : decide ((rd t143 (ji31)) ≤ x8_2) = true := decide_eq_true c34
                                clear c34
                                obtain rfl := Option.some.inj H
                                go_wp2_with (first | ((with_reducible refine gate_callee (f := 10) rfl ?_); refine goesL_ (some 57) rfl rfl Try.func10 (by kernel_rfl) rfl #[.int .i64 (Int.tmod (Go.bits .and .i64 a0 65535) 2001), .int .i64 (wrap64 (1 + (Int.tmod (Go.bits .and .i64 a1 65535) 200))), .int .i64 x8_2] rfl (by (try simp only [List.map_toArray, List.map_cons, List.map_nil]); first | done | rfl | (simp only [List.length_drop, List.length_take]; rfl)) ?_; (with_reducible refine (part_Of.calls (Int.tmod (Go.bits .and .i64 a0 65535) 2001) (wrap64 (1 + (Int.tmod (Go.bits .and .i64 a1 65535) 200))) x8_2 t149 t150 _ A20.out).mono ?_); rintro e w35 ⟨rfl, hb⟩; refine ⟨_, rfl, ?_⟩; have n0_ := Aside0.mk (Kd.R_below (by (with_reducible repeat (first | apply Kd.R_alloc | apply Kd.R_drewN | apply Kd.R_drew)); exact HO_6.out) hb); have n1_ := Aside0.mk (below_step (by repeat (first | (with_reducible first | exact HB.out | apply below_alloc | apply pw_below_drewN | apply below_drew1) | exact HB.out)) hb); clear HO_6; clear HB; have HO_6 := n0_; have HB := n1_; clear n0_ n1_; (try clear hb); (try clear hb2); (try clear hk); (try clear hi); obtain ⟨Ao36, co36, eo36⟩ := Kd.R_slice HO_6.out; subst eo36; have p151 : 0 ≤ (t149 : Int) := of_decide_eq_true (by first | (with_reducible assumption) | assumption); have q151 : t149 < (t143.length : Int) := of_decide_eq_true (by first | (with_reducible assumption) | assumption); obtain ⟨ad151, e151, hx151_0⟩ := Kd.at_int (Kd.R_reads' HO_6.out).2.2 t149 p151 q151; cases e151; replace p151 := eq_true p151; replace q151 := eq_true q151; have p152 : 0 ≤ ((ji31) : Int) := of_decide_eq_true (by first | (with_reducible assumption) | assumption); have q152 : (ji31) < (t143.length : Int) := of_decide_eq_true (by first | (with_reducible assumption) | assumption); obtain ⟨ad152, e152, hx152_0⟩ := Kd.at_int (Kd.R_reads' HO_6.out).2.2 (ji31) p152 q152; obtain rfl : ad151 = ad152 := (by injection e152); replace p152 := eq_true p152; replace q152 := eq_true q152))
                                go_ret
                                exact ⟨by first | rfl | (simp [errW_none, errW_some] <;> rfl) | (simp only [← hji31]; first | rfl | (simp [errW_none, errW_some] <;> rfl)) | (simp [*, errW_none, errW_some] <;> rfl), by repeat (first | (with_reducible first | exact HB.out | apply below_alloc | apply pw_below_drewN | apply below_drew1) | exact HB.out)⟩
                              · rw [if_neg c34] at H
                                have c34b0 : decide ((rd t143 (ji31)) ≤ x8_2) = false := decide_eq_false c34
                                clear c34
                                have H' := Aside0.mk H
                                clear H
                                go_wp2_with (first | ((with_reducible refine gate_callee (f := 10) rfl ?_); refine goesL_ (some 57) rfl rfl Try.func10 (by kernel_rfl) rfl #[.int .i64 (Int.tmod (Go.bits .and .i64 a0 65535) 2001), .int .i64 (wrap64 (1 + (Int.tmod (Go.bits .and .i64 a1 65535) 200))), .int .i64 x8_2] rfl (by (try simp only [List.map_toArray, List.map_cons, List.map_nil]); first | done | rfl | (simp only [List.length_drop, List.length_take]; rfl)) ?_; (with_reducible refine (part_Of.calls (Int.tmod (Go.bits .and .i64 a0 65535) 2001) (wrap64 (1 + (Int.tmod (Go.bits .and .i64 a1 65535) 200))) x8_2 t149 t150 _ A20.out).mono ?_); rintro e w37 ⟨rfl, hb⟩; refine ⟨_, rfl, ?_⟩; have n0_ := Aside0.mk (Kd.R_below (by (with_reducible repeat (first | apply Kd.R_alloc | apply Kd.R_drewN | apply Kd.R_drew)); exact HO_6.out) hb); have n1_ := Aside0.mk (below_step (by repeat (first | (with_reducible first | exact HB.out | apply below_alloc | apply pw_below_drewN | apply below_drew1) | exact HB.out)) hb); clear HO_6; clear HB; have HO_6 := n0_; have HB := n1_; clear n0_ n1_; (try clear hb); (try clear hb2); (try clear hk); (try clear hi); obtain ⟨Ao38, co38, eo38⟩ := Kd.R_slice HO_6.out; subst eo38; have p151 : 0 ≤ (t149 : Int) := of_decide_eq_true (by first | (with_reducible assumption) | assumption); have q151 : t149 < (t143.length : Int) := of_decide_eq_true (by first | (with_reducible assumption) | assumption); obtain ⟨ad151, e151, hx151_0⟩ := Kd.at_int (Kd.R_reads' HO_6.out).2.2 t149 p151 q151; cases e151; replace p151 := eq_true p151; replace q151 := eq_true q151; have p152 : 0 ≤ ((ji31) : Int) := of_decide_eq_true (by first | (with_reducible assumption) | assumption); have q152 : (ji31) < (t143.length : Int) := of_decide_eq_true (by first | (with_reducible assumption) | assumption); obtain ⟨ad152, e152, hx152_0⟩ := Kd.at_int (Kd.R_reads' HO_6.out).2.2 (ji31) p152 q152; obtain rfl : ad151 = ad152 := (by injection e152); replace p152 := eq_true p152; replace q152 := eq_true q152))
                                go_roundg k2
                                case measure => have := HJ4.out; have := HK2.out; omega
                                case rel => exact ⟨(wrap64 (x8_2 + 1)), (by first | rfl | (simp; done) | (simp [*]; done)), H', ⟨by have := HJ4.out; have := HK2.out; omega⟩, ⟨by (with_reducible repeat (first | apply Kd.R_alloc | apply Kd.R_drewN | apply Kd.R_drew)); exact HO_6.out⟩, ⟨by repeat (first | (with_reducible first | exact HB.out | apply below_alloc | apply pw_below_drewN | apply below_drew1) | exact HB.out)⟩⟩
                            · rw [if_neg c33] at H
                              exact absurd H (by simp)
                          · rw [if_neg c32] at H
                            exact absurd H (by simp)
                      · rw [if_neg c27] at H
                        exact absurd H (by simp)
                    · rw [if_neg c26] at H
                      exact absurd H (by simp)
              · rw [if_neg c21] at H
                have c21b0 : (t150 == 0) = false := beq_eq_false_iff_ne.mpr c21
                have c21b1 : (t150 != 0) = true := bne_iff_ne.mpr c21
                obtain rfl := Option.some.inj H
                go_wp2_with (first | ((with_reducible refine gate_callee (f := 10) rfl ?_); refine goesL_ (some 57) rfl rfl Try.func10 (by kernel_rfl) rfl #[.int .i64 (Int.tmod (Go.bits .and .i64 a0 65535) 2001), .int .i64 (wrap64 (1 + (Int.tmod (Go.bits .and .i64 a1 65535) 200))), .int .i64 x8_2] rfl (by (try simp only [List.map_toArray, List.map_cons, List.map_nil]); first | done | rfl | (simp only [List.length_drop, List.length_take]; rfl)) ?_; (with_reducible refine (part_Of.calls (Int.tmod (Go.bits .and .i64 a0 65535) 2001) (wrap64 (1 + (Int.tmod (Go.bits .and .i64 a1 65535) 200))) x8_2 t149 t150 _ A20.out).mono ?_); rintro e w39 ⟨rfl, hb⟩; refine ⟨_, rfl, ?_⟩; have n0_ := Aside0.mk (Kd.R_below (by (with_reducible repeat (first | apply Kd.R_alloc | apply Kd.R_drewN | apply Kd.R_drew)); exact HO_6.out) hb); have n1_ := Aside0.mk (below_step (by repeat (first | (with_reducible first | exact HB.out | apply below_alloc | apply pw_below_drewN | apply below_drew1) | exact HB.out)) hb); clear HO_6; clear HB; have HO_6 := n0_; have HB := n1_; clear n0_ n1_; (try clear hb); (try clear hb2); (try clear hk); (try clear hi)))
                go_ret
                exact ⟨by first | rfl | (simp [errW_none, errW_some] <;> rfl) | (simp [*, errW_none, errW_some] <;> rfl), by repeat (first | (with_reducible first | exact HB.out | apply below_alloc | apply pw_below_drewN | apply below_drew1) | exact HB.out)⟩
            · rw [if_neg c19] at H
              have c19b0 : decide (x8_2 < (Int.tmod (Go.bits .and .i64 a0 65535) 2001)) = false := decide_eq_false c19
              clear c19
              obtain rfl := Option.some.inj H
              go_wp2
              go_ret
              exact ⟨by first | rfl | (simp [errW_none, errW_some] <;> rfl) | (simp [*, errW_none, errW_some] <;> rfl), by repeat (first | (with_reducible first | exact HB.out | apply below_alloc | apply pw_below_drewN | apply below_drew1) | exact HB.out)⟩

/-- THE ONE PURE STATEMENT of cartagelaw11_PartOnce: yours. -/
def cartagelaw11_PartOnce.Pure : Prop := ∀ (a0 : Int) (a1 : Int), (Lit.int .i64 a0).wf = true → (Lit.int .i64 a1).wf = true → ∃ k, cartagelaw11_PartOnce.f k a0 a1 = some true
theorem cartagelaw11_PartOnce.walk (P : cartagelaw11_PartOnce.Pure) (a0 : Int) (a1 : Int) (w : World) (w0 : (Lit.int .i64 a0).wf = true) (w1 : (Lit.int .i64 a1).wf = true) :
    Calls Try.prog 4 #[.int .i64 a0, .int .i64 a1] w fun e w' => e = .returned (.bool true) ∧ Below w.heap.size w w' := by
  obtain ⟨k, h⟩ := P a0 a1 w0 w1
  refine (cartagelaw11_PartOnce.calls k a0 a1 true w h).mono ?_
  rintro e w' ⟨rfl, hd⟩
  exact ⟨rfl, hd⟩

/-! ### cartagelaw11_PartEven: function 5 -/
mutual
def cartagelaw11_PartEven.j0 : Nat → Int → Int → Bool → List Int → Bool → Option (Bool)
  | 0, _, _, _, _, _ => none
  | k + 1, x0, x1, x5, x6, x32 => if x32 = true then (some false) else (cartagelaw11_PartEven.l0 k x0 x1 x5 x6 0)
def cartagelaw11_PartEven.l0 : Nat → Int → Int → Bool → List Int → Int → Option (Bool)
  | 0, _, _, _, _, _ => none
  | k + 1, x0, x1, x5, x6, x8 => if x8 < x1 then (if 0 ≤ (wrap64 (x8 + 1)) then (if (wrap64 (x8 + 1)) < (x6.length : Int) then (if 0 ≤ x8 then (if x8 < (x6.length : Int) then (if x1 = 0 then (none) else (if (wrap64 ((rd x6 (wrap64 (x8 + 1))) - (rd x6 x8))) < (wrap64 (Int.tdiv x0 x1)) then (some false) else (if (wrap64 ((rd x6 (wrap64 (x8 + 1))) - (rd x6 x8))) > (wrap64 ((wrap64 (Int.tdiv x0 x1)) + 1)) then (some false) else (cartagelaw11_PartEven.l0 k x0 x1 x5 x6 (wrap64 (x8 + 1)))))) else (none)) else (none)) else (none)) else (none)) else (some x5)
end
def cartagelaw11_PartEven.f (k : Nat) (a0 : Int) (a1 : Int) : Option (Bool) := (cartagelaw11_shown.f k).bind fun t153 => ((part_Bounds.f k (Int.tmod (Go.bits .and .i64 a0 1048575) 1048577) (wrap64 (1 + (Int.tmod (Go.bits .and .i64 a1 65535) 4096)))).bind fun bt154 => (if bt154.2 = 0 then (cartagelaw11_PartEven.j0 k (Int.tmod (Go.bits .and .i64 a0 1048575) 1048577) (wrap64 (1 + (Int.tmod (Go.bits .and .i64 a1 65535) 4096))) t153 bt154.1 ((bt154.1.length : Int) != (wrap64 ((wrap64 (1 + (Int.tmod (Go.bits .and .i64 a1 65535) 4096))) + 1)))) else (cartagelaw11_PartEven.j0 k (Int.tmod (Go.bits .and .i64 a0 1048575) 1048577) (wrap64 (1 + (Int.tmod (Go.bits .and .i64 a1 65535) 4096))) t153 bt154.1 true)))
theorem cartagelaw11_PartEven.mono_l : ∀ k, (∀ y0 y1 y2 y3 y4, LeO (cartagelaw11_PartEven.j0 k y0 y1 y2 y3 y4) (cartagelaw11_PartEven.j0 (k + 1) y0 y1 y2 y3 y4)) ∧ (∀ y0 y1 y2 y3 y4, LeO (cartagelaw11_PartEven.l0 k y0 y1 y2 y3 y4) (cartagelaw11_PartEven.l0 (k + 1) y0 y1 y2 y3 y4))
  | 0 => ⟨fun _ _ _ _ _ r h => by simp [cartagelaw11_PartEven.j0] at h, fun _ _ _ _ _ r h => by simp [cartagelaw11_PartEven.l0] at h⟩
  | k + 1 => by
    obtain ⟨ih0, ih1⟩ := cartagelaw11_PartEven.mono_l k
    refine ⟨?_, ?_⟩
    · intro y0 y1 y2 y3 y4
      unfold cartagelaw11_PartEven.j0
      repeat' first
      | (with_reducible exact ih0 _ _ _ _ _)
      | (with_reducible exact ih1 _ _ _ _ _)
      | (with_reducible exact cartagelaw11_shown.mono _)
      | (with_reducible exact part_Bounds.mono _ _ _)
      | (with_reducible exact LeO.refl _)
      | (with_reducible exact LeO.none _)
      | (with_reducible refine LeO.ite ?_ ?_)
      | (with_reducible refine LeO.bind ?_ (fun _ => ?_))
      | exact ih0 _ _ _ _ _
      | exact ih1 _ _ _ _ _
      | exact cartagelaw11_shown.mono _
      | exact part_Bounds.mono _ _ _
      | exact LeO.none _
      | refine LeO.ite ?_ ?_
      | refine LeO.bind ?_ (fun _ => ?_)
    · intro y0 y1 y2 y3 y4
      unfold cartagelaw11_PartEven.l0
      repeat' first
      | (with_reducible exact ih0 _ _ _ _ _)
      | (with_reducible exact ih1 _ _ _ _ _)
      | (with_reducible exact cartagelaw11_shown.mono _)
      | (with_reducible exact part_Bounds.mono _ _ _)
      | (with_reducible exact LeO.refl _)
      | (with_reducible exact LeO.none _)
      | (with_reducible refine LeO.ite ?_ ?_)
      | (with_reducible refine LeO.bind ?_ (fun _ => ?_))
      | exact ih0 _ _ _ _ _
      | exact ih1 _ _ _ _ _
      | exact cartagelaw11_shown.mono _
      | exact part_Bounds.mono _ _ _
      | exact LeO.none _
      | refine LeO.ite ?_ ?_
      | refine LeO.bind ?_ (fun _ => ?_)
theorem cartagelaw11_PartEven.mono : ∀ a0 a1 k, LeO (cartagelaw11_PartEven.f k a0 a1) (cartagelaw11_PartEven.f (k + 1) a0 a1) := by
  intro a0 a1 k
  obtain ⟨ih0, ih1⟩ := cartagelaw11_PartEven.mono_l k
  unfold cartagelaw11_PartEven.f
  repeat' first
      | (with_reducible exact ih0 _ _ _ _ _)
      | (with_reducible exact ih1 _ _ _ _ _)
      | (with_reducible exact cartagelaw11_shown.mono _)
      | (with_reducible exact part_Bounds.mono _ _ _)
      | (with_reducible exact LeO.refl _)
      | (with_reducible exact LeO.none _)
      | (with_reducible refine LeO.ite ?_ ?_)
      | (with_reducible refine LeO.bind ?_ (fun _ => ?_))
      | exact ih0 _ _ _ _ _
      | exact ih1 _ _ _ _ _
      | exact cartagelaw11_shown.mono _
      | exact part_Bounds.mono _ _ _
      | exact LeO.none _
      | refine LeO.ite ?_ ?_
      | refine LeO.bind ?_ (fun _ => ?_)
set_option maxHeartbeats 8000000 in
set_option maxRecDepth 100000 in
theorem cartagelaw11_PartEven.calls (k : Nat) (a0 : Int) (a1 : Int) (r : Bool) (w : World) (h : cartagelaw11_PartEven.f k a0 a1 = some r) :
    Calls Try.prog 5 #[.int .i64 a0, .int .i64 a1] w fun e w' => e = .returned (.bool r) ∧ Below w.heap.size w w' := by
  have HB := Aside0.mk (Below.refl w.heap.size w)
  have H : ((cartagelaw11_shown.f k).bind fun t153 => ((part_Bounds.f k (Int.tmod (Go.bits .and .i64 a0 1048575) 1048577) (wrap64 (1 + (Int.tmod (Go.bits .and .i64 a1 65535) 4096)))).bind fun bt154 => (if bt154.2 = 0 then (cartagelaw11_PartEven.j0 k (Int.tmod (Go.bits .and .i64 a0 1048575) 1048577) (wrap64 (1 + (Int.tmod (Go.bits .and .i64 a1 65535) 4096))) t153 bt154.1 ((bt154.1.length : Int) != (wrap64 ((wrap64 (1 + (Int.tmod (Go.bits .and .i64 a1 65535) 4096))) + 1)))) else (cartagelaw11_PartEven.j0 k (Int.tmod (Go.bits .and .i64 a0 1048575) 1048577) (wrap64 (1 + (Int.tmod (Go.bits .and .i64 a1 65535) 4096))) t153 bt154.1 true)))) = some r := h
  clear h
  replace H := Option.bind_eq_some_iff.mp H
  obtain ⟨t153, A30, H⟩ := H
  replace H : ((part_Bounds.f k (Int.tmod (Go.bits .and .i64 a0 1048575) 1048577) (wrap64 (1 + (Int.tmod (Go.bits .and .i64 a1 65535) 4096)))).bind fun bt154 => (if bt154.2 = 0 then (cartagelaw11_PartEven.j0 k (Int.tmod (Go.bits .and .i64 a0 1048575) 1048577) (wrap64 (1 + (Int.tmod (Go.bits .and .i64 a1 65535) 4096))) t153 bt154.1 ((bt154.1.length : Int) != (wrap64 ((wrap64 (1 + (Int.tmod (Go.bits .and .i64 a1 65535) 4096))) + 1)))) else (cartagelaw11_PartEven.j0 k (Int.tmod (Go.bits .and .i64 a0 1048575) 1048577) (wrap64 (1 + (Int.tmod (Go.bits .and .i64 a1 65535) 4096))) t153 bt154.1 true))) = some r := H
  have A3 := Aside0.mk A30
  clear A30
  replace H := Option.bind_eq_some_iff.mp H
  obtain ⟨⟨t154, t155⟩, A40, H⟩ := H
  replace H : (if t155 = 0 then (cartagelaw11_PartEven.j0 k (Int.tmod (Go.bits .and .i64 a0 1048575) 1048577) (wrap64 (1 + (Int.tmod (Go.bits .and .i64 a1 65535) 4096))) t153 t154 ((t154.length : Int) != (wrap64 ((wrap64 (1 + (Int.tmod (Go.bits .and .i64 a1 65535) 4096))) + 1)))) else (cartagelaw11_PartEven.j0 k (Int.tmod (Go.bits .and .i64 a0 1048575) 1048577) (wrap64 (1 + (Int.tmod (Go.bits .and .i64 a1 65535) 4096))) t153 t154 true)) = some r := H
  have A4 := Aside0.mk A40
  clear A40
  have HC5 := Aside0.mk H
  clear H
  go_enter Try.func5, Try.ntmps5
  go_upto_region 5 with (first | (go_at_call 8; (with_reducible refine (cartagelaw11_shown.calls k  t153 _ A3.out).mono ?_); rintro e w6 ⟨rfl, hb⟩; have n0_ := Aside0.mk (below_step (by repeat (first | (with_reducible first | exact HB.out | apply below_alloc | apply pw_below_drewN | apply below_drew1) | exact HB.out)) hb); clear HB; have HB := n0_; clear n0_; (try clear hb); (try clear hb2); (try clear hk); (try clear hi)) | (go_at_call 9; (with_reducible refine (part_Bounds.calls k (Int.tmod (Go.bits .and .i64 a0 1048575) 1048577) (wrap64 (1 + (Int.tmod (Go.bits .and .i64 a1 65535) 4096))) t154 t155 _ A4.out).mono ?_); rintro e w7 ⟨v156, rfl, ho0, hb⟩; have n0_ := Aside0.mk (Kd.R_lower ho0 (below_size (by repeat (first | (with_reducible first | exact HB.out | apply below_alloc | apply pw_below_drewN | apply below_drew1) | exact HB.out)))); have n1_ := Aside0.mk (below_step (by repeat (first | (with_reducible first | exact HB.out | apply below_alloc | apply pw_below_drewN | apply below_drew1) | exact HB.out)) hb); clear HB; have HO157 := n0_; have HB := n1_; clear n0_ n1_; (try clear hb); (try clear hb2); (try clear hk); (try clear hi); (try clear ho0)))
  repeat (go_quiet (first | (go_at_call 8; (with_reducible refine (cartagelaw11_shown.calls k  t153 _ A3.out).mono ?_); rintro e w6 ⟨rfl, hb⟩; have n0_ := Aside0.mk (below_step (by repeat (first | (with_reducible first | exact HB.out | apply below_alloc | apply pw_below_drewN | apply below_drew1) | exact HB.out)) hb); clear HB; have HB := n0_; clear n0_; (try clear hb); (try clear hb2); (try clear hk); (try clear hi)) | (go_at_call 9; (with_reducible refine (part_Bounds.calls k (Int.tmod (Go.bits .and .i64 a0 1048575) 1048577) (wrap64 (1 + (Int.tmod (Go.bits .and .i64 a1 65535) 4096))) t154 t155 _ A4.out).mono ?_); rintro e w7 ⟨v156, rfl, ho0, hb⟩; have n0_ := Aside0.mk (Kd.R_lower ho0 (below_size (by repeat (first | (with_reducible first | exact HB.out | apply below_alloc | apply pw_below_drewN | apply below_drew1) | exact HB.out)))); have n1_ := Aside0.mk (below_step (by repeat (first | (with_reducible first | exact HB.out | apply below_alloc | apply pw_below_drewN | apply below_drew1) | exact HB.out)) hb); clear HB; have HO157 := n0_; have HB := n1_; clear n0_ n1_; (try clear hb); (try clear hb2); (try clear hk); (try clear hi); (try clear ho0))); go_upto_region 5 with (first | (go_at_call 8; (with_reducible refine (cartagelaw11_shown.calls k  t153 _ A3.out).mono ?_); rintro e w6 ⟨rfl, hb⟩; have n0_ := Aside0.mk (below_step (by repeat (first | (with_reducible first | exact HB.out | apply below_alloc | apply pw_below_drewN | apply below_drew1) | exact HB.out)) hb); clear HB; have HB := n0_; clear n0_; (try clear hb); (try clear hb2); (try clear hk); (try clear hi)) | (go_at_call 9; (with_reducible refine (part_Bounds.calls k (Int.tmod (Go.bits .and .i64 a0 1048575) 1048577) (wrap64 (1 + (Int.tmod (Go.bits .and .i64 a1 65535) 4096))) t154 t155 _ A4.out).mono ?_); rintro e w7 ⟨v156, rfl, ho0, hb⟩; have n0_ := Aside0.mk (Kd.R_lower ho0 (below_size (by repeat (first | (with_reducible first | exact HB.out | apply below_alloc | apply pw_below_drewN | apply below_drew1) | exact HB.out)))); have n1_ := Aside0.mk (below_step (by repeat (first | (with_reducible first | exact HB.out | apply below_alloc | apply pw_below_drewN | apply below_drew1) | exact HB.out)) hb); clear HB; have HO157 := n0_; have HB := n1_; clear n0_ n1_; (try clear hb); (try clear hb2); (try clear hk); (try clear hi); (try clear ho0))))
  (try simp only [Act.put, List.setIfInBounds_toArray, List.set_cons_zero, List.set_cons_succ])
  go_cut [32] (fun v32 wc => ∃ (kq : Nat) (x32_4 : Bool), v32 = .bool x32_4 ∧ Aside0 (cartagelaw11_PartEven.j0 kq (Int.tmod (Go.bits .and .i64 a0 1048575) 1048577) (wrap64 (1 + (Int.tmod (Go.bits .and .i64 a1 65535) 4096))) t153 t154 x32_4 = some r) ∧ Aside0 (kq ≤ k) ∧ Aside0 (Kd.R (Kd.int .i64) 3 wc w.heap.size (fun _ => True) v156 t154) ∧ Aside0 (Below w.heap.size w wc))
  case first =>
    have H := HC5.out
    clear HC5
    by_cases c8 : t155 = 0
    · rw [if_pos c8] at H
      have c8b0 : (t155 == 0) = true := beq_iff_eq.mpr c8
      have c8b1 : (t155 != 0) = false := bne_eq_false_iff_eq.mpr c8
      clear c8
      (first | rw [c8b0] | (simp only [i64_w, i32_w]; rw [c8b0]) | skip)
      have H' := Aside0.mk H
      clear H
      obtain ⟨Ao9, co9, eo9⟩ := Kd.R_slice HO157.out
      subst eo9
      go_wp2
      repeat (go_quiet (fail); try go_wp2)
      go_meet
      case rel => exact ⟨_, (((t154.length : Int) != (wrap64 ((wrap64 (1 + (Int.tmod (Go.bits .and .i64 a1 65535) 4096))) + 1)))), (by first | rfl | (simp; done) | (simp [*]; done)), H', ⟨by first | omega | exact Nat.le_refl _⟩, ⟨by (with_reducible repeat (first | apply Kd.R_alloc | apply Kd.R_drewN | apply Kd.R_drew)); exact HO157.out⟩, ⟨by repeat (first | (with_reducible first | exact HB.out | apply below_alloc | apply pw_below_drewN | apply below_drew1) | exact HB.out)⟩⟩
    · rw [if_neg c8] at H
      have c8b0 : (t155 == 0) = false := beq_eq_false_iff_ne.mpr c8
      have c8b1 : (t155 != 0) = true := bne_iff_ne.mpr c8
      (first | rw [c8b0] | (simp only [i64_w, i32_w]; rw [c8b0]) | skip)
      have H' := Aside0.mk H
      clear H
      go_wp2
      repeat (go_quiet (fail); try go_wp2)
      go_meet
      case rel => exact ⟨_, (true), (by first | rfl | (simp; done) | (simp [*]; done)), H', ⟨by first | omega | exact Nat.le_refl _⟩, ⟨by (with_reducible repeat (first | apply Kd.R_alloc | apply Kd.R_drewN | apply Kd.R_drew)); exact HO157.out⟩, ⟨by repeat (first | (with_reducible first | exact HB.out | apply below_alloc | apply pw_below_drewN | apply below_drew1) | exact HB.out)⟩⟩
  case rest =>
    clear HC5
    try clear p2
    try clear c5
    try clear p6
    try clear c8
    try clear c8b0
    try clear c8b1
    obtain ⟨kq, x32_4, rfl, HA, HJ4, HO_6, HB⟩ := hcut
    cases kq with
    | zero => exact absurd HA.out (by simp [cartagelaw11_PartEven.j0])
    | succ kj4 =>
      have H := HA.out
      clear HA
      simp only [cartagelaw11_PartEven.j0] at H
      by_cases c10 : x32_4 = true
      · subst c10
        have H1 : (some false) = some r := by rw [if_pos rfl] at H; exact H
        clear H
        have H := H1
        clear H1
        obtain rfl := Option.some.inj H
        go_wp2
        repeat (go_quiet (fail); try go_wp2)
        go_ret
        exact ⟨by first | rfl | (simp [errW_none, errW_some] <;> rfl) | (simp [*, errW_none, errW_some] <;> rfl), by repeat (first | (with_reducible first | exact HB.out | apply below_alloc | apply pw_below_drewN | apply below_drew1) | exact HB.out)⟩
      · replace c10 := Bool.eq_false_iff.mpr c10
        subst c10
        have H1 : (cartagelaw11_PartEven.l0 kj4 (Int.tmod (Go.bits .and .i64 a0 1048575) 1048577) (wrap64 (1 + (Int.tmod (Go.bits .and .i64 a1 65535) 4096))) t153 t154 0) = some r := by rw [if_neg (show ¬ (false = true) by decide)] at H; exact H
        clear H
        have H := H1
        clear H1
        have H' := Aside0.mk H
        clear H
        go_wp2
        repeat (go_quiet (fail); try go_wp2)
        go_loopg [8] kj4 (fun kq v8 w' => ∃ (x8_2 : Int), v8 = .int .i64 x8_2 ∧ Aside0 (cartagelaw11_PartEven.l0 kq (Int.tmod (Go.bits .and .i64 a0 1048575) 1048577) (wrap64 (1 + (Int.tmod (Go.bits .and .i64 a1 65535) 4096))) t153 t154 x8_2 = some r) ∧ Aside0 (kq ≤ kj4) ∧ Aside0 (Kd.R (Kd.int .i64) 3 w' w.heap.size (fun _ => True) v156 t154) ∧ Aside0 (Below w.heap.size w w'))
        case atStart => exact ⟨(0), (by first | rfl | (simp; done) | (simp [*]; done)), H', ⟨Nat.le_refl _⟩, ⟨by (with_reducible repeat (first | apply Kd.R_alloc | apply Kd.R_drewN | apply Kd.R_drew)); exact HO_6.out⟩, ⟨by repeat (first | (with_reducible first | exact HB.out | apply below_alloc | apply pw_below_drewN | apply below_drew1) | exact HB.out)⟩⟩
        case round =>
          clear H'
          try clear c1
          try clear p2
          try clear c5
          try clear p6
          try clear c8
          try clear c8b0
          try clear c8b1
          try clear c10
          try clear p2
          try clear p6
          obtain ⟨x8_2, rfl, HA, HK2, HO_6, HB⟩ := hrel
          cases gk with
          | zero => exact absurd HA.out (by simp [cartagelaw11_PartEven.l0])
          | succ k2 =>
            have H := HA.out
            clear HA
            simp only [cartagelaw11_PartEven.l0] at H
            by_cases c11 : x8_2 < (wrap64 (1 + (Int.tmod (Go.bits .and .i64 a1 65535) 4096)))
            · rw [if_pos c11] at H
              have c11b0 : decide (x8_2 < (wrap64 (1 + (Int.tmod (Go.bits .and .i64 a1 65535) 4096)))) = true := decide_eq_true c11
              clear c11
              obtain ⟨ji12, hji12⟩ : ∃ j_ : Int, (wrap64 (x8_2 + 1)) = j_ := ⟨_, rfl⟩
              replace H : (if 0 ≤ (ji12) then (if (ji12) < (t154.length : Int) then (if 0 ≤ x8_2 then (if x8_2 < (t154.length : Int) then (if (wrap64 (1 + (Int.tmod (Go.bits .and .i64 a1 65535) 4096))) = 0 then (none) else (if (wrap64 ((rd t154 (ji12)) - (rd t154 x8_2))) < (wrap64 (Int.tdiv (Int.tmod (Go.bits .and .i64 a0 1048575) 1048577) (wrap64 (1 + (Int.tmod (Go.bits .and .i64 a1 65535) 4096))))) then (some false) else (if (wrap64 ((rd t154 (ji12)) - (rd t154 x8_2))) > (wrap64 ((wrap64 (Int.tdiv (Int.tmod (Go.bits .and .i64 a0 1048575) 1048577) (wrap64 (1 + (Int.tmod (Go.bits .and .i64 a1 65535) 4096))))) + 1)) then (some false) else (cartagelaw11_PartEven.l0 k2 (Int.tmod (Go.bits .and .i64 a0 1048575) 1048577) (wrap64 (1 + (Int.tmod (Go.bits .and .i64 a1 65535) 4096))) t153 t154 ji12)))) else (none)) else (none)) else (none)) else (none)) = some r := by first | (rw [hji12] at H; exact H) | (simp only [hji12] at H ⊢; exact H)
              have hji12w : (IntKind.i64.wrap (x8_2 + 1)) = ji12 := (i64_w _).trans hji12
              by_cases c13 : 0 ≤ (ji12)
              · rw [if_pos c13] at H
                have c13b0 : decide (0 ≤ (ji12)) = true := decide_eq_true c13
                clear c13
                by_cases c14 : (ji12) < (t154.length : Int)
                · rw [if_pos c14] at H
                  have c14b0 : decide ((ji12) < (t154.length : Int)) = true := decide_eq_true c14
                  clear c14
                  by_cases c15 : 0 ≤ x8_2
                  · rw [if_pos c15] at H
                    have c15b0 : decide (0 ≤ x8_2) = true := decide_eq_true c15
                    clear c15
                    by_cases c16 : x8_2 < (t154.length : Int)
                    · rw [if_pos c16] at H
                      have c16b0 : decide (x8_2 < (t154.length : Int)) = true := decide_eq_true c16
                      clear c16
                      by_cases c17 : (wrap64 (1 + (Int.tmod (Go.bits .and .i64 a1 65535) 4096))) = 0
                      · rw [if_pos c17] at H
                        exact absurd H (by simp)
                      · rw [if_neg c17] at H
                        have c17b0 : ((wrap64 (1 + (Int.tmod (Go.bits .and .i64 a1 65535) 4096))) == 0) = false := beq_eq_false_iff_ne.mpr c17
                        have c17b1 : ((wrap64 (1 + (Int.tmod (Go.bits .and .i64 a1 65535) 4096))) != 0) = true := bne_iff_ne.mpr c17
                        by_cases c18 : (wrap64 ((rd t154 (ji12)) - (rd t154 x8_2))) < (wrap64 (Int.tdiv (Int.tmod (Go.bits .and .i64 a0 1048575) 1048577) (wrap64 (1 + (Int.tmod (Go.bits .and .i64 a1 65535) 4096)))))
                        · rw [if_pos c18] at H
                          have c18b0 : decide ((wrap64 ((rd t154 (ji12)) - (rd t154 x8_2))) < (wrap64 (Int.tdiv (Int.tmod (Go.bits .and .i64 a0 1048575) 1048577) (wrap64 (1 + (Int.tmod (Go.bits .and .i64 a1 65535) 4096)))))) = true := decide_eq_true c18
                          clear c18
                          obtain rfl := Option.some.inj H
                          obtain ⟨Ao19, co19, eo19⟩ := Kd.R_slice HO_6.out
                          subst eo19
                          have p158 : 0 ≤ ((ji12) : Int) := of_decide_eq_true (by first | (with_reducible assumption) | assumption)
                          have q158 : (ji12) < (t154.length : Int) := of_decide_eq_true (by first | (with_reducible assumption) | assumption)
                          obtain ⟨ad158, e158, hx158_0⟩ := Kd.at_int (Kd.R_reads' HO_6.out).2.2 (ji12) p158 q158
                          cases e158
                          replace p158 := eq_true p158
                          replace q158 := eq_true q158
                          have p159 : 0 ≤ (x8_2 : Int) := of_decide_eq_true (by first | (with_reducible assumption) | assumption)
                          have q159 : x8_2 < (t154.length : Int) := of_decide_eq_true (by first | (with_reducible assumption) | assumption)
                          obtain ⟨ad159, e159, hx159_0⟩ := Kd.at_int (Kd.R_reads' HO_6.out).2.2 x8_2 p159 q159
                          obtain rfl : ad158 = ad159 := (by injection e159)
                          replace p159 := eq_true p159
                          replace q159 := eq_true q159
                          go_wp2
                          repeat (go_quiet (fail); try go_wp2)
                          go_ret
                          exact ⟨by first | rfl | (simp [errW_none, errW_some] <;> rfl) | (simp only [← hji12]; first | rfl | (simp [errW_none, errW_some] <;> rfl)) | (simp [*, errW_none, errW_some] <;> rfl), by repeat (first | (with_reducible first | exact HB.out | apply below_alloc | apply pw_below_drewN | apply below_drew1) | exact HB.out)⟩
                        · rw [if_neg c18] at H
                          have c18b0 : decide ((wrap64 ((rd t154 (ji12)) - (rd t154 x8_2))) < (wrap64 (Int.tdiv (Int.tmod (Go.bits .and .i64 a0 1048575) 1048577) (wrap64 (1 + (Int.tmod (Go.bits .and .i64 a1 65535) 4096)))))) = false := decide_eq_false c18
                          clear c18
                          by_cases c20 : (wrap64 ((rd t154 (ji12)) - (rd t154 x8_2))) > (wrap64 ((wrap64 (Int.tdiv (Int.tmod (Go.bits .and .i64 a0 1048575) 1048577) (wrap64 (1 + (Int.tmod (Go.bits .and .i64 a1 65535) 4096))))) + 1))
                          · rw [if_pos c20] at H
                            have c20b0 : decide ((wrap64 ((wrap64 (Int.tdiv (Int.tmod (Go.bits .and .i64 a0 1048575) 1048577) (wrap64 (1 + (Int.tmod (Go.bits .and .i64 a1 65535) 4096))))) + 1)) < (wrap64 ((rd t154 (ji12)) - (rd t154 x8_2)))) = true := decide_eq_true c20
                            clear c20
                            obtain rfl := Option.some.inj H
                            obtain ⟨Ao21, co21, eo21⟩ := Kd.R_slice HO_6.out
                            subst eo21
                            have p158 : 0 ≤ ((ji12) : Int) := of_decide_eq_true (by first | (with_reducible assumption) | assumption)
                            have q158 : (ji12) < (t154.length : Int) := of_decide_eq_true (by first | (with_reducible assumption) | assumption)
                            obtain ⟨ad158, e158, hx158_0⟩ := Kd.at_int (Kd.R_reads' HO_6.out).2.2 (ji12) p158 q158
                            cases e158
                            replace p158 := eq_true p158
                            replace q158 := eq_true q158
                            have p159 : 0 ≤ (x8_2 : Int) := of_decide_eq_true (by first | (with_reducible assumption) | assumption)
                            have q159 : x8_2 < (t154.length : Int) := of_decide_eq_true (by first | (with_reducible assumption) | assumption)
                            obtain ⟨ad159, e159, hx159_0⟩ := Kd.at_int (Kd.R_reads' HO_6.out).2.2 x8_2 p159 q159
                            obtain rfl : ad158 = ad159 := (by injection e159)
                            replace p159 := eq_true p159
                            replace q159 := eq_true q159
                            go_wp2
                            repeat (go_quiet (fail); try go_wp2)
                            go_ret
                            exact ⟨by first | rfl | (simp [errW_none, errW_some] <;> rfl) | (simp only [← hji12]; first | rfl | (simp [errW_none, errW_some] <;> rfl)) | (simp [*, errW_none, errW_some] <;> rfl), by repeat (first | (with_reducible first | exact HB.out | apply below_alloc | apply pw_below_drewN | apply below_drew1) | exact HB.out)⟩
                          · rw [if_neg c20] at H
                            have c20b0 : decide ((wrap64 ((wrap64 (Int.tdiv (Int.tmod (Go.bits .and .i64 a0 1048575) 1048577) (wrap64 (1 + (Int.tmod (Go.bits .and .i64 a1 65535) 4096))))) + 1)) < (wrap64 ((rd t154 (ji12)) - (rd t154 x8_2)))) = false := decide_eq_false c20
                            clear c20
                            have H' := Aside0.mk H
                            clear H
                            obtain ⟨Ao22, co22, eo22⟩ := Kd.R_slice HO_6.out
                            subst eo22
                            have p158 : 0 ≤ ((ji12) : Int) := of_decide_eq_true (by first | (with_reducible assumption) | assumption)
                            have q158 : (ji12) < (t154.length : Int) := of_decide_eq_true (by first | (with_reducible assumption) | assumption)
                            obtain ⟨ad158, e158, hx158_0⟩ := Kd.at_int (Kd.R_reads' HO_6.out).2.2 (ji12) p158 q158
                            cases e158
                            replace p158 := eq_true p158
                            replace q158 := eq_true q158
                            have p159 : 0 ≤ (x8_2 : Int) := of_decide_eq_true (by first | (with_reducible assumption) | assumption)
                            have q159 : x8_2 < (t154.length : Int) := of_decide_eq_true (by first | (with_reducible assumption) | assumption)
                            obtain ⟨ad159, e159, hx159_0⟩ := Kd.at_int (Kd.R_reads' HO_6.out).2.2 x8_2 p159 q159
                            obtain rfl : ad158 = ad159 := (by injection e159)
                            replace p159 := eq_true p159
                            replace q159 := eq_true q159
                            go_wp2
                            repeat (go_quiet (fail); try go_wp2)
                            go_roundg k2
                            case measure => have := HJ4.out; have := HK2.out; omega
                            case rel => exact ⟨(ji12), (by first | rfl | (simp; done) | (simp only [← hji12] <;> (first | rfl | simp)) | (simp [*]; done)), H', ⟨by have := HJ4.out; have := HK2.out; omega⟩, ⟨by (with_reducible repeat (first | apply Kd.R_alloc | apply Kd.R_drewN | apply Kd.R_drew)); exact HO_6.out⟩, ⟨by repeat (first | (with_reducible first | exact HB.out | apply below_alloc | apply pw_below_drewN | apply below_drew1) | exact HB.out)⟩⟩
                    · rw [if_neg c16] at H
                      exact absurd H (by simp)
                  · rw [if_neg c15] at H
                    exact absurd H (by simp)
                · rw [if_neg c14] at H
                  exact absurd H (by simp)
              · rw [if_neg c13] at H
                exact absurd H (by simp)
            · rw [if_neg c11] at H
              have c11b0 : decide (x8_2 < (wrap64 (1 + (Int.tmod (Go.bits .and .i64 a1 65535) 4096)))) = false := decide_eq_false c11
              clear c11
              obtain rfl := Option.some.inj H
              go_wp2
              repeat (go_quiet (fail); try go_wp2)
              go_ret
              exact ⟨by first | rfl | (simp [errW_none, errW_some] <;> rfl) | (simp [*, errW_none, errW_some] <;> rfl), by repeat (first | (with_reducible first | exact HB.out | apply below_alloc | apply pw_below_drewN | apply below_drew1) | exact HB.out)⟩

/-- THE ONE PURE STATEMENT of cartagelaw11_PartEven: yours. -/
def cartagelaw11_PartEven.Pure : Prop := ∀ (a0 : Int) (a1 : Int), (Lit.int .i64 a0).wf = true → (Lit.int .i64 a1).wf = true → ∃ k, cartagelaw11_PartEven.f k a0 a1 = some true
theorem cartagelaw11_PartEven.walk (P : cartagelaw11_PartEven.Pure) (a0 : Int) (a1 : Int) (w : World) (w0 : (Lit.int .i64 a0).wf = true) (w1 : (Lit.int .i64 a1).wf = true) :
    Calls Try.prog 5 #[.int .i64 a0, .int .i64 a1] w fun e w' => e = .returned (.bool true) ∧ Below w.heap.size w w' := by
  obtain ⟨k, h⟩ := P a0 a1 w0 w1
  refine (cartagelaw11_PartEven.calls k a0 a1 true w h).mono ?_
  rintro e w' ⟨rfl, hd⟩
  exact ⟨rfl, hd⟩

/-! ### cartagelaw11_PartOne: function 6 -/
def cartagelaw11_PartOne.f (k : Nat) (a0 : Int) (a1 : Int) : Option (Bool) := (cartagelaw11_shown.f k).bind fun t160 => (if (wrap64 (1 + (Int.tmod (Go.bits .and .i64 a0 65535) 4000))) = 0 then (none) else ((part_Of.f (wrap64 (1 + (Int.tmod (Go.bits .and .i64 a0 65535) 4000))) 1 (Int.tmod (Go.bits .and .i64 a1 65535) (wrap64 (1 + (Int.tmod (Go.bits .and .i64 a0 65535) 4000))))).bind fun bt161 => ((part_Of.f (wrap64 (1 + (Int.tmod (Go.bits .and .i64 a0 65535) 4000))) (wrap64 (1 + (Int.tmod (Go.bits .and .i64 a0 65535) 4000))) (Int.tmod (Go.bits .and .i64 a1 65535) (wrap64 (1 + (Int.tmod (Go.bits .and .i64 a0 65535) 4000))))).bind fun bt163 => (if t160 = true then (if bt161.2 = 0 then (if bt161.1 = 0 then (if bt163.2 = 0 then (some (bt163.1 == (Int.tmod (Go.bits .and .i64 a1 65535) (wrap64 (1 + (Int.tmod (Go.bits .and .i64 a0 65535) 4000)))))) else (some false)) else (some false)) else (some false)) else (some false)))))
theorem cartagelaw11_PartOne.mono : ∀ a0 a1 k, LeO (cartagelaw11_PartOne.f k a0 a1) (cartagelaw11_PartOne.f (k + 1) a0 a1) := by
  intro a0 a1 k
  unfold cartagelaw11_PartOne.f
  repeat' first
      | (with_reducible exact cartagelaw11_shown.mono _)
      | (with_reducible exact LeO.refl _)
      | (with_reducible exact LeO.none _)
      | (with_reducible refine LeO.ite ?_ ?_)
      | (with_reducible refine LeO.bind ?_ (fun _ => ?_))
      | exact cartagelaw11_shown.mono _
      | exact LeO.none _
      | refine LeO.ite ?_ ?_
      | refine LeO.bind ?_ (fun _ => ?_)
set_option maxHeartbeats 8000000 in
set_option maxRecDepth 100000 in
theorem cartagelaw11_PartOne.calls (k : Nat) (a0 : Int) (a1 : Int) (r : Bool) (w : World) (h : cartagelaw11_PartOne.f k a0 a1 = some r) :
    Calls Try.prog 6 #[.int .i64 a0, .int .i64 a1] w fun e w' => e = .returned (.bool r) ∧ Below w.heap.size w w' := by
  have HB := Aside0.mk (Below.refl w.heap.size w)
  have H : ((cartagelaw11_shown.f k).bind fun t160 => (if (wrap64 (1 + (Int.tmod (Go.bits .and .i64 a0 65535) 4000))) = 0 then (none) else ((part_Of.f (wrap64 (1 + (Int.tmod (Go.bits .and .i64 a0 65535) 4000))) 1 (Int.tmod (Go.bits .and .i64 a1 65535) (wrap64 (1 + (Int.tmod (Go.bits .and .i64 a0 65535) 4000))))).bind fun bt161 => ((part_Of.f (wrap64 (1 + (Int.tmod (Go.bits .and .i64 a0 65535) 4000))) (wrap64 (1 + (Int.tmod (Go.bits .and .i64 a0 65535) 4000))) (Int.tmod (Go.bits .and .i64 a1 65535) (wrap64 (1 + (Int.tmod (Go.bits .and .i64 a0 65535) 4000))))).bind fun bt163 => (if t160 = true then (if bt161.2 = 0 then (if bt161.1 = 0 then (if bt163.2 = 0 then (some (bt163.1 == (Int.tmod (Go.bits .and .i64 a1 65535) (wrap64 (1 + (Int.tmod (Go.bits .and .i64 a0 65535) 4000)))))) else (some false)) else (some false)) else (some false)) else (some false)))))) = some r := h
  clear h
  replace H := Option.bind_eq_some_iff.mp H
  obtain ⟨t160, A30, H⟩ := H
  replace H : (if (wrap64 (1 + (Int.tmod (Go.bits .and .i64 a0 65535) 4000))) = 0 then (none) else ((part_Of.f (wrap64 (1 + (Int.tmod (Go.bits .and .i64 a0 65535) 4000))) 1 (Int.tmod (Go.bits .and .i64 a1 65535) (wrap64 (1 + (Int.tmod (Go.bits .and .i64 a0 65535) 4000))))).bind fun bt161 => ((part_Of.f (wrap64 (1 + (Int.tmod (Go.bits .and .i64 a0 65535) 4000))) (wrap64 (1 + (Int.tmod (Go.bits .and .i64 a0 65535) 4000))) (Int.tmod (Go.bits .and .i64 a1 65535) (wrap64 (1 + (Int.tmod (Go.bits .and .i64 a0 65535) 4000))))).bind fun bt163 => (if t160 = true then (if bt161.2 = 0 then (if bt161.1 = 0 then (if bt163.2 = 0 then (some (bt163.1 == (Int.tmod (Go.bits .and .i64 a1 65535) (wrap64 (1 + (Int.tmod (Go.bits .and .i64 a0 65535) 4000)))))) else (some false)) else (some false)) else (some false)) else (some false))))) = some r := H
  have A3 := Aside0.mk A30
  clear A30
  by_cases c4 : (wrap64 (1 + (Int.tmod (Go.bits .and .i64 a0 65535) 4000))) = 0
  · rw [if_pos c4] at H
    exact absurd H (by simp)
  · rw [if_neg c4] at H
    have c4b0 : ((wrap64 (1 + (Int.tmod (Go.bits .and .i64 a0 65535) 4000))) == 0) = false := beq_eq_false_iff_ne.mpr c4
    have c4b1 : ((wrap64 (1 + (Int.tmod (Go.bits .and .i64 a0 65535) 4000))) != 0) = true := bne_iff_ne.mpr c4
    replace H := Option.bind_eq_some_iff.mp H
    obtain ⟨⟨t161, t162⟩, A50, H⟩ := H
    replace H : ((part_Of.f (wrap64 (1 + (Int.tmod (Go.bits .and .i64 a0 65535) 4000))) (wrap64 (1 + (Int.tmod (Go.bits .and .i64 a0 65535) 4000))) (Int.tmod (Go.bits .and .i64 a1 65535) (wrap64 (1 + (Int.tmod (Go.bits .and .i64 a0 65535) 4000))))).bind fun bt163 => (if t160 = true then (if t162 = 0 then (if t161 = 0 then (if bt163.2 = 0 then (some (bt163.1 == (Int.tmod (Go.bits .and .i64 a1 65535) (wrap64 (1 + (Int.tmod (Go.bits .and .i64 a0 65535) 4000)))))) else (some false)) else (some false)) else (some false)) else (some false))) = some r := H
    have A5 := Aside0.mk A50
    clear A50
    replace H := Option.bind_eq_some_iff.mp H
    obtain ⟨⟨t163, t164⟩, A60, H⟩ := H
    replace H : (if t160 = true then (if t162 = 0 then (if t161 = 0 then (if t164 = 0 then (some (t163 == (Int.tmod (Go.bits .and .i64 a1 65535) (wrap64 (1 + (Int.tmod (Go.bits .and .i64 a0 65535) 4000)))))) else (some false)) else (some false)) else (some false)) else (some false)) = some r := H
    have A6 := Aside0.mk A60
    clear A60
    by_cases c7 : t160 = true
    · subst c7
      have H1 : (if t162 = 0 then (if t161 = 0 then (if t164 = 0 then (some (t163 == (Int.tmod (Go.bits .and .i64 a1 65535) (wrap64 (1 + (Int.tmod (Go.bits .and .i64 a0 65535) 4000)))))) else (some false)) else (some false)) else (some false)) = some r := by rw [if_pos rfl] at H; exact H
      clear H
      have H := H1
      clear H1
      by_cases c8 : t162 = 0
      · rw [if_pos c8] at H
        have c8b0 : (t162 == 0) = true := beq_iff_eq.mpr c8
        have c8b1 : (t162 != 0) = false := bne_eq_false_iff_eq.mpr c8
        clear c8
        by_cases c9 : t161 = 0
        · rw [if_pos c9] at H
          have c9b0 : (t161 == 0) = true := beq_iff_eq.mpr c9
          have c9b1 : (t161 != 0) = false := bne_eq_false_iff_eq.mpr c9
          clear c9
          by_cases c10 : t164 = 0
          · rw [if_pos c10] at H
            have c10b0 : (t164 == 0) = true := beq_iff_eq.mpr c10
            have c10b1 : (t164 != 0) = false := bne_eq_false_iff_eq.mpr c10
            clear c10
            obtain rfl := Option.some.inj H
            go_enter Try.func6, Try.ntmps6
            go_wp2_with (first | ((with_reducible refine gate_callee (f := 8) rfl ?_); refine goesL_ (some 10) rfl rfl Try.func8 (by kernel_rfl) rfl #[] rfl (by (try simp only [List.map_toArray, List.map_cons, List.map_nil]); first | done | rfl | (simp only [List.length_drop, List.length_take]; rfl)) ?_; (with_reducible refine (cartagelaw11_shown.calls k  true _ A3.out).mono ?_); rintro e w11 ⟨rfl, hb⟩; refine ⟨_, rfl, ?_⟩; have n0_ := Aside0.mk (below_step (by repeat (first | (with_reducible first | exact HB.out | apply below_alloc | apply pw_below_drewN | apply below_drew1) | exact HB.out)) hb); clear HB; have HB := n0_; clear n0_; (try clear hb); (try clear hb2); (try clear hk); (try clear hi)) | ((with_reducible refine gate_callee (f := 10) rfl ?_); refine goesL_ (some 22) rfl rfl Try.func10 (by kernel_rfl) rfl #[.int .i64 (wrap64 (1 + (Int.tmod (Go.bits .and .i64 a0 65535) 4000))), .int .i64 1, .int .i64 (Int.tmod (Go.bits .and .i64 a1 65535) (wrap64 (1 + (Int.tmod (Go.bits .and .i64 a0 65535) 4000))))] rfl (by (try simp only [List.map_toArray, List.map_cons, List.map_nil]); first | done | rfl | (simp only [List.length_drop, List.length_take]; rfl)) ?_; (with_reducible refine (part_Of.calls (wrap64 (1 + (Int.tmod (Go.bits .and .i64 a0 65535) 4000))) 1 (Int.tmod (Go.bits .and .i64 a1 65535) (wrap64 (1 + (Int.tmod (Go.bits .and .i64 a0 65535) 4000)))) t161 t162 _ A5.out).mono ?_); rintro e w12 ⟨rfl, hb⟩; refine ⟨_, rfl, ?_⟩; have n0_ := Aside0.mk (below_step (by repeat (first | (with_reducible first | exact HB.out | apply below_alloc | apply pw_below_drewN | apply below_drew1) | exact HB.out)) hb); clear HB; have HB := n0_; clear n0_; (try clear hb); (try clear hb2); (try clear hk); (try clear hi)) | ((with_reducible refine gate_callee (f := 10) rfl ?_); refine goesL_ (some 29) rfl rfl Try.func10 (by kernel_rfl) rfl #[.int .i64 (wrap64 (1 + (Int.tmod (Go.bits .and .i64 a0 65535) 4000))), .int .i64 (wrap64 (1 + (Int.tmod (Go.bits .and .i64 a0 65535) 4000))), .int .i64 (Int.tmod (Go.bits .and .i64 a1 65535) (wrap64 (1 + (Int.tmod (Go.bits .and .i64 a0 65535) 4000))))] rfl (by (try simp only [List.map_toArray, List.map_cons, List.map_nil]); first | done | rfl | (simp only [List.length_drop, List.length_take]; rfl)) ?_; (with_reducible refine (part_Of.calls (wrap64 (1 + (Int.tmod (Go.bits .and .i64 a0 65535) 4000))) (wrap64 (1 + (Int.tmod (Go.bits .and .i64 a0 65535) 4000))) (Int.tmod (Go.bits .and .i64 a1 65535) (wrap64 (1 + (Int.tmod (Go.bits .and .i64 a0 65535) 4000)))) t163 t164 _ A6.out).mono ?_); rintro e w13 ⟨rfl, hb⟩; refine ⟨_, rfl, ?_⟩; have n0_ := Aside0.mk (below_step (by repeat (first | (with_reducible first | exact HB.out | apply below_alloc | apply pw_below_drewN | apply below_drew1) | exact HB.out)) hb); clear HB; have HB := n0_; clear n0_; (try clear hb); (try clear hb2); (try clear hk); (try clear hi)))
            go_ret
            exact ⟨by first | rfl | (simp [errW_none, errW_some] <;> rfl) | (simp [*, errW_none, errW_some] <;> rfl), by repeat (first | (with_reducible first | exact HB.out | apply below_alloc | apply pw_below_drewN | apply below_drew1) | exact HB.out)⟩
          · rw [if_neg c10] at H
            have c10b0 : (t164 == 0) = false := beq_eq_false_iff_ne.mpr c10
            have c10b1 : (t164 != 0) = true := bne_iff_ne.mpr c10
            obtain rfl := Option.some.inj H
            go_enter Try.func6, Try.ntmps6
            go_wp2_with (first | ((with_reducible refine gate_callee (f := 8) rfl ?_); refine goesL_ (some 10) rfl rfl Try.func8 (by kernel_rfl) rfl #[] rfl (by (try simp only [List.map_toArray, List.map_cons, List.map_nil]); first | done | rfl | (simp only [List.length_drop, List.length_take]; rfl)) ?_; (with_reducible refine (cartagelaw11_shown.calls k  true _ A3.out).mono ?_); rintro e w14 ⟨rfl, hb⟩; refine ⟨_, rfl, ?_⟩; have n0_ := Aside0.mk (below_step (by repeat (first | (with_reducible first | exact HB.out | apply below_alloc | apply pw_below_drewN | apply below_drew1) | exact HB.out)) hb); clear HB; have HB := n0_; clear n0_; (try clear hb); (try clear hb2); (try clear hk); (try clear hi)) | ((with_reducible refine gate_callee (f := 10) rfl ?_); refine goesL_ (some 22) rfl rfl Try.func10 (by kernel_rfl) rfl #[.int .i64 (wrap64 (1 + (Int.tmod (Go.bits .and .i64 a0 65535) 4000))), .int .i64 1, .int .i64 (Int.tmod (Go.bits .and .i64 a1 65535) (wrap64 (1 + (Int.tmod (Go.bits .and .i64 a0 65535) 4000))))] rfl (by (try simp only [List.map_toArray, List.map_cons, List.map_nil]); first | done | rfl | (simp only [List.length_drop, List.length_take]; rfl)) ?_; (with_reducible refine (part_Of.calls (wrap64 (1 + (Int.tmod (Go.bits .and .i64 a0 65535) 4000))) 1 (Int.tmod (Go.bits .and .i64 a1 65535) (wrap64 (1 + (Int.tmod (Go.bits .and .i64 a0 65535) 4000)))) t161 t162 _ A5.out).mono ?_); rintro e w15 ⟨rfl, hb⟩; refine ⟨_, rfl, ?_⟩; have n0_ := Aside0.mk (below_step (by repeat (first | (with_reducible first | exact HB.out | apply below_alloc | apply pw_below_drewN | apply below_drew1) | exact HB.out)) hb); clear HB; have HB := n0_; clear n0_; (try clear hb); (try clear hb2); (try clear hk); (try clear hi)) | ((with_reducible refine gate_callee (f := 10) rfl ?_); refine goesL_ (some 29) rfl rfl Try.func10 (by kernel_rfl) rfl #[.int .i64 (wrap64 (1 + (Int.tmod (Go.bits .and .i64 a0 65535) 4000))), .int .i64 (wrap64 (1 + (Int.tmod (Go.bits .and .i64 a0 65535) 4000))), .int .i64 (Int.tmod (Go.bits .and .i64 a1 65535) (wrap64 (1 + (Int.tmod (Go.bits .and .i64 a0 65535) 4000))))] rfl (by (try simp only [List.map_toArray, List.map_cons, List.map_nil]); first | done | rfl | (simp only [List.length_drop, List.length_take]; rfl)) ?_; (with_reducible refine (part_Of.calls (wrap64 (1 + (Int.tmod (Go.bits .and .i64 a0 65535) 4000))) (wrap64 (1 + (Int.tmod (Go.bits .and .i64 a0 65535) 4000))) (Int.tmod (Go.bits .and .i64 a1 65535) (wrap64 (1 + (Int.tmod (Go.bits .and .i64 a0 65535) 4000)))) t163 t164 _ A6.out).mono ?_); rintro e w16 ⟨rfl, hb⟩; refine ⟨_, rfl, ?_⟩; have n0_ := Aside0.mk (below_step (by repeat (first | (with_reducible first | exact HB.out | apply below_alloc | apply pw_below_drewN | apply below_drew1) | exact HB.out)) hb); clear HB; have HB := n0_; clear n0_; (try clear hb); (try clear hb2); (try clear hk); (try clear hi)))
            go_ret
            exact ⟨by first | rfl | (simp [errW_none, errW_some] <;> rfl) | (simp [*, errW_none, errW_some] <;> rfl), by repeat (first | (with_reducible first | exact HB.out | apply below_alloc | apply pw_below_drewN | apply below_drew1) | exact HB.out)⟩
        · rw [if_neg c9] at H
          have c9b0 : (t161 == 0) = false := beq_eq_false_iff_ne.mpr c9
          have c9b1 : (t161 != 0) = true := bne_iff_ne.mpr c9
          obtain rfl := Option.some.inj H
          go_enter Try.func6, Try.ntmps6
          go_wp2_with (first | ((with_reducible refine gate_callee (f := 8) rfl ?_); refine goesL_ (some 10) rfl rfl Try.func8 (by kernel_rfl) rfl #[] rfl (by (try simp only [List.map_toArray, List.map_cons, List.map_nil]); first | done | rfl | (simp only [List.length_drop, List.length_take]; rfl)) ?_; (with_reducible refine (cartagelaw11_shown.calls k  true _ A3.out).mono ?_); rintro e w17 ⟨rfl, hb⟩; refine ⟨_, rfl, ?_⟩; have n0_ := Aside0.mk (below_step (by repeat (first | (with_reducible first | exact HB.out | apply below_alloc | apply pw_below_drewN | apply below_drew1) | exact HB.out)) hb); clear HB; have HB := n0_; clear n0_; (try clear hb); (try clear hb2); (try clear hk); (try clear hi)) | ((with_reducible refine gate_callee (f := 10) rfl ?_); refine goesL_ (some 22) rfl rfl Try.func10 (by kernel_rfl) rfl #[.int .i64 (wrap64 (1 + (Int.tmod (Go.bits .and .i64 a0 65535) 4000))), .int .i64 1, .int .i64 (Int.tmod (Go.bits .and .i64 a1 65535) (wrap64 (1 + (Int.tmod (Go.bits .and .i64 a0 65535) 4000))))] rfl (by (try simp only [List.map_toArray, List.map_cons, List.map_nil]); first | done | rfl | (simp only [List.length_drop, List.length_take]; rfl)) ?_; (with_reducible refine (part_Of.calls (wrap64 (1 + (Int.tmod (Go.bits .and .i64 a0 65535) 4000))) 1 (Int.tmod (Go.bits .and .i64 a1 65535) (wrap64 (1 + (Int.tmod (Go.bits .and .i64 a0 65535) 4000)))) t161 t162 _ A5.out).mono ?_); rintro e w18 ⟨rfl, hb⟩; refine ⟨_, rfl, ?_⟩; have n0_ := Aside0.mk (below_step (by repeat (first | (with_reducible first | exact HB.out | apply below_alloc | apply pw_below_drewN | apply below_drew1) | exact HB.out)) hb); clear HB; have HB := n0_; clear n0_; (try clear hb); (try clear hb2); (try clear hk); (try clear hi)) | ((with_reducible refine gate_callee (f := 10) rfl ?_); refine goesL_ (some 29) rfl rfl Try.func10 (by kernel_rfl) rfl #[.int .i64 (wrap64 (1 + (Int.tmod (Go.bits .and .i64 a0 65535) 4000))), .int .i64 (wrap64 (1 + (Int.tmod (Go.bits .and .i64 a0 65535) 4000))), .int .i64 (Int.tmod (Go.bits .and .i64 a1 65535) (wrap64 (1 + (Int.tmod (Go.bits .and .i64 a0 65535) 4000))))] rfl (by (try simp only [List.map_toArray, List.map_cons, List.map_nil]); first | done | rfl | (simp only [List.length_drop, List.length_take]; rfl)) ?_; (with_reducible refine (part_Of.calls (wrap64 (1 + (Int.tmod (Go.bits .and .i64 a0 65535) 4000))) (wrap64 (1 + (Int.tmod (Go.bits .and .i64 a0 65535) 4000))) (Int.tmod (Go.bits .and .i64 a1 65535) (wrap64 (1 + (Int.tmod (Go.bits .and .i64 a0 65535) 4000)))) t163 t164 _ A6.out).mono ?_); rintro e w19 ⟨rfl, hb⟩; refine ⟨_, rfl, ?_⟩; have n0_ := Aside0.mk (below_step (by repeat (first | (with_reducible first | exact HB.out | apply below_alloc | apply pw_below_drewN | apply below_drew1) | exact HB.out)) hb); clear HB; have HB := n0_; clear n0_; (try clear hb); (try clear hb2); (try clear hk); (try clear hi)))
          go_ret
          exact ⟨by first | rfl | (simp [errW_none, errW_some] <;> rfl) | (simp [*, errW_none, errW_some] <;> rfl), by repeat (first | (with_reducible first | exact HB.out | apply below_alloc | apply pw_below_drewN | apply below_drew1) | exact HB.out)⟩
      · rw [if_neg c8] at H
        have c8b0 : (t162 == 0) = false := beq_eq_false_iff_ne.mpr c8
        have c8b1 : (t162 != 0) = true := bne_iff_ne.mpr c8
        obtain rfl := Option.some.inj H
        go_enter Try.func6, Try.ntmps6
        go_wp2_with (first | ((with_reducible refine gate_callee (f := 8) rfl ?_); refine goesL_ (some 10) rfl rfl Try.func8 (by kernel_rfl) rfl #[] rfl (by (try simp only [List.map_toArray, List.map_cons, List.map_nil]); first | done | rfl | (simp only [List.length_drop, List.length_take]; rfl)) ?_; (with_reducible refine (cartagelaw11_shown.calls k  true _ A3.out).mono ?_); rintro e w20 ⟨rfl, hb⟩; refine ⟨_, rfl, ?_⟩; have n0_ := Aside0.mk (below_step (by repeat (first | (with_reducible first | exact HB.out | apply below_alloc | apply pw_below_drewN | apply below_drew1) | exact HB.out)) hb); clear HB; have HB := n0_; clear n0_; (try clear hb); (try clear hb2); (try clear hk); (try clear hi)) | ((with_reducible refine gate_callee (f := 10) rfl ?_); refine goesL_ (some 22) rfl rfl Try.func10 (by kernel_rfl) rfl #[.int .i64 (wrap64 (1 + (Int.tmod (Go.bits .and .i64 a0 65535) 4000))), .int .i64 1, .int .i64 (Int.tmod (Go.bits .and .i64 a1 65535) (wrap64 (1 + (Int.tmod (Go.bits .and .i64 a0 65535) 4000))))] rfl (by (try simp only [List.map_toArray, List.map_cons, List.map_nil]); first | done | rfl | (simp only [List.length_drop, List.length_take]; rfl)) ?_; (with_reducible refine (part_Of.calls (wrap64 (1 + (Int.tmod (Go.bits .and .i64 a0 65535) 4000))) 1 (Int.tmod (Go.bits .and .i64 a1 65535) (wrap64 (1 + (Int.tmod (Go.bits .and .i64 a0 65535) 4000)))) t161 t162 _ A5.out).mono ?_); rintro e w21 ⟨rfl, hb⟩; refine ⟨_, rfl, ?_⟩; have n0_ := Aside0.mk (below_step (by repeat (first | (with_reducible first | exact HB.out | apply below_alloc | apply pw_below_drewN | apply below_drew1) | exact HB.out)) hb); clear HB; have HB := n0_; clear n0_; (try clear hb); (try clear hb2); (try clear hk); (try clear hi)) | ((with_reducible refine gate_callee (f := 10) rfl ?_); refine goesL_ (some 29) rfl rfl Try.func10 (by kernel_rfl) rfl #[.int .i64 (wrap64 (1 + (Int.tmod (Go.bits .and .i64 a0 65535) 4000))), .int .i64 (wrap64 (1 + (Int.tmod (Go.bits .and .i64 a0 65535) 4000))), .int .i64 (Int.tmod (Go.bits .and .i64 a1 65535) (wrap64 (1 + (Int.tmod (Go.bits .and .i64 a0 65535) 4000))))] rfl (by (try simp only [List.map_toArray, List.map_cons, List.map_nil]); first | done | rfl | (simp only [List.length_drop, List.length_take]; rfl)) ?_; (with_reducible refine (part_Of.calls (wrap64 (1 + (Int.tmod (Go.bits .and .i64 a0 65535) 4000))) (wrap64 (1 + (Int.tmod (Go.bits .and .i64 a0 65535) 4000))) (Int.tmod (Go.bits .and .i64 a1 65535) (wrap64 (1 + (Int.tmod (Go.bits .and .i64 a0 65535) 4000)))) t163 t164 _ A6.out).mono ?_); rintro e w22 ⟨rfl, hb⟩; refine ⟨_, rfl, ?_⟩; have n0_ := Aside0.mk (below_step (by repeat (first | (with_reducible first | exact HB.out | apply below_alloc | apply pw_below_drewN | apply below_drew1) | exact HB.out)) hb); clear HB; have HB := n0_; clear n0_; (try clear hb); (try clear hb2); (try clear hk); (try clear hi)))
        go_ret
        exact ⟨by first | rfl | (simp [errW_none, errW_some] <;> rfl) | (simp [*, errW_none, errW_some] <;> rfl), by repeat (first | (with_reducible first | exact HB.out | apply below_alloc | apply pw_below_drewN | apply below_drew1) | exact HB.out)⟩
    · replace c7 := Bool.eq_false_iff.mpr c7
      subst c7
      have H1 : (some false) = some r := by rw [if_neg (show ¬ (false = true) by decide)] at H; exact H
      clear H
      have H := H1
      clear H1
      obtain rfl := Option.some.inj H
      go_enter Try.func6, Try.ntmps6
      go_wp2_with (first | ((with_reducible refine gate_callee (f := 8) rfl ?_); refine goesL_ (some 10) rfl rfl Try.func8 (by kernel_rfl) rfl #[] rfl (by (try simp only [List.map_toArray, List.map_cons, List.map_nil]); first | done | rfl | (simp only [List.length_drop, List.length_take]; rfl)) ?_; (with_reducible refine (cartagelaw11_shown.calls k  false _ A3.out).mono ?_); rintro e w23 ⟨rfl, hb⟩; refine ⟨_, rfl, ?_⟩; have n0_ := Aside0.mk (below_step (by repeat (first | (with_reducible first | exact HB.out | apply below_alloc | apply pw_below_drewN | apply below_drew1) | exact HB.out)) hb); clear HB; have HB := n0_; clear n0_; (try clear hb); (try clear hb2); (try clear hk); (try clear hi)) | ((with_reducible refine gate_callee (f := 10) rfl ?_); refine goesL_ (some 22) rfl rfl Try.func10 (by kernel_rfl) rfl #[.int .i64 (wrap64 (1 + (Int.tmod (Go.bits .and .i64 a0 65535) 4000))), .int .i64 1, .int .i64 (Int.tmod (Go.bits .and .i64 a1 65535) (wrap64 (1 + (Int.tmod (Go.bits .and .i64 a0 65535) 4000))))] rfl (by (try simp only [List.map_toArray, List.map_cons, List.map_nil]); first | done | rfl | (simp only [List.length_drop, List.length_take]; rfl)) ?_; (with_reducible refine (part_Of.calls (wrap64 (1 + (Int.tmod (Go.bits .and .i64 a0 65535) 4000))) 1 (Int.tmod (Go.bits .and .i64 a1 65535) (wrap64 (1 + (Int.tmod (Go.bits .and .i64 a0 65535) 4000)))) t161 t162 _ A5.out).mono ?_); rintro e w24 ⟨rfl, hb⟩; refine ⟨_, rfl, ?_⟩; have n0_ := Aside0.mk (below_step (by repeat (first | (with_reducible first | exact HB.out | apply below_alloc | apply pw_below_drewN | apply below_drew1) | exact HB.out)) hb); clear HB; have HB := n0_; clear n0_; (try clear hb); (try clear hb2); (try clear hk); (try clear hi)) | ((with_reducible refine gate_callee (f := 10) rfl ?_); refine goesL_ (some 29) rfl rfl Try.func10 (by kernel_rfl) rfl #[.int .i64 (wrap64 (1 + (Int.tmod (Go.bits .and .i64 a0 65535) 4000))), .int .i64 (wrap64 (1 + (Int.tmod (Go.bits .and .i64 a0 65535) 4000))), .int .i64 (Int.tmod (Go.bits .and .i64 a1 65535) (wrap64 (1 + (Int.tmod (Go.bits .and .i64 a0 65535) 4000))))] rfl (by (try simp only [List.map_toArray, List.map_cons, List.map_nil]); first | done | rfl | (simp only [List.length_drop, List.length_take]; rfl)) ?_; (with_reducible refine (part_Of.calls (wrap64 (1 + (Int.tmod (Go.bits .and .i64 a0 65535) 4000))) (wrap64 (1 + (Int.tmod (Go.bits .and .i64 a0 65535) 4000))) (Int.tmod (Go.bits .and .i64 a1 65535) (wrap64 (1 + (Int.tmod (Go.bits .and .i64 a0 65535) 4000)))) t163 t164 _ A6.out).mono ?_); rintro e w25 ⟨rfl, hb⟩; refine ⟨_, rfl, ?_⟩; have n0_ := Aside0.mk (below_step (by repeat (first | (with_reducible first | exact HB.out | apply below_alloc | apply pw_below_drewN | apply below_drew1) | exact HB.out)) hb); clear HB; have HB := n0_; clear n0_; (try clear hb); (try clear hb2); (try clear hk); (try clear hi)))
      go_ret
      exact ⟨by first | rfl | (simp [errW_none, errW_some] <;> rfl) | (simp [*, errW_none, errW_some] <;> rfl), by repeat (first | (with_reducible first | exact HB.out | apply below_alloc | apply pw_below_drewN | apply below_drew1) | exact HB.out)⟩

/-- THE ONE PURE STATEMENT of cartagelaw11_PartOne: yours. -/
def cartagelaw11_PartOne.Pure : Prop := ∀ (a0 : Int) (a1 : Int), (Lit.int .i64 a0).wf = true → (Lit.int .i64 a1).wf = true → ∃ k, cartagelaw11_PartOne.f k a0 a1 = some true
theorem cartagelaw11_PartOne.walk (P : cartagelaw11_PartOne.Pure) (a0 : Int) (a1 : Int) (w : World) (w0 : (Lit.int .i64 a0).wf = true) (w1 : (Lit.int .i64 a1).wf = true) :
    Calls Try.prog 6 #[.int .i64 a0, .int .i64 a1] w fun e w' => e = .returned (.bool true) ∧ Below w.heap.size w w' := by
  obtain ⟨k, h⟩ := P a0 a1 w0 w1
  refine (cartagelaw11_PartOne.calls k a0 a1 true w h).mono ?_
  rintro e w' ⟨rfl, hd⟩
  exact ⟨rfl, hd⟩

end Go.Proofs.Ytkkfhgapfcjpdaa.PAll
