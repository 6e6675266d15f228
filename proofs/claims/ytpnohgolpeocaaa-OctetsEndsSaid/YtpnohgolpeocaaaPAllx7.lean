-- Laid by hp.py (wip/tools), a program of this work, over the kit's print; Lean checks it.
import Derived.Test.YtpnohgolpeocaaaPAllx0
import Derived.Test.YtpnohgolpeocaaaPAllx1
import Derived.Test.YtpnohgolpeocaaaPAllx2
namespace Go.Proofs.Ytpnohgolpeocaaa.PAll
open Go.RowKit Go.Proofs.YtpnohgolpeocaaaW.PrintWords Go.Proofs.YtpnohgolpeocaaaW.PrintLast Go.Proofs.YtpnohgolpeocaaaW.PrintMore
attribute [local go_sem] max2_int min2_int max_two min_two max_three min_three max_four min_four   -- for this text's walks alone
set_option linter.unusedVariables false
set_option linter.unusedSimpArgs false

/-! ### cartagelaw01_OctetsOrder: function 10 -/
mutual
def cartagelaw01_OctetsOrder.j0 : Nat → Int → Bool → List Int → Bool → Option (Bool)
  | 0, _, _, _, _ => none
  | k + 1, x0, x5, x6, x35 => if x35 = true then (some false) else (cartagelaw01_OctetsOrder.l0 k x0 x5 x6 1)
def cartagelaw01_OctetsOrder.l0 : Nat → Int → Bool → List Int → Int → Option (Bool)
  | 0, _, _, _, _ => none
  | k + 1, x0, x5, x6, x8 => if x0 ≥ 128 then (cartagelaw01_OctetsOrder.l0 k (x0 / 128) x5 x6 (wrap64 (x8 + 1))) else (if x5 = true then (some ((x6.length : Int) == x8)) else (some false))
end
def cartagelaw01_OctetsOrder.f (k : Nat) (a0 : Int) (a1 : Int) : Option (Bool) := (cartagelaw01_shown.f k).bind fun t236 => ((octets_PutVar.f k ([] : List Int) a0).bind fun t237 => ((octets_PutVar.f k ([] : List Int) a1).bind fun t240 => (if (t237.length : Int) < (t240.length : Int) then (if a0 ≥ a1 then (cartagelaw01_OctetsOrder.j0 k a0 t236 t237 true) else (if (t237.length : Int) > (t240.length : Int) then (cartagelaw01_OctetsOrder.j0 k a0 t236 t237 (decide (a0 ≤ a1))) else (cartagelaw01_OctetsOrder.j0 k a0 t236 t237 false))) else (if (t237.length : Int) > (t240.length : Int) then (cartagelaw01_OctetsOrder.j0 k a0 t236 t237 (decide (a0 ≤ a1))) else (cartagelaw01_OctetsOrder.j0 k a0 t236 t237 false)))))
theorem cartagelaw01_OctetsOrder.mono_l : ∀ k, (∀ y0 y1 y2 y3, LeO (cartagelaw01_OctetsOrder.j0 k y0 y1 y2 y3) (cartagelaw01_OctetsOrder.j0 (k + 1) y0 y1 y2 y3)) ∧ (∀ y0 y1 y2 y3, LeO (cartagelaw01_OctetsOrder.l0 k y0 y1 y2 y3) (cartagelaw01_OctetsOrder.l0 (k + 1) y0 y1 y2 y3))
  | 0 => ⟨fun _ _ _ _ r h => by simp [cartagelaw01_OctetsOrder.j0] at h, fun _ _ _ _ r h => by simp [cartagelaw01_OctetsOrder.l0] at h⟩
  | k + 1 => by
    obtain ⟨ih0, ih1⟩ := cartagelaw01_OctetsOrder.mono_l k
    refine ⟨?_, ?_⟩
    · intro y0 y1 y2 y3
      unfold cartagelaw01_OctetsOrder.j0
      repeat' first
      | (with_reducible exact ih0 _ _ _ _)
      | (with_reducible exact ih1 _ _ _ _)
      | (with_reducible exact cartagelaw01_shown.mono _)
      | (with_reducible exact octets_PutVar.mono _ _ _)
      | (with_reducible exact LeO.refl _)
      | (with_reducible exact LeO.none _)
      | (with_reducible refine LeO.ite ?_ ?_)
      | (with_reducible refine LeO.bind ?_ (fun _ => ?_))
      | exact ih0 _ _ _ _
      | exact ih1 _ _ _ _
      | exact cartagelaw01_shown.mono _
      | exact octets_PutVar.mono _ _ _
      | exact LeO.none _
      | refine LeO.ite ?_ ?_
      | refine LeO.bind ?_ (fun _ => ?_)
    · intro y0 y1 y2 y3
      unfold cartagelaw01_OctetsOrder.l0
      repeat' first
      | (with_reducible exact ih0 _ _ _ _)
      | (with_reducible exact ih1 _ _ _ _)
      | (with_reducible exact cartagelaw01_shown.mono _)
      | (with_reducible exact octets_PutVar.mono _ _ _)
      | (with_reducible exact LeO.refl _)
      | (with_reducible exact LeO.none _)
      | (with_reducible refine LeO.ite ?_ ?_)
      | (with_reducible refine LeO.bind ?_ (fun _ => ?_))
      | exact ih0 _ _ _ _
      | exact ih1 _ _ _ _
      | exact cartagelaw01_shown.mono _
      | exact octets_PutVar.mono _ _ _
      | exact LeO.none _
      | refine LeO.ite ?_ ?_
      | refine LeO.bind ?_ (fun _ => ?_)
theorem cartagelaw01_OctetsOrder.mono : ∀ a0 a1 k, LeO (cartagelaw01_OctetsOrder.f k a0 a1) (cartagelaw01_OctetsOrder.f (k + 1) a0 a1) := by
  intro a0 a1 k
  obtain ⟨ih0, ih1⟩ := cartagelaw01_OctetsOrder.mono_l k
  unfold cartagelaw01_OctetsOrder.f
  repeat' first
      | (with_reducible exact ih0 _ _ _ _)
      | (with_reducible exact ih1 _ _ _ _)
      | (with_reducible exact cartagelaw01_shown.mono _)
      | (with_reducible exact octets_PutVar.mono _ _ _)
      | (with_reducible exact LeO.refl _)
      | (with_reducible exact LeO.none _)
      | (with_reducible refine LeO.ite ?_ ?_)
      | (with_reducible refine LeO.bind ?_ (fun _ => ?_))
      | exact ih0 _ _ _ _
      | exact ih1 _ _ _ _
      | exact cartagelaw01_shown.mono _
      | exact octets_PutVar.mono _ _ _
      | exact LeO.none _
      | refine LeO.ite ?_ ?_
      | refine LeO.bind ?_ (fun _ => ?_)
set_option maxHeartbeats 8000000 in
set_option maxRecDepth 100000 in
theorem cartagelaw01_OctetsOrder.calls (k : Nat) (a0 : Int) (a1 : Int) (r : Bool) (w : World) (h : cartagelaw01_OctetsOrder.f k a0 a1 = some r) (hr_ : Aside0 (r = true)) :
    Calls Try.prog 10 #[.int .u64 a0, .int .u64 a1] w fun e w' => e = .returned (.bool r) ∧ Below w.heap.size w w' := by
  have HB := Aside0.mk (Below.refl w.heap.size w)
  have H : ((cartagelaw01_shown.f k).bind fun t236 => ((octets_PutVar.f k ([] : List Int) a0).bind fun t237 => ((octets_PutVar.f k ([] : List Int) a1).bind fun t240 => (if (t237.length : Int) < (t240.length : Int) then (if a0 ≥ a1 then (cartagelaw01_OctetsOrder.j0 k a0 t236 t237 true) else (if (t237.length : Int) > (t240.length : Int) then (cartagelaw01_OctetsOrder.j0 k a0 t236 t237 (decide (a0 ≤ a1))) else (cartagelaw01_OctetsOrder.j0 k a0 t236 t237 false))) else (if (t237.length : Int) > (t240.length : Int) then (cartagelaw01_OctetsOrder.j0 k a0 t236 t237 (decide (a0 ≤ a1))) else (cartagelaw01_OctetsOrder.j0 k a0 t236 t237 false)))))) = some r := h
  clear h
  replace H := Option.bind_eq_some_iff.mp H
  obtain ⟨t236, A30, H⟩ := H
  replace H : ((octets_PutVar.f k ([] : List Int) a0).bind fun t237 => ((octets_PutVar.f k ([] : List Int) a1).bind fun t240 => (if (t237.length : Int) < (t240.length : Int) then (if a0 ≥ a1 then (cartagelaw01_OctetsOrder.j0 k a0 t236 t237 true) else (if (t237.length : Int) > (t240.length : Int) then (cartagelaw01_OctetsOrder.j0 k a0 t236 t237 (decide (a0 ≤ a1))) else (cartagelaw01_OctetsOrder.j0 k a0 t236 t237 false))) else (if (t237.length : Int) > (t240.length : Int) then (cartagelaw01_OctetsOrder.j0 k a0 t236 t237 (decide (a0 ≤ a1))) else (cartagelaw01_OctetsOrder.j0 k a0 t236 t237 false))))) = some r := H
  have A3 := Aside0.mk A30
  clear A30
  replace H := Option.bind_eq_some_iff.mp H
  obtain ⟨t237, A40, H⟩ := H
  replace H : ((octets_PutVar.f k ([] : List Int) a1).bind fun t240 => (if (t237.length : Int) < (t240.length : Int) then (if a0 ≥ a1 then (cartagelaw01_OctetsOrder.j0 k a0 t236 t237 true) else (if (t237.length : Int) > (t240.length : Int) then (cartagelaw01_OctetsOrder.j0 k a0 t236 t237 (decide (a0 ≤ a1))) else (cartagelaw01_OctetsOrder.j0 k a0 t236 t237 false))) else (if (t237.length : Int) > (t240.length : Int) then (cartagelaw01_OctetsOrder.j0 k a0 t236 t237 (decide (a0 ≤ a1))) else (cartagelaw01_OctetsOrder.j0 k a0 t236 t237 false)))) = some r := H
  have A4 := Aside0.mk A40
  clear A40
  replace H := Option.bind_eq_some_iff.mp H
  obtain ⟨t240, A50, H⟩ := H
  replace H : (if (t237.length : Int) < (t240.length : Int) then (if a0 ≥ a1 then (cartagelaw01_OctetsOrder.j0 k a0 t236 t237 true) else (if (t237.length : Int) > (t240.length : Int) then (cartagelaw01_OctetsOrder.j0 k a0 t236 t237 (decide (a0 ≤ a1))) else (cartagelaw01_OctetsOrder.j0 k a0 t236 t237 false))) else (if (t237.length : Int) > (t240.length : Int) then (cartagelaw01_OctetsOrder.j0 k a0 t236 t237 (decide (a0 ≤ a1))) else (cartagelaw01_OctetsOrder.j0 k a0 t236 t237 false))) = some r := H
  have A5 := Aside0.mk A50
  clear A50
  have HC6 := Aside0.mk H
  clear H
  go_enter Try.func10, Try.ntmps10
  go_upto_region 4 with (first | ((with_reducible refine gate_callee (f := 12) rfl ?_); refine goesL_ (some 9) rfl rfl Try.func12 (by kernel_rfl) rfl #[] rfl (by (try simp only [List.map_toArray, List.map_cons, List.map_nil]); first | done | rfl | (simp only [List.length_drop, List.length_take]; rfl)) ?_; (with_reducible refine (cartagelaw01_shown.calls k  t236 _ A3.out).mono ?_); rintro e w7 ⟨rfl, hb⟩; refine ⟨_, rfl, ?_⟩; have n0_ := Aside0.mk (below_step (by repeat (first | (with_reducible first | exact HB.out | apply below_alloc | apply pw_below_drewN | apply below_drew1) | exact HB.out)) hb); clear HB; have HB := n0_; clear n0_; (try clear hb); (try clear hb2); (try clear hk); (try clear hi)) | ((with_reducible refine gate_callee (f := 19) rfl ?_); refine goesL_ (some 11) rfl rfl Try.func19 (by kernel_rfl) rfl #[.slice none 0 0, .int .u64 a0] rfl (by (try simp only [List.map_toArray, List.map_cons, List.map_nil]); first | done | rfl | (simp only [List.length_drop, List.length_take]; rfl)) ?_; (refine (octets_PutVar.calls k _ _ ([] : List Int) a0 t237 _ ?side1 ?side2 A4.out).mono ?_); (case side1 => exact Kd.C_nil _ _); (case side2 => exact Nat.le_refl _); rintro e w8 ⟨v238, rfl, ho0, hb⟩; refine ⟨_, rfl, ?_⟩; have n0_ := Aside0.mk (Kd.R_lower ho0 (below_size (by repeat (first | (with_reducible first | exact HB.out | apply below_alloc | apply pw_below_drewN | apply below_drew1) | exact HB.out)))); have n1_ := Aside0.mk (below_step (by repeat (first | (with_reducible first | exact HB.out | apply below_alloc | apply pw_below_drewN | apply below_drew1) | exact HB.out)) hb); clear HB; have HO239 := n0_; have HB := n1_; clear n0_ n1_; (try clear hb); (try clear hb2); (try clear hk); (try clear hi); (try clear ho0)) | ((with_reducible refine gate_callee (f := 19) rfl ?_); refine goesL_ (some 13) rfl rfl Try.func19 (by kernel_rfl) rfl #[.slice none 0 0, .int .u64 a1] rfl (by (try simp only [List.map_toArray, List.map_cons, List.map_nil]); first | done | rfl | (simp only [List.length_drop, List.length_take]; rfl)) ?_; (refine (octets_PutVar.calls k _ _ ([] : List Int) a1 t240 _ ?side1 ?side2 A5.out).mono ?_); (case side1 => exact Kd.C_nil _ _); (case side2 => exact Nat.le_refl _); rintro e w9 ⟨v241, rfl, ho0, hb⟩; refine ⟨_, rfl, ?_⟩; have n0_ := Aside0.mk (Kd.R_elder' (by (with_reducible repeat (first | apply Kd.R_alloc | apply Kd.R_drewN | apply Kd.R_drew)); exact HO239.out) (Kd.R_base ho0) hb); have n1_ := Aside0.mk (Kd.R_lower (Kd.R_new' ho0 (Kd.R_lt (by (with_reducible repeat (first | apply Kd.R_alloc | apply Kd.R_drewN | apply Kd.R_drew)); exact HO239.out))) (below_size (by repeat (first | (with_reducible first | exact HB.out | apply below_alloc | apply pw_below_drewN | apply below_drew1) | exact HB.out)))); have n2_ := Aside0.mk (below_step (by repeat (first | (with_reducible first | exact HB.out | apply below_alloc | apply pw_below_drewN | apply below_drew1) | exact HB.out)) hb); clear HO239; clear HB; have HO239 := n0_; have HO242 := n1_; have HB := n2_; clear n0_ n1_ n2_; (try clear hb); (try clear hb2); (try clear hk); (try clear hi); (try clear ho0)))
  (try simp only [Act.put, List.setIfInBounds_toArray, List.set_cons_zero, List.set_cons_succ])
  go_cut [35] (fun v35 wc => ∃ (kq : Nat) (x35_5 : Bool), v35 = .bool x35_5 ∧ Aside0 (cartagelaw01_OctetsOrder.j0 kq a0 t236 t237 x35_5 = some r) ∧ Aside0 (kq ≤ k) ∧ Aside0 (Kd.R (Kd.int .u8) 5 wc w.heap.size (fun _ => True) v238 t237) ∧ Aside0 (Below w.heap.size w wc))
  case first =>
    have H := HC6.out
    clear HC6
    by_cases c10 : (t237.length : Int) < (t240.length : Int)
    · rw [if_pos c10] at H
      have c10b0 : decide ((t237.length : Int) < (t240.length : Int)) = true := decide_eq_true c10
      have c10b1 : decide (t237.length < t240.length) = true := decide_eq_true (Int.ofNat_lt.mp c10)
      clear c10
      (first | rw [c10b0] | (simp only [i64_w, i32_w]; rw [c10b0]) | skip)
      by_cases c11 : a0 ≥ a1
      · rw [if_pos c11] at H
        have c11b0 : decide (a1 ≤ a0) = true := decide_eq_true c11
        clear c11
        have H' := Aside0.mk H
        clear H
        obtain ⟨Ao12, co12, eo12⟩ := Kd.R_slice HO239.out
        subst eo12
        obtain ⟨Ao13, co13, eo13⟩ := Kd.R_slice HO242.out
        subst eo13
        go_wp2
        go_meet
        case rel => exact ⟨_, (true), (by first | rfl | (simp; done) | (simp [*]; done)), H', ⟨by first | omega | exact Nat.le_refl _⟩, ⟨by (with_reducible repeat (first | apply Kd.R_alloc | apply Kd.R_drewN | apply Kd.R_drew)); exact Kd.R_mono HO239.out (fun _ hk => trivial)⟩, ⟨by repeat (first | (with_reducible first | exact HB.out | apply below_alloc | apply pw_below_drewN | apply below_drew1) | exact HB.out)⟩⟩
      · rw [if_neg c11] at H
        have c11b0 : decide (a1 ≤ a0) = false := decide_eq_false c11
        clear c11
        by_cases c14 : (t237.length : Int) > (t240.length : Int)
        · rw [if_pos c14] at H
          have c14b0 : decide ((t240.length : Int) < (t237.length : Int)) = true := decide_eq_true c14
          have c14b1 : decide (t240.length < t237.length) = true := decide_eq_true (Int.ofNat_lt.mp c14)
          clear c14
          have H' := Aside0.mk H
          clear H
          obtain ⟨Ao15, co15, eo15⟩ := Kd.R_slice HO239.out
          subst eo15
          obtain ⟨Ao16, co16, eo16⟩ := Kd.R_slice HO242.out
          subst eo16
          go_wp2
          go_meet
          case rel => exact ⟨_, (decide (a0 ≤ a1)), (by first | rfl | (simp; done) | (simp [*]; done)), H', ⟨by first | omega | exact Nat.le_refl _⟩, ⟨by (with_reducible repeat (first | apply Kd.R_alloc | apply Kd.R_drewN | apply Kd.R_drew)); exact Kd.R_mono HO239.out (fun _ hk => trivial)⟩, ⟨by repeat (first | (with_reducible first | exact HB.out | apply below_alloc | apply pw_below_drewN | apply below_drew1) | exact HB.out)⟩⟩
        · rw [if_neg c14] at H
          have c14b0 : decide ((t240.length : Int) < (t237.length : Int)) = false := decide_eq_false c14
          have c14b1 : decide (t240.length < t237.length) = false := decide_eq_false (fun h => c14 (Int.ofNat_lt.mpr h))
          clear c14
          have H' := Aside0.mk H
          clear H
          obtain ⟨Ao17, co17, eo17⟩ := Kd.R_slice HO239.out
          subst eo17
          obtain ⟨Ao18, co18, eo18⟩ := Kd.R_slice HO242.out
          subst eo18
          go_wp2
          go_meet
          case rel => exact ⟨_, (false), (by first | rfl | (simp; done) | (simp [*]; done)), H', ⟨by first | omega | exact Nat.le_refl _⟩, ⟨by (with_reducible repeat (first | apply Kd.R_alloc | apply Kd.R_drewN | apply Kd.R_drew)); exact Kd.R_mono HO239.out (fun _ hk => trivial)⟩, ⟨by repeat (first | (with_reducible first | exact HB.out | apply below_alloc | apply pw_below_drewN | apply below_drew1) | exact HB.out)⟩⟩
    · rw [if_neg c10] at H
      have c10b0 : decide ((t237.length : Int) < (t240.length : Int)) = false := decide_eq_false c10
      have c10b1 : decide (t237.length < t240.length) = false := decide_eq_false (fun h => c10 (Int.ofNat_lt.mpr h))
      clear c10
      (first | rw [c10b0] | (simp only [i64_w, i32_w]; rw [c10b0]) | skip)
      by_cases c19 : (t237.length : Int) > (t240.length : Int)
      · rw [if_pos c19] at H
        have c19b0 : decide ((t240.length : Int) < (t237.length : Int)) = true := decide_eq_true c19
        have c19b1 : decide (t240.length < t237.length) = true := decide_eq_true (Int.ofNat_lt.mp c19)
        clear c19
        have H' := Aside0.mk H
        clear H
        obtain ⟨Ao20, co20, eo20⟩ := Kd.R_slice HO239.out
        subst eo20
        obtain ⟨Ao21, co21, eo21⟩ := Kd.R_slice HO242.out
        subst eo21
        go_wp2
        go_meet
        case rel => exact ⟨_, (decide (a0 ≤ a1)), (by first | rfl | (simp; done) | (simp [*]; done)), H', ⟨by first | omega | exact Nat.le_refl _⟩, ⟨by (with_reducible repeat (first | apply Kd.R_alloc | apply Kd.R_drewN | apply Kd.R_drew)); exact Kd.R_mono HO239.out (fun _ hk => trivial)⟩, ⟨by repeat (first | (with_reducible first | exact HB.out | apply below_alloc | apply pw_below_drewN | apply below_drew1) | exact HB.out)⟩⟩
      · rw [if_neg c19] at H
        have c19b0 : decide ((t240.length : Int) < (t237.length : Int)) = false := decide_eq_false c19
        have c19b1 : decide (t240.length < t237.length) = false := decide_eq_false (fun h => c19 (Int.ofNat_lt.mpr h))
        clear c19
        have H' := Aside0.mk H
        clear H
        obtain ⟨Ao22, co22, eo22⟩ := Kd.R_slice HO239.out
        subst eo22
        obtain ⟨Ao23, co23, eo23⟩ := Kd.R_slice HO242.out
        subst eo23
        go_wp2
        go_meet
        case rel => exact ⟨_, (false), (by first | rfl | (simp; done) | (simp [*]; done)), H', ⟨by first | omega | exact Nat.le_refl _⟩, ⟨by (with_reducible repeat (first | apply Kd.R_alloc | apply Kd.R_drewN | apply Kd.R_drew)); exact Kd.R_mono HO239.out (fun _ hk => trivial)⟩, ⟨by repeat (first | (with_reducible first | exact HB.out | apply below_alloc | apply pw_below_drewN | apply below_drew1) | exact HB.out)⟩⟩
  case rest =>
    clear HC6
    try clear c1
    try clear p2
    try clear c10
    try clear c10b0
    try clear c10b1
    try clear c11
    try clear c11b0
    try clear c12
    try clear c14
    try clear c14b0
    try clear c14b1
    try clear c19
    try clear c19b0
    try clear c19b1
    obtain ⟨kq, x35_5, rfl, HA, HJ5, HO_6, HB⟩ := hcut
    cases kq with
    | zero => exact absurd HA.out (by simp [cartagelaw01_OctetsOrder.j0])
    | succ kj5 =>
      have H := HA.out
      clear HA
      simp only [cartagelaw01_OctetsOrder.j0] at H
      by_cases c24 : x35_5 = true
      · subst c24
        have H1 : (some false) = some r := by rw [if_pos rfl] at H; exact H
        clear H
        have H := H1
        clear H1
        exact absurd (H.trans (congrArg some hr_.out)) (by simp)
      · replace c24 := Bool.eq_false_iff.mpr c24
        subst c24
        have H1 : (cartagelaw01_OctetsOrder.l0 kj5 a0 t236 t237 1) = some r := by rw [if_neg (show ¬ (false = true) by decide)] at H; exact H
        clear H
        have H := H1
        clear H1
        have H' := Aside0.mk H
        clear H
        go_wp2
        go_loopg [0, 8] kj5 (fun kq v0 v8 w' => ∃ (x0_2 : Int) (x8_2 : Int), v0 = .int .u64 x0_2 ∧ v8 = .int .i64 x8_2 ∧ Aside0 (cartagelaw01_OctetsOrder.l0 kq x0_2 t236 t237 x8_2 = some r) ∧ Aside0 (kq ≤ kj5) ∧ Aside0 (Kd.R (Kd.int .u8) 5 w' w.heap.size (fun _ => True) v238 t237) ∧ Aside0 (Below w.heap.size w w'))
        case atStart => exact ⟨(a0), (1), (by first | rfl | (simp; done) | (simp [*]; done)), (by first | rfl | (simp; done) | (simp [*]; done)), H', ⟨Nat.le_refl _⟩, ⟨by (with_reducible repeat (first | apply Kd.R_alloc | apply Kd.R_drewN | apply Kd.R_drew)); exact HO_6.out⟩, ⟨by repeat (first | (with_reducible first | exact HB.out | apply below_alloc | apply pw_below_drewN | apply below_drew1) | exact HB.out)⟩⟩
        case round =>
          clear H'
          try clear c1
          try clear c2
          try clear p2
          try clear c10
          try clear c10b0
          try clear c10b1
          try clear c11
          try clear c11b0
          try clear c12
          try clear c14
          try clear c14b0
          try clear c14b1
          try clear c19
          try clear c19b0
          try clear c19b1
          try clear c24
          try clear p2
          obtain ⟨x0_2, x8_2, rfl, rfl, HA, HK2, HO_6, HB⟩ := hrel
          cases gk with
          | zero => exact absurd HA.out (by simp [cartagelaw01_OctetsOrder.l0])
          | succ k2 =>
            have H := HA.out
            clear HA
            simp only [cartagelaw01_OctetsOrder.l0] at H
            by_cases c25 : x0_2 ≥ 128
            · rw [if_pos c25] at H
              have c25b0 : decide (128 ≤ x0_2) = true := decide_eq_true c25
              clear c25
              have H' := Aside0.mk H
              clear H
              go_wp2
              go_roundg k2
              case measure => have := HJ5.out; have := HK2.out; omega
              case rel => exact ⟨(x0_2 / 128), (wrap64 (x8_2 + 1)), (by first | rfl | (simp; done) | (simp [*]; done)), (by first | rfl | (simp; done) | (simp [*]; done)), H', ⟨by have := HJ5.out; have := HK2.out; omega⟩, ⟨by (with_reducible repeat (first | apply Kd.R_alloc | apply Kd.R_drewN | apply Kd.R_drew)); exact HO_6.out⟩, ⟨by repeat (first | (with_reducible first | exact HB.out | apply below_alloc | apply pw_below_drewN | apply below_drew1) | exact HB.out)⟩⟩
            · rw [if_neg c25] at H
              have c25b0 : decide (128 ≤ x0_2) = false := decide_eq_false c25
              clear c25
              by_cases c26 : t236 = true
              · subst c26
                have H1 : (some ((t237.length : Int) == x8_2)) = some r := by rw [if_pos rfl] at H; exact H
                clear H
                have H := H1
                clear H1
                obtain rfl := Option.some.inj H
                obtain ⟨Ao27, co27, eo27⟩ := Kd.R_slice HO_6.out
                subst eo27
                go_wp2
                go_ret
                exact ⟨by first | rfl | (simp [errW_none, errW_some] <;> rfl) | (simp [*, errW_none, errW_some] <;> rfl), by repeat (first | (with_reducible first | exact HB.out | apply below_alloc | apply pw_below_drewN | apply below_drew1) | exact HB.out)⟩
              · replace c26 := Bool.eq_false_iff.mpr c26
                subst c26
                have H1 : (some false) = some r := by rw [if_neg (show ¬ (false = true) by decide)] at H; exact H
                clear H
                have H := H1
                clear H1
                exact absurd (H.trans (congrArg some hr_.out)) (by simp)

/-- THE ONE PURE STATEMENT of cartagelaw01_OctetsOrder: yours. -/
def cartagelaw01_OctetsOrder.Pure : Prop := ∀ (a0 : Int) (a1 : Int), (Lit.int .u64 a0).wf = true → (Lit.int .u64 a1).wf = true → ∃ k, cartagelaw01_OctetsOrder.f k a0 a1 = some true
theorem cartagelaw01_OctetsOrder.walk (P : cartagelaw01_OctetsOrder.Pure) (a0 : Int) (a1 : Int) (w : World) (w0 : (Lit.int .u64 a0).wf = true) (w1 : (Lit.int .u64 a1).wf = true) :
    Calls Try.prog 10 #[.int .u64 a0, .int .u64 a1] w fun e w' => e = .returned (.bool true) ∧ Below w.heap.size w w' := by
  obtain ⟨k, h⟩ := P a0 a1 w0 w1
  refine (cartagelaw01_OctetsOrder.calls k a0 a1 true w h ⟨rfl⟩).mono ?_
  rintro e w' ⟨rfl, hd⟩
  exact ⟨rfl, hd⟩

/-! ### cartagelaw01_OctetsEnds: function 11 -/
def cartagelaw01_OctetsEnds.f (k : Nat) (a0 : Int) (a1 : Int) : Option (Bool) := (cartagelaw01_shown.f k).bind fun t243 => ((octets_PutVar.f k ([] : List Int) a0).bind fun t244 => (if (t244.length : Int) = 0 then (some false) else (if 0 ≤ (Int.tmod (Go.bits .and .i64 a1 65535) (t244.length : Int)) then (if (Int.tmod (Go.bits .and .i64 a1 65535) (t244.length : Int)) ≤ (t244.length : Int) then ((octets_GetVar.f k (t244.take ((Int.tmod (Go.bits .and .i64 a1 65535) (t244.length : Int)) : Int).toNat)).bind fun bt251 => ((some (([] : List Int) : List Int)).bind fun y254 => (if y254.length + t244.length < 140737488355328 then ((some (y254 ++ t244 : List Int)).bind fun y257 => (if 0 ≤ (wrap64 ((y257.length : Int) - 1)) then (if (wrap64 ((y257.length : Int) - 1)) < (y257.length : Int) then ((some (y257.set ((wrap64 ((y257.length : Int) - 1)) : Int).toNat (Go.bits .or .u8 (rd y257 (wrap64 ((y257.length : Int) - 1))) 128) : List Int)).bind fun y261 => (if y261.length < 140737488355328 then ((octets_GetVar.f k (y261 ++ [0])).bind fun bt265 => (if t243 = true then (if bt251.2.2 = true then (some false) else (if bt265.2.2 = true then (some false) else (some (bt265.2.1 == 0)))) else (some false))) else (none))) else (none)) else (none))) else (none)))) else (none)) else (none))))
theorem cartagelaw01_OctetsEnds.mono : ∀ a0 a1 k, LeO (cartagelaw01_OctetsEnds.f k a0 a1) (cartagelaw01_OctetsEnds.f (k + 1) a0 a1) := by
  intro a0 a1 k
  unfold cartagelaw01_OctetsEnds.f
  repeat' first
      | (with_reducible exact cartagelaw01_shown.mono _)
      | (with_reducible exact octets_GetVar.mono _ _)
      | (with_reducible exact octets_PutVar.mono _ _ _)
      | (with_reducible exact LeO.refl _)
      | (with_reducible exact LeO.none _)
      | (with_reducible refine LeO.ite ?_ ?_)
      | (with_reducible refine LeO.bind ?_ (fun _ => ?_))
      | exact cartagelaw01_shown.mono _
      | exact octets_GetVar.mono _ _
      | exact octets_PutVar.mono _ _ _
      | exact LeO.none _
      | refine LeO.ite ?_ ?_
      | refine LeO.bind ?_ (fun _ => ?_)
set_option maxHeartbeats 8000000 in
set_option maxRecDepth 100000 in
theorem cartagelaw01_OctetsEnds.calls (k : Nat) (a0 : Int) (a1 : Int) (r : Bool) (w : World) (h : cartagelaw01_OctetsEnds.f k a0 a1 = some r) (hr_ : Aside0 (r = true)) :
    Calls Try.prog 11 #[.int .u64 a0, .int .i64 a1] w fun e w' => e = .returned (.bool r) ∧ Below w.heap.size w w' := by
  have HB := Aside0.mk (Below.refl w.heap.size w)
  have H : ((cartagelaw01_shown.f k).bind fun t243 => ((octets_PutVar.f k ([] : List Int) a0).bind fun t244 => (if (t244.length : Int) = 0 then (some false) else (if 0 ≤ (Int.tmod (Go.bits .and .i64 a1 65535) (t244.length : Int)) then (if (Int.tmod (Go.bits .and .i64 a1 65535) (t244.length : Int)) ≤ (t244.length : Int) then ((octets_GetVar.f k (t244.take ((Int.tmod (Go.bits .and .i64 a1 65535) (t244.length : Int)) : Int).toNat)).bind fun bt251 => ((some (([] : List Int) : List Int)).bind fun y254 => (if y254.length + t244.length < 140737488355328 then ((some (y254 ++ t244 : List Int)).bind fun y257 => (if 0 ≤ (wrap64 ((y257.length : Int) - 1)) then (if (wrap64 ((y257.length : Int) - 1)) < (y257.length : Int) then ((some (y257.set ((wrap64 ((y257.length : Int) - 1)) : Int).toNat (Go.bits .or .u8 (rd y257 (wrap64 ((y257.length : Int) - 1))) 128) : List Int)).bind fun y261 => (if y261.length < 140737488355328 then ((octets_GetVar.f k (y261 ++ [0])).bind fun bt265 => (if t243 = true then (if bt251.2.2 = true then (some false) else (if bt265.2.2 = true then (some false) else (some (bt265.2.1 == 0)))) else (some false))) else (none))) else (none)) else (none))) else (none)))) else (none)) else (none))))) = some r := h
  clear h
  replace H := Option.bind_eq_some_iff.mp H
  obtain ⟨t243, A30, H⟩ := H
  replace H : ((octets_PutVar.f k ([] : List Int) a0).bind fun t244 => (if (t244.length : Int) = 0 then (some false) else (if 0 ≤ (Int.tmod (Go.bits .and .i64 a1 65535) (t244.length : Int)) then (if (Int.tmod (Go.bits .and .i64 a1 65535) (t244.length : Int)) ≤ (t244.length : Int) then ((octets_GetVar.f k (t244.take ((Int.tmod (Go.bits .and .i64 a1 65535) (t244.length : Int)) : Int).toNat)).bind fun bt251 => ((some (([] : List Int) : List Int)).bind fun y254 => (if y254.length + t244.length < 140737488355328 then ((some (y254 ++ t244 : List Int)).bind fun y257 => (if 0 ≤ (wrap64 ((y257.length : Int) - 1)) then (if (wrap64 ((y257.length : Int) - 1)) < (y257.length : Int) then ((some (y257.set ((wrap64 ((y257.length : Int) - 1)) : Int).toNat (Go.bits .or .u8 (rd y257 (wrap64 ((y257.length : Int) - 1))) 128) : List Int)).bind fun y261 => (if y261.length < 140737488355328 then ((octets_GetVar.f k (y261 ++ [0])).bind fun bt265 => (if t243 = true then (if bt251.2.2 = true then (some false) else (if bt265.2.2 = true then (some false) else (some (bt265.2.1 == 0)))) else (some false))) else (none))) else (none)) else (none))) else (none)))) else (none)) else (none)))) = some r := H
  have A3 := Aside0.mk A30
  clear A30
  replace H := Option.bind_eq_some_iff.mp H
  obtain ⟨t244, A40, H⟩ := H
  replace H : (if (t244.length : Int) = 0 then (some false) else (if 0 ≤ (Int.tmod (Go.bits .and .i64 a1 65535) (t244.length : Int)) then (if (Int.tmod (Go.bits .and .i64 a1 65535) (t244.length : Int)) ≤ (t244.length : Int) then ((octets_GetVar.f k (t244.take ((Int.tmod (Go.bits .and .i64 a1 65535) (t244.length : Int)) : Int).toNat)).bind fun bt251 => ((some (([] : List Int) : List Int)).bind fun y254 => (if y254.length + t244.length < 140737488355328 then ((some (y254 ++ t244 : List Int)).bind fun y257 => (if 0 ≤ (wrap64 ((y257.length : Int) - 1)) then (if (wrap64 ((y257.length : Int) - 1)) < (y257.length : Int) then ((some (y257.set ((wrap64 ((y257.length : Int) - 1)) : Int).toNat (Go.bits .or .u8 (rd y257 (wrap64 ((y257.length : Int) - 1))) 128) : List Int)).bind fun y261 => (if y261.length < 140737488355328 then ((octets_GetVar.f k (y261 ++ [0])).bind fun bt265 => (if t243 = true then (if bt251.2.2 = true then (some false) else (if bt265.2.2 = true then (some false) else (some (bt265.2.1 == 0)))) else (some false))) else (none))) else (none)) else (none))) else (none)))) else (none)) else (none))) = some r := H
  have A4 := Aside0.mk A40
  clear A40
  by_cases c5 : (t244.length : Int) = 0
  · rw [if_pos c5] at H
    have c5b0 : ((t244.length : Int) == 0) = true := beq_iff_eq.mpr c5
    have c5b1 : ((t244.length : Int) != 0) = false := bne_eq_false_iff_eq.mpr c5
    clear c5
    exact absurd (H.trans (congrArg some hr_.out)) (by simp)
  · rw [if_neg c5] at H
    have c5b0 : ((t244.length : Int) == 0) = false := beq_eq_false_iff_ne.mpr c5
    have c5b1 : ((t244.length : Int) != 0) = true := bne_iff_ne.mpr c5
    have c5b2 : ¬ (t244 = []) := fun h_ => c5 (by rw [h_]; rfl)
    obtain ⟨ji9, hji9⟩ : ∃ j_ : Int, (Int.tmod (Go.bits .and .i64 a1 65535) (t244.length : Int)) = j_ := ⟨_, rfl⟩
    replace H : (if 0 ≤ (ji9) then (if (ji9) ≤ (t244.length : Int) then ((octets_GetVar.f k (t244.take ((ji9) : Int).toNat)).bind fun bt251 => ((some (([] : List Int) : List Int)).bind fun y254 => (if y254.length + t244.length < 140737488355328 then ((some (y254 ++ t244 : List Int)).bind fun y257 => (if 0 ≤ (wrap64 ((y257.length : Int) - 1)) then (if (wrap64 ((y257.length : Int) - 1)) < (y257.length : Int) then ((some (y257.set ((wrap64 ((y257.length : Int) - 1)) : Int).toNat (Go.bits .or .u8 (rd y257 (wrap64 ((y257.length : Int) - 1))) 128) : List Int)).bind fun y261 => (if y261.length < 140737488355328 then ((octets_GetVar.f k (y261 ++ [0])).bind fun bt265 => (if t243 = true then (if bt251.2.2 = true then (some false) else (if bt265.2.2 = true then (some false) else (some (bt265.2.1 == 0)))) else (some false))) else (none))) else (none)) else (none))) else (none)))) else (none)) else (none)) = some r := by first | (rw [hji9] at H; exact H) | (simp only [hji9] at H ⊢; exact H)
    (try rw [hji9] at A3)
    (try rw [hji9] at A4)
    by_cases c10 : 0 ≤ (ji9)
    · rw [if_pos c10] at H
      have c10b0 := eq_true c10
      have c10b1 : decide (0 ≤ (ji9)) = true := decide_eq_true c10
      clear c10
      by_cases c11 : (ji9) ≤ (t244.length : Int)
      · rw [if_pos c11] at H
        have c11b0 := eq_true c11
        have c11b1 : decide ((ji9) ≤ (t244.length : Int)) = true := decide_eq_true c11
        clear c11
        obtain ⟨y247, hy247⟩ : ∃ y_ : List Int, y_ = (t244.take ((ji9) : Int).toNat) := ⟨_, rfl⟩
        replace H : ((octets_GetVar.f k y247).bind fun bt251 => ((some (([] : List Int) : List Int)).bind fun y254 => (if y254.length + t244.length < 140737488355328 then ((some (y254 ++ t244 : List Int)).bind fun y257 => (if 0 ≤ (wrap64 ((y257.length : Int) - 1)) then (if (wrap64 ((y257.length : Int) - 1)) < (y257.length : Int) then ((some (y257.set ((wrap64 ((y257.length : Int) - 1)) : Int).toNat (Go.bits .or .u8 (rd y257 (wrap64 ((y257.length : Int) - 1))) 128) : List Int)).bind fun y261 => (if y261.length < 140737488355328 then ((octets_GetVar.f k (y261 ++ [0])).bind fun bt265 => (if t243 = true then (if bt251.2.2 = true then (some false) else (if bt265.2.2 = true then (some false) else (some (bt265.2.1 == 0)))) else (some false))) else (none))) else (none)) else (none))) else (none)))) = some r := by first | (rw [hy247]; with_reducible exact H) | (have H2_ := (Option.bind_some _ _).symm.trans H; rw [hy247]; with_reducible exact H2_) | (have H2_ := (Option.bind_some _ _).symm.trans H; with_reducible exact H2_) | with_reducible exact H | (rw [hy247]; exact H) | exact H
        have Ny247 := Aside0.mk hy247
        clear hy247
        replace H := Option.bind_eq_some_iff.mp H
        obtain ⟨⟨t251, t252, t253⟩, A120, H⟩ := H
        replace H : ((some (([] : List Int) : List Int)).bind fun y254 => (if y254.length + t244.length < 140737488355328 then ((some (y254 ++ t244 : List Int)).bind fun y257 => (if 0 ≤ (wrap64 ((y257.length : Int) - 1)) then (if (wrap64 ((y257.length : Int) - 1)) < (y257.length : Int) then ((some (y257.set ((wrap64 ((y257.length : Int) - 1)) : Int).toNat (Go.bits .or .u8 (rd y257 (wrap64 ((y257.length : Int) - 1))) 128) : List Int)).bind fun y261 => (if y261.length < 140737488355328 then ((octets_GetVar.f k (y261 ++ [0])).bind fun bt265 => (if t243 = true then (if t253 = true then (some false) else (if bt265.2.2 = true then (some false) else (some (bt265.2.1 == 0)))) else (some false))) else (none))) else (none)) else (none))) else (none))) = some r := H
        have A12 := Aside0.mk A120
        clear A120
        obtain ⟨y254, hy254⟩ : ∃ y_ : List Int, y_ = (([] : List Int)) := ⟨_, rfl⟩
        replace H : (if y254.length + t244.length < 140737488355328 then ((some (y254 ++ t244 : List Int)).bind fun y257 => (if 0 ≤ (wrap64 ((y257.length : Int) - 1)) then (if (wrap64 ((y257.length : Int) - 1)) < (y257.length : Int) then ((some (y257.set ((wrap64 ((y257.length : Int) - 1)) : Int).toNat (Go.bits .or .u8 (rd y257 (wrap64 ((y257.length : Int) - 1))) 128) : List Int)).bind fun y261 => (if y261.length < 140737488355328 then ((octets_GetVar.f k (y261 ++ [0])).bind fun bt265 => (if t243 = true then (if t253 = true then (some false) else (if bt265.2.2 = true then (some false) else (some (bt265.2.1 == 0)))) else (some false))) else (none))) else (none)) else (none))) else (none)) = some r := by first | (rw [hy254]; with_reducible exact H) | (have H2_ := (Option.bind_some _ _).symm.trans H; rw [hy254]; with_reducible exact H2_) | (have H2_ := (Option.bind_some _ _).symm.trans H; with_reducible exact H2_) | with_reducible exact H | (rw [hy254]; exact H) | exact H
        have Ny254 := Aside0.mk hy254
        clear hy254
        by_cases c13 : y254.length + t244.length < 140737488355328
        · rw [if_pos c13] at H
          have LMc13 := Aside0.mk c13
          clear c13
          obtain ⟨y257, hy257⟩ : ∃ y_ : List Int, y_ = (y254 ++ t244) := ⟨_, rfl⟩
          replace H : (if 0 ≤ (wrap64 ((y257.length : Int) - 1)) then (if (wrap64 ((y257.length : Int) - 1)) < (y257.length : Int) then ((some (y257.set ((wrap64 ((y257.length : Int) - 1)) : Int).toNat (Go.bits .or .u8 (rd y257 (wrap64 ((y257.length : Int) - 1))) 128) : List Int)).bind fun y261 => (if y261.length < 140737488355328 then ((octets_GetVar.f k (y261 ++ [0])).bind fun bt265 => (if t243 = true then (if t253 = true then (some false) else (if bt265.2.2 = true then (some false) else (some (bt265.2.1 == 0)))) else (some false))) else (none))) else (none)) else (none)) = some r := by first | (rw [hy257]; with_reducible exact H) | (have H2_ := (Option.bind_some _ _).symm.trans H; rw [hy257]; with_reducible exact H2_) | (have H2_ := (Option.bind_some _ _).symm.trans H; with_reducible exact H2_) | with_reducible exact H | (rw [hy257]; exact H) | exact H
          have Ny257 := Aside0.mk hy257
          clear hy257
          obtain ⟨ji14, hji14⟩ : ∃ j_ : Int, (wrap64 ((y257.length : Int) - 1)) = j_ := ⟨_, rfl⟩
          replace H : (if 0 ≤ (ji14) then (if (ji14) < (y257.length : Int) then ((some (y257.set ((ji14) : Int).toNat (Go.bits .or .u8 (rd y257 (ji14)) 128) : List Int)).bind fun y261 => (if y261.length < 140737488355328 then ((octets_GetVar.f k (y261 ++ [0])).bind fun bt265 => (if t243 = true then (if t253 = true then (some false) else (if bt265.2.2 = true then (some false) else (some (bt265.2.1 == 0)))) else (some false))) else (none))) else (none)) else (none)) = some r := by first | (rw [hji14] at H; exact H) | (simp only [hji14] at H ⊢; exact H)
          (try rw [hji14] at A3)
          (try rw [hji14] at A4)
          (try rw [hji14] at A12)
          have hji14w : (IntKind.i64.wrap ((y257.length : Int) - 1)) = ji14 := (i64_w _).trans hji14
          by_cases c15 : 0 ≤ (ji14)
          · rw [if_pos c15] at H
            have c15b0 : decide (0 ≤ (ji14)) = true := decide_eq_true c15
            clear c15
            by_cases c16 : (ji14) < (y257.length : Int)
            · rw [if_pos c16] at H
              have c16b0 : decide ((ji14) < (y257.length : Int)) = true := decide_eq_true c16
              clear c16
              obtain ⟨y261, hy261⟩ : ∃ y_ : List Int, y_ = (y257.set ((ji14) : Int).toNat (Go.bits .or .u8 (rd y257 (ji14)) 128)) := ⟨_, rfl⟩
              replace H : (if y261.length < 140737488355328 then ((octets_GetVar.f k (y261 ++ [0])).bind fun bt265 => (if t243 = true then (if t253 = true then (some false) else (if bt265.2.2 = true then (some false) else (some (bt265.2.1 == 0)))) else (some false))) else (none)) = some r := by first | (rw [hy261]; with_reducible exact H) | (have H2_ := (Option.bind_some _ _).symm.trans H; rw [hy261]; with_reducible exact H2_) | (have H2_ := (Option.bind_some _ _).symm.trans H; with_reducible exact H2_) | with_reducible exact H | (rw [hy261]; exact H) | exact H
              have Ny261 := Aside0.mk hy261
              clear hy261
              by_cases c18 : y261.length < 140737488355328
              · rw [if_pos c18] at H
                have LMc18 := Aside0.mk c18
                clear c18
                obtain ⟨y262, hy262⟩ : ∃ y_ : List Int, y_ = (y261 ++ [0]) := ⟨_, rfl⟩
                replace H : ((octets_GetVar.f k y262).bind fun bt265 => (if t243 = true then (if t253 = true then (some false) else (if bt265.2.2 = true then (some false) else (some (bt265.2.1 == 0)))) else (some false))) = some r := by first | (rw [hy262]; with_reducible exact H) | (have H2_ := (Option.bind_some _ _).symm.trans H; rw [hy262]; with_reducible exact H2_) | (have H2_ := (Option.bind_some _ _).symm.trans H; with_reducible exact H2_) | with_reducible exact H | (rw [hy262]; exact H) | exact H
                have Ny262 := Aside0.mk hy262
                clear hy262
                replace H := Option.bind_eq_some_iff.mp H
                obtain ⟨⟨t265, t266, t267⟩, A190, H⟩ := H
                replace H : (if t243 = true then (if t253 = true then (some false) else (if t267 = true then (some false) else (some (t266 == 0)))) else (some false)) = some r := H
                have A19 := Aside0.mk A190
                clear A190
                by_cases c20 : t243 = true
                · subst c20
                  have H1 : (if t253 = true then (some false) else (if t267 = true then (some false) else (some (t266 == 0)))) = some r := by rw [if_pos rfl] at H; exact H
                  clear H
                  have H := H1
                  clear H1
                  by_cases c21 : t253 = true
                  · subst c21
                    have H1 : (some false) = some r := by rw [if_pos rfl] at H; exact H
                    clear H
                    have H := H1
                    clear H1
                    exact absurd (H.trans (congrArg some hr_.out)) (by simp)
                  · replace c21 := Bool.eq_false_iff.mpr c21
                    subst c21
                    have H1 : (if t267 = true then (some false) else (some (t266 == 0))) = some r := by rw [if_neg (show ¬ (false = true) by decide)] at H; exact H
                    clear H
                    have H := H1
                    clear H1
                    by_cases c36 : t267 = true
                    · subst c36
                      have H1 : (some false) = some r := by rw [if_pos rfl] at H; exact H
                      clear H
                      have H := H1
                      clear H1
                      exact absurd (H.trans (congrArg some hr_.out)) (by simp)
                    · replace c36 := Bool.eq_false_iff.mpr c36
                      subst c36
                      have H1 : (some (t266 == 0)) = some r := by rw [if_neg (show ¬ (false = true) by decide)] at H; exact H
                      clear H
                      have H := H1
                      clear H1
                      obtain rfl := Option.some.inj H
                      go_enter Try.func11, Try.ntmps11
                      go_wp2_with (first | ((with_reducible refine gate_callee (f := 12) rfl ?_); refine goesL_ (some 14) rfl rfl Try.func12 (by kernel_rfl) rfl #[] rfl (by (try simp only [List.map_toArray, List.map_cons, List.map_nil]); first | done | rfl | (simp only [List.length_drop, List.length_take]; rfl)) ?_; (with_reducible refine (cartagelaw01_shown.calls k  true _ A3.out).mono ?_); rintro e w51 ⟨rfl, hb⟩; refine ⟨_, rfl, ?_⟩; have n0_ := Aside0.mk (below_step (by repeat (first | (with_reducible first | exact HB.out | apply below_alloc | apply pw_below_drewN | apply below_drew1) | exact HB.out)) hb); clear HB; have HB := n0_; clear n0_; (try clear hb); (try clear hb2); (try clear hk); (try clear hi)) | ((with_reducible refine gate_callee (f := 19) rfl ?_); refine goesL_ (some 16) rfl rfl Try.func19 (by kernel_rfl) rfl #[.slice none 0 0, .int .u64 a0] rfl (by (try simp only [List.map_toArray, List.map_cons, List.map_nil]); first | done | rfl | (simp only [List.length_drop, List.length_take]; rfl)) ?_; (refine (octets_PutVar.calls k _ _ ([] : List Int) a0 t244 _ ?side1 ?side2 A4.out).mono ?_); (case side1 => exact Kd.C_nil _ _); (case side2 => exact Nat.le_refl _); rintro e w52 ⟨v245, rfl, ho0, hb⟩; refine ⟨_, rfl, ?_⟩; have n0_ := Aside0.mk (Kd.R_lower ho0 (below_size (by repeat (first | (with_reducible first | exact HB.out | apply below_alloc | apply pw_below_drewN | apply below_drew1) | exact HB.out)))); have n1_ := Aside0.mk (below_step (by repeat (first | (with_reducible first | exact HB.out | apply below_alloc | apply pw_below_drewN | apply below_drew1) | exact HB.out)) hb); clear HB; have HO246 := n0_; have HB := n1_; clear n0_ n1_; (try clear hb); (try clear hb2); (try clear hk); (try clear hi); (try clear ho0); obtain ⟨Ao53, co53, eo53⟩ := Kd.R_slice HO246.out; subst eo53; have q54 : ((ji9) : Int) ≤ ((t244.length : Int) : Int) := of_decide_eq_true (by first | (with_reducible assumption) | assumption); obtain ⟨i054, hi054, _, hsz54, _⟩ := info_parts info5; have hroom54 : t244.length ≤ co53 := (Kd.R_reads' HO246.out).2.1; have hC54 : Kd.C (Kd.int .u8) _ Ao53 t244.length t244 := (Kd.R_reads' HO246.out).2.2; have hcut54 := cut_to (P := Try.prog) 22 5 .i64 Try.underlying22 hi054 Ao53 t244.length co53 (ji9) (of_decide_eq_true (by first | (with_reducible assumption) | assumption)) q54 hroom54; have hr54 := Kd.C_take (m := ((ji9) : Int).toNat) hC54 (by omega); have hy54 : y247.length = ((ji9) : Int).toNat := (by rw [Ny247.out, List.length_take]; omega); rw [← Ny247.out] at hr54; rw [← hy54] at hcut54; have HR250 := Aside0.mk hr54; have HC250 := Aside0.mk (show y247.length ≤ co53 from by omega); clear hr54 hC54 hroom54 hi054 hsz54; have KY54 := Aside0.mk hy54; clear hy54; have KL54 := Aside0.mk (show ((ji9) : Int).toNat ≤ t244.length from by omega); replace q54 := eq_true q54) | ((with_reducible refine gate_callee (f := 17) rfl ?_); refine goesL_ (some 29) rfl rfl Try.func17 (by kernel_rfl) rfl #[.slice Ao53 y247.length co53] rfl (by (try simp only [List.map_toArray, List.map_cons, List.map_nil]); first | done | rfl | (simp only [List.length_drop, List.length_take]; rfl)) ?_; (with_reducible refine (octets_GetVar.calls k _ _ y247 t251 t252 false _ ?side1 ?side2 A12.out).mono ?_); (case side1 => repeat (first | exact (by repeat (first | (with_reducible exact HR250.out) | (with_reducible refine Kd.C_alloc ?_ _) | (with_reducible refine Kd.C_drewN ?_ _) | (with_reducible refine Kd.C_drew ?_) | exact HR250.out)) | (with_reducible refine Kd.C_alloc ?_ _) | (with_reducible refine Kd.C_drewN ?_ _) | (with_reducible refine Kd.C_drew ?_))); (case side2 => exact HC250.out); rintro e w55 ⟨rfl, hb⟩; refine ⟨_, rfl, ?_⟩; have n0_ := Aside0.mk (Kd.R_below (by (with_reducible repeat (first | apply Kd.R_alloc | apply Kd.R_drewN | apply Kd.R_drew)); exact HO246.out) hb); have n1_ := Aside0.mk (Kd.C_below (by repeat (first | (with_reducible exact HR250.out) | (with_reducible refine Kd.C_alloc ?_ _) | (with_reducible refine Kd.C_drewN ?_ _) | (with_reducible refine Kd.C_drew ?_) | exact HR250.out)) hb); have n2_ := Aside0.mk (below_step (by repeat (first | (with_reducible first | exact HB.out | apply below_alloc | apply pw_below_drewN | apply below_drew1) | exact HB.out)) hb); clear HO246; clear HR250; clear HB; have HO246 := n0_; have HR250 := n1_; have HB := n2_; clear n0_ n1_ n2_; (try clear hb); (try clear hb2); (try clear hk); (try clear hi)) | ((with_reducible refine gate_dst (N := 33) rfl ?_); refine Kd.R_lit (Kd.int .u8) _ 5 ?hg (N := 33) ?hd (xs := ([] : List Int)) (inner := []) (ok := fun _ => True) (okp := fun _ => True) ?hr ?hp (fun _ hk => hk) trivial (Below.refl _ _) (Nat.le_refl _) (by simp) ?_; (case hd => rfl); (case hg => rfl); (case hr => first | (go_simp; done) | (go_simp; rfl)); (case hp => exact (Reps.none _ _)); intro v255 w56 ho57 hb hg_ hnew_; clear hg_ hnew_; (first | rw [← Ny254.out] at ho57 | (simp only [Int.reduceToNat] at ho57; rw [← Ny254.out] at ho57)); have n0_ := Aside0.mk (Kd.R_elder' (by (with_reducible repeat (first | apply Kd.R_alloc | apply Kd.R_drewN | apply Kd.R_drew)); exact HO246.out) (Kd.R_base ho57) hb); have n1_ := Aside0.mk (Kd.R_lower (Kd.R_new' ho57 (Kd.R_lt (by (with_reducible repeat (first | apply Kd.R_alloc | apply Kd.R_drewN | apply Kd.R_drew)); exact HO246.out))) (below_size (by repeat (first | (with_reducible first | exact HB.out | apply below_alloc | apply pw_below_drewN | apply below_drew1) | exact HB.out)))); have n2_ := Aside0.mk (Kd.C_below (by repeat (first | (with_reducible exact HR250.out) | (with_reducible refine Kd.C_alloc ?_ _) | (with_reducible refine Kd.C_drewN ?_ _) | (with_reducible refine Kd.C_drew ?_) | exact HR250.out)) hb); have n3_ := Aside0.mk (below_step (by repeat (first | (with_reducible first | exact HB.out | apply below_alloc | apply pw_below_drewN | apply below_drew1) | exact HB.out)) hb); clear HO246; clear HR250; clear HB; have HO246 := n0_; have HO256 := n1_; have HR250 := n2_; have HB := n3_; clear n0_ n1_ n2_ n3_; clear hb ho57) | ((with_reducible refine gate_builtin (b := .append) (xs := #[.tmp 33, .tmp 34]) rfl ?_); at_builtin; refine Kd.R_append_rows (Kd.int .u8) (w0 := w) w.heap.size rfl (.tmp 33) (.tmp 34) 22 5 (.int .u8 0) 1 rfl Try.underlying22 info5 rfl (by decide) (by omega) v255 y254 t244 _ _ _ (fun k_ => some k_ ≠ (.slice Ao53 t244.length co53 : Value).ownBlock) (fun _ => False) rfl rfl ?aO ?aR (fun _ _ h => h) (fun _ h => h.elim) ?aF ?aB ?aS ?aL ?_; (case aR => repeat (first | exact (Kd.R_reads' HO246.out).2.2 | (with_reducible refine Kd.C_alloc ?_ _) | (with_reducible refine Kd.C_drewN ?_ _) | (with_reducible refine Kd.C_drew ?_))); (case aB => exact (by repeat (first | (with_reducible first | exact HB.out | apply below_alloc | apply pw_below_drewN | apply below_drew1) | exact HB.out))); (case aF => exact (fun k_ hk => Kd.fresh' (Kd.R_lt (by (with_reducible repeat (first | apply Kd.R_alloc | apply Kd.R_drewN | apply Kd.R_drew)); exact HO246.out)) k_ hk)); (case aO => exact (by (with_reducible repeat (first | apply Kd.R_alloc | apply Kd.R_drewN | apply Kd.R_drew)); exact Kd.R_mono HO256.out (fun _ hk => hk.2))); (case aS => exact (below_size (by repeat (first | (with_reducible first | exact HB.out | apply below_alloc | apply pw_below_drewN | apply below_drew1) | exact HB.out)))); (case aL => have := LMc13.out; omega); intro v258 w58 ho hb hg hat; rw [← Ny257.out] at ho; have n0_ := Aside0.mk (Kd.R_after (ok := (fun _ => True)) (by (with_reducible repeat (first | apply Kd.R_alloc | apply Kd.R_drewN | apply Kd.R_drew)); exact HO246.out) hg hat); have n1_ := Aside0.mk (hb); have n2_ := Aside0.mk ((show Kd.C (Kd.int .u8) w58 Ao53 y247.length y247 from by rw [Ny247.out]; exact Kd.C_take (m := ((ji9) : Int).toNat) ((Kd.R_reads' (Kd.R_after (ok := (fun _ => True)) (by (with_reducible repeat (first | apply Kd.R_alloc | apply Kd.R_drewN | apply Kd.R_drew)); exact HO246.out) hg hat)).2.2) KL54.out)); have n3_ := Aside0.mk (ho); clear HO246; clear HB; clear HR250; clear HO256; have HO246 := n0_; have HB := n1_; have HR250 := n2_; have HO259 := n3_; clear n0_ n1_ n2_ n3_; clear ho hb hg hat; obtain ⟨Ao59, co59, eo59⟩ := Kd.R_slice HO259.out; subst eo59; have p260 : 0 ≤ ((ji14) : Int) := of_decide_eq_true (by first | (with_reducible assumption) | assumption); have q260 : (ji14) < (y257.length : Int) := of_decide_eq_true (by first | (with_reducible assumption) | assumption); obtain ⟨ad260, e260, hx260_0⟩ := Kd.at_int (Kd.R_reads' HO259.out).2.2 (ji14) p260 q260; cases e260; replace p260 := eq_true p260; replace q260 := eq_true q260; have p17 : 0 ≤ ((ji14) : Int) := of_decide_eq_true (by first | (with_reducible assumption) | assumption); have q17 : ((ji14) : Int) < ((y257.length : Int) : Int) := of_decide_eq_true (by first | (with_reducible assumption) | assumption); obtain ⟨go17, co17, eo17, gb17, gl17, cl17, HG17⟩ := Kd.R_form HO259.out (by omega); (first | cases eo17 | (injection eo17 with ea_ en_ ec_; (first | subst ea_ | (injection ea_ with ea_; subst ea_)); subst ec_; clear en_)); have GB17 := Aside0.mk gb17; have GG17 := Aside0.mk HG17; clear gb17 gl17 HG17; (first | simp only [add_plain] at hx260_0 | skip); obtain ⟨hx17_0, hf17_0⟩ := Kd.R_celln 0 HO259.out ((ji14) : Int) p17 q17; replace p17 := eq_true p17; replace q17 := eq_true q17; obtain ⟨hy60_, hz60_⟩ := Kd.R_celln 0 HO259.out ((ji14) : Int) (of_decide_eq_true (by first | (with_reducible assumption) | assumption)) (of_decide_eq_true (by first | (with_reducible assumption) | assumption)); have HP60 := Kd.R_putg HO259.out ((ji14) : Int) (Go.bits .or .u8 (rd y257 (ji14)) 128)) | ((with_reducible refine gate_store (t := 5) (p := 47) rfl ?_); refine store_event (t := 5) (p := 47) (v := ?vo_w61) (w1 := (w58.setCell ⟨go17, ((ji14) : Int).toNat, none⟩ (.int .u8 (Go.bits .or .u8 (rd y257 (ji14)) 128)))) ?hg ?ho ?hn ?hr ?_; (case ho => rfl); (case hg => rfl); (case hn => rfl); (case hr => first | (go_simp; done) | (go_simp; rfl)); intro w61 hw; have hg : w58.grownBy w61 (some go17) := (by rw [hw]; exact HP60.2); have hp_ : Kd.R (Kd.int .u8) 5 w61 w.heap.size (fun k_ => some k_ ≠ (.slice Ao53 t244.length co53 : Value).ownBlock) (.slice (some ⟨go17, 0, none⟩) y257.length co59) y261 := (by rw [hw, Ny261.out]; exact HP60.1); clear HP60; have n0_ := Aside0.mk (Kd.R_after (v := (.slice (some ⟨go17, 0, none⟩) y257.length co59)) (v1 := (.slice (some ⟨go17, 0, none⟩) y257.length co59)) (ok := (fun _ => True)) (by (with_reducible repeat (first | apply Kd.R_alloc | apply Kd.R_drewN | apply Kd.R_drew)); exact HO246.out) hg (.inl rfl)); have n1_ := Aside0.mk (hp_); have n2_ := Aside0.mk ((by rw [hw]; exact below_set (HB.out) GB17.out : Below w.heap.size w w61)); have n3_ := Aside0.mk ((show Kd.C (Kd.int .u8) w61 Ao53 y247.length y247 from by rw [Ny247.out]; exact Kd.C_take (m := ((ji9) : Int).toNat) ((Kd.R_reads' (Kd.R_after (v := (.slice (some ⟨go17, 0, none⟩) y257.length co59)) (v1 := (.slice (some ⟨go17, 0, none⟩) y257.length co59)) (ok := (fun _ => True)) (by (with_reducible repeat (first | apply Kd.R_alloc | apply Kd.R_drewN | apply Kd.R_drew)); exact HO246.out) hg (.inl rfl))).2.2) KL54.out)); clear HO246; clear HO259; clear HB; clear HR250; have HO246 := n0_; have HO259 := n1_; have HB := n2_; have HR250 := n3_; clear n0_ n1_ n2_ n3_; clear hg hw hp_) | ((with_reducible refine gate_builtin (b := .append) (xs := #[.tmp 49, .tmp 50]) rfl ?_); at_builtin; refine Kd.R_append (Kd.int .u8) (w0 := w) w.heap.size rfl (.tmp 49) (.tmp 50) 22 5 (.int .u8 0) 1 rfl Try.underlying22 info5 rfl (by decide) (by omega) (.slice (some ⟨go17, 0, none⟩) y257.length co59) y261 0 [.int .u8 0] (fun k_ => some k_ ≠ (.slice Ao53 t244.length co53 : Value).ownBlock) (fun _ => False) rfl rfl ?aP (fun _ hk => hk.elim) ?aF ?aO ?aB ?aS ?aL ?_; (case aP => exact rfl); (case aB => exact (by repeat (first | (with_reducible first | exact HB.out | apply below_alloc | apply pw_below_drewN | apply below_drew1) | exact HB.out))); (case aF => exact (fun k_ hk => Kd.fresh' (Kd.R_lt (by (with_reducible repeat (first | apply Kd.R_alloc | apply Kd.R_drewN | apply Kd.R_drew)); exact HO246.out)) k_ hk)); (case aO => exact (by (with_reducible repeat (first | apply Kd.R_alloc | apply Kd.R_drewN | apply Kd.R_drew)); exact HO259.out)); (case aS => exact (below_size (by repeat (first | (with_reducible first | exact HB.out | apply below_alloc | apply pw_below_drewN | apply below_drew1) | exact HB.out)))); (case aL => have := LMc18.out; omega); intro v263 w62 ho hb hg hat; rw [← Ny262.out] at ho; have n0_ := Aside0.mk (Kd.R_after (ok := (fun _ => True)) (by (with_reducible repeat (first | apply Kd.R_alloc | apply Kd.R_drewN | apply Kd.R_drew)); exact HO246.out) hg hat); have n1_ := Aside0.mk (hb); have n2_ := Aside0.mk ((show Kd.C (Kd.int .u8) w62 Ao53 y247.length y247 from by rw [Ny247.out]; exact Kd.C_take (m := ((ji9) : Int).toNat) ((Kd.R_reads' (Kd.R_after (ok := (fun _ => True)) (by (with_reducible repeat (first | apply Kd.R_alloc | apply Kd.R_drewN | apply Kd.R_drew)); exact HO246.out) hg hat)).2.2) KL54.out)); have n3_ := Aside0.mk (ho); clear HO246; clear HB; clear HR250; clear HO259; have HO246 := n0_; have HB := n1_; have HR250 := n2_; have HO264 := n3_; clear n0_ n1_ n2_ n3_; clear ho hb hg hat; obtain ⟨Ao63, co63, eo63⟩ := Kd.R_slice HO264.out; subst eo63) | ((with_reducible refine gate_callee (f := 17) rfl ?_); refine goesL_ (some 52) rfl rfl Try.func17 (by kernel_rfl) rfl #[.slice Ao63 y262.length co63] rfl (by (try simp only [List.map_toArray, List.map_cons, List.map_nil]); first | done | rfl | (simp only [List.length_drop, List.length_take]; rfl)) ?_; (with_reducible refine (octets_GetVar.calls k _ _ y262 t265 t266 false _ ?side1 ?side2 A19.out).mono ?_); (case side1 => repeat (first | exact (Kd.R_reads' HO264.out).2.2 | (with_reducible refine Kd.C_alloc ?_ _) | (with_reducible refine Kd.C_drewN ?_ _) | (with_reducible refine Kd.C_drew ?_))); (case side2 => exact (Kd.R_reads' HO264.out).2.1); rintro e w64 ⟨rfl, hb⟩; refine ⟨_, rfl, ?_⟩; have n0_ := Aside0.mk (Kd.R_below (by (with_reducible repeat (first | apply Kd.R_alloc | apply Kd.R_drewN | apply Kd.R_drew)); exact HO246.out) hb); have n1_ := Aside0.mk (Kd.R_below (by (with_reducible repeat (first | apply Kd.R_alloc | apply Kd.R_drewN | apply Kd.R_drew)); exact HO264.out) hb); have n2_ := Aside0.mk (Kd.C_below (by repeat (first | (with_reducible exact HR250.out) | (with_reducible refine Kd.C_alloc ?_ _) | (with_reducible refine Kd.C_drewN ?_ _) | (with_reducible refine Kd.C_drew ?_) | exact HR250.out)) hb); have n3_ := Aside0.mk (below_step (by repeat (first | (with_reducible first | exact HB.out | apply below_alloc | apply pw_below_drewN | apply below_drew1) | exact HB.out)) hb); clear HO246; clear HO264; clear HR250; clear HB; have HO246 := n0_; have HO264 := n1_; have HR250 := n2_; have HB := n3_; clear n0_ n1_ n2_ n3_; (try clear hb); (try clear hb2); (try clear hk); (try clear hi)))
                      go_ret
                      exact ⟨by first | rfl | (simp [errW_none, errW_some] <;> rfl) | (simp only [← hji9, ← hji14]; first | rfl | (simp [errW_none, errW_some] <;> rfl)) | (simp [*, errW_none, errW_some] <;> rfl), by repeat (first | (with_reducible first | exact HB.out | apply below_alloc | apply pw_below_drewN | apply below_drew1) | exact HB.out)⟩
                · replace c20 := Bool.eq_false_iff.mpr c20
                  subst c20
                  have H1 : (some false) = some r := by rw [if_neg (show ¬ (false = true) by decide)] at H; exact H
                  clear H
                  have H := H1
                  clear H1
                  exact absurd (H.trans (congrArg some hr_.out)) (by simp)
              · rw [if_neg c18] at H
                exact absurd H (by simp)
            · rw [if_neg c16] at H
              exact absurd H (by simp)
          · rw [if_neg c15] at H
            exact absurd H (by simp)
        · rw [if_neg c13] at H
          exact absurd H (by simp)
      · rw [if_neg c11] at H
        exact absurd H (by simp)
    · rw [if_neg c10] at H
      exact absurd H (by simp)

/-- THE ONE PURE STATEMENT of cartagelaw01_OctetsEnds: yours. -/
def cartagelaw01_OctetsEnds.Pure : Prop := ∀ (a0 : Int) (a1 : Int), (Lit.int .u64 a0).wf = true → (Lit.int .i64 a1).wf = true → ∃ k, cartagelaw01_OctetsEnds.f k a0 a1 = some true
theorem cartagelaw01_OctetsEnds.walk (P : cartagelaw01_OctetsEnds.Pure) (a0 : Int) (a1 : Int) (w : World) (w0 : (Lit.int .u64 a0).wf = true) (w1 : (Lit.int .i64 a1).wf = true) :
    Calls Try.prog 11 #[.int .u64 a0, .int .i64 a1] w fun e w' => e = .returned (.bool true) ∧ Below w.heap.size w w' := by
  obtain ⟨k, h⟩ := P a0 a1 w0 w1
  refine (cartagelaw01_OctetsEnds.calls k a0 a1 true w h ⟨rfl⟩).mono ?_
  rintro e w' ⟨rfl, hd⟩
  exact ⟨rfl, hd⟩

end Go.Proofs.Ytpnohgolpeocaaa.PAll
