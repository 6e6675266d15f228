-- Laid by hp.py (wip/tools), a program of this work, over the kit's print; Lean checks it.
import Derived.Test.YtaohmpblmlkioaaPAllx0
import Derived.Test.YtaohmpblmlkioaaPAllx1
import Derived.Test.YtaohmpblmlkioaaPAllx2
namespace Go.Proofs.Ytaohmpblmlkioaa.PAll
open Go.RowKit Go.Proofs.YtaohmpblmlkioaaW.PrintWords Go.Proofs.YtaohmpblmlkioaaW.PrintLast Go.Proofs.YtaohmpblmlkioaaW.PrintMore
attribute [local go_sem] max2_int min2_int max_two min_two max_three min_three max_four min_four   -- for this text's walks alone
set_option linter.unusedVariables false
set_option linter.unusedSimpArgs false

/-! ### block_Decode: function 32 -/
def block_Decode.j0 : Nat → List Int → Int → Bool → Option (List Int × Int × Int)
  | 0, _, _, _ => none
  | k + 1, x0, x7, x30 => if x30 = true then (some (([] : List Int), 0, 2)) else ((octets_Get.f x0 x7 4).bind fun bt174 => (if 0 ≤ x7 then (if x7 ≤ (x0.length : Int) then ((octets_Crc.f k (x0.take (x7 : Int).toNat)).bind fun t177 => (if ((bt174.1) % 4294967296) = t177 then (if 2 ≤ x7 then ((slices_Clone_byte_byte.f ((x0.take (x7 : Int).toNat).drop 2)).bind fun t179 => (some (t179, wrap64 (x7 + 4), 0))) else (none)) else (some (([] : List Int), 0, 3)))) else (none)) else (none)))
def block_Decode.f (k : Nat) (l0 : List Int) : Option (List Int × Int × Int) := (octets_Get.f l0 0 2).bind fun bt172 => (if bt172.2 = true then (if bt172.1 > 1000 then (block_Decode.j0 k l0 (wrap64 (2 + (wrap64 (bt172.1)))) true) else (block_Decode.j0 k l0 (wrap64 (2 + (wrap64 (bt172.1)))) (decide ((l0.length : Int) < (wrap64 ((wrap64 (2 + (wrap64 (bt172.1)))) + 4)))))) else (block_Decode.j0 k l0 (wrap64 (2 + (wrap64 (bt172.1)))) true))
theorem block_Decode.mono_l : ∀ k, (∀ y0 y1 y2, LeO (block_Decode.j0 k y0 y1 y2) (block_Decode.j0 (k + 1) y0 y1 y2))
  | 0 => fun _ _ _ r h => by simp [block_Decode.j0] at h
  | k + 1 => by
    have ih0 := block_Decode.mono_l k
    · intro y0 y1 y2
      unfold block_Decode.j0
      repeat' first
      | (with_reducible exact ih0 _ _ _)
      | (with_reducible exact octets_Crc.mono _ _)
      | (with_reducible exact LeO.refl _)
      | (with_reducible exact LeO.none _)
      | (with_reducible refine LeO.ite ?_ ?_)
      | (with_reducible refine LeO.bind ?_ (fun _ => ?_))
      | exact ih0 _ _ _
      | exact octets_Crc.mono _ _
      | exact LeO.none _
      | refine LeO.ite ?_ ?_
      | refine LeO.bind ?_ (fun _ => ?_)
theorem block_Decode.mono : ∀ a0 k, LeO (block_Decode.f k a0) (block_Decode.f (k + 1) a0) := by
  intro a0 k
  have ih0 := block_Decode.mono_l k
  unfold block_Decode.f
  repeat' first
      | (with_reducible exact ih0 _ _ _)
      | (with_reducible exact octets_Crc.mono _ _)
      | (with_reducible exact LeO.refl _)
      | (with_reducible exact LeO.none _)
      | (with_reducible refine LeO.ite ?_ ?_)
      | (with_reducible refine LeO.bind ?_ (fun _ => ?_))
      | exact ih0 _ _ _
      | exact octets_Crc.mono _ _
      | exact LeO.none _
      | refine LeO.ite ?_ ?_
      | refine LeO.bind ?_ (fun _ => ?_)
set_option maxHeartbeats 8000000 in
set_option maxRecDepth 100000 in
theorem block_Decode.calls (k : Nat) (A0 : Option Addr) (c0 : Nat) (l0 : List Int) (r1 : List Int) (r2 : Int) (r3 : Int) (w : World) (hr0 : Kd.C (Kd.int .u8) w A0 l0.length l0) (hc0 : l0.length ≤ c0) (h : block_Decode.f k l0 = some (r1, r2, r3)) :
    Calls Try.prog 32 #[.slice A0 l0.length c0] w fun e w' => ∃ v0_ : Value, e = .returned (.tuple #[v0_, .int .i64 r2, .int .i64 r3]) ∧ Kd.R (Kd.int .u8) 5 w' w.heap.size (fun _ => True) v0_ r1 ∧ Below w.heap.size w w' := by
  have HR0 := Aside0.mk hr0
  have HC0 := Aside0.mk hc0
  clear hr0 hc0
  have HB := Aside0.mk (Below.refl w.heap.size w)
  have H : ((octets_Get.f l0 0 2).bind fun bt172 => (if bt172.2 = true then (if bt172.1 > 1000 then (block_Decode.j0 k l0 (wrap64 (2 + (wrap64 (bt172.1)))) true) else (block_Decode.j0 k l0 (wrap64 (2 + (wrap64 (bt172.1)))) (decide ((l0.length : Int) < (wrap64 ((wrap64 (2 + (wrap64 (bt172.1)))) + 4)))))) else (block_Decode.j0 k l0 (wrap64 (2 + (wrap64 (bt172.1)))) true))) = some (r1, r2, r3) := h
  clear h
  replace H := Option.bind_eq_some_iff.mp H
  obtain ⟨⟨t172, t173⟩, A20, H⟩ := H
  replace H : (if t173 = true then (if t172 > 1000 then (block_Decode.j0 k l0 (wrap64 (2 + (wrap64 (t172)))) true) else (block_Decode.j0 k l0 (wrap64 (2 + (wrap64 (t172)))) (decide ((l0.length : Int) < (wrap64 ((wrap64 (2 + (wrap64 (t172)))) + 4)))))) else (block_Decode.j0 k l0 (wrap64 (2 + (wrap64 (t172)))) true)) = some (r1, r2, r3) := H
  have A2 := Aside0.mk A20
  clear A20
  have HC3 := Aside0.mk H
  clear H
  go_enter Try.func32, Try.ntmps32
  go_upto_region 3 with (first | ((with_reducible refine gate_callee (f := 23) rfl ?_); refine goesL_ (some 12) rfl rfl Try.func23 (by kernel_rfl) rfl #[.slice A0 l0.length c0, .int .i64 0, .int .i64 2] rfl (by (try simp only [List.map_toArray, List.map_cons, List.map_nil]); first | done | rfl | (simp only [List.length_drop, List.length_take]; rfl) | (simp only [HLK18.out]; rfl) | (simp only [HLK22.out]; rfl)) ?_; (with_reducible refine (octets_Get.calls _ _ l0 0 2 t172 t173 _ ?side1 ?side2 A2.out).mono ?_); (case side1 => repeat (first | exact HR0.out | (with_reducible refine Kd.C_alloc ?_ _) | (with_reducible refine Kd.C_drewN ?_ _) | (with_reducible refine Kd.C_drew ?_))); (case side2 => exact HC0.out); rintro e w4 ⟨rfl, hb⟩; refine ⟨_, rfl, ?_⟩; have n0_ := Aside0.mk (below_step (by repeat (first | (with_reducible first | exact HB.out | apply below_alloc | apply pw_below_drewN | apply below_drew1) | exact HB.out)) hb); clear HB; have HB := n0_; clear n0_; (try clear hb); (try clear hb2); (try clear hk); (try clear hi)))
  (try simp only [Act.put, List.setIfInBounds_toArray, List.set_cons_zero, List.set_cons_succ])
  go_cut [30] (fun v30 wc => ∃ (kq : Nat) (x30_2 : Bool), v30 = .bool x30_2 ∧ Aside0 (block_Decode.j0 kq l0 (wrap64 (2 + (wrap64 (t172)))) x30_2 = some (r1, r2, r3)) ∧ Aside0 (kq ≤ k) ∧ Aside0 (Below w.heap.size w wc))
  case first =>
    have H := HC3.out
    clear HC3
    by_cases c5 : t173 = true
    · subst c5
      have H1 : (if t172 > 1000 then (block_Decode.j0 k l0 (wrap64 (2 + (wrap64 (t172)))) true) else (block_Decode.j0 k l0 (wrap64 (2 + (wrap64 (t172)))) (decide ((l0.length : Int) < (wrap64 ((wrap64 (2 + (wrap64 (t172)))) + 4)))))) = some (r1, r2, r3) := by rw [if_pos rfl] at H; exact H
      clear H
      have H := H1
      clear H1
      by_cases c6 : t172 > 1000
      · rw [if_pos c6] at H
        have c6b0 : decide (1000 < t172) = true := decide_eq_true c6
        clear c6
        (first | rw [c6b0] | (simp only [i64_w, i32_w]; rw [c6b0]) | skip)
        have H' := Aside0.mk H
        clear H
        go_wp2
        go_meet
        case rel => exact ⟨_, (true), (by first | rfl | (simp; done) | (simp [*]; done)), H', ⟨by first | omega | exact Nat.le_refl _⟩, ⟨by repeat (first | (with_reducible first | exact HB.out | apply below_alloc | apply pw_below_drewN | apply below_drew1) | exact HB.out)⟩⟩
      · rw [if_neg c6] at H
        have c6b0 : decide (1000 < t172) = false := decide_eq_false c6
        clear c6
        (first | rw [c6b0] | (simp only [i64_w, i32_w]; rw [c6b0]) | skip)
        have H' := Aside0.mk H
        clear H
        go_wp2
        go_meet
        case rel => exact ⟨_, (decide ((l0.length : Int) < (wrap64 ((wrap64 (2 + (wrap64 (t172)))) + 4)))), (by first | rfl | (simp; done) | (simp [*]; done)), H', ⟨by first | omega | exact Nat.le_refl _⟩, ⟨by repeat (first | (with_reducible first | exact HB.out | apply below_alloc | apply pw_below_drewN | apply below_drew1) | exact HB.out)⟩⟩
    · replace c5 := Bool.eq_false_iff.mpr c5
      subst c5
      have H1 : (block_Decode.j0 k l0 (wrap64 (2 + (wrap64 (t172)))) true) = some (r1, r2, r3) := by rw [if_neg (show ¬ (false = true) by decide)] at H; exact H
      clear H
      have H := H1
      clear H1
      have H' := Aside0.mk H
      clear H
      go_wp2
      go_meet
      case rel => exact ⟨_, (true), (by first | rfl | (simp; done) | (simp [*]; done)), H', ⟨by first | omega | exact Nat.le_refl _⟩, ⟨by repeat (first | (with_reducible first | exact HB.out | apply below_alloc | apply pw_below_drewN | apply below_drew1) | exact HB.out)⟩⟩
  case rest =>
    clear HC3
    try clear c2
    try clear p2
    try clear c3
    try clear c5
    try clear c6
    try clear c6b0
    try clear p6
    obtain ⟨kq, x30_2, rfl, HA, HJ2, HB⟩ := hcut
    cases kq with
    | zero => exact absurd HA.out (by simp [block_Decode.j0])
    | succ kj2 =>
      have H := HA.out
      clear HA
      simp only [block_Decode.j0] at H
      by_cases c7 : x30_2 = true
      · subst c7
        have H1 : (some (([] : List Int), 0, 2)) = some (r1, r2, r3) := by rw [if_pos rfl] at H; exact H
        clear H
        have H := H1
        clear H1
        simp only [Option.some.injEq, Prod.mk.injEq] at H
        obtain ⟨rfl, rfl, rfl⟩ := H
        go_wp2
        go_ret3
        exact ⟨_, by first | rfl | (simp [errW_none, errW_some] <;> rfl) | (simp [*, errW_none, errW_some] <;> rfl), by first | exact Kd.R_nil _ _ _ _ _ | exact Kd.N_nil _ _ _ _ _ | exact Kd.V_nil _ _ _ _ _ | exact Kd.Q_nil _ _ _ _ _ | exact Kd.S_nil _ _ _ _ _, by repeat (first | (with_reducible first | exact HB.out | apply below_alloc | apply pw_below_drewN | apply below_drew1) | exact HB.out)⟩
      · replace c7 := Bool.eq_false_iff.mpr c7
        subst c7
        have H1 : ((octets_Get.f l0 (wrap64 (2 + (wrap64 (t172)))) 4).bind fun bt174 => (if 0 ≤ (wrap64 (2 + (wrap64 (t172)))) then (if (wrap64 (2 + (wrap64 (t172)))) ≤ (l0.length : Int) then ((octets_Crc.f kj2 (l0.take ((wrap64 (2 + (wrap64 (t172)))) : Int).toNat)).bind fun t177 => (if ((bt174.1) % 4294967296) = t177 then (if 2 ≤ (wrap64 (2 + (wrap64 (t172)))) then ((slices_Clone_byte_byte.f ((l0.take ((wrap64 (2 + (wrap64 (t172)))) : Int).toNat).drop 2)).bind fun t179 => (some (t179, wrap64 ((wrap64 (2 + (wrap64 (t172)))) + 4), 0))) else (none)) else (some (([] : List Int), 0, 3)))) else (none)) else (none))) = some (r1, r2, r3) := by rw [if_neg (show ¬ (false = true) by decide)] at H; exact H
        clear H
        have H := H1
        clear H1
        replace H := Option.bind_eq_some_iff.mp H
        obtain ⟨⟨t174, t175⟩, A80, H⟩ := H
        replace H : (if 0 ≤ (wrap64 (2 + (wrap64 (t172)))) then (if (wrap64 (2 + (wrap64 (t172)))) ≤ (l0.length : Int) then ((octets_Crc.f kj2 (l0.take ((wrap64 (2 + (wrap64 (t172)))) : Int).toNat)).bind fun t177 => (if ((t174) % 4294967296) = t177 then (if 2 ≤ (wrap64 (2 + (wrap64 (t172)))) then ((slices_Clone_byte_byte.f ((l0.take ((wrap64 (2 + (wrap64 (t172)))) : Int).toNat).drop 2)).bind fun t179 => (some (t179, wrap64 ((wrap64 (2 + (wrap64 (t172)))) + 4), 0))) else (none)) else (some (([] : List Int), 0, 3)))) else (none)) else (none)) = some (r1, r2, r3) := H
        have A8 := Aside0.mk A80
        clear A80
        obtain ⟨ji9, hji9⟩ : ∃ j_ : Int, (wrap64 (2 + (wrap64 (t172)))) = j_ := ⟨_, rfl⟩
        replace H : (if 0 ≤ (ji9) then (if (ji9) ≤ (l0.length : Int) then ((octets_Crc.f kj2 (l0.take ((ji9) : Int).toNat)).bind fun t177 => (if ((t174) % 4294967296) = t177 then (if 2 ≤ (ji9) then ((slices_Clone_byte_byte.f ((l0.take ((ji9) : Int).toNat).drop 2)).bind fun t179 => (some (t179, wrap64 ((ji9) + 4), 0))) else (none)) else (some (([] : List Int), 0, 3)))) else (none)) else (none)) = some (r1, r2, r3) := by first | (rw [hji9] at H; exact H) | (simp only [hji9] at H ⊢; exact H)
        (try rw [hji9] at A8)
        have hji9w : (IntKind.i64.wrap (2 + (wrap64 (t172)))) = ji9 := (i64_w _).trans hji9
        by_cases c10 : 0 ≤ (ji9)
        · rw [if_pos c10] at H
          have c10b0 := eq_true c10
          have c10b1 : decide (0 ≤ (ji9)) = true := decide_eq_true c10
          clear c10
          by_cases c11 : (ji9) ≤ (l0.length : Int)
          · rw [if_pos c11] at H
            have c11b0 := eq_true c11
            have c11b1 : decide ((ji9) ≤ (l0.length : Int)) = true := decide_eq_true c11
            clear c11
            replace H := Option.bind_eq_some_iff.mp H
            obtain ⟨t177, A120, H⟩ := H
            replace H : (if ((t174) % 4294967296) = t177 then (if 2 ≤ (ji9) then ((slices_Clone_byte_byte.f ((l0.take ((ji9) : Int).toNat).drop 2)).bind fun t179 => (some (t179, wrap64 ((ji9) + 4), 0))) else (none)) else (some (([] : List Int), 0, 3))) = some (r1, r2, r3) := H
            have A12 := Aside0.mk A120
            clear A120
            by_cases c13 : ((t174) % 4294967296) = t177
            · rw [if_pos c13] at H
              have c13b0 : (((t174) % 4294967296) == t177) = true := beq_iff_eq.mpr c13
              have c13b1 : (((t174) % 4294967296) != t177) = false := bne_eq_false_iff_eq.mpr c13
              clear c13
              by_cases c14 : 2 ≤ (ji9)
              · rw [if_pos c14] at H
                have c14b0 := eq_true c14
                have c14b1 : decide (2 ≤ (ji9)) = true := decide_eq_true c14
                clear c14
                have c15b0 := eq_true (of_decide_eq_true (by first | (with_reducible assumption) | assumption) : (ji9) ≤ (l0.length : Int))
                replace H := Option.bind_eq_some_iff.mp H
                obtain ⟨t179, A160, H⟩ := H
                replace H : (some (t179, wrap64 ((ji9) + 4), 0)) = some (r1, r2, r3) := H
                have A16 := Aside0.mk A160
                clear A160
                simp only [Option.some.injEq, Prod.mk.injEq] at H
                obtain ⟨rfl, rfl, rfl⟩ := H
                go_wp2_with (first | ((with_reducible refine gate_callee (f := 23) rfl ?_); refine goesL_ (some 34) rfl rfl Try.func23 (by kernel_rfl) rfl #[.slice A0 l0.length c0, .int .i64 (ji9), .int .i64 4] rfl (by (try simp only [List.map_toArray, List.map_cons, List.map_nil]); first | done | (simp only [hji9]; rfl) | rfl | (simp only [List.length_drop, List.length_take]; rfl) | (simp only [HLK18.out]; rfl) | (simp only [HLK22.out]; rfl)) ?_; (with_reducible refine (octets_Get.calls _ _ l0 (ji9) 4 t174 t175 _ ?side1 ?side2 A8.out).mono ?_); (case side1 => repeat (first | exact (Kd.C_below HR0.out HB.out) | (with_reducible refine Kd.C_alloc ?_ _) | (with_reducible refine Kd.C_drewN ?_ _) | (with_reducible refine Kd.C_drew ?_))); (case side2 => exact HC0.out); rintro e w17 ⟨rfl, hb⟩; refine ⟨_, rfl, ?_⟩; have n0_ := Aside0.mk (below_step (by repeat (first | (with_reducible first | exact HB.out | apply below_alloc | apply pw_below_drewN | apply below_drew1) | exact HB.out)) hb); clear HB; have HB := n0_; clear n0_; (try clear hb); (try clear hb2); (try clear hk); (try clear hi); obtain ⟨i018, hi018, _, hsz18, _⟩ := info_parts info5; obtain ⟨hcut18, hA18, hC18⟩ := print_take_of (P := Try.prog) (Value.int .u8) 0 28 5 .i64 Try.underlying28 hi018 hsz18 A0 c0 l0 (ji9) (of_decide_eq_true (by first | (with_reducible assumption) | assumption)) (of_decide_eq_true (by first | (with_reducible assumption) | assumption)) HC0.out; (try have HLK18 := Aside0.mk (show (List.take (((ji9)) : Int).toNat (l0)).length = (((ji9)) : Int).toNat from by (rw [List.length_take]; exact Nat.min_eq_left (by have z_ : ((ji9) : Int) ≤ ((l0).length : Int) := of_decide_eq_true (by first | (with_reducible assumption) | assumption); omega)))); have HR176 := Aside0.mk (Kd.C_of_reads (h1 := fun _ => rfl) (hA18 _ (Kd.reads_of_C HR0.out))); have HC176 := Aside0.mk hC18; clear hA18 hC18 hi018 hsz18) | ((with_reducible refine gate_callee (f := 37) rfl ?_); refine goesL_ (some 42) rfl rfl Try.func37 (by kernel_rfl) rfl #[.slice A0 (l0.take ((ji9) : Int).toNat).length c0] rfl (by (try simp only [List.map_toArray, List.map_cons, List.map_nil]); first | done | (rw [show (l0.take ((ji9) : Int).toNat).length = (ji9).toNat from (by first | exact HLK18.out | exact HLK22.out | (rw [List.length_take]; have h_ : ((ji9) : Int) ≤ (l0.length : Int) := of_decide_eq_true (by first | (with_reducible assumption) | assumption); omega))] <;> rfl) | (simp only [hji9]; rfl) | rfl | (simp only [List.length_drop, List.length_take]; rfl) | (simp only [HLK18.out]; rfl) | (simp only [HLK22.out]; rfl)) ?_; (with_reducible refine (octets_Crc.calls kj2 _ _ (l0.take ((ji9) : Int).toNat) t177 _ ?side1 ?side2 A12.out).mono ?_); (case side1 => repeat (first | exact (Kd.C_below HR176.out HB.out) | (with_reducible refine Kd.C_alloc ?_ _) | (with_reducible refine Kd.C_drewN ?_ _) | (with_reducible refine Kd.C_drew ?_))); (case side2 => exact HC176.out); rintro e w' ⟨rfl, ⟨nd, rfl⟩⟩; refine ⟨_, rfl, ?_⟩; obtain ⟨i019, hi019, _, hsz19, _⟩ := info_parts info5; obtain ⟨A19, hcut19, hA19, hC19⟩ := print_mid_of (P := Try.prog) (Value.int .u8) 0 28 5 .i64 .i64 Try.underlying28 hi019 hsz19 A0 c0 l0 2 (ji9) (by omega) (by first | omega | exact of_decide_eq_true (by first | (with_reducible assumption) | assumption)) (of_decide_eq_true (by first | (with_reducible assumption) | assumption)) HC0.out; have HR178 := Aside0.mk (Kd.C_of_reads (h1 := fun _ => rfl) (hA19 _ (Kd.reads_of_C HR0.out))); have HC178 := Aside0.mk hC19; clear hA19 hC19 hi019 hsz19) | ((with_reducible refine gate_callee (f := 29) rfl ?_); refine goesL_ (some 47) rfl rfl Try.func29 (by kernel_rfl) rfl #[.slice A19 ((l0.take ((ji9) : Int).toNat).drop 2).length (c0 - 2)] rfl (by (try simp only [List.map_toArray, List.map_cons, List.map_nil]); first | done | (rw [show ((l0.take ((ji9) : Int).toNat).drop 2).length = ((ji9).toNat - 2) from (by rw [List.length_drop, List.length_take]; have h_ : ((ji9) : Int) ≤ (l0.length : Int) := of_decide_eq_true (by first | (with_reducible assumption) | assumption); omega)] <;> rfl) | (simp only [hji9]; rfl) | rfl | (simp only [List.length_drop, List.length_take]; rfl) | (simp only [HLK18.out]; rfl) | (simp only [HLK22.out]; rfl)) ?_; (with_reducible refine (slices_Clone_byte_byte.calls _ _ ((l0.take ((ji9) : Int).toNat).drop 2) t179 _ ?side1 ?side2 A16.out).mono ?_); (case side1 => repeat (first | exact (Kd.C_below HR178.out (by repeat (first | (with_reducible first | exact HB.out | apply below_alloc | apply pw_below_drewN | apply below_drew1) | exact HB.out))) | (with_reducible refine Kd.C_alloc ?_ _) | (with_reducible refine Kd.C_drewN ?_ _) | (with_reducible refine Kd.C_drew ?_))); (case side2 => exact HC178.out); rintro e w20 ⟨v180, rfl, ho0, hb⟩; refine ⟨_, rfl, ?_⟩; have n0_ := Aside0.mk (Kd.R_lower ho0 (below_size (by repeat (first | (with_reducible first | exact HB.out | apply below_alloc | apply pw_below_drewN | apply below_drew1) | exact HB.out)))); have n1_ := Aside0.mk (below_step (by repeat (first | (with_reducible first | exact HB.out | apply below_alloc | apply pw_below_drewN | apply below_drew1) | exact HB.out)) hb); clear HB; have HO181 := n0_; have HB := n1_; clear n0_ n1_; (try clear hb); (try clear hb2); (try clear hk); (try clear hi); (try clear ho0)))
                go_ret3
                exact ⟨_, by first | rfl | (simp [errW_none, errW_some] <;> rfl) | (simp only [← hji9]; first | rfl | (simp [errW_none, errW_some] <;> rfl)) | (simp [*, errW_none, errW_some] <;> rfl), by (with_reducible repeat (first | apply Kd.R_alloc | apply Kd.R_drewN | apply Kd.R_drew)); exact HO181.out, by repeat (first | (with_reducible first | exact HB.out | apply below_alloc | apply pw_below_drewN | apply below_drew1) | exact HB.out)⟩
              · rw [if_neg c14] at H
                exact absurd H (by simp)
            · rw [if_neg c13] at H
              have c13b0 : (((t174) % 4294967296) == t177) = false := beq_eq_false_iff_ne.mpr c13
              have c13b1 : (((t174) % 4294967296) != t177) = true := bne_iff_ne.mpr c13
              simp only [Option.some.injEq, Prod.mk.injEq] at H
              obtain ⟨rfl, rfl, rfl⟩ := H
              go_wp2_with (first | ((with_reducible refine gate_callee (f := 23) rfl ?_); refine goesL_ (some 34) rfl rfl Try.func23 (by kernel_rfl) rfl #[.slice A0 l0.length c0, .int .i64 (ji9), .int .i64 4] rfl (by (try simp only [List.map_toArray, List.map_cons, List.map_nil]); first | done | (simp only [hji9]; rfl) | rfl | (simp only [List.length_drop, List.length_take]; rfl) | (simp only [HLK18.out]; rfl) | (simp only [HLK22.out]; rfl)) ?_; (with_reducible refine (octets_Get.calls _ _ l0 (ji9) 4 t174 t175 _ ?side1 ?side2 A8.out).mono ?_); (case side1 => repeat (first | exact (Kd.C_below HR0.out HB.out) | (with_reducible refine Kd.C_alloc ?_ _) | (with_reducible refine Kd.C_drewN ?_ _) | (with_reducible refine Kd.C_drew ?_))); (case side2 => exact HC0.out); rintro e w21 ⟨rfl, hb⟩; refine ⟨_, rfl, ?_⟩; have n0_ := Aside0.mk (below_step (by repeat (first | (with_reducible first | exact HB.out | apply below_alloc | apply pw_below_drewN | apply below_drew1) | exact HB.out)) hb); clear HB; have HB := n0_; clear n0_; (try clear hb); (try clear hb2); (try clear hk); (try clear hi); obtain ⟨i022, hi022, _, hsz22, _⟩ := info_parts info5; obtain ⟨hcut22, hA22, hC22⟩ := print_take_of (P := Try.prog) (Value.int .u8) 0 28 5 .i64 Try.underlying28 hi022 hsz22 A0 c0 l0 (ji9) (of_decide_eq_true (by first | (with_reducible assumption) | assumption)) (of_decide_eq_true (by first | (with_reducible assumption) | assumption)) HC0.out; (try have HLK22 := Aside0.mk (show (List.take (((ji9)) : Int).toNat (l0)).length = (((ji9)) : Int).toNat from by (rw [List.length_take]; exact Nat.min_eq_left (by have z_ : ((ji9) : Int) ≤ ((l0).length : Int) := of_decide_eq_true (by first | (with_reducible assumption) | assumption); omega)))); have HR176 := Aside0.mk (Kd.C_of_reads (h1 := fun _ => rfl) (hA22 _ (Kd.reads_of_C HR0.out))); have HC176 := Aside0.mk hC22; clear hA22 hC22 hi022 hsz22) | ((with_reducible refine gate_callee (f := 37) rfl ?_); refine goesL_ (some 42) rfl rfl Try.func37 (by kernel_rfl) rfl #[.slice A0 (l0.take ((ji9) : Int).toNat).length c0] rfl (by (try simp only [List.map_toArray, List.map_cons, List.map_nil]); first | done | (rw [show (l0.take ((ji9) : Int).toNat).length = (ji9).toNat from (by first | exact HLK18.out | exact HLK22.out | (rw [List.length_take]; have h_ : ((ji9) : Int) ≤ (l0.length : Int) := of_decide_eq_true (by first | (with_reducible assumption) | assumption); omega))] <;> rfl) | (simp only [hji9]; rfl) | rfl | (simp only [List.length_drop, List.length_take]; rfl) | (simp only [HLK18.out]; rfl) | (simp only [HLK22.out]; rfl)) ?_; (with_reducible refine (octets_Crc.calls kj2 _ _ (l0.take ((ji9) : Int).toNat) t177 _ ?side1 ?side2 A12.out).mono ?_); (case side1 => repeat (first | exact (Kd.C_below HR176.out HB.out) | (with_reducible refine Kd.C_alloc ?_ _) | (with_reducible refine Kd.C_drewN ?_ _) | (with_reducible refine Kd.C_drew ?_))); (case side2 => exact HC176.out); rintro e w' ⟨rfl, ⟨nd, rfl⟩⟩; refine ⟨_, rfl, ?_⟩))
              go_ret3
              exact ⟨_, by first | rfl | (simp [errW_none, errW_some] <;> rfl) | (simp only [← hji9]; first | rfl | (simp [errW_none, errW_some] <;> rfl)) | (simp [*, errW_none, errW_some] <;> rfl), by first | exact Kd.R_nil _ _ _ _ _ | exact Kd.N_nil _ _ _ _ _ | exact Kd.V_nil _ _ _ _ _ | exact Kd.Q_nil _ _ _ _ _ | exact Kd.S_nil _ _ _ _ _, by repeat (first | (with_reducible first | exact HB.out | apply below_alloc | apply pw_below_drewN | apply below_drew1) | exact HB.out)⟩
          · rw [if_neg c11] at H
            exact absurd H (by simp)
        · rw [if_neg c10] at H
          exact absurd H (by simp)

/-! ### block_All: function 22 -/
def block_All.l0 : Nat → List Int → List (List Int) → Int → Option ((List (List Int)) × Int × Int)
  | 0, _, _, _ => none
  | k + 1, x0, x2, x3 => if x3 < (x0.length : Int) then (if 0 ≤ x3 then (if x3 ≤ (x0.length : Int) then ((block_Decode.f k (x0.drop (x3 : Int).toNat)).bind fun bt183 => (if bt183.2.2 = 0 then (if x2.length < 5864062014805 then (block_All.l0 k x0 (x2 ++ [bt183.1]) (wrap64 (x3 + bt183.2.1))) else (none)) else (some (([] : List (List Int)), x3, bt183.2.2)))) else (none)) else (none)) else (some (x2, 0, 0))
def block_All.f (k : Nat) (l0 : List Int) : Option ((List (List Int)) × Int × Int) := block_All.l0 k l0 ([] : List (List Int)) 0
theorem block_All.mono_l : ∀ k, (∀ y0 y1 y2, LeO (block_All.l0 k y0 y1 y2) (block_All.l0 (k + 1) y0 y1 y2))
  | 0 => fun _ _ _ r h => by simp [block_All.l0] at h
  | k + 1 => by
    have ih0 := block_All.mono_l k
    · intro y0 y1 y2
      unfold block_All.l0
      repeat' first
      | (with_reducible exact ih0 _ _ _)
      | (with_reducible exact block_Decode.mono _ _)
      | (with_reducible exact LeO.refl _)
      | (with_reducible exact LeO.none _)
      | (with_reducible refine LeO.ite ?_ ?_)
      | (with_reducible refine LeO.bind ?_ (fun _ => ?_))
      | exact ih0 _ _ _
      | exact block_Decode.mono _ _
      | exact LeO.none _
      | refine LeO.ite ?_ ?_
      | refine LeO.bind ?_ (fun _ => ?_)
theorem block_All.mono : ∀ a0 k, LeO (block_All.f k a0) (block_All.f (k + 1) a0) := by
  intro a0 k
  have ih0 := block_All.mono_l k
  unfold block_All.f
  repeat' first
      | (with_reducible exact ih0 _ _ _)
      | (with_reducible exact block_Decode.mono _ _)
      | (with_reducible exact LeO.refl _)
      | (with_reducible exact LeO.none _)
      | (with_reducible refine LeO.ite ?_ ?_)
      | (with_reducible refine LeO.bind ?_ (fun _ => ?_))
      | exact ih0 _ _ _
      | exact block_Decode.mono _ _
      | exact LeO.none _
      | refine LeO.ite ?_ ?_
      | refine LeO.bind ?_ (fun _ => ?_)
set_option maxHeartbeats 8000000 in
set_option maxRecDepth 100000 in
theorem block_All.calls (k : Nat) (A0 : Option Addr) (c0 : Nat) (l0 : List Int) (r1 : List (List Int)) (r2 : Int) (r3 : Int) (w : World) (hr0 : Kd.C (Kd.int .u8) w A0 l0.length l0) (hc0 : l0.length ≤ c0) (h : block_All.f k l0 = some (r1, r2, r3)) :
    Calls Try.prog 22 #[.slice A0 l0.length c0] w fun e w' => ∃ v0_ : Value, e = .returned (.tuple #[v0_, .int .i64 r2, .int .i64 r3]) ∧ Kd.S (Kd.slice 5 (Kd.int .u8)) 28 w' w.heap.size (fun _ => True) v0_ r1 ∧ Below w.heap.size w w' := by
  have HR0 := Aside0.mk hr0
  have HC0 := Aside0.mk hc0
  clear hr0 hc0
  have HB := Aside0.mk (Below.refl w.heap.size w)
  have H : (block_All.l0 k l0 ([] : List (List Int)) 0) = some (r1, r2, r3) := h
  clear h
  have H' := Aside0.mk H
  clear H
  go_enter Try.func22, Try.ntmps22
  go_wp2
  go_loopg [2, 3] k (fun kq v2 v3 w' => ∃ (x2_1 : List (List Int)) (x3_1 : Int), v3 = .int .i64 x3_1 ∧ Aside0 (block_All.l0 kq l0 x2_1 x3_1 = some (r1, r2, r3)) ∧ Aside0 (kq ≤ k) ∧ Aside0 (Kd.S (Kd.slice 5 (Kd.int .u8)) 28 w' w.heap.size (fun _ => True) v2 x2_1) ∧ Aside0 (Below w.heap.size w w'))
  case atStart => exact ⟨(([] : List (List Int))), (0), (by first | rfl | (simp; done) | (simp [*]; done)), H', ⟨Nat.le_refl _⟩, ⟨by first | exact Kd.S_nil _ _ _ _ _ | exact Kd.N_nil _ _ _ _ _ | exact Kd.V_nil _ _ _ _ _ | exact Kd.Q_nil _ _ _ _ _ | exact Kd.R_nil _ _ _ _ _⟩, ⟨by repeat (first | (with_reducible first | exact HB.out | apply below_alloc | apply pw_below_drewN | apply below_drew1) | exact HB.out)⟩⟩
  case round =>
    clear H'
    obtain ⟨x2_1, x3_1, rfl, HA, HK1, HO_2, HB⟩ := hrel
    cases gk with
    | zero => exact absurd HA.out (by simp [block_All.l0])
    | succ k1 =>
      have H := HA.out
      clear HA
      simp only [block_All.l0] at H
      by_cases c2 : x3_1 < (l0.length : Int)
      · rw [if_pos c2] at H
        have c2b0 : decide (x3_1 < (l0.length : Int)) = true := decide_eq_true c2
        clear c2
        by_cases c3 : 0 ≤ x3_1
        · rw [if_pos c3] at H
          have c3b0 := eq_true c3
          have c3b1 : decide (0 ≤ x3_1) = true := decide_eq_true c3
          clear c3
          by_cases c4 : x3_1 ≤ (l0.length : Int)
          · rw [if_pos c4] at H
            have c4b0 := eq_true c4
            have c4b1 : decide (x3_1 ≤ (l0.length : Int)) = true := decide_eq_true c4
            clear c4
            replace H := Option.bind_eq_some_iff.mp H
            obtain ⟨⟨t183, t184, t185⟩, A50, H⟩ := H
            replace H : (if t185 = 0 then (if x2_1.length < 5864062014805 then (block_All.l0 k1 l0 (x2_1 ++ [t183]) (wrap64 (x3_1 + t184))) else (none)) else (some (([] : List (List Int)), x3_1, t185))) = some (r1, r2, r3) := H
            have A5 := Aside0.mk A50
            clear A50
            by_cases c6 : t185 = 0
            · rw [if_pos c6] at H
              have c6b0 : (t185 == 0) = true := beq_iff_eq.mpr c6
              have c6b1 : (t185 != 0) = false := bne_eq_false_iff_eq.mpr c6
              clear c6
              by_cases c7 : x2_1.length < 5864062014805
              · rw [if_pos c7] at H
                have LMc7 := Aside0.mk c7
                clear c7
                obtain ⟨y188, hy188⟩ : ∃ y_ : List (List Int), y_ = (x2_1 ++ [t183]) := ⟨_, rfl⟩
                replace H : (block_All.l0 k1 l0 y188 (wrap64 (x3_1 + t184))) = some (r1, r2, r3) := by first | (rw [hy188]; with_reducible exact H) | (have H2_ := (Option.bind_some _ _).symm.trans H; rw [hy188]; with_reducible exact H2_) | (have H2_ := (Option.bind_some _ _).symm.trans H; with_reducible exact H2_) | with_reducible exact H | (rw [hy188]; exact H) | exact H
                have Ny188 := Aside0.mk hy188
                clear hy188
                have H' := Aside0.mk H
                clear H
                obtain ⟨i08, hi08, _, hsz8, _⟩ := info_parts info5
                obtain ⟨A8, hcut8, hA8, hC8⟩ := print_drop_of (P := Try.prog) (Value.int .u8) 0 28 5 .i64 Try.underlying28 hi08 hsz8 A0 c0 l0 x3_1 (of_decide_eq_true (by first | (with_reducible assumption) | assumption)) (of_decide_eq_true (by first | (with_reducible assumption) | assumption)) HC0.out
                have HR182 := Aside0.mk (Kd.C_of_reads (h1 := fun _ => rfl) (hA8 _ (Kd.reads_of_C HR0.out)))
                have HC182 := Aside0.mk hC8
                clear hA8 hC8 hi08 hsz8
                go_wp2_with (first | ((with_reducible refine gate_callee (f := 32) rfl ?_); refine goesL_ (some 16) rfl rfl Try.func32 (by kernel_rfl) rfl #[.slice A8 (l0.drop (x3_1 : Int).toNat).length (c0 - x3_1.toNat)] rfl (by (try simp only [List.map_toArray, List.map_cons, List.map_nil]); first | done | (rw [show (l0.drop (x3_1 : Int).toNat).length = (l0.length - x3_1.toNat) from List.length_drop] <;> rfl) | rfl | (simp only [List.length_drop, List.length_take]; rfl)) ?_; (with_reducible refine (block_Decode.calls k1 _ _ (l0.drop (x3_1 : Int).toNat) t183 t184 t185 _ ?side1 ?side2 A5.out).mono ?_); (case side1 => repeat (first | exact (Kd.C_below HR182.out HB.out) | (with_reducible refine Kd.C_alloc ?_ _) | (with_reducible refine Kd.C_drewN ?_ _) | (with_reducible refine Kd.C_drew ?_))); (case side2 => exact HC182.out); rintro e w9 ⟨v186, rfl, ho0, hb⟩; refine ⟨_, rfl, ?_⟩; have n0_ := Aside0.mk (Kd.S_elder' (by (with_reducible repeat (first | apply Kd.S_alloc | apply Kd.S_drewN | apply Kd.S_drew)); exact HO_2.out) (Kd.R_base ho0) hb); have n1_ := Aside0.mk (Kd.R_lower ho0 (below_size (by repeat (first | (with_reducible first | exact HB.out | apply below_alloc | apply pw_below_drewN | apply below_drew1) | exact HB.out)))); have n2_ := Aside0.mk (below_step (by repeat (first | (with_reducible first | exact HB.out | apply below_alloc | apply pw_below_drewN | apply below_drew1) | exact HB.out)) hb); clear HO_2; clear HB; have HO_2 := n0_; have HO187 := n1_; have HB := n2_; clear n0_ n1_ n2_; (try clear hb); (try clear hb2); (try clear hk); (try clear hi); (try clear ho0); obtain ⟨Ao11, co11, eo11⟩ := Kd.R_slice HO187.out; subst eo11) | ((with_reducible refine gate_builtin (b := .append) (xs := #[.tmp 24, .tmp 26]) rfl ?_); at_builtin; refine Kd.S_append (Kd.slice 5 (Kd.int .u8)) (w0 := w) w.heap.size rfl (.tmp 24) (.tmp 26) 42 28 (.slice none 0 0) 24 rfl Try.underlying42 info28 rfl (by decide) (by omega) u2 x2_1 t183 [.slice Ao11 t183.length co11] (fun _ => True) (fun k_ => some k_ = (.slice Ao11 t183.length co11 : Value).ownBlock) rfl rfl ?aP (fun k_ hk_ => ((Kd.R_mono (ok' := fun k_ => ((fun _ => True)) k_ ∧ some k_ ≠ (u2 : Value).ownBlock) (Kd.R_apart' (HO187.out) (Kd.S_typed HO_2.out) (by decide)) (fun k_ hk => ⟨trivial, hk.2⟩))).1 k_ hk_.symm) ?aF ?aO ?aB ?aS ?aL ?_; (case aP => exact Kd.M_row (Kd.R_mono (Kd.R_tight rfl (Kd.R_mono (ok' := fun k_ => ((fun _ => True)) k_ ∧ some k_ ≠ (u2 : Value).ownBlock) (Kd.R_apart' (HO187.out) (Kd.S_typed HO_2.out) (by decide)) (fun k_ hk => ⟨trivial, hk.2⟩))) (fun _ h_ => h_))); (case aB => exact (by repeat (first | (with_reducible first | exact HB.out | apply below_alloc | apply pw_below_drewN | apply below_drew1) | exact HB.out))); (case aF => exact (fun _ _ => trivial)); (case aO => exact (by (with_reducible repeat (first | apply Kd.S_alloc | apply Kd.S_drewN | apply Kd.S_drew)); exact Kd.S_mono HO_2.out (fun k_ hk => ⟨trivial, fun e_ => hk.2 e_⟩))); (case aS => exact (below_size (by repeat (first | (with_reducible first | exact HB.out | apply below_alloc | apply pw_below_drewN | apply below_drew1) | exact HB.out)))); (case aL => have := LMc7.out; omega); intro v189 w10 ho hb hg hat; rw [← Ny188.out] at ho; have n0_ := Aside0.mk (hb); have n1_ := Aside0.mk (ho); clear HB; clear HO_2; clear HO187; have HB := n0_; have HO190 := n1_; clear n0_ n1_; clear ho hb hg hat))
                go_roundg k1
                case measure => have := HK1.out; omega
                case rel => exact ⟨(y188), (wrap64 (x3_1 + t184)), (by first | rfl | (simp; done) | (simp [*]; done)), H', ⟨by have := HK1.out; omega⟩, ⟨by (with_reducible repeat (first | apply Kd.S_alloc | apply Kd.S_drewN | apply Kd.S_drew)); exact HO190.out⟩, ⟨by repeat (first | (with_reducible first | exact HB.out | apply below_alloc | apply pw_below_drewN | apply below_drew1) | exact HB.out)⟩⟩
              · rw [if_neg c7] at H
                exact absurd H (by simp)
            · rw [if_neg c6] at H
              have c6b0 : (t185 == 0) = false := beq_eq_false_iff_ne.mpr c6
              have c6b1 : (t185 != 0) = true := bne_iff_ne.mpr c6
              simp only [Option.some.injEq, Prod.mk.injEq] at H
              obtain ⟨rfl, rfl, rfl⟩ := H
              obtain ⟨i012, hi012, _, hsz12, _⟩ := info_parts info5
              obtain ⟨A12, hcut12, hA12, hC12⟩ := print_drop_of (P := Try.prog) (Value.int .u8) 0 28 5 .i64 Try.underlying28 hi012 hsz12 A0 c0 l0 x3_1 (of_decide_eq_true (by first | (with_reducible assumption) | assumption)) (of_decide_eq_true (by first | (with_reducible assumption) | assumption)) HC0.out
              have HR182 := Aside0.mk (Kd.C_of_reads (h1 := fun _ => rfl) (hA12 _ (Kd.reads_of_C HR0.out)))
              have HC182 := Aside0.mk hC12
              clear hA12 hC12 hi012 hsz12
              go_wp2_with (first | ((with_reducible refine gate_callee (f := 32) rfl ?_); refine goesL_ (some 16) rfl rfl Try.func32 (by kernel_rfl) rfl #[.slice A12 (l0.drop (x3_1 : Int).toNat).length (c0 - x3_1.toNat)] rfl (by (try simp only [List.map_toArray, List.map_cons, List.map_nil]); first | done | (rw [show (l0.drop (x3_1 : Int).toNat).length = (l0.length - x3_1.toNat) from List.length_drop] <;> rfl) | rfl | (simp only [List.length_drop, List.length_take]; rfl)) ?_; (with_reducible refine (block_Decode.calls k1 _ _ (l0.drop (x3_1 : Int).toNat) t183 t184 t185 _ ?side1 ?side2 A5.out).mono ?_); (case side1 => repeat (first | exact (Kd.C_below HR182.out HB.out) | (with_reducible refine Kd.C_alloc ?_ _) | (with_reducible refine Kd.C_drewN ?_ _) | (with_reducible refine Kd.C_drew ?_))); (case side2 => exact HC182.out); rintro e w13 ⟨v186, rfl, ho0, hb⟩; refine ⟨_, rfl, ?_⟩; have n0_ := Aside0.mk (Kd.S_elder' (by (with_reducible repeat (first | apply Kd.S_alloc | apply Kd.S_drewN | apply Kd.S_drew)); exact HO_2.out) (Kd.R_base ho0) hb); have n1_ := Aside0.mk (Kd.R_lower ho0 (below_size (by repeat (first | (with_reducible first | exact HB.out | apply below_alloc | apply pw_below_drewN | apply below_drew1) | exact HB.out)))); have n2_ := Aside0.mk (below_step (by repeat (first | (with_reducible first | exact HB.out | apply below_alloc | apply pw_below_drewN | apply below_drew1) | exact HB.out)) hb); clear HO_2; clear HB; have HO_2 := n0_; have HO187 := n1_; have HB := n2_; clear n0_ n1_ n2_; (try clear hb); (try clear hb2); (try clear hk); (try clear hi); (try clear ho0)))
              go_ret3
              exact ⟨_, by first | rfl | (simp [errW_none, errW_some] <;> rfl) | (simp [*, errW_none, errW_some] <;> rfl), by first | exact Kd.S_nil _ _ _ _ _ | exact Kd.N_nil _ _ _ _ _ | exact Kd.V_nil _ _ _ _ _ | exact Kd.Q_nil _ _ _ _ _ | exact Kd.R_nil _ _ _ _ _, by repeat (first | (with_reducible first | exact HB.out | apply below_alloc | apply pw_below_drewN | apply below_drew1) | exact HB.out)⟩
          · rw [if_neg c4] at H
            exact absurd H (by simp)
        · rw [if_neg c3] at H
          exact absurd H (by simp)
      · rw [if_neg c2] at H
        have c2b0 : decide (x3_1 < (l0.length : Int)) = false := decide_eq_false c2
        clear c2
        simp only [Option.some.injEq, Prod.mk.injEq] at H
        obtain ⟨rfl, rfl, rfl⟩ := H
        go_wp2
        go_ret3
        exact ⟨_, by first | rfl | (simp [errW_none, errW_some] <;> rfl) | (simp [*, errW_none, errW_some] <;> rfl), by (with_reducible repeat (first | apply Kd.S_alloc | apply Kd.S_drewN | apply Kd.S_drew)); exact HO_2.out, by repeat (first | (with_reducible first | exact HB.out | apply below_alloc | apply pw_below_drewN | apply below_drew1) | exact HB.out)⟩

-- NOT PRINTED: function 25 (slices_Chunk_byte_byte)

/-! ### bytes_Equal: function 26 -/
def bytes_Equal.f (l0 : List Int) (l1 : List Int) : Option (Bool) := some ((strOfNums l0).toList == (strOfNums l1).toList)
set_option maxHeartbeats 8000000 in
set_option maxRecDepth 100000 in
theorem bytes_Equal.calls (A0 : Option Addr) (c0 : Nat) (l0 : List Int) (A1 : Option Addr) (c1 : Nat) (l1 : List Int) (r : Bool) (w : World) (hr0 : Kd.C (Kd.int .u8) w A0 l0.length l0) (hc0 : l0.length ≤ c0) (hr1 : Kd.C (Kd.int .u8) w A1 l1.length l1) (hc1 : l1.length ≤ c1) (h : bytes_Equal.f l0 l1 = some r) :
    Calls Try.prog 26 #[.slice A0 l0.length c0, .slice A1 l1.length c1] w fun e w' => e = .returned (.bool r) ∧ Drawn0 w w' := by
  have HR0 := Aside0.mk hr0
  have HC0 := Aside0.mk hc0
  clear hr0 hc0
  have HR1 := Aside0.mk hr1
  have HC1 := Aside0.mk hc1
  clear hr1 hc1
  have H : (some ((strOfNums l0).toList == (strOfNums l1).toList)) = some r := h
  clear h
  obtain rfl := Option.some.inj H
  have hcv3 := Kd.C_string (P := Try.prog) (A := A0) (c := c0) Try.underlying28 Try.underlying5 Try.underlying9 HR0.out
  have hcv4 := Kd.C_string (P := Try.prog) (A := A1) (c := c1) Try.underlying28 Try.underlying5 Try.underlying9 HR1.out
  go_enter Try.func26, Try.ntmps26
  go_wp2
  go_ret
  exact ⟨by first | rfl | (simp; done) | (simp [*]; done), by repeat (first | exact Drawn0.refl _ | apply Drawn0.step)⟩

-- NOT PRINTED: function 15 (state_Decode)

-- NOT PRINTED: function 9 (cartagelaw15_shown)

end Go.Proofs.Ytaohmpblmlkioaa.PAll
