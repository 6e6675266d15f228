-- Laid by hp.py (wip/tools), a program of this work, over the kit's print; Lean checks it.
import Derived.Test.YtpnohgolpeocaaaPAllx0
namespace Go.Proofs.Ytpnohgolpeocaaa.PAll
open Go.RowKit Go.Proofs.YtpnohgolpeocaaaW.PrintWords Go.Proofs.YtpnohgolpeocaaaW.PrintLast Go.Proofs.YtpnohgolpeocaaaW.PrintMore
attribute [local go_sem] max2_int min2_int max_two min_two max_three min_three max_four min_four   -- for this text's walks alone
set_option linter.unusedVariables false
set_option linter.unusedSimpArgs false

/-! ### slices_Clone_byte_byte: function 23 -/
def slices_Clone_byte_byte.f (l0 : List Int) : Option (List Int) := if l0.length < 140737488355328 then some l0 else none

set_option maxHeartbeats 1000000 in
theorem slices_Clone_byte_byte.calls (A0 : Option Addr) (c0 : Nat) (l0 : List Int) (r : List Int) (w : World) (hr0 : Kd.C (Kd.int .u8) w A0 l0.length l0) (hc0 : l0.length ≤ c0) (h : slices_Clone_byte_byte.f l0 = some r) :
    Calls Try.prog 23 #[.slice A0 l0.length c0] w fun e w' => ∃ v0_ : Value, e = .returned (v0_) ∧ Kd.R (Kd.int .u8) 5 w' w.heap.size (fun _ => True) v0_ r ∧ Below w.heap.size w w' := by
  have HR0 := Aside0.mk hr0
  have HB := Aside0.mk (Below.refl w.heap.size w)
  clear hr0
  unfold slices_Clone_byte_byte.f at h
  by_cases hl : l0.length < 140737488355328
  · rw [if_pos hl] at h
    obtain rfl := Option.some.inj h
    clear h
    have hu22 := Try.underlying22
    have q22 : ∀ (w : World) (a : Option Addr) (n c : Nat), (binOp .eql 22 (.slice a n c) (.slice none 0 0)).run Try.prog w = .ok (.bool a.isNone) w := fun w a n c => Go.run_eql_slice_nil w _ _ a n c Try.underlying22
    cases A0 with
    | none =>
      have hz : l0 = [] := by
        cases l0 with
        | nil => rfl
        | cons x l => obtain ⟨_, e, _⟩ := HR0.out.2.2 (by simp); cases e
      subst hz
      clear hl
      go_enter Try.func23, Try.ntmps23
      go_wp2
      go_ret
      exact ⟨_, rfl, Kd.R_nil _ _ _ _ _, Below.refl _ _⟩
    | some a =>
      have LM := Aside0.mk hl
      clear hl hc0
      go_enter Try.func23, Try.ntmps23
      go_wp2_with (first | ((with_reducible refine gate_dst (N := 5) rfl ?_); refine Kd.R_lit (Kd.int .u8) _ 5 ?hg (N := 5) ?hd (xs := ([] : List Int)) (inner := []) (ok := fun _ => True) (okp := fun _ => True) ?hr ?hp (fun _ hk => hk) trivial (Below.refl _ _) (Nat.le_refl _) (by simp) ?_; (case hd => rfl); (case hg => rfl); (case hr => first | (go_simp; done) | (go_simp; rfl)); (case hp => exact (Reps.none _ _)); intro v109 w5 ho6 hb hg_ hnew_; clear hg_ hnew_; have HO := Aside0.mk ho6; have HB1 := Aside0.mk hb; clear hb ho6) | ((with_reducible refine gate_builtin (b := .append) (xs := #[.tmp 5, .tmp 6]) rfl ?_); at_builtin; refine Kd.R_append_rows (Kd.int .u8) (w0 := w) w.heap.size rfl (.tmp 5) (.tmp 6) 22 5 (.int .u8 0) 1 rfl Try.underlying22 info5 rfl (by decide) (by omega) v109 [] l0 _ _ _ (fun _ => True) (fun _ => False) rfl rfl HO.out (Kd.C_below HR0.out HB1.out) (fun _ _ h => h) (fun _ h => h.elim) (fun _ _ => trivial) HB1.out (below_size HB1.out) (by have := LM.out; simp; omega) ?_; intro v112 w7 ho hb hg hat; clear hg hat; have HP := Aside0.mk ho; have HB2 := Aside0.mk hb; clear ho hb))
      go_ret
      exact ⟨_, rfl, HP.out, HB2.out⟩
  · rw [if_neg hl] at h
    exact absurd h (by simp)

/-! ### octets_Put: function 13 -/
def octets_Put.l0 : Nat → Int → List Int → Int → Int → Option (List Int)
  | 0, _, _, _, _ => none
  | k + 1, x2, x7, x12, x13 => if x13 < x12 then (if x7.length < 140737488355328 then (octets_Put.l0 k (x2 / 256) (x7 ++ [(x2) % 256]) x12 (wrap64 (x13 + 1))) else (none)) else (some x7)
def octets_Put.f (k : Nat) (l0 : List Int) (a1 : Int) (a2 : Int) : Option (List Int) := (slices_Clone_byte_byte.f l0).bind fun t101 => (octets_Put.l0 k a2 t101 (mn (mx a1 0) 8) 0)
theorem octets_Put.mono_l : ∀ k, (∀ y0 y1 y2 y3, LeO (octets_Put.l0 k y0 y1 y2 y3) (octets_Put.l0 (k + 1) y0 y1 y2 y3))
  | 0 => fun _ _ _ _ r h => by simp [octets_Put.l0] at h
  | k + 1 => by
    have ih0 := octets_Put.mono_l k
    · intro y0 y1 y2 y3
      unfold octets_Put.l0
      repeat' first
      | (with_reducible exact ih0 _ _ _ _)
      | (with_reducible exact LeO.refl _)
      | (with_reducible exact LeO.none _)
      | (with_reducible refine LeO.ite ?_ ?_)
      | (with_reducible refine LeO.bind ?_ (fun _ => ?_))
      | exact ih0 _ _ _ _
      | exact LeO.none _
      | refine LeO.ite ?_ ?_
      | refine LeO.bind ?_ (fun _ => ?_)
theorem octets_Put.mono : ∀ a0 a1 a2 k, LeO (octets_Put.f k a0 a1 a2) (octets_Put.f (k + 1) a0 a1 a2) := by
  intro a0 a1 a2 k
  have ih0 := octets_Put.mono_l k
  unfold octets_Put.f
  repeat' first
      | (with_reducible exact ih0 _ _ _ _)
      | (with_reducible exact LeO.refl _)
      | (with_reducible exact LeO.none _)
      | (with_reducible refine LeO.ite ?_ ?_)
      | (with_reducible refine LeO.bind ?_ (fun _ => ?_))
      | exact ih0 _ _ _ _
      | exact LeO.none _
      | refine LeO.ite ?_ ?_
      | refine LeO.bind ?_ (fun _ => ?_)
set_option maxHeartbeats 8000000 in
set_option maxRecDepth 100000 in
theorem octets_Put.calls (k : Nat) (A0 : Option Addr) (c0 : Nat) (l0 : List Int) (a1 : Int) (a2 : Int) (r : List Int) (w : World) (hr0 : Kd.C (Kd.int .u8) w A0 l0.length l0) (hc0 : l0.length ≤ c0) (h : octets_Put.f k l0 a1 a2 = some r) :
    Calls Try.prog 13 #[.slice A0 l0.length c0, .int .i64 a1, .int .u64 a2] w fun e w' => ∃ v0_ : Value, e = .returned (v0_) ∧ Kd.R (Kd.int .u8) 5 w' w.heap.size (fun _ => True) v0_ r ∧ Below w.heap.size w w' := by
  have HR0 := Aside0.mk hr0
  have HC0 := Aside0.mk hc0
  clear hr0 hc0
  have HB := Aside0.mk (Below.refl w.heap.size w)
  have H : ((slices_Clone_byte_byte.f l0).bind fun t101 => (octets_Put.l0 k a2 t101 (mn (mx a1 0) 8) 0)) = some r := h
  clear h
  replace H := Option.bind_eq_some_iff.mp H
  obtain ⟨t101, A40, H⟩ := H
  replace H : (octets_Put.l0 k a2 t101 (mn (mx a1 0) 8) 0) = some r := H
  have A4 := Aside0.mk A40
  clear A40
  obtain ⟨ji5, hji5⟩ : ∃ j_ : Int, (mx a1 0) = j_ := ⟨_, rfl⟩
  replace H : (octets_Put.l0 k a2 t101 (mn (ji5) 8) 0) = some r := by first | (rw [hji5] at H; exact H) | (simp only [hji5] at H ⊢; exact H)
  (try rw [hji5] at A4)
  (try (have hji5l : 0 ≤ ji5 := by (rw [← hji5]; unfold mx; (repeat' split) <;> omega)))
  (try (have hji5m : 0 ≤ ji5 := by omega))
  have hji5_ : (if a1 < 0 then 0 else a1) = ji5 := hji5
  obtain ⟨ji6, hji6⟩ : ∃ j_ : Int, (mn (ji5) 8) = j_ := ⟨_, rfl⟩
  replace H : (octets_Put.l0 k a2 t101 ji6 0) = some r := by first | (rw [hji6] at H; exact H) | (simp only [hji6] at H ⊢; exact H)
  (try rw [hji6] at A4)
  have hji6_ : (if 8 < (ji5) then 8 else (ji5)) = ji6 := hji6
  have H' := Aside0.mk H
  clear H
  (try have hji5y : max ji5 0 = ji5 := Int.max_eq_left (by omega))
  (try have hji6y : max ji6 0 = ji6 := Int.max_eq_left (by omega))
  go_enter Try.func13, Try.ntmps13
  go_wp2_with (first | ((with_reducible refine gate_callee (f := 23) rfl ?_); refine goesL_ (some 9) rfl rfl Try.func23 (by kernel_rfl) rfl #[.slice A0 l0.length c0] rfl (by (try simp only [List.map_toArray, List.map_cons, List.map_nil]); first | done | rfl | (simp only [List.length_drop, List.length_take]; rfl)) ?_; (with_reducible refine (slices_Clone_byte_byte.calls _ _ l0 t101 _ ?side1 ?side2 A4.out).mono ?_); (case side1 => repeat (first | exact HR0.out | (with_reducible refine Kd.C_alloc ?_ _) | (with_reducible refine Kd.C_drewN ?_ _) | (with_reducible refine Kd.C_drew ?_))); (case side2 => exact HC0.out); rintro e w7 ⟨v102, rfl, ho0, hb⟩; refine ⟨_, rfl, ?_⟩; have n0_ := Aside0.mk (Kd.R_lower ho0 (below_size (by repeat (first | (with_reducible first | exact HB.out | apply below_alloc | apply pw_below_drewN | apply below_drew1) | exact HB.out)))); have n1_ := Aside0.mk (below_step (by repeat (first | (with_reducible first | exact HB.out | apply below_alloc | apply pw_below_drewN | apply below_drew1) | exact HB.out)) hb); clear HB; have HO103 := n0_; have HB := n1_; clear n0_ n1_; (try clear hb); (try clear hb2); (try clear hk); (try clear hi); (try clear ho0)))
  go_loopg [2, 7, 13] k (fun kq v2 v7 v13 w' => ∃ (x2_1 : Int) (x7_1 : List Int) (x13_1 : Int), v2 = .int .u64 x2_1 ∧ v13 = .int .i64 x13_1 ∧ Aside0 (octets_Put.l0 kq x2_1 x7_1 ji6 x13_1 = some r) ∧ Aside0 (kq ≤ k) ∧ Aside0 (Kd.R (Kd.int .u8) 5 w' w.heap.size (fun _ => True) v7 x7_1) ∧ Aside0 (Below w.heap.size w w'))
  case atStart => exact ⟨(a2), (t101), (0), (by first | rfl | (simp; done) | (simp [*]; done)), (by first | rfl | (simp; done) | (simp [*]; done)), H', ⟨Nat.le_refl _⟩, ⟨by (with_reducible repeat (first | apply Kd.R_alloc | apply Kd.R_drewN | apply Kd.R_drew)); exact HO103.out⟩, ⟨by repeat (first | (with_reducible first | exact HB.out | apply below_alloc | apply pw_below_drewN | apply below_drew1) | exact HB.out)⟩⟩
  case round =>
    clear H'
    try clear c1
    try clear c2
    try clear p2
    obtain ⟨x2_1, x7_1, x13_1, rfl, rfl, HA, HK1, HO_7, HB⟩ := hrel
    cases gk with
    | zero => exact absurd HA.out (by simp [octets_Put.l0])
    | succ k1 =>
      have H := HA.out
      clear HA
      simp only [octets_Put.l0] at H
      by_cases c8 : x13_1 < ji6
      · rw [if_pos c8] at H
        have c8b0 : decide (x13_1 < ji6) = true := decide_eq_true c8
        clear c8
        by_cases c9 : x7_1.length < 140737488355328
        · rw [if_pos c9] at H
          have LMc9 := Aside0.mk c9
          clear c9
          obtain ⟨y104, hy104⟩ : ∃ y_ : List Int, y_ = (x7_1 ++ [(x2_1) % 256]) := ⟨_, rfl⟩
          replace H : (octets_Put.l0 k1 (x2_1 / 256) y104 ji6 (wrap64 (x13_1 + 1))) = some r := by first | (rw [hy104]; with_reducible exact H) | (have H2_ := (Option.bind_some _ _).symm.trans H; rw [hy104]; with_reducible exact H2_) | (have H2_ := (Option.bind_some _ _).symm.trans H; with_reducible exact H2_) | with_reducible exact H | (rw [hy104]; exact H) | exact H
          have Ny104 := Aside0.mk hy104
          clear hy104
          have H' := Aside0.mk H
          clear H
          go_wp2_with (first | ((with_reducible refine gate_builtin (b := .append) (xs := #[.tmp 15, .tmp 18]) rfl ?_); at_builtin; refine Kd.R_append (Kd.int .u8) (w0 := w) w.heap.size rfl (.tmp 15) (.tmp 18) 22 5 (.int .u8 0) 1 rfl Try.underlying22 info5 rfl (by decide) (by omega) u7 x7_1 ((x2_1) % 256) [.int .u8 ((x2_1) % 256)] (fun _ => True) (fun _ => False) rfl rfl ?aP (fun _ hk => hk.elim) ?aF ?aO ?aB ?aS ?aL ?_; (case aP => exact rfl); (case aB => exact (by repeat (first | (with_reducible first | exact HB.out | apply below_alloc | apply pw_below_drewN | apply below_drew1) | exact HB.out))); (case aF => exact (fun _ _ => trivial)); (case aO => exact (by (with_reducible repeat (first | apply Kd.R_alloc | apply Kd.R_drewN | apply Kd.R_drew)); exact HO_7.out)); (case aS => exact (below_size (by repeat (first | (with_reducible first | exact HB.out | apply below_alloc | apply pw_below_drewN | apply below_drew1) | exact HB.out)))); (case aL => have := LMc9.out; omega); intro v105 w10 ho hb hg hat; rw [← Ny104.out] at ho; have n0_ := Aside0.mk (hb); have n1_ := Aside0.mk (ho); clear HB; clear HO_7; have HB := n0_; have HO106 := n1_; clear n0_ n1_; clear ho hb hg hat))
          go_roundg k1
          case measure => have := HK1.out; omega
          case rel => exact ⟨(x2_1 / 256), (y104), (wrap64 (x13_1 + 1)), (by first | rfl | (simp; done) | (simp [*]; done)), (by first | rfl | (simp; done) | (simp [*]; done)), H', ⟨by have := HK1.out; omega⟩, ⟨by (with_reducible repeat (first | apply Kd.R_alloc | apply Kd.R_drewN | apply Kd.R_drew)); exact HO106.out⟩, ⟨by repeat (first | (with_reducible first | exact HB.out | apply below_alloc | apply pw_below_drewN | apply below_drew1) | exact HB.out)⟩⟩
        · rw [if_neg c9] at H
          exact absurd H (by simp)
      · rw [if_neg c8] at H
        have c8b0 : decide (x13_1 < ji6) = false := decide_eq_false c8
        clear c8
        obtain rfl := Option.some.inj H
        go_wp2
        go_ret
        exact ⟨_, by first | rfl | (simp [errW_none, errW_some] <;> rfl) | (simp only [← hji5, ← hji6]; first | rfl | (simp [errW_none, errW_some] <;> rfl)) | (simp [*, errW_none, errW_some] <;> rfl), by (with_reducible repeat (first | apply Kd.R_alloc | apply Kd.R_drewN | apply Kd.R_drew)); exact HO_7.out, by repeat (first | (with_reducible first | exact HB.out | apply below_alloc | apply pw_below_drewN | apply below_drew1) | exact HB.out)⟩

-- NOT PRINTED: function 24 (slices_Backward_byte_byte)

/-! ### octets_Get: function 14 -/
/-- What has come when k rounds are over, from the last on. -/
def octets_Get.come (zs : List Int) (k : Nat) : List (Int × Int) := (List.range k).map fun (j : Nat) => ((zs.length : Int) - 1 - j, zs.getD (zs.length - 1 - j) 0)
theorem octets_Get.come_succ (zs : List Int) (k : Nat) : octets_Get.come zs (k + 1) = octets_Get.come zs k ++ [((zs.length : Int) - 1 - k, zs.getD (zs.length - 1 - k) 0)] := by simp [octets_Get.come, List.range_succ]
theorem octets_Get.come_length (zs : List Int) (k : Nat) : (octets_Get.come zs k).length = k := by simp [octets_Get.come]

/-- What a round must keep: what lay, and the iterator's own box. -/
def octets_Get.Kp (n₀ Bs : Nat) (A B : World) : Prop := Below n₀ A B ∧ ∀ v, A.cell? ⟨Bs, 0, none⟩ = some v → B.cell? ⟨Bs, 0, none⟩ = some v
theorem octets_Get.Kp_t {n₀ Bs : Nat} {A B C : World} (h : octets_Get.Kp n₀ Bs A B) (k : octets_Get.Kp n₀ Bs B C) : octets_Get.Kp n₀ Bs A C := ⟨h.1.trans k.1, fun v hv => k.2 v (h.2 v hv)⟩
theorem octets_Get.Kp_b {n₀ Bs : Nat} {w : World} (hn : n₀ ≤ w.heap.size) (W : World) (l : Nat) (o o' : Obj) (hl : w.heap.size ≤ l) (h : W.heap[l]? = some o) (hc : o.isCells = false) (hw : o.isWalk = false) : octets_Get.Kp n₀ Bs W (W.putObj l o') :=
  ⟨belowK_b hn W l o o' hl h hc hw, fun v hv => cell_kept hv (grownBy_putObj' W l o') (fun r e => by cases e; exact ⟨_, h, hc⟩)⟩

section
attribute [local go_sem] Oper.semAt_some

set_option maxRecDepth 100000 in
set_option maxHeartbeats 2000000 in
theorem octets_Get.back1 (F : Fence) (n : Nat) (h25 : F.fn 25) (hro : F.round = none) (hn : 1 ≤ n) (l Bs n₀ cap len : Nat) (ad : Addr) (zs : List Int) (hlen : zs.length = len) (hreach : len ≤ 140737488351232) (hb : ad.block < n₀) (J Jx : List (Int × Int) → World → Prop)
    (hY : ∀ pre x W, J pre W → pre.length < len → YieldAt F (n - 1) Try.prog l #[.int .i64 x.1, .int .u8 x.2] W fun e W' =>
      (e = .returned (.bool true) ∧ J (pre ++ [x]) W' ∧ octets_Get.Kp n₀ Bs W W') ∨ (e = .returned (.bool false) ∧ Jx (pre ++ [x]) W'))
    (W : World) (hBs : W.cell? ⟨Bs, 0, none⟩ = some (.slice (some ad) len cap)) (hc : ∀ j, j < len → W.cell? (ad.add j) = some (.int .u8 (zs.getD j 0))) (h0 : J [] W) :
    CallsIn F n Try.prog 25 #[.func (.yield l) #[] #[], .pointer (some ⟨Bs, 0, none⟩)] W fun e W' => (∃ v, e = .returned v) ∧
      ((∃ ys, ys = octets_Get.come zs len ∧ J ys W') ∨ (∃ pre, (∃ k, k ≤ len ∧ pre = octets_Get.come zs k) ∧ Jx pre W')) := by
  refine callsIn_of_wp Try.func25 rfl h25 ?_ hro
  simp only [Try.ntmps25, List.size_toArray, List.length_cons, List.length_nil, Nat.reduceAdd, Nat.reduceSub, Array.replicate_succ, Array.replicate_zero, List.push_toArray, List.append_toArray, List.nil_append, List.cons_append]
  have hw1 : IntKind.i64.wrap ((len : Int) - 1) = (len : Int) - 1 := IntWalk.i64_in _ (by omega)
  gi_wp2
  gi_loopw [3] (fun i wr => ∃ (k : Nat) (x : Int), k ≤ len ∧ Aside0 (x = (len : Int) - 1 - k) ∧ -1 ≤ x ∧ x < len ∧ i = .int .i64 x ∧ J (octets_Get.come zs k) wr ∧ Aside0 (octets_Get.Kp n₀ Bs W wr))
    (fun i _ => (intOf i + 1).toNat)
  case atStart => exact ⟨0, (len : Int) - 1, Nat.zero_le _, ⟨by simp⟩, by omega, by omega, by simp, by simpa [octets_Get.come] using h0, ⟨Below.refl _ _, fun _ h => h⟩⟩
  case round =>
    obtain ⟨k, x, hk, hx, hx0, hx1, rfl, hJs, hnx⟩ := hrel
    have hBx := hnx.out.2 _ hBs
    have HJ := Aside0.mk hJs
    clear hJs
    by_cases hlt : 0 ≤ x
    · obtain ⟨v, hv⟩ : ∃ v, v = zs.getD (len - 1 - k) 0 := ⟨_, rfl⟩
      obtain ⟨fn, tmps, assign, body, hy, hR⟩ := hY _ (x, v) wr HJ.out (by rw [octets_Get.come_length]; have := hx.out; omega)
      dsimp only at hy
      have hcx : wr.cell? (ad.add x.toNat) = some (.int .u8 v) := by
        rw [hv, show x.toNat = len - 1 - k by have := hx.out; omega]
        exact (hnx.out.1.cell (p := ad.add (len - 1 - k)) (by rw [add_block]; exact hb)).trans (hc _ (by have := hx.out; omega))
      have HV := Aside0.mk hv
      clear hv hc
      have hw2 : IntKind.i64.wrap (x - 1) = x - 1 := IntWalk.i64_in _ (by omega)
      have hl2 : x.toNat < len := by omega
      gi_wp2
      refine hR.mono ?_
      rintro e W3 (⟨rfl, hJ3, hk3⟩ | ⟨rfl, hJx3⟩)
      · have hBy := hk3.2 _ hBx
        have HK3 := Aside0.mk hk3
        clear hk3
        gi_wp2
        go_roundw
        case rel => exact ⟨k + 1, x - 1, by have := hx.out; omega, ⟨by have := hx.out; omega⟩, by omega, by omega, rfl, by
          rw [octets_Get.come_succ, hlen, ← hx.out, ← HV.out]; exact hJ3, ⟨octets_Get.Kp_t hnx.out HK3.out⟩⟩
        case measure => simp [intOf]; omega
      · gi_wp2
        refine bodyPost_ret (results_none rfl _ _ _) rfl ?_
        exact ⟨⟨_, rfl⟩, .inr ⟨_, ⟨k + 1, by have := hx.out; omega, by rw [octets_Get.come_succ, hlen, ← hx.out, ← HV.out]⟩, hJx3⟩⟩
    · obtain rfl : k = len := by have := hx.out; omega
      gi_wp2
      go_end0
      exact ⟨⟨_, rfl⟩, .inl HJ.out⟩

set_option maxRecDepth 100000 in
set_option maxHeartbeats 1000000 in
/-- .. of no bytes: no round. -/
theorem octets_Get.back0 (F : Fence) (n : Nat) (h25 : F.fn 25) (hro : F.round = none) (l Bs c : Nat) (A : Option Addr) (J : List (Int × Int) → World → Prop) (W : World) (hBs : W.cell? ⟨Bs, 0, none⟩ = some (.slice A 0 c)) (h0 : J [] W) :
    CallsIn F n Try.prog 25 #[.func (.yield l) #[] #[], .pointer (some ⟨Bs, 0, none⟩)] W fun e W' => (∃ v, e = .returned v) ∧ J [] W' := by
  refine callsIn_of_wp Try.func25 rfl h25 ?_ hro
  simp only [Try.ntmps25, List.size_toArray, List.length_cons, List.length_nil, Nat.reduceAdd, Nat.reduceSub, Array.replicate_succ, Array.replicate_zero, List.push_toArray, List.append_toArray, List.nil_append, List.cons_append]
  gi_wp2
  gi_loopw [3] (fun i wr => i = .int .i64 (-1) ∧ J [] wr) (fun _ _ => 0)
  case atStart => exact ⟨by simp, h0⟩
  case round =>
    obtain ⟨rfl, hJs⟩ := hrel
    gi_wp2
    go_end0
    exact ⟨⟨_, rfl⟩, hJs⟩

set_option maxHeartbeats 1000000 in
theorem octets_Get.back (F : Fence) (n : Nat) (h24 : F.fn 24) (hro : F.round = none) (a : Option Addr) (len cap : Nat) (w : World) :
    CallsIn F n Try.prog 24 #[.slice a len cap] w fun e w' => e = .returned (.func (.func 25) #[] #[.pointer (some ⟨w.heap.size, 0, none⟩)]) ∧ w' = w.alloc (.cells #[.slice a len cap] 22) := by
  refine callsIn_of_wp Try.func24 rfl h24 ?_ hro
  simp only [Try.ntmps24, List.size_toArray, List.length_cons, List.length_nil, Nat.reduceAdd, Nat.reduceSub, Array.replicate_succ, Array.replicate_zero, List.push_toArray, List.append_toArray, List.nil_append, List.cons_append]
  gi_wp2
  go_ret
  exact ⟨rfl, rfl⟩

theorem octets_Get.stops (F : Fence) (n : Nat) (h25 : F.fn 25) (hro : F.round = none) (hn : 1 ≤ n) (Bs n₀ cap : Nat) (A : Option Addr) (zs : List Int) (w : World) (hBs : Bs < w.heap.size) (hn₀ : n₀ ≤ w.heap.size) (hreach : zs.length ≤ 140737488351232)
    (hc : w.cell? ⟨Bs, 0, none⟩ = some (.slice A zs.length cap)) (hcs : ∀ W, Below n₀ w W → Kd.C (Kd.int .u8) W A zs.length zs) (hlt : ∀ ad, A = some ad → ad.block < n₀) :
    SeqStopsK F n Try.prog 25 #[.pointer (some ⟨Bs, 0, none⟩)] (fun x : Int × Int => #[Value.int .i64 x.1, Value.int .u8 x.2]) (octets_Get.Kp n₀ Bs) (fun ys => ys = octets_Get.come zs zs.length)
      (fun pre => ∃ k, k ≤ zs.length ∧ pre = octets_Get.come zs k) zs.length w := fun l J Jx W hW _ _ hY h0 => by
  have hc' := (hW.cell (p := ⟨Bs, 0, none⟩) hBs).trans hc
  by_cases hz : 0 < zs.length
  · have hC := hcs W (hW.mono hn₀)
    obtain ⟨ad, rfl, hcell⟩ := hC.2.2 hz
    refine octets_Get.back1 F n h25 hro hn l Bs n₀ cap zs.length ad zs rfl hreach (hlt ad rfl) J Jx hY W hc' (fun j hj => ?_) h0
    obtain ⟨c, hl, hk, hcc⟩ := hcell j _ (List.getElem?_eq_getElem hj)
    have hk' : c = [.int .u8 zs[j]] := hk
    have := hcc 0 (.int .u8 zs[j]) (by rw [hk']; rfl)
    rw [List.getD_eq_getElem?_getD, List.getElem?_eq_getElem hj]
    simpa [Kd.int, Kd.scalar] using this
  · have hz0 : zs = [] := List.eq_nil_of_length_eq_zero (by omega)
    subst hz0
    exact (octets_Get.back0 F n h25 hro l Bs cap A J W hc' h0).mono fun e W' ⟨he, hj⟩ => ⟨he, .inl ⟨_, rfl, by simpa [octets_Get.come] using hj⟩⟩

/-- One byte more, ahead of those behind it. -/
def octets_Get.step (n c : Int) : Int := Go.bits .or .u64 (IntKind.u64.wrap (n * 256)) (IntKind.u64.wrap c)
/-- The number of bytes, the lowest first. -/
def octets_Get.num (l : List Int) : Int := l.reverse.foldl octets_Get.step 0
def octets_Get.f (l0 : List Int) (a1 a2 : Int) : Option (Int × Bool) :=
  if a2 < 1 ∨ 8 < a2 ∨ a1 < 0 ∨ (l0.length : Int) - a2 < a1 then some (0, false) else some (octets_Get.num ((l0.take (a1 + a2).toNat).drop a1.toNat), true)
def octets_Get.sofar (pre : List (Int × Int)) : Int := pre.foldl (fun n x => octets_Get.step n x.2) 0
theorem octets_Get.sofar_snoc (pre : List (Int × Int)) (x : Int × Int) : octets_Get.sofar (pre ++ [x]) = octets_Get.step (octets_Get.sofar pre) x.2 := by simp [octets_Get.sofar]
theorem octets_Get.sofar_come (zs : List Int) : octets_Get.sofar (octets_Get.come zs zs.length) = octets_Get.num zs := by
  have e : zs.reverse = (octets_Get.come zs zs.length).map Prod.snd := by
    apply List.ext_getElem
    · simp [octets_Get.come]
    · intro i h1 h2
      have hi : i < zs.length := by simpa using h1
      simp only [octets_Get.come, List.getElem_reverse, List.map_map, List.getElem_map, List.getElem_range, Function.comp_apply]
      rw [List.getD_eq_getElem?_getD, List.getElem?_eq_getElem (by omega)]
      rfl
  unfold octets_Get.num octets_Get.sofar
  rw [e, List.foldl_map]

set_option maxRecDepth 100000 in
set_option maxHeartbeats 2000000 in
theorem octets_Get.ok (A0 : Option Addr) (c0 : Nat) (l0 : List Int) (a1 a2 : Int) (w : World) (hr0 : Kd.C (Kd.int .u8) w A0 l0.length l0) (hc0 : l0.length ≤ c0) (h1 : 1 ≤ a2) (h2 : a2 ≤ 8) (h3 : 0 ≤ a1) (h4 : a1 + a2 ≤ l0.length) :
    Calls Try.prog 14 #[.slice A0 l0.length c0, .int .i64 a1, .int .i64 a2] w fun e w' => e = .returned (.tuple #[.int .u64 (octets_Get.num ((l0.take (a1 + a2).toNat).drop a1.toNat)), .bool true]) ∧ Below w.heap.size w w' := by
  have hb0 := hr0.2.1
  obtain ⟨i0, hi0, _, hsz0, _⟩ := info_parts info5
  obtain ⟨A', hcut, hA, hC⟩ := print_mid_of (P := Try.prog) (Value.int .u8) 0 22 5 .i64 .i64 Try.underlying22 hi0 hsz0 A0 c0 l0 a1 (a1 + a2) h3 (by omega) h4 hc0
  have hR : Kd.C (Kd.int .u8) w A' ((l0.take (a1 + a2).toNat).drop a1.toNat).length ((l0.take (a1 + a2).toNat).drop a1.toNat) := Kd.C_of_reads (h1 := fun _ => rfl) (hA w (Kd.reads_of_C hr0))
  have hl : ((l0.take (a1 + a2).toNat).drop a1.toNat).length = a2.toNat := by rw [List.length_drop, List.length_take]; omega
  generalize (l0.take (a1 + a2).toNat).drop a1.toNat = zs at hcut hR hl ⊢
  have hlt : ∀ ad, A' = some ad → ad.block < w.heap.size := by
    intro ad e
    obtain ⟨ad', e', hcc⟩ := hR.2.2 (by omega)
    obtain rfl : ad = ad' := by rw [e] at e'; exact Option.some.inj e'
    obtain ⟨c, hcl, hk, hcell⟩ := hcc 0 _ (List.getElem?_eq_getElem (by omega))
    have hk' : c = [.int .u8 zs[0]] := hk
    have := World.block_lt_of_cell? w _ (hcell 0 (.int .u8 zs[0]) (by rw [hk']; rfl))
    rwa [add_block] at this
  clear hA hr0 hi0 hsz0 hC
  have HR := Aside0.mk hR
  have HL := Aside0.mk hl
  have HLT := Aside0.mk hlt
  clear hR hl hlt
  have hw1 : IntKind.i64.wrap (a1 + a2) = a1 + a2 := IntWalk.i64_in _ (by omega)
  have hw2 : IntKind.i64.wrap ((l0.length : Int) - a2) = (l0.length : Int) - a2 := IntWalk.i64_in _ (by omega)
  have d1 : decide (a2 < 1) = false := by simp; omega
  have d2 : decide (8 < a2) = false := by simp; omega
  have d3 : decide (a1 < 0) = false := by simp; omega
  have d4 : decide ((l0.length : Int) - a2 < a1) = false := by simp; omega
  refine (callsIn_wide (n := 6)).1 ?_
  refine callsIn_of_wp_marks Try.func14 rfl trivial ?_ rfl
  simp only [Try.ntmps14, List.size_toArray, List.length_cons, List.length_nil, Nat.reduceAdd, Nat.reduceSub, Array.replicate_succ, Array.replicate_zero, List.push_toArray, List.append_toArray, List.nil_append, List.cons_append]
  gi_wp2_with (refine ⟨trivial, ?_⟩; gi_at_call 24; refine (octets_Get.back Fence.wide _ trivial rfl _ _ _ _).mono ?_; rintro e w' ⟨rfl, rfl⟩)
  have bS := Boxed.new w 23 (.int .u64 0)
  have bN := Boxed.new (w.alloc (.cells #[.int .u64 0] 23)) 22 (.slice A' zs.length (c0 - a1.toNat))
  rw [World.size_alloc] at bN
  have hB0 : Below w.heap.size w ((w.alloc (.cells #[.int .u64 0] 23)).alloc (.cells #[.slice A' zs.length (c0 - a1.toNat)] 22)) := ((Below.refl _ w).alloc (Nat.le_refl _) _).alloc (by simp) _
  refine wpIn_rangeFunc_ownG (F := Fence.wide) rfl (by decide) (gf := 25) (lb := #[.pointer (some ⟨w.heap.size + 1, 0, none⟩)]) rfl trivial (enters_of Try.func25 (by kernel_rfl) rfl)
    (octets_Get.stops Fence.wide (6 - 1) trivial rfl (by decide) (w.heap.size + 1) w.heap.size (c0 - a1.toNat) A' zs _ (by simp) (by simp; omega) (by have := HL.out; omega) bN.cell (fun W hW => Kd.C_below HR.out (hB0.trans hW)) HLT.out) octets_Get.Kp_t (octets_Get.Kp_b (by simp; omega)) (Below.refl _ _) (fun _ => rfl)
    (fun pre W => (W.cell? ⟨w.heap.size, 0, none⟩ = some (.int .u64 (octets_Get.sofar pre)) ∧ W.frozen? ⟨w.heap.size, 0, none⟩ = false) ∧ Below w.heap.size w W)
    (fun _ _ _ => False)
    (OwnFrom.and (Own.from (fun s A B row hs hg hr => ⟨cell_kept hs.1 hg hr, (frozen_kept hs.1 hg hr).trans hs.2⟩) _) (ownFrom_below (Nat.le_refl _) (by simp; omega)))
    (fun _ _ _ _ _ hs _ _ => hs)
    ⟨⟨(bS.alloc _).cell, (bS.alloc _).frozen⟩, hB0⟩
    (fun x => { tmps := #[Value.slice A0 l0.length c0, Value.int IntKind.i64 a1, Value.int IntKind.i64 a2, undef, undef, undef,
                Value.int IntKind.u64 0, Value.bool false, Value.pointer (some { block := w.heap.size, off := 0 }),
                undef, .int .u8 x.2, Value.int IntKind.i64 a2, Value.bool false, Value.bool false, Value.int IntKind.i64 a2,
                Value.bool false, Value.bool false, Value.bool false, Value.int IntKind.i64 a1, Value.bool false,
                Value.bool false, Value.bool false, Value.int IntKind.i64 a1, Value.slice A0 l0.length c0,
                Value.int IntKind.i64 l0.length, Value.int IntKind.i64 a2, Value.int IntKind.i64 ((l0.length : Int) - a2),
                Value.bool false, Value.bool false, Value.slice A0 l0.length c0, Value.int IntKind.i64 a1,
                Value.int IntKind.i64 a1, Value.int IntKind.i64 a2, Value.int IntKind.i64 (a1 + a2),
                Value.slice A' zs.length (c0 - a1.toNat), .func (.func 25) #[] #[.pointer (some ⟨w.heap.size + 1, 0, none⟩)], .int .i64 x.1, .int .u8 x.2, undef, undef, undef, undef, undef, undef], defers := [] }) ?assign ?body ?done ?stop
  case assign =>
    intro l x W K hK
    gi_wp2
    exact hK
  case body =>
    rintro l pre x W ⟨⟨hc, hf⟩, hB⟩ _
    gi_wp2
    exact ⟨(KeepsOthers.setCell _ _ _).from _, ⟨(Below.refl w.heap.size W).setCell (p := ⟨w.heap.size, 0, none⟩) (Nat.le_refl _) _, fun v hv => by
      rw [← hv]; exact World.cell?_of_block (Below.heap_setCell W ⟨w.heap.size, 0, none⟩ _ (w.heap.size + 1) (by simp))⟩,
      ⟨by rw [octets_Get.sofar_snoc]; exact World.cell?_setCell_same' _ _ _ (by rw [hc]; rfl), by rw [World.frozen?_setCell]; exact hf⟩, hB.setCell (p := ⟨w.heap.size, 0, none⟩) (Nat.le_refl _) _⟩
  case done =>
    rintro D ys W hD rfl ⟨⟨hc, _⟩, hB⟩ hK
    gi_wp2
    refine ⟨by simp, .inl ⟨_, _, rfl, run_takeDeferred hK, ?_⟩⟩
    refine ⟨_, results_tmp2 rfl _ _ _, ?_, hB.trans (belowK_b (w := w) (Nat.le_refl _) W D _ _ (by simp at hD; omega) hK rfl rfl)⟩
    rw [octets_Get.sofar_come]; rfl
  case stop =>
    rintro D c pre W _ _ h _
    exact h.elim
end

set_option maxHeartbeats 1000000 in
theorem octets_Get.calls (A0 : Option Addr) (c0 : Nat) (l0 : List Int) (a1 : Int) (a2 : Int) (r1 : Int) (r2 : Bool) (w : World) (hr0 : Kd.C (Kd.int .u8) w A0 l0.length l0) (hc0 : l0.length ≤ c0) (h : octets_Get.f l0 a1 a2 = some (r1, r2)) :
    Calls Try.prog 14 #[.slice A0 l0.length c0, .int .i64 a1, .int .i64 a2] w fun e w' => e = .returned (.tuple #[.int .u64 r1, .bool r2]) ∧ Below w.heap.size w w' := by
  unfold octets_Get.f at h
  have hb0 := hr0.2.1
  by_cases g1 : a2 < 1
  · rw [if_pos (by omega)] at h
    simp only [Option.some.injEq, Prod.mk.injEq] at h
    obtain ⟨rfl, rfl⟩ := h
    clear hr0
    go_enter Try.func14, Try.ntmps14
    go_wp2
    go_ret2
    exact ⟨rfl, Below.refl _ _⟩
  by_cases g2 : 8 < a2
  · rw [if_pos (by omega)] at h
    simp only [Option.some.injEq, Prod.mk.injEq] at h
    obtain ⟨rfl, rfl⟩ := h
    clear hr0
    go_enter Try.func14, Try.ntmps14
    go_wp2
    go_ret2
    exact ⟨rfl, Below.refl _ _⟩
  by_cases g3 : a1 < 0
  · rw [if_pos (by omega)] at h
    simp only [Option.some.injEq, Prod.mk.injEq] at h
    obtain ⟨rfl, rfl⟩ := h
    clear hr0
    go_enter Try.func14, Try.ntmps14
    go_wp2
    go_ret2
    exact ⟨rfl, Below.refl _ _⟩
  have hw2 : IntKind.i64.wrap ((l0.length : Int) - a2) = (l0.length : Int) - a2 := IntWalk.i64_in _ (by omega)
  by_cases g4 : (l0.length : Int) - a2 < a1
  · rw [if_pos (by omega)] at h
    simp only [Option.some.injEq, Prod.mk.injEq] at h
    obtain ⟨rfl, rfl⟩ := h
    clear hr0
    have d4 : decide ((l0.length : Int) - a2 < a1) = true := decide_eq_true g4
    go_enter Try.func14, Try.ntmps14
    go_wp2
    go_ret2
    exact ⟨rfl, Below.refl _ _⟩
  · rw [if_neg (by omega)] at h
    simp only [Option.some.injEq, Prod.mk.injEq] at h
    obtain ⟨rfl, rfl⟩ := h
    exact octets_Get.ok A0 c0 l0 a1 a2 w hr0 hc0 (by omega) (by omega) (by omega) (by omega)

/-! ### octets_GetVar: function 17 -/
def octets_GetVar.l0 : Nat → Int → List Int → Int → Int → Option (Int × Int × Bool)
  | 0, _, _, _, _ => none
  | k + 1, x5, x12, x13, x14 => if x14 < x13 then (if 0 ≤ x14 then (if x14 < (x12.length : Int) then (if 0 ≤ (wrap64 (7 * x14)) then (if (rd x12 x14) ≥ 128 then (octets_GetVar.l0 k (Go.bits .or .u64 x5 (shl .u64 (IntKind.u64.wrap (Go.bits .andNot .u8 (rd x12 x14) 128)) (wrap64 (7 * x14)))) x12 x13 (wrap64 (x14 + 1))) else (if (rd x12 x14) = 0 then (if x14 > 0 then (some (0, 0, false)) else (if x14 = 9 then (if (rd x12 x14) > 1 then (some (0, 0, false)) else (some (Go.bits .or .u64 x5 (shl .u64 (IntKind.u64.wrap (Go.bits .andNot .u8 (rd x12 x14) 128)) (wrap64 (7 * x14))), wrap64 (x14 + 1), true))) else (some (Go.bits .or .u64 x5 (shl .u64 (IntKind.u64.wrap (Go.bits .andNot .u8 (rd x12 x14) 128)) (wrap64 (7 * x14))), wrap64 (x14 + 1), true)))) else (if x14 = 9 then (if (rd x12 x14) > 1 then (some (0, 0, false)) else (some (Go.bits .or .u64 x5 (shl .u64 (IntKind.u64.wrap (Go.bits .andNot .u8 (rd x12 x14) 128)) (wrap64 (7 * x14))), wrap64 (x14 + 1), true))) else (some (Go.bits .or .u64 x5 (shl .u64 (IntKind.u64.wrap (Go.bits .andNot .u8 (rd x12 x14) 128)) (wrap64 (7 * x14))), wrap64 (x14 + 1), true))))) else (none)) else (none)) else (none)) else (some (0, 0, false))
def octets_GetVar.f (k : Nat) (l0 : List Int) : Option (Int × Int × Bool) := if 0 ≤ (mn (l0.length : Int) 10) then (if (mn (l0.length : Int) 10) ≤ (l0.length : Int) then (octets_GetVar.l0 k 0 (l0.take ((mn (l0.length : Int) 10) : Int).toNat) ((l0.take ((mn (l0.length : Int) 10) : Int).toNat).length : Int) 0) else (none)) else (none)
theorem octets_GetVar.mono_l : ∀ k, (∀ y0 y1 y2 y3, LeO (octets_GetVar.l0 k y0 y1 y2 y3) (octets_GetVar.l0 (k + 1) y0 y1 y2 y3))
  | 0 => fun _ _ _ _ r h => by simp [octets_GetVar.l0] at h
  | k + 1 => by
    have ih0 := octets_GetVar.mono_l k
    · intro y0 y1 y2 y3
      unfold octets_GetVar.l0
      repeat' first
      | (with_reducible exact ih0 _ _ _ _)
      | (with_reducible exact LeO.refl _)
      | (with_reducible exact LeO.none _)
      | (with_reducible refine LeO.ite ?_ ?_)
      | (with_reducible refine LeO.bind ?_ (fun _ => ?_))
      | exact ih0 _ _ _ _
      | exact LeO.none _
      | refine LeO.ite ?_ ?_
      | refine LeO.bind ?_ (fun _ => ?_)
theorem octets_GetVar.mono : ∀ a0 k, LeO (octets_GetVar.f k a0) (octets_GetVar.f (k + 1) a0) := by
  intro a0 k
  have ih0 := octets_GetVar.mono_l k
  unfold octets_GetVar.f
  repeat' first
      | (with_reducible exact ih0 _ _ _ _)
      | (with_reducible exact LeO.refl _)
      | (with_reducible exact LeO.none _)
      | (with_reducible refine LeO.ite ?_ ?_)
      | (with_reducible refine LeO.bind ?_ (fun _ => ?_))
      | exact ih0 _ _ _ _
      | exact LeO.none _
      | refine LeO.ite ?_ ?_
      | refine LeO.bind ?_ (fun _ => ?_)
set_option maxHeartbeats 8000000 in
set_option maxRecDepth 100000 in
theorem octets_GetVar.calls (k : Nat) (A0 : Option Addr) (c0 : Nat) (l0 : List Int) (r1 : Int) (r2 : Int) (r3 : Bool) (w : World) (hr0 : Kd.C (Kd.int .u8) w A0 l0.length l0) (hc0 : l0.length ≤ c0) (h : octets_GetVar.f k l0 = some (r1, r2, r3)) :
    Calls Try.prog 17 #[.slice A0 l0.length c0] w fun e w' => e = .returned (.tuple #[.int .u64 r1, .int .i64 r2, .bool r3]) ∧ Below w.heap.size w w' := by
  have HR0 := Aside0.mk hr0
  have HC0 := Aside0.mk hc0
  clear hr0 hc0
  have HB := Aside0.mk (Below.refl w.heap.size w)
  have H : (if 0 ≤ (mn (l0.length : Int) 10) then (if (mn (l0.length : Int) 10) ≤ (l0.length : Int) then (octets_GetVar.l0 k 0 (l0.take ((mn (l0.length : Int) 10) : Int).toNat) ((l0.take ((mn (l0.length : Int) 10) : Int).toNat).length : Int) 0) else (none)) else (none)) = some (r1, r2, r3) := h
  clear h
  obtain ⟨ji2, hji2⟩ : ∃ j_ : Int, (mn (l0.length : Int) 10) = j_ := ⟨_, rfl⟩
  replace H : (if 0 ≤ (ji2) then (if (ji2) ≤ (l0.length : Int) then (octets_GetVar.l0 k 0 (l0.take ((ji2) : Int).toNat) ((l0.take ((ji2) : Int).toNat).length : Int) 0) else (none)) else (none)) = some (r1, r2, r3) := by first | (rw [hji2] at H; exact H) | (simp only [hji2] at H ⊢; exact H)
  (try (have hji2h : ji2 ≤ 10 := by (rw [← hji2]; unfold mn; (repeat' split) <;> omega)))
  (try (have hji2g : ji2 ≤ 64 := by omega))
  (try (have hji2l : 0 ≤ ji2 := by (rw [← hji2]; unfold mn; (repeat' split) <;> omega)))
  (try (have hji2m : 0 ≤ ji2 := by omega))
  have hji2_ : (if 10 < (l0.length : Int) then 10 else (l0.length : Int)) = ji2 := hji2
  by_cases c3 : 0 ≤ (ji2)
  · rw [if_pos c3] at H
    have c3b0 := eq_true c3
    have c3b1 : decide (0 ≤ (ji2)) = true := decide_eq_true c3
    clear c3
    by_cases c4 : (ji2) ≤ (l0.length : Int)
    · rw [if_pos c4] at H
      have c4b0 := eq_true c4
      have c4b1 : decide ((ji2) ≤ (l0.length : Int)) = true := decide_eq_true c4
      clear c4
      have H' := Aside0.mk H
      clear H
      obtain ⟨i05, hi05, _, hsz5, _⟩ := info_parts info5
      obtain ⟨hcut5, hA5, hC5⟩ := print_take_of (P := Try.prog) (Value.int .u8) 0 22 5 .i64 Try.underlying22 hi05 hsz5 A0 c0 l0 (ji2) (of_decide_eq_true (by first | (with_reducible assumption) | assumption)) (of_decide_eq_true (by first | (with_reducible assumption) | assumption)) HC0.out
      (try have HLK5 := Aside0.mk (show (List.take (((ji2)) : Int).toNat (l0)).length = (((ji2)) : Int).toNat from by (rw [List.length_take]; exact Nat.min_eq_left (by have z_ : ((ji2) : Int) ≤ ((l0).length : Int) := of_decide_eq_true (by first | (with_reducible assumption) | assumption); omega))))
      have HR107 := Aside0.mk (Kd.C_of_reads (h1 := fun _ => rfl) (hA5 _ (Kd.reads_of_C HR0.out)))
      have HC107 := Aside0.mk hC5
      clear hA5 hC5 hi05 hsz5
      (try have hji2y : max ji2 0 = ji2 := Int.max_eq_left (by omega))
      go_enter Try.func17, Try.ntmps17
      go_wp2
      go_loopg [5, 14] k (fun kq v5 v14 w' => ∃ (x5_1 : Int) (x14_1 : Int), v5 = .int .u64 x5_1 ∧ v14 = .int .i64 x14_1 ∧ Aside0 (octets_GetVar.l0 kq x5_1 (l0.take ((ji2) : Int).toNat) ((l0.take ((ji2) : Int).toNat).length : Int) x14_1 = some (r1, r2, r3)) ∧ Aside0 (kq ≤ k) ∧ Aside0 (Below w.heap.size w w'))
      case atStart => exact ⟨(0), (0), (by first | rfl | (simp; done) | (simp [*]; done)), (by first | rfl | (simp; done) | (simp [*]; done)), H', ⟨Nat.le_refl _⟩, ⟨by repeat (first | (with_reducible first | exact HB.out | apply below_alloc | apply pw_below_drewN | apply below_drew1) | exact HB.out)⟩⟩
      case round =>
        clear H'
        try clear c1
        try clear p2
        try clear c3
        try clear c3b0
        try clear c3b1
        try clear c4
        try clear c4b0
        try clear c4b1
        obtain ⟨x5_1, x14_1, rfl, rfl, HA, HK1, HB⟩ := hrel
        cases gk with
        | zero => exact absurd HA.out (by simp [octets_GetVar.l0])
        | succ k1 =>
          have H := HA.out
          clear HA
          simp only [octets_GetVar.l0] at H
          by_cases c6 : x14_1 < ((l0.take ((ji2) : Int).toNat).length : Int)
          · rw [if_pos c6] at H
            have c6b0 : decide (x14_1 < ((l0.take ((ji2) : Int).toNat).length : Int)) = true := decide_eq_true c6
            (try have c6b0x : decide (x14_1 < ji2) = true := by (have e_ : ((l0.take ((ji2) : Int).toNat).length : Int) = ji2 := by (rw [List.length_take]; have z_ := hji2_; split at z_ <;> omega)); rw [← e_]; exact c6b0)
            clear c6
            by_cases c7 : 0 ≤ x14_1
            · rw [if_pos c7] at H
              have c7b0 : decide (0 ≤ x14_1) = true := decide_eq_true c7
              clear c7
              by_cases c8 : x14_1 < ((l0.take ((ji2) : Int).toNat).length : Int)
              · rw [if_pos c8] at H
                have c8b0 : decide (x14_1 < ((l0.take ((ji2) : Int).toNat).length : Int)) = true := decide_eq_true c8
                (try have c8b0x : decide (x14_1 < ji2) = true := by (have e_ : ((l0.take ((ji2) : Int).toNat).length : Int) = ji2 := by (rw [List.length_take]; have z_ := hji2_; split at z_ <;> omega)); rw [← e_]; exact c8b0)
                clear c8
                obtain ⟨ji9, hji9⟩ : ∃ j_ : Int, (wrap64 (7 * x14_1)) = j_ := ⟨_, rfl⟩
                replace H : (if 0 ≤ (ji9) then (if (rd (l0.take ((ji2) : Int).toNat) x14_1) ≥ 128 then (octets_GetVar.l0 k1 (Go.bits .or .u64 x5_1 (shl .u64 (IntKind.u64.wrap (Go.bits .andNot .u8 (rd (l0.take ((ji2) : Int).toNat) x14_1) 128)) (ji9))) (l0.take ((ji2) : Int).toNat) ((l0.take ((ji2) : Int).toNat).length : Int) (wrap64 (x14_1 + 1))) else (if (rd (l0.take ((ji2) : Int).toNat) x14_1) = 0 then (if x14_1 > 0 then (some (0, 0, false)) else (if x14_1 = 9 then (if (rd (l0.take ((ji2) : Int).toNat) x14_1) > 1 then (some (0, 0, false)) else (some (Go.bits .or .u64 x5_1 (shl .u64 (IntKind.u64.wrap (Go.bits .andNot .u8 (rd (l0.take ((ji2) : Int).toNat) x14_1) 128)) (ji9)), wrap64 (x14_1 + 1), true))) else (some (Go.bits .or .u64 x5_1 (shl .u64 (IntKind.u64.wrap (Go.bits .andNot .u8 (rd (l0.take ((ji2) : Int).toNat) x14_1) 128)) (ji9)), wrap64 (x14_1 + 1), true)))) else (if x14_1 = 9 then (if (rd (l0.take ((ji2) : Int).toNat) x14_1) > 1 then (some (0, 0, false)) else (some (Go.bits .or .u64 x5_1 (shl .u64 (IntKind.u64.wrap (Go.bits .andNot .u8 (rd (l0.take ((ji2) : Int).toNat) x14_1) 128)) (ji9)), wrap64 (x14_1 + 1), true))) else (some (Go.bits .or .u64 x5_1 (shl .u64 (IntKind.u64.wrap (Go.bits .andNot .u8 (rd (l0.take ((ji2) : Int).toNat) x14_1) 128)) (ji9)), wrap64 (x14_1 + 1), true))))) else (none)) = some (r1, r2, r3) := by first | (rw [hji9] at H; exact H) | (simp only [hji9] at H ⊢; exact H)
                have hji9w : (IntKind.i64.wrap (7 * x14_1)) = ji9 := (i64_w _).trans hji9
                by_cases c10 : 0 ≤ (ji9)
                · rw [if_pos c10] at H
                  have c10b0 := eq_true c10
                  have c10b1 : decide (0 ≤ (ji9)) = true := decide_eq_true c10
                  clear c10
                  obtain ⟨ji11, hji11⟩ : ∃ j_ : Int, (shl .u64 (IntKind.u64.wrap (Go.bits .andNot .u8 (rd (l0.take ((ji2) : Int).toNat) x14_1) 128)) (ji9)) = j_ := ⟨_, rfl⟩
                  replace H : (if (rd (l0.take ((ji2) : Int).toNat) x14_1) ≥ 128 then (octets_GetVar.l0 k1 (Go.bits .or .u64 x5_1 (ji11)) (l0.take ((ji2) : Int).toNat) ((l0.take ((ji2) : Int).toNat).length : Int) (wrap64 (x14_1 + 1))) else (if (rd (l0.take ((ji2) : Int).toNat) x14_1) = 0 then (if x14_1 > 0 then (some (0, 0, false)) else (if x14_1 = 9 then (if (rd (l0.take ((ji2) : Int).toNat) x14_1) > 1 then (some (0, 0, false)) else (some (Go.bits .or .u64 x5_1 (ji11), wrap64 (x14_1 + 1), true))) else (some (Go.bits .or .u64 x5_1 (ji11), wrap64 (x14_1 + 1), true)))) else (if x14_1 = 9 then (if (rd (l0.take ((ji2) : Int).toNat) x14_1) > 1 then (some (0, 0, false)) else (some (Go.bits .or .u64 x5_1 (ji11), wrap64 (x14_1 + 1), true))) else (some (Go.bits .or .u64 x5_1 (ji11), wrap64 (x14_1 + 1), true))))) = some (r1, r2, r3) := by first | (rw [hji11] at H; exact H) | (simp only [hji11] at H ⊢; exact H)
                  have hji11_ : (IntKind.u64.wrap ((IntKind.u64.wrap (Go.bits .andNot .u8 (rd (l0.take ((ji2) : Int).toNat) x14_1) 128)) * 2 ^ min (ji9).toNat 64)) = ji11 := hji11
                  have hji11z : (ji9) ≤ 64 → (IntKind.u64.wrap ((IntKind.u64.wrap (Go.bits .andNot .u8 (rd (l0.take ((ji2) : Int).toNat) x14_1) 128)) * 2 ^ (ji9).toNat)) = ji11 := shl_small hji11
                  by_cases c12 : (rd (l0.take ((ji2) : Int).toNat) x14_1) ≥ 128
                  · rw [if_pos c12] at H
                    have c12b0 : decide (128 ≤ (rd (l0.take ((ji2) : Int).toNat) x14_1)) = true := decide_eq_true c12
                    clear c12
                    have H' := Aside0.mk H
                    clear H
                    have p108 : 0 ≤ (x14_1 : Int) := of_decide_eq_true (by first | (with_reducible assumption) | assumption)
                    have q108 : x14_1 < ((l0.take ((ji2) : Int).toNat).length : Int) := of_decide_eq_true (by first | (with_reducible assumption) | assumption)
                    obtain ⟨ad108, e108, hx108_0⟩ := Kd.at_int HR107.out x14_1 p108 q108
                    cases e108
                    replace hx108_0 := (HB.out.cell (World.block_lt_of_cell? w _ hx108_0)).trans hx108_0
                    replace p108 := eq_true p108
                    (try have q108x : x14_1 < ji2 := by (have e_ : ((l0.take ((ji2) : Int).toNat).length : Int) = ji2 := by (rw [List.length_take]; have z_ := hji2_; split at z_ <;> omega)); rw [← e_]; exact q108)
                    replace q108 := eq_true q108
                    (try have q108y := eq_true q108x)
                    (try have q108z : (x14_1.toNat < ji2.toNat) = True := eq_true (by omega))
                    go_wp2
                    go_roundg k1
                    case measure => have := HK1.out; omega
                    case rel => exact ⟨(Go.bits .or .u64 x5_1 (ji11)), (wrap64 (x14_1 + 1)), (by first | rfl | (simp; done) | (simp only [← hji11] <;> (first | rfl | simp)) | (simp [*]; done)), (by first | rfl | (simp; done) | (simp [*]; done)), H', ⟨by have := HK1.out; omega⟩, ⟨by repeat (first | (with_reducible first | exact HB.out | apply below_alloc | apply pw_below_drewN | apply below_drew1) | exact HB.out)⟩⟩
                  · rw [if_neg c12] at H
                    have c12b0 : decide (128 ≤ (rd (l0.take ((ji2) : Int).toNat) x14_1)) = false := decide_eq_false c12
                    clear c12
                    by_cases c13 : (rd (l0.take ((ji2) : Int).toNat) x14_1) = 0
                    · rw [if_pos c13] at H
                      have c13b0 : ((rd (l0.take ((ji2) : Int).toNat) x14_1) == 0) = true := beq_iff_eq.mpr c13
                      have c13b1 : ((rd (l0.take ((ji2) : Int).toNat) x14_1) != 0) = false := bne_eq_false_iff_eq.mpr c13
                      clear c13
                      by_cases c14 : x14_1 > 0
                      · rw [if_pos c14] at H
                        have c14b0 : decide (0 < x14_1) = true := decide_eq_true c14
                        clear c14
                        simp only [Option.some.injEq, Prod.mk.injEq] at H
                        obtain ⟨rfl, rfl, rfl⟩ := H
                        have p108 : 0 ≤ (x14_1 : Int) := of_decide_eq_true (by first | (with_reducible assumption) | assumption)
                        have q108 : x14_1 < ((l0.take ((ji2) : Int).toNat).length : Int) := of_decide_eq_true (by first | (with_reducible assumption) | assumption)
                        obtain ⟨ad108, e108, hx108_0⟩ := Kd.at_int HR107.out x14_1 p108 q108
                        cases e108
                        replace hx108_0 := (HB.out.cell (World.block_lt_of_cell? w _ hx108_0)).trans hx108_0
                        replace p108 := eq_true p108
                        (try have q108x : x14_1 < ji2 := by (have e_ : ((l0.take ((ji2) : Int).toNat).length : Int) = ji2 := by (rw [List.length_take]; have z_ := hji2_; split at z_ <;> omega)); rw [← e_]; exact q108)
                        replace q108 := eq_true q108
                        (try have q108y := eq_true q108x)
                        (try have q108z : (x14_1.toNat < ji2.toNat) = True := eq_true (by omega))
                        go_wp2
                        go_ret3
                        exact ⟨by first | rfl | (simp [errW_none, errW_some] <;> rfl) | (simp only [← hji2, ← hji9, ← hji11]; first | rfl | (simp [errW_none, errW_some] <;> rfl)) | (simp [*, errW_none, errW_some] <;> rfl), by repeat (first | (with_reducible first | exact HB.out | apply below_alloc | apply pw_below_drewN | apply below_drew1) | exact HB.out)⟩
                      · rw [if_neg c14] at H
                        have c14b0 : decide (0 < x14_1) = false := decide_eq_false c14
                        clear c14
                        by_cases c15 : x14_1 = 9
                        · rw [if_pos c15] at H
                          have c15b0 : (x14_1 == 9) = true := beq_iff_eq.mpr c15
                          have c15b1 : (x14_1 != 9) = false := bne_eq_false_iff_eq.mpr c15
                          clear c15
                          by_cases c16 : (rd (l0.take ((ji2) : Int).toNat) x14_1) > 1
                          · rw [if_pos c16] at H
                            have c16b0 : decide (1 < (rd (l0.take ((ji2) : Int).toNat) x14_1)) = true := decide_eq_true c16
                            clear c16
                            simp only [Option.some.injEq, Prod.mk.injEq] at H
                            obtain ⟨rfl, rfl, rfl⟩ := H
                            have p108 : 0 ≤ (x14_1 : Int) := of_decide_eq_true (by first | (with_reducible assumption) | assumption)
                            have q108 : x14_1 < ((l0.take ((ji2) : Int).toNat).length : Int) := of_decide_eq_true (by first | (with_reducible assumption) | assumption)
                            obtain ⟨ad108, e108, hx108_0⟩ := Kd.at_int HR107.out x14_1 p108 q108
                            cases e108
                            replace hx108_0 := (HB.out.cell (World.block_lt_of_cell? w _ hx108_0)).trans hx108_0
                            replace p108 := eq_true p108
                            (try have q108x : x14_1 < ji2 := by (have e_ : ((l0.take ((ji2) : Int).toNat).length : Int) = ji2 := by (rw [List.length_take]; have z_ := hji2_; split at z_ <;> omega)); rw [← e_]; exact q108)
                            replace q108 := eq_true q108
                            (try have q108y := eq_true q108x)
                            (try have q108z : (x14_1.toNat < ji2.toNat) = True := eq_true (by omega))
                            go_wp2
                            go_ret3
                            exact ⟨by first | rfl | (simp [errW_none, errW_some] <;> rfl) | (simp only [← hji2, ← hji9, ← hji11]; first | rfl | (simp [errW_none, errW_some] <;> rfl)) | (simp [*, errW_none, errW_some] <;> rfl), by repeat (first | (with_reducible first | exact HB.out | apply below_alloc | apply pw_below_drewN | apply below_drew1) | exact HB.out)⟩
                          · rw [if_neg c16] at H
                            have c16b0 : decide (1 < (rd (l0.take ((ji2) : Int).toNat) x14_1)) = false := decide_eq_false c16
                            clear c16
                            simp only [Option.some.injEq, Prod.mk.injEq] at H
                            obtain ⟨rfl, rfl, rfl⟩ := H
                            have p108 : 0 ≤ (x14_1 : Int) := of_decide_eq_true (by first | (with_reducible assumption) | assumption)
                            have q108 : x14_1 < ((l0.take ((ji2) : Int).toNat).length : Int) := of_decide_eq_true (by first | (with_reducible assumption) | assumption)
                            obtain ⟨ad108, e108, hx108_0⟩ := Kd.at_int HR107.out x14_1 p108 q108
                            cases e108
                            replace hx108_0 := (HB.out.cell (World.block_lt_of_cell? w _ hx108_0)).trans hx108_0
                            replace p108 := eq_true p108
                            (try have q108x : x14_1 < ji2 := by (have e_ : ((l0.take ((ji2) : Int).toNat).length : Int) = ji2 := by (rw [List.length_take]; have z_ := hji2_; split at z_ <;> omega)); rw [← e_]; exact q108)
                            replace q108 := eq_true q108
                            (try have q108y := eq_true q108x)
                            (try have q108z : (x14_1.toNat < ji2.toNat) = True := eq_true (by omega))
                            go_wp2
                            go_ret3
                            exact ⟨by first | rfl | (simp [errW_none, errW_some] <;> rfl) | (simp only [← hji2, ← hji9, ← hji11]; first | rfl | (simp [errW_none, errW_some] <;> rfl)) | (simp [*, errW_none, errW_some] <;> rfl), by repeat (first | (with_reducible first | exact HB.out | apply below_alloc | apply pw_below_drewN | apply below_drew1) | exact HB.out)⟩
                        · rw [if_neg c15] at H
                          have c15b0 : (x14_1 == 9) = false := beq_eq_false_iff_ne.mpr c15
                          have c15b1 : (x14_1 != 9) = true := bne_iff_ne.mpr c15
                          simp only [Option.some.injEq, Prod.mk.injEq] at H
                          obtain ⟨rfl, rfl, rfl⟩ := H
                          have p108 : 0 ≤ (x14_1 : Int) := of_decide_eq_true (by first | (with_reducible assumption) | assumption)
                          have q108 : x14_1 < ((l0.take ((ji2) : Int).toNat).length : Int) := of_decide_eq_true (by first | (with_reducible assumption) | assumption)
                          obtain ⟨ad108, e108, hx108_0⟩ := Kd.at_int HR107.out x14_1 p108 q108
                          cases e108
                          replace hx108_0 := (HB.out.cell (World.block_lt_of_cell? w _ hx108_0)).trans hx108_0
                          replace p108 := eq_true p108
                          (try have q108x : x14_1 < ji2 := by (have e_ : ((l0.take ((ji2) : Int).toNat).length : Int) = ji2 := by (rw [List.length_take]; have z_ := hji2_; split at z_ <;> omega)); rw [← e_]; exact q108)
                          replace q108 := eq_true q108
                          (try have q108y := eq_true q108x)
                          (try have q108z : (x14_1.toNat < ji2.toNat) = True := eq_true (by omega))
                          go_wp2
                          go_ret3
                          exact ⟨by first | rfl | (simp [errW_none, errW_some] <;> rfl) | (simp only [← hji2, ← hji9, ← hji11]; first | rfl | (simp [errW_none, errW_some] <;> rfl)) | (simp [*, errW_none, errW_some] <;> rfl), by repeat (first | (with_reducible first | exact HB.out | apply below_alloc | apply pw_below_drewN | apply below_drew1) | exact HB.out)⟩
                    · rw [if_neg c13] at H
                      have c13b0 : ((rd (l0.take ((ji2) : Int).toNat) x14_1) == 0) = false := beq_eq_false_iff_ne.mpr c13
                      have c13b1 : ((rd (l0.take ((ji2) : Int).toNat) x14_1) != 0) = true := bne_iff_ne.mpr c13
                      by_cases c17 : x14_1 = 9
                      · rw [if_pos c17] at H
                        have c17b0 : (x14_1 == 9) = true := beq_iff_eq.mpr c17
                        have c17b1 : (x14_1 != 9) = false := bne_eq_false_iff_eq.mpr c17
                        clear c17
                        by_cases c18 : (rd (l0.take ((ji2) : Int).toNat) x14_1) > 1
                        · rw [if_pos c18] at H
                          have c18b0 : decide (1 < (rd (l0.take ((ji2) : Int).toNat) x14_1)) = true := decide_eq_true c18
                          clear c18
                          simp only [Option.some.injEq, Prod.mk.injEq] at H
                          obtain ⟨rfl, rfl, rfl⟩ := H
                          have p108 : 0 ≤ (x14_1 : Int) := of_decide_eq_true (by first | (with_reducible assumption) | assumption)
                          have q108 : x14_1 < ((l0.take ((ji2) : Int).toNat).length : Int) := of_decide_eq_true (by first | (with_reducible assumption) | assumption)
                          obtain ⟨ad108, e108, hx108_0⟩ := Kd.at_int HR107.out x14_1 p108 q108
                          cases e108
                          replace hx108_0 := (HB.out.cell (World.block_lt_of_cell? w _ hx108_0)).trans hx108_0
                          replace p108 := eq_true p108
                          (try have q108x : x14_1 < ji2 := by (have e_ : ((l0.take ((ji2) : Int).toNat).length : Int) = ji2 := by (rw [List.length_take]; have z_ := hji2_; split at z_ <;> omega)); rw [← e_]; exact q108)
                          replace q108 := eq_true q108
                          (try have q108y := eq_true q108x)
                          (try have q108z : (x14_1.toNat < ji2.toNat) = True := eq_true (by omega))
                          go_wp2
                          go_ret3
                          exact ⟨by first | rfl | (simp [errW_none, errW_some] <;> rfl) | (simp only [← hji2, ← hji9, ← hji11]; first | rfl | (simp [errW_none, errW_some] <;> rfl)) | (simp [*, errW_none, errW_some] <;> rfl), by repeat (first | (with_reducible first | exact HB.out | apply below_alloc | apply pw_below_drewN | apply below_drew1) | exact HB.out)⟩
                        · rw [if_neg c18] at H
                          have c18b0 : decide (1 < (rd (l0.take ((ji2) : Int).toNat) x14_1)) = false := decide_eq_false c18
                          clear c18
                          simp only [Option.some.injEq, Prod.mk.injEq] at H
                          obtain ⟨rfl, rfl, rfl⟩ := H
                          have p108 : 0 ≤ (x14_1 : Int) := of_decide_eq_true (by first | (with_reducible assumption) | assumption)
                          have q108 : x14_1 < ((l0.take ((ji2) : Int).toNat).length : Int) := of_decide_eq_true (by first | (with_reducible assumption) | assumption)
                          obtain ⟨ad108, e108, hx108_0⟩ := Kd.at_int HR107.out x14_1 p108 q108
                          cases e108
                          replace hx108_0 := (HB.out.cell (World.block_lt_of_cell? w _ hx108_0)).trans hx108_0
                          replace p108 := eq_true p108
                          (try have q108x : x14_1 < ji2 := by (have e_ : ((l0.take ((ji2) : Int).toNat).length : Int) = ji2 := by (rw [List.length_take]; have z_ := hji2_; split at z_ <;> omega)); rw [← e_]; exact q108)
                          replace q108 := eq_true q108
                          (try have q108y := eq_true q108x)
                          (try have q108z : (x14_1.toNat < ji2.toNat) = True := eq_true (by omega))
                          go_wp2
                          go_ret3
                          exact ⟨by first | rfl | (simp [errW_none, errW_some] <;> rfl) | (simp only [← hji2, ← hji9, ← hji11]; first | rfl | (simp [errW_none, errW_some] <;> rfl)) | (simp [*, errW_none, errW_some] <;> rfl), by repeat (first | (with_reducible first | exact HB.out | apply below_alloc | apply pw_below_drewN | apply below_drew1) | exact HB.out)⟩
                      · rw [if_neg c17] at H
                        have c17b0 : (x14_1 == 9) = false := beq_eq_false_iff_ne.mpr c17
                        have c17b1 : (x14_1 != 9) = true := bne_iff_ne.mpr c17
                        simp only [Option.some.injEq, Prod.mk.injEq] at H
                        obtain ⟨rfl, rfl, rfl⟩ := H
                        have p108 : 0 ≤ (x14_1 : Int) := of_decide_eq_true (by first | (with_reducible assumption) | assumption)
                        have q108 : x14_1 < ((l0.take ((ji2) : Int).toNat).length : Int) := of_decide_eq_true (by first | (with_reducible assumption) | assumption)
                        obtain ⟨ad108, e108, hx108_0⟩ := Kd.at_int HR107.out x14_1 p108 q108
                        cases e108
                        replace hx108_0 := (HB.out.cell (World.block_lt_of_cell? w _ hx108_0)).trans hx108_0
                        replace p108 := eq_true p108
                        (try have q108x : x14_1 < ji2 := by (have e_ : ((l0.take ((ji2) : Int).toNat).length : Int) = ji2 := by (rw [List.length_take]; have z_ := hji2_; split at z_ <;> omega)); rw [← e_]; exact q108)
                        replace q108 := eq_true q108
                        (try have q108y := eq_true q108x)
                        (try have q108z : (x14_1.toNat < ji2.toNat) = True := eq_true (by omega))
                        go_wp2
                        go_ret3
                        exact ⟨by first | rfl | (simp [errW_none, errW_some] <;> rfl) | (simp only [← hji2, ← hji9, ← hji11]; first | rfl | (simp [errW_none, errW_some] <;> rfl)) | (simp [*, errW_none, errW_some] <;> rfl), by repeat (first | (with_reducible first | exact HB.out | apply below_alloc | apply pw_below_drewN | apply below_drew1) | exact HB.out)⟩
                · rw [if_neg c10] at H
                  exact absurd H (by simp)
              · rw [if_neg c8] at H
                exact absurd H (by simp)
            · rw [if_neg c7] at H
              exact absurd H (by simp)
          · rw [if_neg c6] at H
            have c6b0 : decide (x14_1 < ((l0.take ((ji2) : Int).toNat).length : Int)) = false := decide_eq_false c6
            (try have c6b0x : decide (x14_1 < ji2) = false := by (have e_ : ((l0.take ((ji2) : Int).toNat).length : Int) = ji2 := by (rw [List.length_take]; have z_ := hji2_; split at z_ <;> omega)); rw [← e_]; exact c6b0)
            clear c6
            simp only [Option.some.injEq, Prod.mk.injEq] at H
            obtain ⟨rfl, rfl, rfl⟩ := H
            go_wp2
            go_ret3
            exact ⟨by first | rfl | (simp [errW_none, errW_some] <;> rfl) | (simp only [← hji2]; first | rfl | (simp [errW_none, errW_some] <;> rfl)) | (simp [*, errW_none, errW_some] <;> rfl), by repeat (first | (with_reducible first | exact HB.out | apply below_alloc | apply pw_below_drewN | apply below_drew1) | exact HB.out)⟩
    · rw [if_neg c4] at H
      exact absurd H (by simp)
  · rw [if_neg c3] at H
    exact absurd H (by simp)

/-! ### octets_PutVar: function 19 -/
def octets_PutVar.l0 : Nat → Int → List Int → Option (List Int)
  | 0, _, _ => none
  | k + 1, x1, x5 => if x1 ≥ 128 then (if x5.length < 140737488355328 then (octets_PutVar.l0 k (x1 / 128) (x5 ++ [Go.bits .or .u8 ((x1) % 256) 128])) else (none)) else (if x5.length < 140737488355328 then (some (x5 ++ [(x1) % 256])) else (none))
def octets_PutVar.f (k : Nat) (l0 : List Int) (a1 : Int) : Option (List Int) := (slices_Clone_byte_byte.f l0).bind fun t109 => (octets_PutVar.l0 k a1 t109)
theorem octets_PutVar.mono_l : ∀ k, (∀ y0 y1, LeO (octets_PutVar.l0 k y0 y1) (octets_PutVar.l0 (k + 1) y0 y1))
  | 0 => fun _ _ r h => by simp [octets_PutVar.l0] at h
  | k + 1 => by
    have ih0 := octets_PutVar.mono_l k
    · intro y0 y1
      unfold octets_PutVar.l0
      repeat' first
      | (with_reducible exact ih0 _ _)
      | (with_reducible exact LeO.refl _)
      | (with_reducible exact LeO.none _)
      | (with_reducible refine LeO.ite ?_ ?_)
      | (with_reducible refine LeO.bind ?_ (fun _ => ?_))
      | exact ih0 _ _
      | exact LeO.none _
      | refine LeO.ite ?_ ?_
      | refine LeO.bind ?_ (fun _ => ?_)
theorem octets_PutVar.mono : ∀ a0 a1 k, LeO (octets_PutVar.f k a0 a1) (octets_PutVar.f (k + 1) a0 a1) := by
  intro a0 a1 k
  have ih0 := octets_PutVar.mono_l k
  unfold octets_PutVar.f
  repeat' first
      | (with_reducible exact ih0 _ _)
      | (with_reducible exact LeO.refl _)
      | (with_reducible exact LeO.none _)
      | (with_reducible refine LeO.ite ?_ ?_)
      | (with_reducible refine LeO.bind ?_ (fun _ => ?_))
      | exact ih0 _ _
      | exact LeO.none _
      | refine LeO.ite ?_ ?_
      | refine LeO.bind ?_ (fun _ => ?_)
set_option maxHeartbeats 8000000 in
set_option maxRecDepth 100000 in
theorem octets_PutVar.calls (k : Nat) (A0 : Option Addr) (c0 : Nat) (l0 : List Int) (a1 : Int) (r : List Int) (w : World) (hr0 : Kd.C (Kd.int .u8) w A0 l0.length l0) (hc0 : l0.length ≤ c0) (h : octets_PutVar.f k l0 a1 = some r) :
    Calls Try.prog 19 #[.slice A0 l0.length c0, .int .u64 a1] w fun e w' => ∃ v0_ : Value, e = .returned (v0_) ∧ Kd.R (Kd.int .u8) 5 w' w.heap.size (fun _ => True) v0_ r ∧ Below w.heap.size w w' := by
  have HR0 := Aside0.mk hr0
  have HC0 := Aside0.mk hc0
  clear hr0 hc0
  have HB := Aside0.mk (Below.refl w.heap.size w)
  have H : ((slices_Clone_byte_byte.f l0).bind fun t109 => (octets_PutVar.l0 k a1 t109)) = some r := h
  clear h
  replace H := Option.bind_eq_some_iff.mp H
  obtain ⟨t109, A30, H⟩ := H
  replace H : (octets_PutVar.l0 k a1 t109) = some r := H
  have A3 := Aside0.mk A30
  clear A30
  have H' := Aside0.mk H
  clear H
  go_enter Try.func19, Try.ntmps19
  go_wp2_with (first | ((with_reducible refine gate_callee (f := 23) rfl ?_); refine goesL_ (some 7) rfl rfl Try.func23 (by kernel_rfl) rfl #[.slice A0 l0.length c0] rfl (by (try simp only [List.map_toArray, List.map_cons, List.map_nil]); first | done | rfl | (simp only [List.length_drop, List.length_take]; rfl)) ?_; (with_reducible refine (slices_Clone_byte_byte.calls _ _ l0 t109 _ ?side1 ?side2 A3.out).mono ?_); (case side1 => repeat (first | exact HR0.out | (with_reducible refine Kd.C_alloc ?_ _) | (with_reducible refine Kd.C_drewN ?_ _) | (with_reducible refine Kd.C_drew ?_))); (case side2 => exact HC0.out); rintro e w4 ⟨v110, rfl, ho0, hb⟩; refine ⟨_, rfl, ?_⟩; have n0_ := Aside0.mk (Kd.R_lower ho0 (below_size (by repeat (first | (with_reducible first | exact HB.out | apply below_alloc | apply pw_below_drewN | apply below_drew1) | exact HB.out)))); have n1_ := Aside0.mk (below_step (by repeat (first | (with_reducible first | exact HB.out | apply below_alloc | apply pw_below_drewN | apply below_drew1) | exact HB.out)) hb); clear HB; have HO111 := n0_; have HB := n1_; clear n0_ n1_; (try clear hb); (try clear hb2); (try clear hk); (try clear hi); (try clear ho0)))
  go_loopg [1, 5] k (fun kq v1 v5 w' => ∃ (x1_1 : Int) (x5_1 : List Int), v1 = .int .u64 x1_1 ∧ Aside0 (octets_PutVar.l0 kq x1_1 x5_1 = some r) ∧ Aside0 (kq ≤ k) ∧ Aside0 (Kd.R (Kd.int .u8) 5 w' w.heap.size (fun _ => True) v5 x5_1) ∧ Aside0 (Below w.heap.size w w'))
  case atStart => exact ⟨(a1), (t109), (by first | rfl | (simp; done) | (simp [*]; done)), H', ⟨Nat.le_refl _⟩, ⟨by (with_reducible repeat (first | apply Kd.R_alloc | apply Kd.R_drewN | apply Kd.R_drew)); exact HO111.out⟩, ⟨by repeat (first | (with_reducible first | exact HB.out | apply below_alloc | apply pw_below_drewN | apply below_drew1) | exact HB.out)⟩⟩
  case round =>
    clear H'
    try clear c1
    try clear c2
    try clear p2
    obtain ⟨x1_1, x5_1, rfl, HA, HK1, HO_5, HB⟩ := hrel
    cases gk with
    | zero => exact absurd HA.out (by simp [octets_PutVar.l0])
    | succ k1 =>
      have H := HA.out
      clear HA
      simp only [octets_PutVar.l0] at H
      by_cases c5 : x1_1 ≥ 128
      · rw [if_pos c5] at H
        have c5b0 : decide (128 ≤ x1_1) = true := decide_eq_true c5
        clear c5
        by_cases c6 : x5_1.length < 140737488355328
        · rw [if_pos c6] at H
          have LMc6 := Aside0.mk c6
          clear c6
          obtain ⟨y112, hy112⟩ : ∃ y_ : List Int, y_ = (x5_1 ++ [Go.bits .or .u8 ((x1_1) % 256) 128]) := ⟨_, rfl⟩
          replace H : (octets_PutVar.l0 k1 (x1_1 / 128) y112) = some r := by first | (rw [hy112]; with_reducible exact H) | (have H2_ := (Option.bind_some _ _).symm.trans H; rw [hy112]; with_reducible exact H2_) | (have H2_ := (Option.bind_some _ _).symm.trans H; with_reducible exact H2_) | with_reducible exact H | (rw [hy112]; exact H) | exact H
          have Ny112 := Aside0.mk hy112
          clear hy112
          have H' := Aside0.mk H
          clear H
          go_wp2_with (first | ((with_reducible refine gate_builtin (b := .append) (xs := #[.tmp 12, .tmp 16]) rfl ?_); at_builtin; refine Kd.R_append (Kd.int .u8) (w0 := w) w.heap.size rfl (.tmp 12) (.tmp 16) 22 5 (.int .u8 0) 1 rfl Try.underlying22 info5 rfl (by decide) (by omega) u5 x5_1 (Go.bits .or .u8 ((x1_1) % 256) 128) [.int .u8 (Go.bits .or .u8 ((x1_1) % 256) 128)] (fun _ => True) (fun _ => False) rfl rfl ?aP (fun _ hk => hk.elim) ?aF ?aO ?aB ?aS ?aL ?_; (case aP => exact rfl); (case aB => exact (by repeat (first | (with_reducible first | exact HB.out | apply below_alloc | apply pw_below_drewN | apply below_drew1) | exact HB.out))); (case aF => exact (fun _ _ => trivial)); (case aO => exact (by (with_reducible repeat (first | apply Kd.R_alloc | apply Kd.R_drewN | apply Kd.R_drew)); exact HO_5.out)); (case aS => exact (below_size (by repeat (first | (with_reducible first | exact HB.out | apply below_alloc | apply pw_below_drewN | apply below_drew1) | exact HB.out)))); (case aL => have := LMc6.out; omega); intro v113 w7 ho hb hg hat; rw [← Ny112.out] at ho; have n0_ := Aside0.mk (hb); have n1_ := Aside0.mk (ho); clear HB; clear HO_5; have HB := n0_; have HO114 := n1_; clear n0_ n1_; clear ho hb hg hat))
          go_roundg k1
          case measure => have := HK1.out; omega
          case rel => exact ⟨(x1_1 / 128), (y112), (by first | rfl | (simp; done) | (simp [*]; done)), H', ⟨by have := HK1.out; omega⟩, ⟨by (with_reducible repeat (first | apply Kd.R_alloc | apply Kd.R_drewN | apply Kd.R_drew)); exact HO114.out⟩, ⟨by repeat (first | (with_reducible first | exact HB.out | apply below_alloc | apply pw_below_drewN | apply below_drew1) | exact HB.out)⟩⟩
        · rw [if_neg c6] at H
          exact absurd H (by simp)
      · rw [if_neg c5] at H
        have c5b0 : decide (128 ≤ x1_1) = false := decide_eq_false c5
        clear c5
        by_cases c8 : x5_1.length < 140737488355328
        · rw [if_pos c8] at H
          have LMc8 := Aside0.mk c8
          clear c8
          obtain ⟨y115, hy115⟩ : ∃ y_ : List Int, y_ = (x5_1 ++ [(x1_1) % 256]) := ⟨_, rfl⟩
          replace H : (some y115) = some r := by first | (rw [hy115]; with_reducible exact H) | (have H2_ := (Option.bind_some _ _).symm.trans H; rw [hy115]; with_reducible exact H2_) | (have H2_ := (Option.bind_some _ _).symm.trans H; with_reducible exact H2_) | with_reducible exact H | (rw [hy115]; exact H) | exact H
          have Ny115 := Aside0.mk hy115
          clear hy115
          obtain rfl := Option.some.inj H
          go_wp2_with (first | ((with_reducible refine gate_builtin (b := .append) (xs := #[.tmp 18, .tmp 21]) rfl ?_); at_builtin; refine Kd.R_append (Kd.int .u8) (w0 := w) w.heap.size rfl (.tmp 18) (.tmp 21) 22 5 (.int .u8 0) 1 rfl Try.underlying22 info5 rfl (by decide) (by omega) u5 x5_1 ((x1_1) % 256) [.int .u8 ((x1_1) % 256)] (fun _ => True) (fun _ => False) rfl rfl ?aP (fun _ hk => hk.elim) ?aF ?aO ?aB ?aS ?aL ?_; (case aP => exact rfl); (case aB => exact (by repeat (first | (with_reducible first | exact HB.out | apply below_alloc | apply pw_below_drewN | apply below_drew1) | exact HB.out))); (case aF => exact (fun _ _ => trivial)); (case aO => exact (by (with_reducible repeat (first | apply Kd.R_alloc | apply Kd.R_drewN | apply Kd.R_drew)); exact HO_5.out)); (case aS => exact (below_size (by repeat (first | (with_reducible first | exact HB.out | apply below_alloc | apply pw_below_drewN | apply below_drew1) | exact HB.out)))); (case aL => have := LMc8.out; omega); intro v116 w9 ho hb hg hat; rw [← Ny115.out] at ho; have n0_ := Aside0.mk (hb); have n1_ := Aside0.mk (ho); clear HB; clear HO_5; have HB := n0_; have HO117 := n1_; clear n0_ n1_; clear ho hb hg hat))
          go_ret
          exact ⟨_, by first | rfl | (simp [errW_none, errW_some] <;> rfl) | (simp [*, errW_none, errW_some] <;> rfl), by (with_reducible repeat (first | apply Kd.R_alloc | apply Kd.R_drewN | apply Kd.R_drew)); exact HO117.out, by repeat (first | (with_reducible first | exact HB.out | apply below_alloc | apply pw_below_drewN | apply below_drew1) | exact HB.out)⟩
        · rw [if_neg c8] at H
          exact absurd H (by simp)

end Go.Proofs.Ytpnohgolpeocaaa.PAll
