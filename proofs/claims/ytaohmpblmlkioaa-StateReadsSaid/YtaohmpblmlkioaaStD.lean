/- The region that grows both rows of a config, inside a loop over an iterator, and what holds round by round. Conditions: the rows are the call's own. -/
import Derived.Test.YtaohmpblmlkioaaHW
import Derived.OrdersIn
import Derived.RangeFuncCalls
import Derived.TacticsIn
import Derived.Test.YtaohmpblmlkioaaHx
import Derived.Test.YtaohmpblmlkioaaPAllx0
import Derived.Test.YtaohmpblmlkioaaStC
import Derived.Test.YtaohmpblmlkioaaChk
namespace Go.Proofs.Ytaohmpblmlkioaa.RgI
open Go.RowKit Go.Proofs.YtaohmpblmlkioaaW.PrintWords Go.Proofs.YtaohmpblmlkioaaW.PrintLast
variable {P : Program} {ops : Array Oper} {Q : Exit → Act → World → Prop} {md : Region.Mode}
theorem oper_in {l n : Nat} {o : Oper} {a : Act} {w : World} {K : Act → World → Prop} (hd : ∀ c : Call, o.op ≠ .defer c) (h : o.wp P a w K Q) : o.wpIn (Fence.wide.inRound l) n P a w K Q := by
  refine ⟨fun f _ => trivial, ?_⟩
  unfold Oper.wp at h
  rw [show (Fence.wide.inRound l).round = some l from rfl, Oper.semAt_some l _ o hd]
  generalize (execOp a.eval o).run P w = r at *
  cases r with
  | ok x w' =>
    cases x <;> simp only [Oper.upon, Oper.uponIn] at h ⊢
    case value => exact h
    case skip => exact h
    case defer => exact h
    case enter f args => exact ⟨(fun hh => by cases hh), CallsIn.inRound l (callsIn_wide.2 h)⟩
    case row row args =>
      refine ⟨(fun hh => by cases hh), fun c cs _ => ?_⟩
      obtain ⟨v, w2, h1, h2⟩ := h c cs
      exact ⟨v, w2, h1, stepsIn_wide.2 h2⟩
  | halt x w' => cases x <;> simp only [Oper.upon, Oper.uponIn] at h ⊢ <;> exact h
theorem op_in {l n i : Nat} {a : Act} {w : World} {K K' : Act → World → Prop} (hL : ¬ LetsOut Q) (hd : ∀ (o : Oper) (c : Call), ops[i]? = some o → o.op ≠ .defer c) (hK : ∀ a w, K a w → K' a w) (h : wpOp P ops Q i K a w) : wpOpIn (Fence.wide.inRound l) n P ops Q i K' a w := by
  unfold wpOp at h
  unfold wpOpIn
  cases ho : ops[i]? with
  | none => rw [ho] at h; exact hK _ _ h
  | some o =>
    rw [ho] at h
    dsimp only at h ⊢
    split
    · rename_i hw
      rw [if_pos hw] at h
      rcases h with h | h
      · exact Oper.wpIn_mono hK (oper_in (fun c => hd o c ho) h)
      · exact absurd h.2 hL
    · rename_i hw
      rw [if_neg hw] at h
      exact ⟨fun _ _ => trivial, hK _ _ h⟩
theorem any_in {l n : Nat} (hL : ¬ LetsOut Q) (hd : ∀ (i : Nat) (o : Oper) (c : Call), ops[i]? = some o → o.op ≠ .defer c) : ∀ (fuel : Nat) (listed : Array Bool) (a : Act) (w : World), wpAny P md ops Q fuel listed a w → wpAnyIn (Fence.wide.inRound l) n P md ops Q fuel listed a w
  | 0, _, _, _, h => h
  | fuel + 1, _, _, _, h => ⟨h.1, fun i hi => op_in hL (hd i) (fun a w => any_in hL hd fuel _ a w) (h.2 i hi)⟩
/-- The region that draws its order, in a round, by the words for one outside. -/
theorem region_in {l n id : Nat} {a : Act} {w : World} {S : World → Prop} {ds : List Nat} (hL : ¬ LetsOut Q) (hd : ∀ (i : Nat) (o : Oper) (c : Call), ops[i]? = some o → o.op ≠ .defer c) (hm : P.follows .mixedOrders = true) (hS : S w.drew)
    (h : S w.drew → wpAnyLast P .any ops Q S ds ops.size (Array.replicate ops.size false) a w.drew) : (Code.region id ops true).wpIn (Fence.wide.inRound l) n P Q a w :=
  wpIn_region_any hm (any_in hL hd _ _ _ _ (wpAny_of_last _ _ _ _ (h hS)))
end Go.Proofs.Ytaohmpblmlkioaa.RgI
namespace Go.Proofs.Ytaohmpblmlkioaa.PAll
open Go.RowKit Go.Proofs.Ytaohmpblmlkioaa.HX Go.Proofs.YtaohmpblmlkioaaW.PrintWords Go.Proofs.YtaohmpblmlkioaaW.PrintLast Go.Proofs.YtaohmpblmlkioaaW.PrintMore
set_option linter.unusedVariables false
set_option linter.unusedSimpArgs false
def sdec.T15 : Bool × List (List Nat × List Nat) := (true, [([], []), ([0], [0]), ([], []), ([2], [2]), ([1, 3], [1, 3]), ([], []), ([5], [5]), ([], []), ([7], [7]), ([8], [8]), ([9], [9]), ([10], [10]), ([6, 11, 4], [6, 11]), ([0, 1, 2, 3, 4, 5, 6], []), ([13, 4, 12, 0, 1, 2, 3, 4, 5, 6], [4, 13]), ([0, 1, 2, 3, 4, 5, 6, 7, 8, 9, 10, 11, 12, 13, 14], []), ([15, 12, 14, 0, 1, 2, 3, 4, 5, 6, 7, 8, 9, 10, 11, 12, 13, 14], [12, 15])])
def sdec.B15 : List Nat := [0, 1, 0, 4, 15, 0, 32, 0, 128, 384, 896, 1920, 4095, 127, 16383, 32767, 65535]
theorem sdec.tab15 : rtab .any (opsOf Try.f15 15) = sdec.T15 := by kernel_rfl
theorem sdec.bits15 : waitsOk sdec.T15.2 sdec.B15 = true := by kernel_rfl
theorem ko_grown {W w1 : World} {row : Option Nat} (hg : W.grownBy w1 row) (hr : ∀ k, row = some k → ∃ c t, W.heap[k]? = some (.cells c t (0, 0))) : KeepsOthers W w1 :=
  ⟨hg.size, fun k o hk ho => (hg.block k (blk_lt hk) (fun e => by
    obtain ⟨c, t, hc⟩ := hr k e.symm
    rw [hc] at hk
    injection hk with hk
    subst hk
    cases ho)).trans hk⟩
theorem type_ne {α β : Type} {d : Kd α} {d' : Kd β} {e e' b b' : Nat} {W : World} {ok ok' : Nat → Prop} {v v' : Value} {xs : List α} {ys : List β} (h : d.R e W b ok v xs) (h' : d'.R e' W b' ok' v' ys) (hne : e ≠ e') : ∀ k, v.ownBlock = some k → some k ≠ v'.ownBlock := by
  intro k hk hk'
  obtain ⟨c, hc⟩ := Kd.R_typed h k hk
  obtain ⟨c', hc'⟩ := Kd.R_typed h' k hk'.symm
  rw [hc] at hc'
  injection hc' with hc'
  injection hc' with _ hc'
  exact hne hc'
theorem reps_one {α : Type} (d : Kd α) {W : World} {base : Nat} {ok : Nat → Prop} {x : α} {u : Value} (hs : d.sz = 1) (h : d.M W base ok x [u]) : Reps (d.M W base ok) d.sz [x] [u] := by
  rw [hs]
  exact Reps.snoc (Reps.none _ _) h rfl
/-- What a round of the loop keeps. -/
structure Stp (n1 C : Nat) (W W' : World) : Prop where
  os : W'.os = W.os
  tape : W'.tape = W.tape
  output : W'.output = W.output
  block : ∀ k, k < n1 → k ≠ C → W'.heap[k]? = W.heap[k]?
  others : KeepsOthers W W'
theorem Stp.refl (n1 C : Nat) (W : World) : Stp n1 C W W := ⟨rfl, rfl, rfl, fun _ _ _ => rfl, KeepsOthers.refl W⟩
theorem Stp.trans {n1 C : Nat} {X Y Z : World} (h : Stp n1 C X Y) (k : Stp n1 C Y Z) : Stp n1 C X Z := ⟨k.os.trans h.os, k.tape.trans h.tape, k.output.trans h.output, fun i a b => (k.block i a b).trans (h.block i a b), h.others.trans k.others⟩
theorem Stp.of_below {n1 C : Nat} {W W' : World} (h : Below n1 W W') (k : KeepsOthers W W') : Stp n1 C W W' := ⟨h.os, h.tape, h.output, fun i a _ => h.block i a, k⟩
theorem Stp.set (n1 C i : Nat) (v : Value) (W : World) : Stp n1 C W (W.setCell ⟨C, i, none⟩ v) := ⟨rfl, rfl, rfl, fun k _ h => Below.heap_setCell W ⟨C, i, none⟩ v k h, KeepsOthers.setCell _ _ _⟩
set_option maxRecDepth 100000 in
set_option maxHeartbeats 4000000 in
theorem sdec.grow {Q : Exit → Act → World → Prop} {n1 C : Nat} {W : World} {v0 v1 : Value} {vs : List Int} {bs : List Bool} {x y : Int} {ad : Addr} {x0 x1 x2 x3 x4 x6 x7 x8 x9 x10 x11 x12 x13 x16 x17 x18 x19 x20 x21 x22 x23 x24 x25 x26 x27 x28 x29 x30 x31 x32 x33 x34 x35 x36 x37 x38 x39 x40 x41 x42 x43 x44 x45 x46 x47 x48 x49 x50 x51 x52 x53 x54 x55 x56 x57 x58 x59 x60 x61 x62 x63 x64 x65 x66 x67 x68 x69 x70 x71 x72 x73 x74 x75 x76 x77 x78 x79 x80 x81 x82 x83 x84 x85 x86 x87 x88 x89 x90 x91 x92 x93 x94 x95 x96 x97 x98 x99 x100 x101 x102 x103 x104 x105 x106 x107 x108 x109 x110 x111 x112 x113 : Value}
    (hP : ∀ c a a' w, Q (.panic c) a w → Q (.panic c) a' w) (hn : n1 ≤ W.heap.size) (hC : C < n1) (hbox : W.heap[C]? = some (.cells #[v0, v1] 25 (0, 0))) (hv : ad.block < n1) (hy : W.cell? (ad.add 8) = some (.int .u8 y))
    (h0 : Kd.R (Kd.int .u64) 39 W n1 (fun _ => True) v0 vs) (h1 : Kd.R Kd.bool 4 W n1 (fun _ => True) v1 bs) (hl : vs.length ≤ 10000000) (hl1 : bs.length ≤ 10000000)
    (hQ : ∀ a' W' v0' v1', W'.heap[C]? = some (.cells #[v0', v1'] 25 (0, 0)) → Kd.R (Kd.int .u64) 39 W' n1 (fun _ => True) v0' (vs ++ [x]) → Kd.R Kd.bool 4 W' n1 (fun _ => True) v1' (bs ++ [y == 1]) → Stp n1 C W W' → Q .normal a' W') :
    wpAnyLast Try.prog .any (opsOf Try.f15 15) Q (Below n1 W) [14, 16] 17 #[false, false, false, false, false, false, false, false, false, false, false, false, false, false, false, false, false] { tmps := #[x0, x1, x2, x3, x4, .pointer (some ⟨C, 0, none⟩), x6, x7, x8, x9, x10, x11, x12, x13, .slice (some ad) 9 9, .int .u64 x, x16, x17, x18, x19, x20, x21, x22, x23, x24, x25, x26, x27, x28, x29, x30, x31, x32, x33, x34, x35, x36, x37, x38, x39, x40, x41, x42, x43, x44, x45, x46, x47, x48, x49, x50, x51, x52, x53, x54, x55, x56, x57, x58, x59, x60, x61, x62, x63, x64, x65, x66, x67, x68, x69, x70, x71, x72, x73, x74, x75, x76, x77, x78, x79, x80, x81, x82, x83, x84, x85, x86, x87, x88, x89, x90, x91, x92, x93, x94, x95, x96, x97, x98, x99, x100, x101, x102, x103, x104, x105, x106, x107, x108, x109, x110, x111, x112, x113], defers := [] } W.drew := by
  have HL := Aside0.mk (And.intro hl hl1)
  have HQ := Aside0.mk hQ
  have BX := Aside0.mk hbox
  have HY := Aside0.mk hy
  have KO : Aside0 (KeepsOthers W W.drew) := ⟨⟨Nat.le_refl _, fun _ _ h _ => h⟩⟩
  have O0 : Aside0 (Kd.R (Kd.int .u64) 39 W.drew n1 (fun _ => True) v0 vs) := ⟨h0⟩
  have O1 : Aside0 (Kd.R Kd.bool 4 W.drew n1 (fun _ => True) v1 bs) := ⟨h1⟩
  have hHeld : Below n1 W W.drew := ⟨rfl, rfl, rfl, Nat.le_refl _, fun _ _ => rfl⟩
  clear hl hl1 hQ hbox hy h0 h1
  simp only [opsOf, Try.f15, Option.bind_some, Option.getD_some, opsIn, Nat.reduceBEq, Bool.false_eq_true, if_false, if_true, beq_self_eq_true]
  refine with_tabW sdec.tab15 sdec.bits15 (fun HT_ HW_ => ?_)
  refine pure_ (i := 0) (N := some 80) (v := ?_) (a' := ?_) #[true, false, false, false, false, false, false, false, false, false, false, false, false, false, false, false, false] rfl rfl (any_of HT_.out (by kernel_rfl)) (fun _ _ _ h => hP _ _ _ _ h) (Or.inl ⟨by rfl, ?_⟩) ?_ ?_
  rotate_left
  · intro w'
    go_simp
    with_reducible rfl
  rotate_left
  · simp only [Act.put, List.setIfInBounds_toArray, List.set_cons_zero, List.set_cons_succ, i64_w, i32_w]
    rfl
  refine take_ (i := 1) (N := some 81) (v := ?_) (a' := ?_) #[true, true, false, false, false, false, false, false, false, false, false, false, false, false, false, false, false] rfl rfl (take_ofW HT_.out HW_.out (by kernel_rfl)) (fun _ _ _ h => hP _ _ _ _ h) (Or.inl ⟨by rfl, ?_⟩) hHeld ?_ ?_
  rotate_left
  · rintro w' s0
    have hbx := (s0.block C hC).trans BX.out
    have b0 := (blk_cell hbx 0).trans rfl
    have b1 := (blk_cell hbx 1).trans rfl
    go_simp
    (try with_reducible rfl)
  rotate_left
  · simp only [Act.put, List.setIfInBounds_toArray, List.set_cons_zero, List.set_cons_succ, i64_w, i32_w]
    rfl
  refine pure_ (i := 2) (N := some 82) (v := ?_) (a' := ?_) #[true, true, true, false, false, false, false, false, false, false, false, false, false, false, false, false, false] rfl rfl (any_of HT_.out (by kernel_rfl)) (fun _ _ _ h => hP _ _ _ _ h) (Or.inl ⟨by rfl, ?_⟩) ?_ ?_
  rotate_left
  · intro w'
    go_simp
    with_reducible rfl
  rotate_left
  · simp only [Act.put, List.setIfInBounds_toArray, List.set_cons_zero, List.set_cons_succ, i64_w, i32_w]
    rfl
  refine pure_ (i := 5) (N := some 85) (v := ?_) (a' := ?_) #[true, true, true, false, false, true, false, false, false, false, false, false, false, false, false, false, false] rfl rfl (any_of HT_.out (by kernel_rfl)) (fun _ _ _ h => hP _ _ _ _ h) (Or.inl ⟨by rfl, ?_⟩) ?_ ?_
  rotate_left
  · intro w'
    go_simp
    with_reducible rfl
  rotate_left
  · simp only [Act.put, List.setIfInBounds_toArray, List.set_cons_zero, List.set_cons_succ, i64_w, i32_w]
    rfl
  refine take_ (i := 6) (N := some 86) (v := ?_) (a' := ?_) #[true, true, true, false, false, true, true, false, false, false, false, false, false, false, false, false, false] rfl rfl (take_ofW HT_.out HW_.out (by kernel_rfl)) (fun _ _ _ h => hP _ _ _ _ h) (Or.inl ⟨by rfl, ?_⟩) hHeld ?_ ?_
  rotate_left
  · rintro w' s0
    have hbx := (s0.block C hC).trans BX.out
    have b0 := (blk_cell hbx 0).trans rfl
    have b1 := (blk_cell hbx 1).trans rfl
    go_simp
    (try with_reducible rfl)
  rotate_left
  · simp only [Act.put, List.setIfInBounds_toArray, List.set_cons_zero, List.set_cons_succ, i64_w, i32_w]
    rfl
  refine pure_ (i := 7) (N := some 87) (v := ?_) (a' := ?_) #[true, true, true, false, false, true, true, true, false, false, false, false, false, false, false, false, false] rfl rfl (any_of HT_.out (by kernel_rfl)) (fun _ _ _ h => hP _ _ _ _ h) (Or.inl ⟨by rfl, ?_⟩) ?_ ?_
  rotate_left
  · intro w'
    go_simp
    with_reducible rfl
  rotate_left
  · simp only [Act.put, List.setIfInBounds_toArray, List.set_cons_zero, List.set_cons_succ, i64_w, i32_w]
    rfl
  refine pure_ (i := 8) (N := some 88) (v := ?_) (a' := ?_) #[true, true, true, false, false, true, true, true, true, false, false, false, false, false, false, false, false] rfl rfl (any_of HT_.out (by kernel_rfl)) (fun _ _ _ h => hP _ _ _ _ h) (Or.inl ⟨by rfl, ?_⟩) ?_ ?_
  rotate_left
  · intro w'
    go_simp
    with_reducible rfl
  rotate_left
  · simp only [Act.put, List.setIfInBounds_toArray, List.set_cons_zero, List.set_cons_succ, i64_w, i32_w]
    rfl
  refine take_ (i := 9) (N := some 89) (v := ?_) (a' := ?_) #[true, true, true, false, false, true, true, true, true, true, false, false, false, false, false, false, false] rfl rfl (take_ofW HT_.out HW_.out (by kernel_rfl)) (fun _ _ _ h => hP _ _ _ _ h) (Or.inl ⟨by rfl, ?_⟩) hHeld ?_ ?_
  rotate_left
  · rintro w' s0
    have hyy : w'.cell? ⟨ad.block, ad.off + 8, none⟩ = some (.int .u8 y) := (World.cell?_of_block (a := ad.add 8) (s0.block _ (by rw [add_block]; exact hv))).trans HY.out
    go_simp
    (try with_reducible rfl)
  rotate_left
  · simp only [Act.put, List.setIfInBounds_toArray, List.set_cons_zero, List.set_cons_succ, i64_w, i32_w]
    rfl
  refine pure_ (i := 10) (N := some 90) (v := ?_) (a' := ?_) #[true, true, true, false, false, true, true, true, true, true, true, false, false, false, false, false, false] rfl rfl (any_of HT_.out (by kernel_rfl)) (fun _ _ _ h => hP _ _ _ _ h) (Or.inl ⟨by rfl, ?_⟩) ?_ ?_
  rotate_left
  · intro w'
    go_simp
    with_reducible rfl
  rotate_left
  · simp only [Act.put, List.setIfInBounds_toArray, List.set_cons_zero, List.set_cons_succ, i64_w, i32_w]
    rfl
  refine join_ (σ := Value × Value × Value) 4 #[true, true, true, true, true, true, true, true, true, true, true, true, false, true, false, false, false] (fun s_ => [(83, s_.1), (84, s_.2.1), (91, s_.2.2), (93, .pointer (some ⟨C, 0, none⟩))]) (fun s_ w' => Below n1 W w' ∧ Aside0 (Kd.R (Kd.int .u64) 39 w' n1 (fun _ => True) s_.2.1 (vs ++ [x])) ∧ Aside0 (Kd.R Kd.bool 4 w' n1 (fun _ => True) v1 bs) ∧ (∃ AR cR, s_.2.2 = .slice AR 1 cR ∧ Aside0 (Kd.R Kd.bool 4 w' n1 (fun _ => True) (.slice AR 1 cR) [y == 1])) ∧ Aside0 (KeepsOthers W w')) ?_ ?_
  rotate_left
  · intro hCont
    refine two_ (i := 3) (j := 11) (Ni := some 83) (Nj := some 91) #[true, true, true, true, false, true, true, true, true, true, true, false, false, false, false, false, false] #[true, true, true, false, false, true, true, true, true, true, true, true, false, false, false, false, false] rfl rfl rfl rfl (two_of HT_.out (by kernel_rfl)) (by decide) (by decide) (fun K hK => ?_) (fun K hK => ?_)
    · skip
      refine Kd.R_lit_step (Kd.int .u64) (w0 := W) n1 39 ?hg (N := 83) ?hd (xs := [x]) (inner := [.int .u64 x]) (ok := fun _ => True) (okp := fun _ => False) ?hr ?hp (fun _ hk => trivial) trivial hHeld (Nat.le_trans hn hHeld.size) (by simp) ?_; (case hd => rfl); (case hg => rfl); (case hr => first | (go_simp; done) | (go_simp; rfl)); (case hp => exact reps_one (Kd.int .u64) rfl rfl)
      intro p w5 hoP hb hg hnew
      obtain ⟨AP, cP, rfl⟩ := Kd.R_slice hoP
      have OP := Aside0.mk hoP
      have KO := Aside0.mk (KO.out.trans (ko_grown hg (fun k e => by cases e)))
      have O0 := Aside0.mk (Kd.R_below O0.out (HX.grown_below hg))
      have O1 := Aside0.mk (Kd.R_below O1.out (HX.grown_below hg))
      refine hK.out _ _ hb (fun hHeld => ?_)
      clear hoP hb hg hnew
      clear hK K
      refine norm_ (a' := ?_) ?_ ?_
      rotate_left
      · show Act.put _ (some 83) _ = _
        simp only [Act.put, List.setIfInBounds_toArray, List.set_cons_zero, List.set_cons_succ, i64_w, i32_w]
        rfl
      refine two_ (i := 4) (j := 11) (Ni := some 84) (Nj := some 91) #[true, true, true, true, true, true, true, true, true, true, true, false, false, false, false, false, false] #[true, true, true, true, false, true, true, true, true, true, true, true, false, false, false, false, false] rfl rfl rfl rfl (two_of HT_.out (by kernel_rfl)) (by decide) (by decide) (fun K hK => ?_) (fun K hK => ?_)
      · skip
        refine Kd.R_append_rows_step (Kd.int .u64) (w0 := W) n1 (by rfl) (.tmp 81) (.tmp 83) 22 39 (.int .u64 0) 8 rfl Try.underlying22 info39 rfl (by decide) (by omega) v0 vs [x] _ _ _ (fun _ => True) (fun _ => False) rfl rfl O0.out (R_C OP.out).2.2 (fun _ _ h => h) (fun _ h => h.elim) (fun _ _ => trivial) hHeld (Nat.le_trans hn hHeld.size) (by have := HL.out; (try simp only [List.length_cons, List.length_nil]); omega) ?_
        intro q w5 hoQ hb hg hnew
        have OQ := Aside0.mk hoQ
        have KO := Aside0.mk (KO.out.trans (ko_grown hg (fun k e => (Kd.R_typed O0.out k e).imp fun c hc => ⟨39, hc⟩)))
        have O1 := Aside0.mk (Kd.R_grown2 O1.out rfl hg (type_ne O0.out O1.out (by decide)))
        refine hK.out _ _ hb (fun hHeld => ?_)
        clear hoQ hb hg hnew OP O0
        clear hK K
        refine norm_ (a' := ?_) ?_ ?_
        rotate_left
        · show Act.put _ (some 84) _ = _
          simp only [Act.put, List.setIfInBounds_toArray, List.set_cons_zero, List.set_cons_succ, i64_w, i32_w]
          rfl
        refine pure_ (i := 13) (N := some 93) (v := ?_) (a' := ?_) #[true, true, true, true, true, true, true, true, true, true, true, false, false, true, false, false, false] rfl rfl (any_of HT_.out (by kernel_rfl)) (fun _ _ _ h => hP _ _ _ _ h) (Or.inl ⟨by rfl, ?_⟩) ?_ ?_
        rotate_left
        · intro w'
          go_simp
          with_reducible rfl
        rotate_left
        · simp only [Act.put, List.setIfInBounds_toArray, List.set_cons_zero, List.set_cons_succ, i64_w, i32_w]
          rfl
        refine one_ (i := 11) (N := some 91) #[true, true, true, true, true, true, true, true, true, true, true, true, false, true, false, false, false] rfl rfl (one_of HT_.out (by kernel_rfl)) (by decide) (fun K hK => ?_)
        refine Kd.R_lit_step Kd.bool (w0 := W) n1 4 ?hg (N := 91) ?hd (xs := [y == 1]) (inner := [.bool (y == 1)]) (ok := fun _ => True) (okp := fun _ => False) ?hr ?hp (fun _ hk => trivial) trivial hHeld (Nat.le_trans hn hHeld.size) (by simp) ?_; (case hd => rfl); (case hg => rfl); (case hr => first | (go_simp; done) | (go_simp; rfl)); (case hp => exact reps_one Kd.bool rfl rfl)
        intro r w5 hoR hb hg hnew
        obtain ⟨AR, cR, rfl⟩ := Kd.R_slice hoR
        have OR := Aside0.mk hoR
        have KO := Aside0.mk (KO.out.trans (ko_grown hg (fun k e => by cases e)))
        have O1 := Aside0.mk (Kd.R_below O1.out (HX.grown_below hg))
        have OQ := Aside0.mk (Kd.R_below OQ.out (HX.grown_below hg))
        refine hK.out _ _ hb (fun hHeld => ?_)
        clear hoR hb hg hnew
        clear hK K
        refine norm_ (a' := ?_) ?_ ?_
        rotate_left
        · show Act.put _ (some 91) _ = _
          simp only [Act.put, List.setIfInBounds_toArray, List.set_cons_zero, List.set_cons_succ, i64_w, i32_w]
          rfl
        refine norm_ ?_ (hCont (Value.slice AP [x].length cP, q, Value.slice AR [y == 1].length cR) _ ⟨hHeld, OQ, O1, ⟨_, _, rfl, OR⟩, KO⟩)
        simp only [putAll, Act.put, List.setIfInBounds_toArray, List.set_cons_zero, List.set_cons_succ, List.length_cons, List.length_nil]
      · skip
        refine Kd.R_lit_step Kd.bool (w0 := W) n1 4 ?hg (N := 91) ?hd (xs := [y == 1]) (inner := [.bool (y == 1)]) (ok := fun _ => True) (okp := fun _ => False) ?hr ?hp (fun _ hk => trivial) trivial hHeld (Nat.le_trans hn hHeld.size) (by simp) ?_; (case hd => rfl); (case hg => rfl); (case hr => first | (go_simp; done) | (go_simp; rfl)); (case hp => exact reps_one Kd.bool rfl rfl)
        intro r w5 hoR hb hg hnew
        obtain ⟨AR, cR, rfl⟩ := Kd.R_slice hoR
        have OR := Aside0.mk hoR
        have KO := Aside0.mk (KO.out.trans (ko_grown hg (fun k e => by cases e)))
        have O1 := Aside0.mk (Kd.R_below O1.out (HX.grown_below hg))
        have O0 := Aside0.mk (Kd.R_below O0.out (HX.grown_below hg))
        have OP := Aside0.mk (Kd.R_below OP.out (HX.grown_below hg))
        refine hK.out _ _ hb (fun hHeld => ?_)
        clear hoR hb hg hnew
        clear hK K
        refine norm_ (a' := ?_) ?_ ?_
        rotate_left
        · show Act.put _ (some 91) _ = _
          simp only [Act.put, List.setIfInBounds_toArray, List.set_cons_zero, List.set_cons_succ, i64_w, i32_w]
          rfl
        refine one_ (i := 4) (N := some 84) #[true, true, true, true, true, true, true, true, true, true, true, true, false, false, false, false, false] rfl rfl (one_of HT_.out (by kernel_rfl)) (by decide) (fun K hK => ?_)
        refine Kd.R_append_rows_step (Kd.int .u64) (w0 := W) n1 (by rfl) (.tmp 81) (.tmp 83) 22 39 (.int .u64 0) 8 rfl Try.underlying22 info39 rfl (by decide) (by omega) v0 vs [x] _ _ _ (fun _ => True) (fun _ => False) rfl rfl O0.out (R_C OP.out).2.2 (fun _ _ h => h) (fun _ h => h.elim) (fun _ _ => trivial) hHeld (Nat.le_trans hn hHeld.size) (by have := HL.out; (try simp only [List.length_cons, List.length_nil]); omega) ?_
        intro q w5 hoQ hb hg hnew
        have OQ := Aside0.mk hoQ
        have KO := Aside0.mk (KO.out.trans (ko_grown hg (fun k e => (Kd.R_typed O0.out k e).imp fun c hc => ⟨39, hc⟩)))
        have O1 := Aside0.mk (Kd.R_grown2 O1.out rfl hg (type_ne O0.out O1.out (by decide)))
        have OR := Aside0.mk (Kd.R_grown2 OR.out rfl hg (type_ne O0.out OR.out (by decide)))
        refine hK.out _ _ hb (fun hHeld => ?_)
        clear hoQ hb hg hnew OP O0
        clear hK K
        refine norm_ (a' := ?_) ?_ ?_
        rotate_left
        · show Act.put _ (some 84) _ = _
          simp only [Act.put, List.setIfInBounds_toArray, List.set_cons_zero, List.set_cons_succ, i64_w, i32_w]
          rfl
        refine pure_ (i := 13) (N := some 93) (v := ?_) (a' := ?_) #[true, true, true, true, true, true, true, true, true, true, true, true, false, true, false, false, false] rfl rfl (any_of HT_.out (by kernel_rfl)) (fun _ _ _ h => hP _ _ _ _ h) (Or.inl ⟨by rfl, ?_⟩) ?_ ?_
        rotate_left
        · intro w'
          go_simp
          with_reducible rfl
        rotate_left
        · simp only [Act.put, List.setIfInBounds_toArray, List.set_cons_zero, List.set_cons_succ, i64_w, i32_w]
          rfl
        refine norm_ ?_ (hCont (Value.slice AP [x].length cP, q, Value.slice AR [y == 1].length cR) _ ⟨hHeld, OQ, O1, ⟨_, _, rfl, OR⟩, KO⟩)
        simp only [putAll, Act.put, List.setIfInBounds_toArray, List.set_cons_zero, List.set_cons_succ, List.length_cons, List.length_nil]
    · skip
      refine Kd.R_lit_step Kd.bool (w0 := W) n1 4 ?hg (N := 91) ?hd (xs := [y == 1]) (inner := [.bool (y == 1)]) (ok := fun _ => True) (okp := fun _ => False) ?hr ?hp (fun _ hk => trivial) trivial hHeld (Nat.le_trans hn hHeld.size) (by simp) ?_; (case hd => rfl); (case hg => rfl); (case hr => first | (go_simp; done) | (go_simp; rfl)); (case hp => exact reps_one Kd.bool rfl rfl)
      intro r w5 hoR hb hg hnew
      obtain ⟨AR, cR, rfl⟩ := Kd.R_slice hoR
      have OR := Aside0.mk hoR
      have KO := Aside0.mk (KO.out.trans (ko_grown hg (fun k e => by cases e)))
      have O1 := Aside0.mk (Kd.R_below O1.out (HX.grown_below hg))
      have O0 := Aside0.mk (Kd.R_below O0.out (HX.grown_below hg))
      refine hK.out _ _ hb (fun hHeld => ?_)
      clear hoR hb hg hnew
      clear hK K
      refine norm_ (a' := ?_) ?_ ?_
      rotate_left
      · show Act.put _ (some 91) _ = _
        simp only [Act.put, List.setIfInBounds_toArray, List.set_cons_zero, List.set_cons_succ, i64_w, i32_w]
        rfl
      refine one_ (i := 3) (N := some 83) #[true, true, true, true, false, true, true, true, true, true, true, true, false, false, false, false, false] rfl rfl (one_of HT_.out (by kernel_rfl)) (by decide) (fun K hK => ?_)
      refine Kd.R_lit_step (Kd.int .u64) (w0 := W) n1 39 ?hg (N := 83) ?hd (xs := [x]) (inner := [.int .u64 x]) (ok := fun _ => True) (okp := fun _ => False) ?hr ?hp (fun _ hk => trivial) trivial hHeld (Nat.le_trans hn hHeld.size) (by simp) ?_; (case hd => rfl); (case hg => rfl); (case hr => first | (go_simp; done) | (go_simp; rfl)); (case hp => exact reps_one (Kd.int .u64) rfl rfl)
      intro p w5 hoP hb hg hnew
      obtain ⟨AP, cP, rfl⟩ := Kd.R_slice hoP
      have OP := Aside0.mk hoP
      have KO := Aside0.mk (KO.out.trans (ko_grown hg (fun k e => by cases e)))
      have O0 := Aside0.mk (Kd.R_below O0.out (HX.grown_below hg))
      have O1 := Aside0.mk (Kd.R_below O1.out (HX.grown_below hg))
      have OR := Aside0.mk (Kd.R_below OR.out (HX.grown_below hg))
      refine hK.out _ _ hb (fun hHeld => ?_)
      clear hoP hb hg hnew
      clear hK K
      refine norm_ (a' := ?_) ?_ ?_
      rotate_left
      · show Act.put _ (some 83) _ = _
        simp only [Act.put, List.setIfInBounds_toArray, List.set_cons_zero, List.set_cons_succ, i64_w, i32_w]
        rfl
      refine one_ (i := 4) (N := some 84) #[true, true, true, true, true, true, true, true, true, true, true, true, false, false, false, false, false] rfl rfl (one_of HT_.out (by kernel_rfl)) (by decide) (fun K hK => ?_)
      refine Kd.R_append_rows_step (Kd.int .u64) (w0 := W) n1 (by rfl) (.tmp 81) (.tmp 83) 22 39 (.int .u64 0) 8 rfl Try.underlying22 info39 rfl (by decide) (by omega) v0 vs [x] _ _ _ (fun _ => True) (fun _ => False) rfl rfl O0.out (R_C OP.out).2.2 (fun _ _ h => h) (fun _ h => h.elim) (fun _ _ => trivial) hHeld (Nat.le_trans hn hHeld.size) (by have := HL.out; (try simp only [List.length_cons, List.length_nil]); omega) ?_
      intro q w5 hoQ hb hg hnew
      have OQ := Aside0.mk hoQ
      have KO := Aside0.mk (KO.out.trans (ko_grown hg (fun k e => (Kd.R_typed O0.out k e).imp fun c hc => ⟨39, hc⟩)))
      have O1 := Aside0.mk (Kd.R_grown2 O1.out rfl hg (type_ne O0.out O1.out (by decide)))
      have OR := Aside0.mk (Kd.R_grown2 OR.out rfl hg (type_ne O0.out OR.out (by decide)))
      refine hK.out _ _ hb (fun hHeld => ?_)
      clear hoQ hb hg hnew OP O0
      clear hK K
      refine norm_ (a' := ?_) ?_ ?_
      rotate_left
      · show Act.put _ (some 84) _ = _
        simp only [Act.put, List.setIfInBounds_toArray, List.set_cons_zero, List.set_cons_succ, i64_w, i32_w]
        rfl
      refine pure_ (i := 13) (N := some 93) (v := ?_) (a' := ?_) #[true, true, true, true, true, true, true, true, true, true, true, true, false, true, false, false, false] rfl rfl (any_of HT_.out (by kernel_rfl)) (fun _ _ _ h => hP _ _ _ _ h) (Or.inl ⟨by rfl, ?_⟩) ?_ ?_
      rotate_left
      · intro w'
        go_simp
        with_reducible rfl
      rotate_left
      · simp only [Act.put, List.setIfInBounds_toArray, List.set_cons_zero, List.set_cons_succ, i64_w, i32_w]
        rfl
      refine norm_ ?_ (hCont (Value.slice AP [x].length cP, q, Value.slice AR [y == 1].length cR) _ ⟨hHeld, OQ, O1, ⟨_, _, rfl, OR⟩, KO⟩)
      simp only [putAll, Act.put, List.setIfInBounds_toArray, List.set_cons_zero, List.set_cons_succ, List.length_cons, List.length_nil]
  clear KO O0 O1 hHeld
  rintro ⟨p, q, r⟩ w6 ⟨hHeld, OQ, O1, ⟨AR, cR, rfl, OR⟩, KO⟩
  refine norm_ (a' := ?_) ?_ ?_
  rotate_left
  · simp only [putAll, Act.put, List.setIfInBounds_toArray, List.set_cons_zero, List.set_cons_succ]
    rfl
  refine one_ (i := 12) (N := some 92) #[true, true, true, true, true, true, true, true, true, true, true, true, true, true, false, false, false] rfl rfl (one_of HT_.out (by kernel_rfl)) (by decide) (fun K hK => ?_)
  refine Kd.R_append_rows_step Kd.bool (w0 := W) n1 (by rfl) (.tmp 86) (.tmp 91) 23 4 (.bool false) 1 rfl Try.underlying23 info4 rfl (by decide) (by omega) v1 bs [y == 1] _ _ _ (fun _ => True) (fun _ => False) rfl rfl O1.out (R_C OR.out).2.2 (fun _ _ h => h) (fun _ h => h.elim) (fun _ _ => trivial) hHeld (Nat.le_trans hn hHeld.size) (by have := HL.out; (try simp only [List.length_cons, List.length_nil]); omega) ?_
  intro t w7 hoT hb hg hnew
  have OT := Aside0.mk hoT
  have KO := Aside0.mk (KO.out.trans (ko_grown hg (fun k e => (Kd.R_typed O1.out k e).imp fun c hc => ⟨4, hc⟩)))
  have OQ := Aside0.mk (Kd.R_grown2 OQ.out rfl hg (type_ne O1.out OQ.out (by decide)))
  refine hK.out _ _ hb (fun hHeld => ?_)
  clear hoT hb hg hnew OR O1
  clear hK K
  refine norm_ (a' := ?_) ?_ ?_
  rotate_left
  · show Act.put _ (some 92) _ = _
    simp only [Act.put, List.setIfInBounds_toArray, List.set_cons_zero, List.set_cons_succ, i64_w, i32_w]
    rfl
  obtain ⟨AQ, cQ, rfl⟩ := Kd.R_slice OQ.out
  obtain ⟨AT, cT, rfl⟩ := Kd.R_slice OT.out
  have BXw7 := Aside0.mk ((hHeld.block C hC).trans BX.out)
  have SP := Aside0.mk (Stp.of_below (C := C) hHeld KO.out)
  have NQ := Kd.R_ne OQ.out BXw7.out (by decide)
  have NT := Kd.R_ne OT.out BXw7.out (by decide)
  clear BX HY KO hHeld
  refine last_ (i := 14) (N := none) #[true, true, true, true, true, true, true, true, true, true, true, true, true, true, true, false, false] rfl rfl (one_of HT_.out (by kernel_rfl)) (by decide) (fun K hK => ?_)
  have hbx := BXw7.out
  have b0 := (blk_cell hbx 0).trans rfl
  have f0 := blk_frozen hbx 0
  refine skip_ (w1 := w7.setCell ⟨C, 0, none⟩ (.slice AQ (vs ++ [x]).length cQ)) (by rfl) rfl ?_ ?_
  · go_simp
    done
  have BXw8 := Aside0.mk (blk_put hbx 0 (.slice AQ (vs ++ [x]).length cQ) rfl)
  clear hbx b0 f0 BXw7
  refine hK.out _ _ ?_
  generalize hww8 : w7.setCell ⟨C, 0, none⟩ (.slice AQ (vs ++ [x]).length cQ) = w8 at *
  clear hK K
  refine pure_ (i := 15) (N := some 94) (v := ?_) (a' := ?_) #[true, true, true, true, true, true, true, true, true, true, true, true, true, true, true, true, false] rfl rfl (any_of HT_.out (by kernel_rfl)) (fun _ _ _ h => hP _ _ _ _ h) (Or.inl ⟨by rfl, ?_⟩) ?_ ?_
  rotate_left
  · intro w'
    go_simp
    with_reducible rfl
  rotate_left
  · simp only [Act.put, List.setIfInBounds_toArray, List.set_cons_zero, List.set_cons_succ, i64_w, i32_w]
    rfl
  refine last_ (i := 16) (N := none) #[true, true, true, true, true, true, true, true, true, true, true, true, true, true, true, true, true] rfl rfl (one_of HT_.out (by kernel_rfl)) (by decide) (fun K hK => ?_)
  have hbx := BXw8.out
  have b0 := (blk_cell hbx 1).trans rfl
  have f0 := blk_frozen hbx 1
  refine skip_ (w1 := w8.setCell ⟨C, 1, none⟩ (.slice AT (bs ++ [y == 1]).length cT)) (by rfl) rfl ?_ ?_
  · go_simp
    done
  have BXw9 := Aside0.mk (blk_put hbx 1 (.slice AT (bs ++ [y == 1]).length cT) rfl)
  clear hbx b0 f0 BXw8
  refine hK.out _ _ ?_
  generalize hww9 : w8.setCell ⟨C, 1, none⟩ (.slice AT (bs ++ [y == 1]).length cT) = w9 at *
  clear hK K
  refine done_ (done_of HT_.out (by kernel_rfl)) ?_
  have g : ∀ {α : Type} {d : Kd α} {e i : Nat} {w w' : World} {v u : Value} {l : List α}, d.E = [] → w.setCell ⟨C, i, none⟩ u = w' → some C ≠ v.ownBlock → d.R e w n1 (fun _ => True) v l → d.R e w' n1 (fun _ => True) v l := fun hE hw hne h => by subst hw; exact Kd.R_mono (Kd.R_far (Kd.R_far1 h hE hne) (p := ⟨C, _, none⟩) (fun k hk => hk.2) _) (fun _ _ => trivial)
  refine HQ.out _ _ _ _ BXw9.out (g rfl hww9 NQ (g rfl hww8 NQ OQ.out)) (g rfl hww9 NT (g rfl hww8 NT OT.out)) ?_
  rw [← hww9, ← hww8]
  exact (SP.out.trans (Stp.set _ _ _ _ _)).trans (Stp.set _ _ _ _ _)
end Go.Proofs.Ytaohmpblmlkioaa.PAll
namespace Go.Proofs.Ytaohmpblmlkioaa.RgI
open Go.RowKit Go.Proofs.Ytaohmpblmlkioaa.PAll Go.Proofs.Ytaohmpblmlkioaa.Oct Go.Proofs.Ytaohmpblmlkioaa.HX Go.Proofs.YtaohmpblmlkioaaW.PrintWords Go.Proofs.YtaohmpblmlkioaaW.PrintLast Go.Proofs.YtaohmpblmlkioaaW.PrintMore
def noDefer (ops : Array Oper) : Bool := ops.toList.all fun o => match o.op with
  | .defer _ => false
  | _ => true
theorem noDefer_spec {ops : Array Oper} (h : noDefer ops = true) : ∀ (i : Nat) (o : Oper) (c : Call), ops[i]? = some o → o.op ≠ .defer c := by
  intro i o c hi he
  have hm : o ∈ ops.toList := by
    rw [← Array.getElem?_toList] at hi
    exact List.mem_of_getElem? hi
  have := List.all_eq_true.1 h o hm
  rw [he] at this
  cases this
theorem region_at {P : Program} {ops : Array Oper} {Q : Exit → Act → World → Prop} {l n id f k : Nat} {fn : Func} {lits : Array Bool} {a : Act} {w : World} {S : World → Prop} {ds : List Nat} (ho : opsOf fn k = ops) (hn : ops.size = f) (hl : Array.replicate f false = lits) (hnd : noDefer ops = true) (hL : ¬ LetsOut Q) (hm : P.follows .mixedOrders = true) (hS : S w.drew)
    (h : wpAnyLast P .any (opsOf fn k) Q S ds f lits a w.drew) : (Code.region id ops true).wpIn (Fence.wide.inRound l) n P Q a w := by
  subst hl
  subst hn
  subst ho
  exact region_in hL (noDefer_spec hnd) hm hS (fun _ => h)
/-- What lay ahead of the loop, but for the block C. -/
structure SKeep (n1 C : Nat) (W W' : World) : Prop where
  os : W'.os = W.os
  tape : W'.tape = W.tape
  output : W'.output = W.output
  size : W.heap.size ≤ W'.heap.size
  block : ∀ k, k < n1 → k ≠ C → W'.heap[k]? = W.heap[k]?
theorem SKeep.refl (n1 C : Nat) (W : World) : SKeep n1 C W W := ⟨rfl, rfl, rfl, Nat.le_refl _, fun _ _ _ => rfl⟩
theorem SKeep.trans {n1 C : Nat} {X Y Z : World} (h : SKeep n1 C X Y) (k : SKeep n1 C Y Z) : SKeep n1 C X Z := ⟨k.os.trans h.os, k.tape.trans h.tape, k.output.trans h.output, Nat.le_trans h.size k.size, fun i a b => (k.block i a b).trans (h.block i a b)⟩
theorem SKeep.of_stp {n1 C : Nat} {W W' : World} (h : Stp n1 C W W') : SKeep n1 C W W' := ⟨h.os, h.tape, h.output, h.others.size, h.block⟩
theorem SKeep.below {n0 n1 C : Nat} {W W' : World} (h : SKeep n1 C W W') (h1 : n0 ≤ n1) (h2 : n0 ≤ C) : Below n0 W W' := ⟨h.os, h.tape, h.output, h.size, fun k hk => h.block k (by omega) (by omega)⟩
theorem Stp.of_below' {n1 C : Nat} {W W' : World} (h : Below W.heap.size W W') (hn : n1 ≤ W.heap.size) : Stp n1 C W W' := ⟨h.os, h.tape, h.output, fun k a _ => h.block k (by omega), ⟨h.size, fun k o hk _ => (h.block k (Array.getElem?_eq_some_iff.1 hk).1).trans hk⟩⟩
def SInv (n1 C : Nat) (W0 : World) (body : List Int) (m : Nat) (pre : List (Fin m)) (W : World) : Prop :=
  ∃ v0 v1, W.heap[C]? = some (.cells #[v0, v1] 25 (0, 0)) ∧ Kd.R (Kd.int .u64) 39 W n1 (fun _ => True) v0 ((pre.map fun i => vat body i.1).map Prod.fst) ∧ Kd.R Kd.bool 4 W n1 (fun _ => True) v1 ((pre.map fun i => vat body i.1).map Prod.snd) ∧ SKeep n1 C W0 W
theorem sinv_own {n1 C : Nat} {W0 : World} {body : List Int} {m : Nat} (hC : C < n1) (hn : n1 ≤ W0.heap.size) : OwnFrom n1 (SInv n1 C W0 body m) := by
  rintro pre W W' row ⟨v0, v1, hb, h0, h1, hk⟩ hg hr
  have hne : ∀ {α : Type} {d : Kd α} {e : Nat} {v : Value} {xs : List α}, d.R e W n1 (fun _ => True) v xs → ∀ k, row = some k → some k ≠ v.ownBlock := by
    intro α d e v xs h k hk he
    obtain ⟨o, ho⟩ := (hr k hk).2
    obtain ⟨c, hc⟩ := Kd.R_typed h k he.symm
    rw [hc] at ho
    cases ho.1
    cases ho.2
  refine ⟨v0, v1, blk_grown hb hg (fun e => by have := (hr C e.symm).1; omega), Kd.R_grown2 h0 rfl hg (hne h0), Kd.R_grown2 h1 rfl hg (hne h1), hk.trans ⟨hg.os, hg.tape, hg.output, hg.size, fun k hk' _ => hg.block k (by have := hk.size; omega) (fun e => by have := (hr k e.symm).1; omega)⟩⟩
theorem sinv_start {n1 C : Nat} {W0 : World} {body : List Int} {m : Nat} (h : W0.heap[C]? = some (.cells #[.slice none 0 0, .slice none 0 0] 25 (0, 0))) : SInv n1 C W0 body m [] W0 :=
  ⟨_, _, h, Kd.R_nil _ _ _ _ _, Kd.R_nil _ _ _ _ _, SKeep.refl _ _ _⟩
theorem come_vats (body : List Int) (m : Nat) : (Chk.come m m).map (fun i => vat body i.1) = vats body m := by
  apply List.ext_getElem
  · simp [Chk.come, vats]
  · intro i h1 h2
    simp [Chk.come, vats]
end Go.Proofs.Ytaohmpblmlkioaa.RgI
