/- slices.Chunk of bytes by nine: what its iterator does. Conditions: the length is nine times m. -/
import Derived.Test.YtaohmpblmlkioaaPAllx2
import Derived.Sort.QuietIn
namespace Go.Proofs.Ytaohmpblmlkioaa.Chk
open Go.RowKit Go.Proofs.Ytaohmpblmlkioaa.PAll Go.Proofs.YtaohmpblmlkioaaW.PrintWords Go.Proofs.YtaohmpblmlkioaaW.PrintLast Go.Proofs.YtaohmpblmlkioaaW.PrintMore
attribute [local go_sem] max2_int min2_int max_two min_two max_three min_three max_four min_four   -- for this text's walks alone
set_option linter.unusedVariables false
set_option linter.unusedSimpArgs false
/-- What has come when k rounds are over. -/
def come (m k : Nat) : List (Fin m) := (List.finRange m).take k
theorem come_zero (m : Nat) : come m 0 = [] := rfl
theorem come_succ {m k : Nat} (h : k < m) : come m (k + 1) = come m k ++ [⟨k, h⟩] := by
  unfold come
  rw [List.take_succ_eq_append_getElem (by simpa using h)]
  simp
theorem come_length {m k : Nat} (h : k ≤ m) : (come m k).length = k := by simp [come]; omega
/-- What a round must keep: what lay, and the iterator's own boxes. -/
def Kp (n₀ Bs Bn : Nat) (A B : World) : Prop := Below n₀ A B ∧ (∀ v, A.cell? ⟨Bs, 0, none⟩ = some v → B.cell? ⟨Bs, 0, none⟩ = some v) ∧ ∀ v, A.cell? ⟨Bn, 0, none⟩ = some v → B.cell? ⟨Bn, 0, none⟩ = some v
theorem Kp_t {n₀ Bs Bn : Nat} {A B C : World} (h : Kp n₀ Bs Bn A B) (k : Kp n₀ Bs Bn B C) : Kp n₀ Bs Bn A C := ⟨h.1.trans k.1, fun v hv => k.2.1 v (h.2.1 v hv), fun v hv => k.2.2 v (h.2.2 v hv)⟩
theorem Kp_b {n₀ Bs Bn : Nat} {w : World} (hn : n₀ ≤ w.heap.size) (W : World) (l : Nat) (o o' : Obj) (hl : w.heap.size ≤ l) (h : W.heap[l]? = some o) (hc : o.isCells = false) (hw : o.isWalk = false) : Kp n₀ Bs Bn W (W.putObj l o') :=
  ⟨belowK_b hn W l o o' hl h hc hw, fun v hv => cell_kept hv (grownBy_putObj' W l o') (fun r e => by cases e; exact ⟨_, h, hc⟩), fun v hv => cell_kept hv (grownBy_putObj' W l o') (fun r e => by cases e; exact ⟨_, h, hc⟩)⟩
theorem Kp_drewN {n₀ Bs Bn : Nat} {A B : World} (h : Kp n₀ Bs Bn A B) (n : Nat) : Kp n₀ Bs Bn A (B.drewN n) := ⟨pw_below_drewN h.1 n, h.2⟩
theorem chk_size (W : World) : (sizeOf (Try.prog.elem 28)).run Try.prog W = .ok 1 W := by kernel_rfl
theorem chk_l (ad : Addr) (len cap : Nat) (x : Int) (h0 : 0 ≤ x) (h1 : x ≤ len) (W : World) : (Instr.slice 28 (.slice (some ad) len cap) (some (.int .i64 x)) none none).run Try.prog W = .ok (sliced (some ad) x.toNat len cap 1) W := by
  rw [run_slice_l W 28 (some ad) len cap (by kernel_rfl) .i64 x h0 h1, chk_size]; rfl
theorem chk_lhm (ad : Addr) (len cap : Nat) (j : Nat) (h1 : 9 * j + 9 ≤ cap) (W : World) : (Instr.slice 28 (.slice (some ad) len cap) (some (.int .i64 (9 * (j : Int)))) (some (.int .i64 (9 * (j : Int) + 9))) (some (.int .i64 (9 * (j : Int) + 9)))).run Try.prog W = .ok (.slice (some (ad.add (9 * j))) 9 9) W := by
  rw [run_slice_lhm W 28 (some ad) len cap (by kernel_rfl) .i64 .i64 .i64 _ _ _ (by omega) (by omega) (by omega) (by omega), chk_size]
  simp only [Result.andThen, sliced, show (9 * (j : Int)).toNat = 9 * j by omega, show (9 * (j : Int) + 9).toNat = 9 * j + 9 by omega]
  rw [if_neg (by omega), show 9 * j + 9 - 9 * j = 9 by omega]
  simp
section
attribute [local go_sem] Oper.semAt_some
set_option maxRecDepth 100000 in
set_option maxHeartbeats 2000000 in
theorem chunk1 (n : Nat) (hn : 1 ≤ n) (l Bs Bn n₀ cap len m : Nat) (ad : Addr) (hlen : len = 9 * m) (hcap : len ≤ cap) (hreach : len ≤ 140737488351232) (J Jx : List (Fin m) → World → Prop)
    (hJd : ∀ pre W n, J pre W → J pre (W.drewN n))
    (hY : ∀ pre (x : Fin m) W, J pre W → pre.length < m → YieldAt Fence.wide (n - 1) Try.prog l #[.slice (some (ad.add (9 * x.1))) 9 9] W fun e W' =>
      (e = .returned (.bool true) ∧ J (pre ++ [x]) W' ∧ Kp n₀ Bs Bn W W') ∨ (e = .returned (.bool false) ∧ Jx (pre ++ [x]) W'))
    (W : World) (hBs : W.cell? ⟨Bs, 0, none⟩ = some (.slice (some ad) len cap)) (hBn : W.cell? ⟨Bn, 0, none⟩ = some (.int .i64 9)) (h0 : J [] W) :
    CallsIn Fence.wide n Try.prog 35 #[.func (.yield l) #[] #[], .pointer (some ⟨Bs, 0, none⟩), .pointer (some ⟨Bn, 0, none⟩)] W fun e W' => (∃ v, e = .returned v) ∧
      ((∃ ys, ys = come m m ∧ J ys W') ∨ (∃ pre, (∃ k, k ≤ m ∧ pre = come m k) ∧ Jx pre W')) := by
  refine callsIn_of_wp Try.func35 rfl trivial ?_ rfl
  simp only [Try.ntmps35, List.size_toArray, List.length_cons, List.length_nil, Nat.reduceAdd, Nat.reduceSub, Array.replicate_succ, Array.replicate_zero, List.push_toArray, List.append_toArray, List.nil_append, List.cons_append]
  gi_wp2
  gi_loopw [4] (fun i wr => ∃ (k : Nat), k ≤ m ∧ i = .int .i64 (9 * (k : Int)) ∧ J (come m k) wr ∧ Aside0 (Kp n₀ Bs Bn W wr))
    (fun i _ => m - (intOf i / 9).toNat)
  case atStart => exact ⟨0, Nat.zero_le _, by simp, by simpa [come_zero] using h0, ⟨Below.refl _ _, fun _ h => h, fun _ h => h⟩⟩
  case round =>
    obtain ⟨k, hk, rfl, hJs, hnx⟩ := hrel
    have hBx := hnx.out.2.1 _ hBs
    have hBy := hnx.out.2.2 _ hBn
    have HJ := Aside0.mk hJs
    clear hJs
    by_cases hlt : k < m
    · have hs1 := chk_l ad len cap (9 * (k : Int)) (by omega) (by omega)
      have hs2 := chk_lhm ad len cap k (by omega)
      have d1 : decide (9 * (k : Int) < (len : Int)) = true := decide_eq_true (by omega)
      have hw2 : IntKind.i64.wrap (9 * (k : Int) + 9) = 9 * (k : Int) + 9 := IntWalk.i64_in _ (by omega)
      gi_wp2
      gi_quiet (fail)
      have hBx3 : (wr.drewN nq).cell? ⟨Bs, 0, none⟩ = some (.slice (some ad) len cap) := hBx
      have hBy3 : (wr.drewN nq).cell? ⟨Bn, 0, none⟩ = some (.int .i64 9) := hBy
      have HK := Aside0.mk (Kp_drewN hnx.out nq)
      have HJ3 := hJd _ _ nq HJ.out
      clear hnx HJ hBx hBy
      generalize wr.drewN nq = wq at *
      obtain ⟨fn, tmps, assign, body, hy, hR⟩ := hY _ ⟨k, hlt⟩ wq HJ3 (by rw [come_length hk]; exact hlt)
      dsimp only at hy
      have HJQ := Aside0.mk HJ3
      clear HJ3 hs1
      gi_wp2
      refine hR.mono ?_
      rintro e W3 (⟨rfl, hJ3, hk3⟩ | ⟨rfl, hJx3⟩)
      · have hBx4 := hk3.2.1 _ hBx3
        have hBy4 := hk3.2.2 _ hBy3
        have HK3 := Aside0.mk (Kp_t HK.out hk3)
        rw [← come_succ hlt] at hJ3
        have HJ4 := Aside0.mk hJ3
        clear hk3 hJ3 HK
        gi_wp2
        go_roundw
        case rel => exact ⟨k + 1, hlt, by first | rfl | (congr 1; omega), HJ4.out, HK3⟩
        case measure => simp [intOf]; omega
      · rw [← come_succ hlt] at hJx3
        have HJx := Aside0.mk hJx3
        clear hJx3
        gi_wp2
        refine bodyPost_ret (results_none rfl _ _ _) rfl ?_
        exact ⟨⟨_, rfl⟩, .inr ⟨_, ⟨k + 1, hlt, rfl⟩, HJx.out⟩⟩
    · obtain rfl : k = m := by omega
      have d1 : decide (9 * (k : Int) < (len : Int)) = false := decide_eq_false (by omega)
      gi_wp2
      go_end0
      exact ⟨⟨_, rfl⟩, .inl ⟨_, rfl, HJ.out⟩⟩
set_option maxRecDepth 100000 in
set_option maxHeartbeats 1000000 in
/-- .. of no bytes: no round. -/
theorem chunk0 (n : Nat) (l Bs Bn c : Nat) (A : Option Addr) (J : World → Prop) (W : World) (hBs : W.cell? ⟨Bs, 0, none⟩ = some (.slice A 0 c)) (h0 : J W) :
    CallsIn Fence.wide n Try.prog 35 #[.func (.yield l) #[] #[], .pointer (some ⟨Bs, 0, none⟩), .pointer (some ⟨Bn, 0, none⟩)] W fun e W' => (∃ v, e = .returned v) ∧ J W' := by
  refine callsIn_of_wp Try.func35 rfl trivial ?_ rfl
  simp only [Try.ntmps35, List.size_toArray, List.length_cons, List.length_nil, Nat.reduceAdd, Nat.reduceSub, Array.replicate_succ, Array.replicate_zero, List.push_toArray, List.append_toArray, List.nil_append, List.cons_append]
  gi_wp2
  gi_loopw [4] (fun i wr => i = .int .i64 0 ∧ Aside0 (J wr) ∧ wr.cell? ⟨Bs, 0, none⟩ = some (.slice A 0 c)) (fun _ _ => 0)
  case atStart => exact ⟨rfl, ⟨h0⟩, hBs⟩
  case round =>
    obtain ⟨rfl, hJs, hB⟩ := hrel
    gi_wp2
    go_end0
    exact ⟨⟨_, rfl⟩, hJs.out⟩
set_option maxHeartbeats 1000000 in
theorem chunk (n : Nat) (a : Option Addr) (len cap : Nat) (w : World) :
    CallsIn Fence.wide n Try.prog 25 #[.slice a len cap, .int .i64 9] w fun e w' => e = .returned (.func (.func 35) #[] #[.pointer (some ⟨w.heap.size, 0, none⟩), .pointer (some ⟨w.heap.size + 1, 0, none⟩)]) ∧ w' = (w.alloc (.cells #[.slice a len cap] 28)).alloc (.cells #[.int .i64 9] 3) := by
  refine callsIn_of_wp Try.func25 rfl trivial ?_ rfl
  simp only [Try.ntmps25, List.size_toArray, List.length_cons, List.length_nil, Nat.reduceAdd, Nat.reduceSub, Array.replicate_succ, Array.replicate_zero, List.push_toArray, List.append_toArray, List.nil_append, List.cons_append]
  have bN := (Boxed.new (w.alloc (.cells #[.slice a len cap] 28)) 3 (.int .i64 9)).cell
  rw [World.size_alloc] at bN
  gi_wp2
  go_ret
  exact ⟨rfl, rfl⟩
theorem stops (n : Nat) (hn : 1 ≤ n) (Bs Bn n₀ cap m : Nat) (A : Option Addr) (zs : List Int) (w : World) (hBs : Bs < w.heap.size) (hBn : Bn < w.heap.size) (hreach : zs.length ≤ 140737488351232) (hm : zs.length = 9 * m) (hcap : zs.length ≤ cap)
    (hc : w.cell? ⟨Bs, 0, none⟩ = some (.slice A zs.length cap)) (hn9 : w.cell? ⟨Bn, 0, none⟩ = some (.int .i64 9)) (hC : Kd.C (Kd.int .u8) w A zs.length zs) :
    SeqStopsK Fence.wide n Try.prog 35 #[.pointer (some ⟨Bs, 0, none⟩), .pointer (some ⟨Bn, 0, none⟩)] (fun x : Fin m => #[Value.slice (A.map (·.add (9 * x.1))) 9 9]) (Kp n₀ Bs Bn) (fun ys => ys = come m m)
      (fun pre => ∃ k, k ≤ m ∧ pre = come m k) m w := fun l J Jx W hW hJ _ hY h0 => by
  have hc' := (hW.cell (p := ⟨Bs, 0, none⟩) hBs).trans hc
  have hn' := (hW.cell (p := ⟨Bn, 0, none⟩) hBn).trans hn9
  by_cases hz : 0 < zs.length
  · obtain ⟨ad, rfl, _⟩ := hC.2.2 hz
    exact chunk1 n hn l Bs Bn n₀ cap zs.length m ad hm hcap hreach J Jx (fun pre W1 k h => hJ pre W1 _ none h ⟨rfl, rfl, rfl, Nat.le_refl _, fun _ _ _ => rfl⟩ (fun r e => by cases e)) hY W hc' hn' h0
  · have hz0 : zs = [] := List.eq_nil_of_length_eq_zero (by omega)
    subst hz0
    obtain rfl : m = 0 := by simp at hm; omega
    exact (chunk0 n l Bs Bn cap A (J []) W hc' h0).mono fun e W' ⟨he, hj⟩ => ⟨he, .inl ⟨_, rfl, hj⟩⟩
end
end Go.Proofs.Ytaohmpblmlkioaa.Chk
