/- The rows that a config's reading grows: what holds round by round. -/
import Derived.Test.YtaohmpblmlkioaaStD
import Derived.Test.YtaohmpblmlkioaaStE
import Derived.Test.YtaohmpblmlkioaaChk
namespace Go.Proofs.Ytaohmpblmlkioaa.RgI
open Go.RowKit Go.Proofs.Ytaohmpblmlkioaa.PAll Go.Proofs.Ytaohmpblmlkioaa.Oct Go.Proofs.Ytaohmpblmlkioaa.HX Go.Proofs.YtaohmpblmlkioaaW.PrintWords Go.Proofs.YtaohmpblmlkioaaW.PrintLast Go.Proofs.YtaohmpblmlkioaaW.PrintMore
def noDefer (ops : Array Oper) : Bool := ops.toList.all fun o => match o.op with
  | .defer _ => false
  | _ => true
theorem noDefer_spec {ops : Array Oper} (h : noDefer ops = true) : ∀ (i : Nat) (o : Oper) (c : Call), ops[i]? = some o → o.op ≠ .defer c := by
  intro i o c hi he
  have hm : o ∈ ops.toList := by
    rw [← Array.getElem?_toList] at hi
    exact List.mem_of_getElem? hi
  have := List.all_eq_true.1 h o hm
  rw [he] at this
  cases this
theorem region_at {P : Program} {ops : Array Oper} {Q : Exit → Act → World → Prop} {l n id f k : Nat} {fn : Func} {lits : Array Bool} {a : Act} {w : World} {S : World → Prop} {ds : List Nat} (ho : opsOf fn k = ops) (hn : ops.size = f) (hl : Array.replicate f false = lits) (hnd : noDefer ops = true) (hL : ¬ LetsOut Q) (hm : P.follows .mixedOrders = true) (hS : S w.drew)
    (h : wpAnyLast P .any (opsOf fn k) Q S ds f lits a w.drew) : (Code.region id ops true).wpIn (Fence.wide.inRound l) n P Q a w := by
  subst hl
  subst hn
  subst ho
  exact region_in hL (noDefer_spec hnd) hm hS (fun _ => h)
/-- What lay ahead of the loop, but for the block C. -/
structure SKeep (n1 C : Nat) (W W' : World) : Prop where
  os : W'.os = W.os
  tape : W'.tape = W.tape
  output : W'.output = W.output
  size : W.heap.size ≤ W'.heap.size
  block : ∀ k, k < n1 → k ≠ C → W'.heap[k]? = W.heap[k]?
theorem SKeep.refl (n1 C : Nat) (W : World) : SKeep n1 C W W := ⟨rfl, rfl, rfl, Nat.le_refl _, fun _ _ _ => rfl⟩
theorem SKeep.trans {n1 C : Nat} {X Y Z : World} (h : SKeep n1 C X Y) (k : SKeep n1 C Y Z) : SKeep n1 C X Z := ⟨k.os.trans h.os, k.tape.trans h.tape, k.output.trans h.output, Nat.le_trans h.size k.size, fun i a b => (k.block i a b).trans (h.block i a b)⟩
theorem SKeep.of_stp {n1 C : Nat} {W W' : World} (h : Stp n1 C W W') : SKeep n1 C W W' := ⟨h.os, h.tape, h.output, h.others.size, h.block⟩
theorem SKeep.below {n0 n1 C : Nat} {W W' : World} (h : SKeep n1 C W W') (h1 : n0 ≤ n1) (h2 : n0 ≤ C) : Below n0 W W' := ⟨h.os, h.tape, h.output, h.size, fun k hk => h.block k (by omega) (by omega)⟩
theorem Stp.of_below' {n1 C : Nat} {W W' : World} (h : Below W.heap.size W W') (hn : n1 ≤ W.heap.size) : Stp n1 C W W' := ⟨h.os, h.tape, h.output, fun k a _ => h.block k (by omega), ⟨h.size, fun k o hk _ => (h.block k (Array.getElem?_eq_some_iff.1 hk).1).trans hk⟩⟩
def SInv (n1 C : Nat) (W0 : World) (body : List Int) (m : Nat) (pre : List (Fin m)) (W : World) : Prop :=
  ∃ v0 v1, W.heap[C]? = some (.cells #[v0, v1] 25 (0, 0)) ∧ Kd.R (Kd.int .u64) 39 W n1 (fun _ => True) v0 ((pre.map fun i => vat body i.1).map Prod.fst) ∧ Kd.R Kd.bool 4 W n1 (fun _ => True) v1 ((pre.map fun i => vat body i.1).map Prod.snd) ∧ SKeep n1 C W0 W
theorem sinv_own {n1 C : Nat} {W0 : World} {body : List Int} {m : Nat} (hC : C < n1) (hn : n1 ≤ W0.heap.size) : OwnFrom n1 (SInv n1 C W0 body m) := by
  rintro pre W W' row ⟨v0, v1, hb, h0, h1, hk⟩ hg hr
  have hne : ∀ {α : Type} {d : Kd α} {e : Nat} {v : Value} {xs : List α}, d.R e W n1 (fun _ => True) v xs → ∀ k, row = some k → some k ≠ v.ownBlock := by
    intro α d e v xs h k hk he
    obtain ⟨o, ho⟩ := (hr k hk).2
    obtain ⟨c, hc⟩ := Kd.R_typed h k he.symm
    rw [hc] at ho
    cases ho.1
    cases ho.2
  refine ⟨v0, v1, blk_grown hb hg (fun e => by have := (hr C e.symm).1; omega), Kd.R_grown2 h0 rfl hg (hne h0), Kd.R_grown2 h1 rfl hg (hne h1), hk.trans ⟨hg.os, hg.tape, hg.output, hg.size, fun k hk' _ => hg.block k (by have := hk.size; omega) (fun e => by have := (hr k e.symm).1; omega)⟩⟩
theorem sinv_start {n1 C : Nat} {W0 : World} {body : List Int} {m : Nat} (h : W0.heap[C]? = some (.cells #[.slice none 0 0, .slice none 0 0] 25 (0, 0))) : SInv n1 C W0 body m [] W0 :=
  ⟨_, _, h, Kd.R_nil _ _ _ _ _, Kd.R_nil _ _ _ _ _, SKeep.refl _ _ _⟩
theorem come_vats (body : List Int) (m : Nat) : (Chk.come m m).map (fun i => vat body i.1) = vats body m := by
  apply List.ext_getElem
  · simp [Chk.come, vats]
  · intro i h1 h2
    simp [Chk.come, vats]
end Go.Proofs.Ytaohmpblmlkioaa.RgI
