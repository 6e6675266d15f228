/- Words for walks by hand: a cut to a bound. -/
import Derived.Test.YtaohmpblmlkioaaHW
namespace Go.Proofs.Ytaohmpblmlkioaa.HX
open Go.RowKit Go.Proofs.YtaohmpblmlkioaaW.PrintWords Go.Proofs.YtaohmpblmlkioaaW.PrintLast Go.Proofs.YtaohmpblmlkioaaW.PrintMore
/-- 'b[:min(len(b), m)]' of a row that is read. -/
theorem cut_min {P : Program} {α : Type} {d : Kd α} {w : World} (t e : TypeId) (ht : P.underlying t = some (.slice e)) {z : Value} {s b : Nat} (hi : (P.info? e).map (fun i => (i.zero, i.size, i.bytes)) = some (some z, s, b)) {A : Option Addr} {c : Nat} {l : List α} (h : d.C w A l.length l) (hc : l.length ≤ c) (m : Nat) :
    ∃ q, q = l.take m ∧ (if (m : Int) < (l.length : Int) then (m : Int) else (l.length : Int)) = (q.length : Int) ∧ (∀ W : World, (Instr.slice t (.slice A l.length c) none (some (.int .i64 (q.length : Int))) none).run P W = .ok (.slice A q.length c) W) ∧ d.C w A q.length q ∧ q.length ≤ c ∧ q.length ≤ m := by
  obtain ⟨i, hi, _⟩ := Option.map_eq_some_iff.1 hi
  have hl : (l.take m).length ≤ l.length := by rw [List.length_take]; omega
  refine ⟨l.take m, rfl, ?_, fun W => ?_, ?_, by omega, by rw [List.length_take]; omega⟩
  · rw [List.length_take]; split <;> omega
  · have := cut_to (P := P) t e .i64 ht hi A l.length c ((l.take m).length : Int) (by omega) (by omega) hc W
    simpa using this
  · have := Kd.C_take (m := min m l.length) h (Nat.min_le_right _ _)
    have e : l.take (min m l.length) = l.take m := by
      by_cases g : m ≤ l.length
      · rw [Nat.min_eq_left g]
      · rw [Nat.min_eq_right (by omega), List.take_length, List.take_of_length_le (by omega)]
    rwa [e] at this
/-- 'b[:j]'. -/
theorem cut_at {P : Program} {α : Type} {d : Kd α} {w : World} (t e : TypeId) (ht : P.underlying t = some (.slice e)) {z : Value} {s b : Nat} (hi : (P.info? e).map (fun i => (i.zero, i.size, i.bytes)) = some (some z, s, b)) {A : Option Addr} {c : Nat} {l : List α} (h : d.C w A l.length l) (hc : l.length ≤ c) (j : Int) (h0 : 0 ≤ j) (h1 : j ≤ l.length) :
    ∃ q, q = l.take j.toNat ∧ j = (q.length : Int) ∧ (∀ W : World, (Instr.slice t (.slice A l.length c) none (some (.int .i64 j)) none).run P W = .ok (.slice A q.length c) W) ∧ d.C w A q.length q ∧ q.length ≤ c := by
  obtain ⟨i, hi, _⟩ := Option.map_eq_some_iff.1 hi
  have hl : (l.take j.toNat).length = j.toNat := by rw [List.length_take]; omega
  refine ⟨l.take j.toNat, rfl, by omega, fun W => ?_, ?_, by omega⟩
  · have := cut_to (P := P) t e .i64 ht hi A l.length c j h0 h1 hc W
    rwa [hl]
  · exact Kd.C_take h (by omega)
/-- 'b[j:]'. -/
theorem cut_off {P : Program} {α : Type} {d : Kd α} {w : World} (t e : TypeId) (ht : P.underlying t = some (.slice e)) {z : Value} {b : Nat} (hi : (P.info? e).map (fun i => (i.zero, i.size, i.bytes)) = some (some z, d.sz, b)) {A : Option Addr} {c : Nat} {l : List α} (h : d.C w A l.length l) (hc : l.length ≤ c) (j : Int) (h0 : 0 ≤ j) (h1 : j ≤ l.length) :
    ∃ q A', q = l.drop j.toNat ∧ (∀ W : World, (Instr.slice t (.slice A l.length c) (some (.int .i64 j)) none none).run P W = .ok (.slice A' q.length (c - j.toNat)) W) ∧ d.C w A' q.length q ∧ q.length ≤ c - j.toNat := by
  obtain ⟨i, hi, hz⟩ := Option.map_eq_some_iff.1 hi
  simp only [Prod.mk.injEq] at hz
  refine ⟨l.drop j.toNat, _, rfl, fun W => ?_, Kd.C_drop h (m := j.toNat) (by omega) hc, by rw [List.length_drop]; omega⟩
  have := cut_from (P := P) t e .i64 ht hi d.sz hz.2.1 A l.length c j h0 h1 W
  rwa [List.length_drop]
theorem R_C {α : Type} {d : Kd α} {e base : Nat} {ok : Nat → Prop} {w : World} {A : Option Addr} {n c : Nat} {l : List α} (h : d.R e w base ok (.slice A n c) l) : n = l.length ∧ l.length ≤ c ∧ d.C w A l.length l := by
  obtain ⟨A', c', he, hl, hC⟩ := Kd.R_reads h
  injection he with h1 h2 h3
  subst h1 h2 h3
  exact ⟨rfl, hl, hC⟩
/-- A row of rows that came in. -/
theorem rows_C {w : World} {k : IntKind} {e base : Nat} (a : Addr) (len cap : Nat) (A : Nat → Option Addr) (L C : Nat → Nat) (Z : Nat → List Int) (hl : len ≤ cap) (hm : cap ≤ maxLen)
    (h : ∀ r, r < cap → w.cell? (a.add r) = some (.slice (A r) (L r) (C r)) ∧ L r ≤ C r ∧ C r ≤ maxLen ∧ (Z r).length = C r ∧ (∀ n ∈ Z r, (Lit.int k n).wf = true) ∧ (A r = none → C r = 0) ∧
        ∀ a', A r = some a' → base ≤ a'.block ∧ ∀ c, c < C r → w.cell? (a'.add c) = some (.int k ((Z r).getD c 0))) :
    ∃ ls : List (List Int), ls.length = len ∧ Kd.C (Kd.slice e (Kd.int k)) w (some a) ls.length ls ∧ ∀ t ∈ ls, ∀ n ∈ t, (Lit.int k n).wf = true := by
  refine ⟨(List.range len).map fun r => (Z r).take (L r), by simp, ⟨rfl, by unfold maxLen at hm; simp; omega, fun hn => ⟨a, rfl, fun j p hj => ?_⟩⟩, fun t ht n hn => ?_⟩
  · have hj' : j < len := by
      have := (List.getElem?_eq_some_iff.1 hj).1
      simpa using this
    have hp : (Z j).take (L j) = p := by
      rw [List.getElem?_map, List.getElem?_range hj'] at hj
      simpa using hj
    obtain ⟨h1, h2, h3, h4, h5, h6, h7⟩ := h j (by omega)
    have hlen : p.length = L j := by rw [← hp, List.length_take]; omega
    refine ⟨[.slice (A j) p.length (C j)], rfl, ⟨A j, C j, rfl, by omega, ⟨rfl, by unfold maxLen at h3; omega, fun h0 => ?_⟩⟩, fun i u hi => ?_⟩
    · cases hA : A j with
      | none => have := h6 hA; omega
      | some a' =>
        refine ⟨a', rfl, fun i x hi => ⟨[.int k x], rfl, rfl, fun q u hq => ?_⟩⟩
        have hi' : i < p.length := (List.getElem?_eq_some_iff.1 hi).1
        have hx : (Z j).getD i 0 = x := by
          rw [← hp, List.getElem?_take] at hi
          split at hi
          · rw [List.getD_eq_getElem?_getD, hi]; rfl
          · exact absurd hi (by simp)
        have hq0 : q = 0 := by
          have := (List.getElem?_eq_some_iff.1 hq).1
          simpa using this
        subst hq0
        have hu : u = .int k x := by simpa using hq.symm
        subst hu
        have := (h7 a' hA).2 i (by omega)
        rw [hx] at this
        simpa [Kd.int, Kd.scalar] using this
    · have hi0 : i = 0 := by
        have := (List.getElem?_eq_some_iff.1 hi).1
        simpa using this
      subst hi0
      have hu : u = .slice (A j) p.length (C j) := by simpa using hi.symm
      subst hu
      rw [hlen]
      simpa [Kd.slice] using h1
  · obtain ⟨r, hr, rfl⟩ := List.mem_map.1 ht
    have hr' : r < len := List.mem_range.1 hr
    exact (h r (by omega)).2.2.2.2.1 n (List.mem_of_mem_take hn)
theorem own_new {v : Value} {n : Nat} (h : ∃ b, v.ownBlock = some b ∧ n ≤ b) : ∀ k, v.ownBlock = some k → n ≤ k := by
  rintro k hk
  obtain ⟨b, e1, e2⟩ := h
  rw [e1] at hk
  cases hk
  exact e2
theorem own_then {v v1 : Value} {n m : Nat} (h : ∀ k, v.ownBlock = some k → n ≤ k) (hnm : n ≤ m) (h1 : v1.ownBlock = v.ownBlock ∨ ∃ b, v1.ownBlock = some b ∧ m ≤ b) : ∀ k, v1.ownBlock = some k → n ≤ k := by
  rcases h1 with h1 | h1
  · rw [h1]; exact h
  · exact fun k hk => Nat.le_trans hnm (own_new h1 k hk)
theorem grown_below {w w1 : World} (h : w.grownBy w1 none) : Below w.heap.size w w1 := (Below.refl _ _).grown h (Nat.le_refl _) (fun k e => by cases e)
end Go.Proofs.Ytaohmpblmlkioaa.HX
