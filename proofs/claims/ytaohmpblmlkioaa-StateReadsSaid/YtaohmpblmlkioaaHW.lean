/- Words of this work, beside the print's: a slice that is made of a constant text is marked by the run time; it reads as it did, and nothing else is turned. -/
import Derived.Test.YtaohmpblmlkioaaWMore
namespace Go.Proofs.Ytaohmpblmlkioaa.HW
open Go.RowKit Go.Proofs.YtaohmpblmlkioaaW.PrintWords Go.Proofs.YtaohmpblmlkioaaW.PrintLast Go.Proofs.YtaohmpblmlkioaaW.PrintMore

theorem cell_marked (w : World) (a : Addr) (n : Nat) (p : Addr) : (w.freeze a n).cell? p = w.cell? p := by
  unfold World.freeze
  split
  · rfl
  · unfold World.cell?
    simp only [Array.getElem?_modify]
    by_cases h : a.block = p.block
    · rw [if_pos h]
      cases hh : w.heap[p.block]? with
      | none => rfl
      | some o => cases o <;> rfl
    · rw [if_neg h]
theorem grown_marked (w : World) (a : Addr) (n : Nat) : w.grownBy (w.freeze a n) (some a.block) := by
  unfold World.freeze
  split
  · exact ⟨rfl, rfl, rfl, Nat.le_refl _, fun _ _ _ => rfl⟩
  · refine ⟨rfl, rfl, rfl, by simp, fun k _ hk => ?_⟩
    simp only [Array.getElem?_modify]
    rw [if_neg (fun e => hk (by rw [e]))]
theorem conv_self {P : Program} {t e : TypeId} (ht : P.underlying t = some (.slice e)) (he : P.underlying e = some (.int .u8)) {W : World} {base : Nat} {ok : Nat → Prop} {A : Option Addr} {n c : Nat} {xs : List Int}
    (HO : Kd.R (Kd.int .u8) e W base ok (.slice A n c) xs) (hn : 0 < n) :
    ∃ g w2, A = some ⟨g, 0, none⟩ ∧ (convert t t (.slice A n c)).run P W = .ok (.slice A n c) w2 ∧ W.grownBy w2 (some g) ∧ ∀ p, w2.cell? p = W.cell? p := by
  obtain ⟨inner, hown⟩ := Kd.R_own HO
  rcases hown.2 with ⟨h, _⟩ | ⟨g, cap, cur, h, _, hh, _⟩
  · injection h with h1 h2; omega
  · injection h with h1 h2 h3
    subst h1
    have hsh : W.shape? g = some (e, cur.size) := by
      unfold World.shape?
      rw [hh]
    refine ⟨g, W.freeze ⟨g, cur.size, none⟩ 1, rfl, ?_, grown_marked W ⟨g, cur.size, none⟩ 1, cell_marked W _ 1⟩
    simp [convert, run_underlying ht, run_underlying he, markStringish, hsh]
theorem C_cells {α : Type} {d : Kd α} (hd : ∀ {w w1 : World} {x cs}, d.K w x cs → d.K w1 x cs) {w w1 : World} {A : Option Addr} {n : Nat} {xs : List α} (h : d.C w A n xs) (hc : ∀ p, w1.cell? p = w.cell? p) : d.C w1 A n xs := by
  refine ⟨h.1, h.2.1, fun hn => ?_⟩
  obtain ⟨ad, e, h3⟩ := h.2.2 hn
  refine ⟨ad, e, fun j p hj => ?_⟩
  obtain ⟨c, hl, hk, hcc⟩ := h3 j p hj
  exact ⟨c, hl, hd hk, fun i u hu => (hc _).trans (hcc i u hu)⟩
theorem C_block {w1 w2 : World} {ad : Addr} {n : Nat} {xs : List Int} (hC : (Kd.int .u8).C w1 (some ad) n xs) (h : w2.heap[ad.block]? = w1.heap[ad.block]?) : (Kd.int .u8).C w2 (some ad) n xs := by
  refine ⟨hC.1, hC.2.1, fun hn => ?_⟩
  obtain ⟨ad', e, h3⟩ := hC.2.2 hn
  refine ⟨ad', e, fun j p hj => ?_⟩
  obtain ⟨c, hl, hk, hcc⟩ := h3 j p hj
  cases e
  refine ⟨c, hl, hk, fun i u hu => ?_⟩
  refine (World.cell?_of_block ?_).trans (hcc i u hu)
  have hb : ∀ m, (ad.add m).block = ad.block := fun m => by unfold Addr.add; split <;> rfl
  rw [hb]
  exact h
theorem F_of_C {w : World} {ok : Nat → Prop} {ad : Addr} {n : Nat} {xs : List Int} (hC : (Kd.int .u8).C w (some ad) n xs) (hok : ok ad.block) (hlt : ad.block < w.heap.size) : Kd.F (Kd.int .u8) w ok (some ad) n xs := fun _ hW => C_block hC (hW _ hok hlt)
theorem C_len {α : Type} {d : Kd α} {w : World} {A : Option Addr} {n m : Nat} {xs : List α} (h : n = m) (hC : d.C w A n xs) : d.C w A m xs := h ▸ hC
section
variable {P : Program} {ops : Array Oper} {rest : List Oper} {o : Oper} {a : Act} {Q : Exit → Act → World → Prop}
/-- The conversion of a constant text's row to its own type, as an arm. -/
theorem conv_mark {t e : TypeId} {x : Operand} (hgd : o.guard = none) {N : Tmp} (_hd : o.dst = some N) (ho : o.op = .convert t t x) (ht : P.underlying t = some (.slice e)) (he : P.underlying e = some (.int .u8)) {W w0 : World} {base : Nat} {ok : Nat → Prop} {A : Option Addr} {n c : Nat} {xs : List Int}
    (hx : a.eval x = .slice A n c) (HO : Kd.R (Kd.int .u8) e W base ok (.slice A n c) xs) (hn : 0 < n) (HB : Below base w0 W) (hbase : base ≤ W.heap.size)
    (h : ∀ w2 g, (Value.slice A n c).ownBlock = some g → W.grownBy w2 (some g) → Kd.C (Kd.int .u8) w2 A n xs → Below base w0 w2 → wpList P ops Q rest (a.put o.dst (.slice A n c)) w2) : wpList P ops Q (o :: rest) a W := by
  obtain ⟨g, w2, rfl, hrun, hg, hc⟩ := conv_self ht he HO hn
  have hr := Kd.R_reads' HO
  have hC : Kd.C (Kd.int .u8) W (some ⟨g, 0, none⟩) n xs := by rw [hr.1]; exact hr.2.2
  refine Kd.event_run hgd ?_ (h w2 g rfl hg (C_cells (d := Kd.int .u8) (fun hk => hk) hC hc) (HB.grown hg hbase (fun k hk => by cases hk; exact Kd.R_base HO g rfl)))
  unfold execOp
  simp [ho, hx, hrun]
/-- The same, told as a row that is only read. -/
theorem conv_mark2 {t e : TypeId} {x : Operand} (hgd : o.guard = none) {N : Tmp} (_hd : o.dst = some N) (ho : o.op = .convert t t x) (ht : P.underlying t = some (.slice e)) (he : P.underlying e = some (.int .u8)) {W w0 : World} {base : Nat} {ok : Nat → Prop} {A : Option Addr} {n c : Nat} {xs : List Int}
    (hx : a.eval x = .slice A n c) (HO : Kd.R (Kd.int .u8) e W base ok (.slice A n c) xs) (hn : 0 < n) (HB : Below base w0 W) (hbase : base ≤ W.heap.size)
    (h : ∀ w2 g, (Value.slice A n c).ownBlock = some g → W.grownBy w2 (some g) → Kd.C (Kd.int .u8) w2 A n xs → Kd.F (Kd.int .u8) w2 (fun k => some k = (Value.slice A n c).ownBlock) A n xs → Below base w0 w2 → wpList P ops Q rest (a.put o.dst (.slice A n c)) w2) : wpList P ops Q (o :: rest) a W := by
  obtain ⟨g, w2, rfl, hrun, hg, hc⟩ := conv_self ht he HO hn
  have hr := Kd.R_reads' HO
  have hC : Kd.C (Kd.int .u8) W (some ⟨g, 0, none⟩) n xs := by rw [hr.1]; exact hr.2.2
  have hlt : g < w2.heap.size := Nat.lt_of_lt_of_le (Kd.R_lt HO g rfl) hg.size
  have hC2 := C_cells (d := Kd.int .u8) (fun hk => hk) hC hc
  refine Kd.event_run hgd ?_ (h w2 g rfl hg hC2 (F_of_C hC2 rfl hlt) (HB.grown hg hbase (fun k hk => by cases hk; exact Kd.R_base HO g rfl)))
  unfold execOp
  simp [ho, hx, hrun]
/-- 'make([]T, 0, c)', as a step of a region that draws. -/
theorem R_make0_step {α : Type} (d : Kd α) {Kc : Act → World → Prop} {w0 W : World} (base e : Nat) (hw : Region.wanted o (yielded ops a.tmps) = true) {N : Tmp} (_hd : o.dst = some N) (t : TypeId) (x y : Operand) (ho : o.op = .makeSlice t x y) (c : Nat) (hx : a.eval x = .int .i64 0) (hy : a.eval y = .int .i64 (c : Int))
    (ht : P.underlying t = some (.slice e)) (z : Value) (bytes : Nat) (hinfo : (P.info? e).map (fun i => (i.zero, i.size, i.bytes)) = some (some z, d.sz, bytes)) (hl : bytes * c ≤ 281474976710656) (hc : c ≤ maxLen) {ok : Nat → Prop} (hfresh : ok W.heap.size) (HB : Below base w0 W) (hbase : base ≤ W.heap.size)
    (h : ∀ v1 w1, d.R e w1 base ok v1 [] → Below base w0 w1 → W.grownBy w1 none → (∃ b, v1.ownBlock = some b ∧ W.heap.size ≤ b) → Kc (a.put o.dst v1) w1) : if Region.wanted o (yielded ops a.tmps) = true then Oper.wp P o a W Kc Q else Kc (a.put o.dst undef) W := by
  obtain ⟨i0, hi, hzz⟩ := Option.map_eq_some_iff.1 hinfo
  simp only [Prod.mk.injEq] at hzz
  obtain ⟨hz0, hz1, hz2⟩ := hzz
  obtain ⟨w', hr, hown, hg⟩ := run_make_own (P := P) (w := W) base t e i0 z d.sz ht hi hz0 hz1 .i64 .i64 c (by rw [hz2]; exact hl) hc hbase
  refine event_step hw ?_ (h _ w' ⟨fun k hk => ?_, [], hown, Reps.none _ _⟩ (HB.grown hg hbase (fun k hk => by cases hk)) hg ⟨W.heap.size, by simp [Value.ownBlock], Nat.le_refl _⟩)
  · simp [execOp, ho, hx, hy, hr]
  · have : W.heap.size = k := by simpa [Value.ownBlock] using hk
    subst this
    exact hfresh
/-- 'make([]T, 0, c)', as an arm. -/
theorem R_make0 {α : Type} (d : Kd α) {w0 W : World} (base e : Nat) (hgd : o.guard = none) {N : Tmp} (_hd : o.dst = some N) (t : TypeId) (x y : Operand) (ho : o.op = .makeSlice t x y) (c : Nat) (hx : a.eval x = .int .i64 0) (hy : a.eval y = .int .i64 (c : Int))
    (ht : P.underlying t = some (.slice e)) (z : Value) (bytes : Nat) (hinfo : (P.info? e).map (fun i => (i.zero, i.size, i.bytes)) = some (some z, d.sz, bytes)) (hl : bytes * c ≤ 281474976710656) (hc : c ≤ maxLen) {ok : Nat → Prop} (hfresh : ok W.heap.size) (HB : Below base w0 W) (hbase : base ≤ W.heap.size)
    (h : ∀ v1 w1, d.R e w1 base ok v1 [] → Below base w0 w1 → W.grownBy w1 none → (∃ b, v1.ownBlock = some b ∧ W.heap.size ≤ b) → wpList P ops Q rest (a.put o.dst v1) w1) : wpList P ops Q (o :: rest) a W := by
  obtain ⟨i0, hi, hzz⟩ := Option.map_eq_some_iff.1 hinfo
  simp only [Prod.mk.injEq] at hzz
  obtain ⟨hz0, hz1, hz2⟩ := hzz
  obtain ⟨w', hr, hown, hg⟩ := run_make_own (P := P) (w := W) base t e i0 z d.sz ht hi hz0 hz1 .i64 .i64 c (by rw [hz2]; exact hl) hc hbase
  refine Kd.event_run hgd ?_ (h _ w' ⟨fun k hk => ?_, [], hown, Reps.none _ _⟩ (HB.grown hg hbase (fun k hk => by cases hk)) hg ⟨W.heap.size, by simp [Value.ownBlock], Nat.le_refl _⟩)
  · simp [execOp, ho, hx, hy, hr]
  · have : W.heap.size = k := by simpa [Value.ownBlock] using hk
    subst this
    exact hfresh
end
end Go.Proofs.Ytaohmpblmlkioaa.HW
