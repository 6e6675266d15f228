/- The contract of state.Decode, over lists alone. Conditions: up to eight thousand bytes. -/
import Derived.Test.YtaohmpblmlkioaaStD
import Derived.Test.YtaohmpblmlkioaaStW
namespace Go.Proofs.Ytaohmpblmlkioaa.PAll
open Go.RowKit Go.Proofs.Ytaohmpblmlkioaa.Oct Go.Proofs.Ytaohmpblmlkioaa.HX Go.Proofs.YtaohmpblmlkioaaW.PrintWords Go.Proofs.YtaohmpblmlkioaaW.PrintLast Go.Proofs.YtaohmpblmlkioaaW.PrintMore
attribute [local go_sem] Oper.semAt_some
attribute [local go_sem] max2_int min2_int max_two min_two max_three min_three max_four min_four   -- for this text's walks alone
set_option linter.unusedVariables false
set_option linter.unusedSimpArgs false
theorem two_cells {w : World} {g t : Nat} {c0 c1 : Value} (h : w.heap[g]? = some (.cells #[c0, c1] t (0, 0))) : w.cell? ⟨g, 0, none⟩ = some c0 ∧ w.cell? ⟨g, 1, none⟩ = some c1 := ⟨(blk_cell h 0).trans rfl, (blk_cell h 1).trans rfl⟩
theorem two_free {w : World} {g t : Nat} {cs : Array Value} (h : w.heap[g]? = some (.cells cs t (0, 0))) : w.frozen? ⟨g, 0, none⟩ = false ∧ w.frozen? ⟨g, 1, none⟩ = false := ⟨blk_frozen h 0, blk_frozen h 1⟩
theorem two_put {w : World} {g t : Nat} {c0 c1 : Value} (h : w.heap[g]? = some (.cells #[c0, c1] t (0, 0))) (v0 v1 : Value) : ((w.setCell ⟨g, 0, none⟩ v0).setCell ⟨g, 1, none⟩ v1).heap[g]? = some (.cells #[v0, v1] t (0, 0)) := blk_put (blk_put h 0 v0 rfl) 1 v1 rfl
theorem two_below {w0 w : World} {B g : Nat} (h : Below B w0 w) (hg : B ≤ g) (v0 v1 : Value) : Below B w0 ((w.setCell ⟨g, 0, none⟩ v0).setCell ⟨g, 1, none⟩ v1) := (h.setCell hg _).setCell hg _
/-- A text of a row of texts. -/
theorem row_at {w : World} {ad : Addr} {n : Nat} {L : List (List Int)} (h : Kd.C (Kd.slice 5 (Kd.int .u8)) w (some ad) n L) {j : Nat} (hj : j < L.length) : ∃ A c, w.cell? (ad.add j) = some (.slice A (L.getD j []).length c) ∧ (L.getD j []).length ≤ c ∧ Kd.C (Kd.int .u8) w A (L.getD j []).length (L.getD j []) := by
  obtain ⟨ad', e, hcc⟩ := h.2.2 (by have := h.1; omega)
  cases e
  obtain ⟨c, hcl, hk, hcell⟩ := hcc j _ (List.getElem?_eq_getElem hj)
  obtain ⟨A, c', rfl, h1, h2⟩ := hk
  have := hcell 0 _ rfl
  rw [List.getD_eq_getElem?_getD, List.getElem?_eq_getElem hj]
  exact ⟨A, c', by simpa [Kd.slice] using this, h1, h2⟩
theorem get8_w {A : Option Addr} {c : Nat} {l : List Int} {w : World} (h : Kd.C (Kd.int .u8) w A l.length l) (hc : l.length ≤ c) (hb : Bytes l) (a : Int) (h0 : 0 ≤ a) (h8 : a + 8 ≤ l.length) :
    Calls Try.prog 23 #[.slice A l.length c, .int .i64 a, .int .i64 8] w fun e w' => e = .returned (.tuple #[.int .u64 (num ((l.drop a.toNat).take 8)), .bool true]) ∧ Below w.heap.size w w' :=
  octets_Get.calls _ _ l _ _ _ _ _ h hc (get_is hb (by omega) (by omega) h0 h8)
theorem concat_w {A : Option Addr} {c : Nat} {l : List (List Int)} {w : World} (h : Kd.C (Kd.slice 5 (Kd.int .u8)) w A l.length l) (hc : l.length ≤ c) (hl : l.flatten.length ≤ 1000000) :
    Calls Try.prog 24 #[.slice A l.length c] w fun e w' => ∃ A' c', e = .returned (.slice A' l.flatten.length c') ∧ l.flatten.length ≤ c' ∧ Kd.C (Kd.int .u8) w' A' l.flatten.length l.flatten ∧ Below w.heap.size w w' ∧ ∀ ad, A' = some ad → w.heap.size ≤ ad.block := by
  refine (slices_Concat_byte_byte.calls _ _ l _ _ h hc (if_pos (by omega))).mono ?_
  rintro e w3 ⟨v3, rfl, ho3, hb3⟩
  obtain ⟨A3, c3, rfl⟩ := Kd.R_slice ho3
  have O3 := R_C ho3
  refine ⟨A3, c3, rfl, O3.2.1, O3.2.2, hb3, fun ad e => ?_⟩
  subst e
  rcases Kd.R_base2 ho3 with h0 | ⟨k, h1, h2⟩
  · simp [Value.ownBlock] at h0
  · simp [Value.ownBlock] at h1
    rw [h1]; exact h2
/-- The nine bytes of a vertex. -/
theorem nine_at {w : World} {ad : Addr} {body : List Int} {c m i : Nat} (h : Kd.C (Kd.int .u8) w (some ad) body.length body) (hc : body.length ≤ c) (hm : body.length = 9 * m) (hi : i < m) :
    ∃ zs, zs.length = 9 ∧ (Bytes body → Bytes zs) ∧ Kd.C (Kd.int .u8) w (some (ad.add (9 * i))) 9 zs ∧ num (zs.take 8) = (vat body i).1 ∧ ∃ y, w.cell? ((ad.add (9 * i)).add 8) = some (.int .u8 y) ∧ (y == 1) = (vat body i).2 := by
  have hC := Kd.C_mid (lo := 9 * i) (hi := 9 * i + 9) h (by omega) (by omega) hc
  rw [if_neg (by omega), show (Kd.int .u8).sz = 1 from rfl, Nat.mul_one] at hC
  have hl : ((body.take (9 * i + 9)).drop (9 * i)).length = 9 := by rw [List.length_drop, List.length_take]; omega
  have hz : (body.take (9 * i + 9)).drop (9 * i) = (body.drop (9 * i)).take 9 := by rw [List.drop_take]; congr 1; omega
  rw [hl] at hC
  refine ⟨_, hl, fun hb => (hb.take _).drop _, hC, ?_, body.getD (9 * i + 8) 0, ?_, rfl⟩
  · rw [hz, List.take_take]; rfl
  · obtain ⟨ad', e, hcc⟩ := hC.2.2 (by omega)
    cases e
    obtain ⟨c', hcl, hk, hcell⟩ := hcc 8 _ (List.getElem?_eq_getElem (by omega))
    have hk' : c' = [.int .u8 ((body.take (9 * i + 9)).drop (9 * i))[8]] := hk
    have := hcell 0 (.int .u8 ((body.take (9 * i + 9)).drop (9 * i))[8]) (by rw [hk']; rfl)
    rw [show (8 : Nat) * (Kd.int .u8).sz + 0 = 8 from rfl] at this
    rw [this]
    congr 2
    rw [List.getElem_drop, List.getElem_take, List.getD_eq_getElem?_getD, List.getElem?_eq_getElem (by omega)]
    rfl
theorem cell_below {w w' : World} {a : Addr} {v : Value} (h : w.cell? a = some v) (hb : Below w.heap.size w w') : w'.cell? a = some v := (hb.cell (World.block_lt_of_cell? w a h)).trans h
theorem equal_w {A : Option Addr} {c : Nat} {l : List Int} {w : World} (h : Kd.C (Kd.int .u8) w A l.length l) (hc : l.length ≤ c) {A1 : Option Addr} {c1 : Nat} {l1 : List Int} (h1 : Kd.C (Kd.int .u8) w A1 l1.length l1) (hc1 : l1.length ≤ c1) (hb : Bytes l) (hb1 : Bytes l1) :
    Calls Try.prog 26 #[.slice A l.length c, .slice A1 l1.length c1] w fun e w' => e = .returned (.bool (decide (l = l1))) ∧ ∃ m, w' = w.drewN m := by
  have he : bytes_Equal.f l l1 = some (decide (l = l1)) := by
    unfold bytes_Equal.f
    congr 1
    rw [Bool.eq_iff_iff, beq_iff_eq, decide_eq_true_iff, str_eq hb hb1]
  refine (bytes_Equal.calls _ _ l _ _ l1 _ _ h hc h1 hc1 he).mono ?_
  rintro e w3 ⟨rfl, ⟨m, rfl⟩⟩
  exact ⟨rfl, m, rfl⟩
theorem senc_bytes (x : Int) (vs : List Int) (ls : List Bool) : Bytes (senc x vs ls) := by
  unfold senc
  split
  · refine encs_bytes fun t ht => ?_
    rcases List.mem_cons.1 ht with rfl | ht
    · exact shead_bytes _ _
    · exact tells_bytes _ _ Bytes.nil t ht
  · exact Bytes.nil
/-- What the call gives. -/
def SPost (d : Int × List (Int × Bool) × Int) (w : World) (e : Ending) (w' : World) : Prop := ∃ A0 c0 A1 c1, e = .returned (.tuple #[.int .i64 d.1, .agg #[.slice A0 (d.2.1.map Prod.fst).length c0, .slice A1 (d.2.1.map Prod.snd).length c1], .int .i64 d.2.2]) ∧ (d.2.1.map Prod.fst).length ≤ c0 ∧ Kd.C (Kd.int .u64) w' A0 (d.2.1.map Prod.fst).length (d.2.1.map Prod.fst) ∧ (d.2.1.map Prod.snd).length ≤ c1 ∧ Kd.C Kd.bool w' A1 (d.2.1.map Prod.snd).length (d.2.1.map Prod.snd) ∧ Below w.heap.size w w'
theorem spost_none {x y : Int} {w w' : World} (h : Below w.heap.size w w') : SPost (x, [], y) w (.returned (.tuple #[.int .i64 x, .agg #[.slice none 0 0, .slice none 0 0], .int .i64 y])) w' :=
  ⟨none, 0, none, 0, rfl, Nat.le_refl _, Kd.C_nil _ _, Nat.le_refl _, Kd.C_nil _ _, h⟩
def sdec.T4 : Bool × List (List Nat × List Nat) := (true, [([], []), ([], []), ([], []), ([0, 2, 0, 2], [0]), ([1, 3, 0, 1, 2, 3], [1])])
def sdec.B4 : List Nat := [0, 0, 0, 5, 15]
theorem sdec.tab4 : rtab .any (opsOf Try.f15 4) = sdec.T4 := by kernel_rfl
theorem sdec.bits4 : waitsOk sdec.T4.2 sdec.B4 = true := by kernel_rfl
def sdec.T6 : Bool × List (List Nat × List Nat) := (true, [([], []), ([], []), ([0, 1, 0, 1], [0]), ([2, 0, 1, 2], [])])
def sdec.B6 : List Nat := [0, 0, 3, 7]
theorem sdec.tab6 : rtab .any (opsOf Try.f15 6) = sdec.T6 := by kernel_rfl
theorem sdec.bits6 : waitsOk sdec.T6.2 sdec.B6 = true := by kernel_rfl
def sdec.T11 : Bool × List (List Nat × List Nat) := (true, [([], []), ([], []), ([0, 1, 0, 1], [0]), ([2, 0, 1, 2], [])])
def sdec.B11 : List Nat := [0, 0, 3, 7]
theorem sdec.tab11 : rtab .any (opsOf Try.f15 11) = sdec.T11 := by kernel_rfl
theorem sdec.bits11 : waitsOk sdec.T11.2 sdec.B11 = true := by kernel_rfl
def sdec.T19 : Bool × List (List Nat × List Nat) := (true, [([], []), ([0], [0]), ([], []), ([1, 0, 1], [1]), ([2, 3, 0, 1, 2, 3], [2]), ([4, 0, 1, 2, 3, 4], [])])
def sdec.B19 : List Nat := [0, 1, 0, 3, 15, 31]
theorem sdec.tab19 : rtab .any (opsOf Try.f15 19) = sdec.T19 := by kernel_rfl
theorem sdec.bits19 : waitsOk sdec.T19.2 sdec.B19 = true := by kernel_rfl
/-- The body's end, without a panic. -/
def QM (fn : Func) (R : Ending → World → Prop) : Exit → Act → World → Prop
  | .normal, a, w | .ret, a, w => LeavesInM Fence.wide 6 Try.prog fn a.tmps R a.defers .returning w
  | _, _, _ => False
theorem qm_ok {fn : Func} {R : Ending → World → Prop} : ∀ e a w, QM fn R e a w → bodyPostM Fence.wide 6 Try.prog fn R e a w
  | .normal, _, _, h => h
  | .ret, _, _, h => h
  | .panic _, _, _, h => h.elim
  | .outgrown, _, _, h => h.elim
theorem fin_w {R : Ending → World → Prop} {W : World} {g D : Nat} {tmps : Array Value} {p q u0 u1 : Value} (hbk : W.heap[g]? = some (.cells #[p, q] 25 (0, 0))) (hD : W.heap[D]? = some (.deferred (some []))) (hgD : g < D)
    (hp : tmps.getD 3 undef = .pointer (some ⟨g, 0, none⟩)) (hR : R (.returned (.tuple #[tmps.getD 2 undef, .agg #[u0, u1], tmps.getD 4 undef])) (((W.setCell ⟨g, 0, none⟩ u0).setCell ⟨g, 1, none⟩ u1).putObj D (.deferred none))) :
    QM Try.f15 R .ret { tmps := tmps, defers := [{ target := .collected D, args := #[] }] } ((W.setCell ⟨g, 0, none⟩ u0).setCell ⟨g, 1, none⟩ u1) := by
  have hD1 : ((W.setCell ⟨g, 0, none⟩ u0).setCell ⟨g, 1, none⟩ u1).heap[D]? = some (.deferred (some [])) := by
    rw [Below.heap_setCell _ _ _ _ (show D ≠ g by omega), Below.heap_setCell _ _ _ _ (show D ≠ g by omega)]; exact hD
  refine ⟨by simp, .inl ⟨D, _, rfl, run_takeDeferred hD1, ?_⟩⟩
  exact ⟨_, results_tct rfl tmps _ g 25 #[u0, u1] (0, 0) _ hp ((World.putObj_heap_other (show g ≠ D by omega)).trans (two_put hbk u0 u1)) Try.underlying25 rfl (by kernel_rfl), hR⟩
theorem fin_R {α : Type} {d : Kd α} {e n1 : Nat} {W : World} {g D : Nat} {p q u0 u1 v : Value} {xs : List α} (hbk : W.heap[g]? = some (.cells #[p, q] 25 (0, 0))) (hD : W.heap[D]? = some (.deferred (some []))) (he : e ≠ 25) (hE : d.E = []) (h : d.R e W n1 (fun _ => True) v xs) :
    d.R e (((W.setCell ⟨g, 0, none⟩ u0).setCell ⟨g, 1, none⟩ u1).putObj D (.deferred none)) n1 (fun _ => True) v xs := by
  have hne := Kd.R_ne h hbk he
  have hDne : ∀ k, some D = some k → some k ≠ v.ownBlock := by
    rintro k hk he
    cases hk
    obtain ⟨c, hc⟩ := Kd.R_typed h D he.symm
    rw [hc] at hD
    cases hD
  have h1 := Kd.R_far (Kd.R_far (Kd.R_far1 h hE hne) (p := ⟨g, 0, none⟩) (fun k hk => hk.2) u0) (p := ⟨g, 1, none⟩) (fun k hk => hk.2) u1
  exact Kd.R_mono (Kd.R_grown2 h1 hE (grownBy_putObj' _ D _) hDne) (fun _ _ => trivial)
theorem fin_below {w W : World} {n g D : Nat} {u0 u1 : Value} {o : Obj} (h : Below n w W) (hg : n ≤ g) (hgD : g < D) : Below n w (((W.setCell ⟨g, 0, none⟩ u0).setCell ⟨g, 1, none⟩ u1).putObj D o) :=
  (two_below h hg u0 u1).trans ⟨rfl, rfl, rfl, by simp, fun k hk => World.putObj_heap_other (show k ≠ D by omega)⟩
set_option maxHeartbeats 8000000 in
set_option maxRecDepth 100000 in
theorem sdecode_w {A : Option Addr} {c : Nat} {l : List Int} {w : World} (h : Kd.C (Kd.int .u8) w A l.length l) (hc : l.length ≤ c) (hb : Bytes l) (hl : l.length ≤ 8000) :
    Calls Try.prog 15 #[.slice A l.length c] w (SPost (sdec l) w) := by
  have HC := Aside0.mk h
  have LC := Aside0.mk hc
  have HBY := Aside0.mk hb
  have HB := Aside0.mk (Below.refl w.heap.size w)
  obtain ⟨dd, hdd⟩ : ∃ q, sdec l = q := ⟨_, rfl⟩
  rw [hdd]
  have HD := Aside0.mk hdd
  clear h hc hb hdd
  refine (callsIn_wide (n := 6)).1 ?_
  refine callsIn_of_wp_marks Try.func15 rfl trivial ?_ rfl
  refine wpIn_wide.2 ?_
  refine wp_mono (Q := QM Try.f15 (SPost dd w)) ?_ qm_ok
  simp only [Try.ntmps15, List.size_toArray, List.length_cons, List.length_nil, Nat.reduceAdd, Nat.reduceSub, Array.replicate_succ, Array.replicate_zero, List.push_toArray, List.append_toArray, List.nil_append, List.cons_append]
  go_wp2_with (first | ((with_reducible refine gate_dst (N := 3) rfl ?_); refine box_event ?hg (N := 3) ?hd (cs := #[.slice none 0 0, .slice none 0 0]) (t := 25) ?hr ?_; (case hd => rfl); (case hg => rfl); (case hr => first | (go_simp; done) | (go_simp; rfl)); intro g hg w0 hbox hb; have B0 := Aside0.mk hb; have BK := Aside0.mk hbox; clear hb hbox; have GE := Aside0.mk (show w.heap.size ≤ g from by rw [hg]; exact Nat.le_refl _); clear hg) | ((with_reducible refine gate_dst (N := 5) rfl ?_); refine box_event ?hg (N := 5) ?hd (cs := #[.slice none 0 0, .slice none 0 0]) (t := 25) ?hr ?_; (case hd => rfl); (case hg => rfl); (case hr => first | (go_simp; done) | (go_simp; rfl)); intro C hg w00 hbox hb; have B00 := Aside0.mk hb; have BC := Aside0.mk hbox; clear hb hbox; have CE := Aside0.mk (show w0.heap.size ≤ C from by rw [hg]; exact Nat.le_refl _); clear hg))
  have B1 := Aside0.mk (below_step B0.out B00.out)
  have BK0 := Aside0.mk (blk_below BK.out B00.out)
  have CE0 := Aside0.mk (And.intro (show g < C from Nat.lt_of_lt_of_le (blk_lt BK.out) CE.out) (Nat.le_trans (below_size B0.out) CE.out))
  clear B0 B00 BK CE HB
  refine (all_w (Kd.C_below HC.out B1.out) LC.out HBY.out (by omega)).mono ?_
  rintro e w1 ⟨A1, c1, rfl, hle1, hC1, hb1⟩
  have B1 := Aside0.mk (below_step B1.out hb1)
  have BK1 := Aside0.mk (blk_below BK0.out hb1)
  have BC1 := Aside0.mk (blk_below BC.out hb1)
  have T1 := Aside0.mk (And.intro hle1 hC1)
  have HT := Aside0.mk (all_fit HBY.out)
  clear hle1 hC1 hb1 BK0 BC
  by_cases he : (all l).2.2 = 0
  · have hd1 : dd = if OkS l then (sstep l, svs l, 0) else (0, [], 2) := by rw [← HD.out]; unfold sdec; rw [if_neg (by rw [he]; simp)]
    have HD1 := Aside0.mk hd1
    have e1 : ((all l).2.2 != 0) = false := by rw [he]; rfl
    have hok1 : OkS l → (all l).1 ≠ [] ∧ (shd l).length = 16 ∧ sstep l ≤ 9223372036854775807 ∧ scnt l ≤ 1048576 ∧ ((sbody l).length : Int) = scnt l * 9 ∧ senc (sstep l) ((svs l).map Prod.fst) ((svs l).map Prod.snd) = l := fun h => h.2
    have hok2 : (all l).1 ≠ [] ∧ (shd l).length = 16 ∧ sstep l ≤ 9223372036854775807 ∧ scnt l ≤ 1048576 ∧ ((sbody l).length : Int) = scnt l * 9 ∧ senc (sstep l) ((svs l).map Prod.fst) ((svs l).map Prod.snd) = l → OkS l := fun h => ⟨he, h⟩
    have OK1 := Aside0.mk hok1
    have OK2 := Aside0.mk hok2
    have SH := Aside0.mk (show shd l = (all l).1.headD [] from rfl)
    have SB := Aside0.mk (show sbody l = (all l).1.tail.flatten from rfl)
    have XS := Aside0.mk (show sstep l = num ((shd l).take 8) from rfl)
    have XC := Aside0.mk (show scnt l = num (((shd l).drop 8).take 8) from rfl)
    have SV := Aside0.mk (show svs l = vats (sbody l) (scnt l).toNat from rfl)
    have XSI := Aside0.mk (sstep_in HBY.out)
    have XCI := Aside0.mk (scnt_in HBY.out)
    have SHB := Aside0.mk (shd_bytes HBY.out)
    have SBF := Aside0.mk (sbody_fit HBY.out)
    clear HD hd1 hok1 hok2
    generalize (all l).2.2 = er at *
    obtain rfl := he
    generalize (all l).2.1 = sz at *
    generalize (all l).1 = L at *
    obtain ⟨h0, h1⟩ := two_cells BC1.out
    obtain ⟨h2, h3⟩ := two_cells BK1.out
    obtain ⟨f0, f1⟩ := two_free BK1.out
    by_cases hL : L = []
    · have hno : ¬ OkS l := fun h => (OK1.out h).1 hL
      have hd2 : dd = (0, [], 2) := HD1.out.trans (if_neg hno)
      subst hd2
      subst hL
      clear hno HD1
      go_wp2
      refine start_ (n := 4) (S := fun w' => Below w1.heap.size w1 w') (ds := [2]) #[false, false, false, false] (by kernel_rfl) rfl rfl (below_drew (Below.refl _ _)) (fun hHeld => ?_); refine with_tabW sdec.tab6 sdec.bits6 (fun HT_ HW_ => ?_)
      refine take_ (i := 0) (N := some 39) (v := ?_) (a' := ?_) #[true, false, false, false] rfl rfl (take_ofW HT_.out HW_.out (by kernel_rfl)) (fun _ _ _ h => h) (Or.inl ⟨by rfl, ?_⟩) hHeld ?_ ?_
      rotate_left
      · rintro w' s0
        have ⟨b0, b1⟩ := two_cells (blk_below BC1.out s0)
        go_simp
        (try with_reducible rfl)
      rotate_left
      · simp only [Act.put, List.setIfInBounds_toArray, List.set_cons_zero, List.set_cons_succ, i64_w, i32_w]
        rfl
      refine pure_ (i := 1) (N := some 2) (v := ?_) (a' := ?_) #[true, true, false, false] rfl rfl (any_of HT_.out (by kernel_rfl)) (fun _ _ _ h => h) (Or.inl ⟨by rfl, ?_⟩) ?_ ?_
      rotate_left
      · intro w'
        go_simp
        with_reducible rfl
      rotate_left
      · simp only [Act.put, List.setIfInBounds_toArray, List.set_cons_zero, List.set_cons_succ, i64_w, i32_w]
        rfl
      refine last_ (i := 2) (N := none) #[true, true, true, false] rfl rfl (one_of HT_.out (by kernel_rfl)) (by decide) (fun K hK => ?_)
      refine skip_ (w1 := (w1.drew.setCell ⟨g, 0, none⟩ (.slice none 0 0)).setCell ⟨g, 1, none⟩ (.slice none 0 0)) (by rfl) rfl ?_ ?_
      · go_simp
        done
      refine hK.out _ _ ?_
      clear hK K hHeld
      refine pure_ (i := 3) (N := some 4) (v := ?_) (a' := ?_) #[true, true, true, true] rfl rfl (any_of HT_.out (by kernel_rfl)) (fun _ _ _ h => h) (Or.inl ⟨by rfl, ?_⟩) ?_ ?_
      rotate_left
      · intro w'
        go_simp
        with_reducible rfl
      rotate_left
      · simp only [Act.put, List.setIfInBounds_toArray, List.set_cons_zero, List.set_cons_succ, i64_w, i32_w]
        rfl
      refine done_ (done_of HT_.out (by kernel_rfl)) ?_
      go_wp2
      exact ⟨_, results_tct rfl _ _ g 25 #[.slice none 0 0, .slice none 0 0] (0, 0) _ rfl (two_put (blk_drew BK1.out) _ _) Try.underlying25 rfl (by kernel_rfl), spost_none (two_below (pw_below_drewN B1.out 1) GE.out _ _)⟩
    · have hpos : 0 < L.length := by cases L with
        | nil => exact absurd rfl hL
        | cons t r => simp
      have n0 : ((L.length : Int) == 0) = false := beq_eq_false_iff_ne.mpr (by omega)
      obtain ⟨ad1, had1, _⟩ := T1.out.2.2.2 hpos
      subst had1
      obtain ⟨A2, c2, hrow, hle2, hC2⟩ := row_at T1.out.2 hpos
      have hadd : ad1.add 0 = ad1 := rfl
      have hs0 : L.getD 0 [] = shd l := by
        rw [SH.out]; cases L with
        | nil => exact absurd rfl hL
        | cons t r => rfl
      rw [hs0] at hrow hle2 hC2
      rw [hadd] at hrow
      have T2 := Aside0.mk (And.intro hle2 hC2)
      clear hle2 hC2 hadd hs0
      generalize shd l = t0 at *
      by_cases h16 : t0.length = 16
      · have n16 : ((t0.length : Int) == 16) = true := by rw [h16]; rfl
        have n16' : ((t0.length : Int) != 16) = false := by rw [h16]; rfl
        have T16 := Aside0.mk h16
        clear h16
        go_wp2_with fail
        refine (get8_w T2.out.2 T2.out.1 SHB.out 0 (by omega) (by have := T16.out; omega)).mono ?_
        rintro e w2 ⟨rfl, hb2⟩
        have e0 : num ((t0.drop (0 : Int).toNat).take 8) = sstep l := XS.out.symm
        rw [e0]
        have B2 := Aside0.mk (below_step B1.out hb2)
        have BK2 := Aside0.mk (blk_below BK1.out hb2)
        have BC2 := Aside0.mk (blk_below BC1.out hb2)
        have C2 := Aside0.mk (And.intro T2.out.1 (Kd.C_below T2.out.2 hb2))
        have R2 := Aside0.mk (And.intro T1.out.1 (Kd.C_below T1.out.2 hb2))
        have hrow2 := cell_below hrow hb2
        clear h0 h1 h2 h3 f0 f1 hrow hb2 B1 BK1 BC1 T1 T2 e0
        go_wp2_with fail
        refine (get8_w C2.out.2 C2.out.1 SHB.out 8 (by omega) (by have := T16.out; omega)).mono ?_
        rintro e w3 ⟨rfl, hb3⟩
        have e0 : num ((t0.drop (8 : Int).toNat).take 8) = scnt l := XC.out.symm
        rw [e0]
        have B3 := Aside0.mk (below_step B2.out hb3)
        have BK3 := Aside0.mk (blk_below BK2.out hb3)
        have BC3 := Aside0.mk (blk_below BC2.out hb3)
        have R3 := Aside0.mk (And.intro R2.out.1 (Kd.C_below R2.out.2 hb3))
        obtain ⟨q, A3, hq, hcut, hCq, hcq⟩ := cut_off (P := Try.prog) 42 28 Try.underlying42 info28 R3.out.2 R3.out.1 1 (by omega) (by omega)
        have hq' : q = L.tail := by rw [hq]; exact List.drop_one
        clear hrow2 hb3 B2 BK2 BC2 C2 R2 e0 hq
        have CQ := Aside0.mk (And.intro hcq hCq)
        have QT := Aside0.mk hq'
        clear hcq hCq hq'
        go_wp2_with fail
        refine (concat_w CQ.out.2 CQ.out.1 (by rw [QT.out, ← SB.out]; have := SBF.out.2; omega)).mono ?_
        rw [QT.out, ← SB.out]
        rintro e w4 ⟨A4, c4, rfl, hle4, hC4, hb4, hne4⟩
        have NE4 := Aside0.mk (show ∀ ad, A4 = some ad → ad.block ≠ C from fun ad e => by have := hne4 ad e; have := blk_lt BC3.out; omega)
        have B4 := Aside0.mk (below_step B3.out hb4)
        have BK4 := Aside0.mk (blk_below BK3.out hb4)
        have BC4 := Aside0.mk (blk_below BC3.out hb4)
        have C4 := Aside0.mk (And.intro hle4 hC4)
        clear hcut hle4 hC4 hb4 hne4 B3 BK3 BC3 R3 CQ QT
        have hblen : (sbody l).length ≤ 8000 := by have := SBF.out.2; omega
        have SBB := Aside0.mk SBF.out.1
        clear SBF
        generalize sbody l = body at *
        generalize hx : sstep l = x at *
        generalize hy : scnt l = y at *
        have hxi := XSI.out
        have hyi := XCI.out
        by_cases hall : x ≤ 9223372036854775807 ∧ y ≤ 1048576 ∧ (body.length : Int) = y * 9
        · obtain ⟨hx1, hy1, hbl⟩ := hall
          obtain ⟨m, hm⟩ : ∃ m : Nat, y = (m : Int) := ⟨y.toNat, by omega⟩
          subst hm
          have d1 : decide (9223372036854775807 < x) = false := decide_eq_false (by omega)
          have d2 : decide (1048576 < (m : Int)) = false := decide_eq_false (by omega)
          have hw : IntKind.u64.wrap (body.length : Int) = (m : Int) * 9 := (u64_nat (by omega)).trans hbl
          have hw2 : IntKind.u64.wrap ((m : Int) * 9) = (m : Int) * 9 := u64_in (by omega) (by omega)
          have d3 : ((m : Int) * 9 == (m : Int) * 9) = true := beq_self_eq_true _
          have d4 : ((m : Int) * 9 != (m : Int) * 9) = false := by simp
          have hd5 : dd = if senc x ((svs l).map Prod.fst) ((svs l).map Prod.snd) = l then (x, svs l, 0) else (0, [], 2) := by
            rw [HD1.out]
            by_cases hs : senc x ((svs l).map Prod.fst) ((svs l).map Prod.snd) = l
            · rw [if_pos hs, if_pos (OK2.out ⟨hL, T16.out, hx1, hy1, hbl, hs⟩)]
            · rw [if_neg hs, if_neg (fun h => hs (OK1.out h).2.2.2.2.2)]
          have HD5 := Aside0.mk hd5
          have HBL := Aside0.mk (show body.length = 9 * m by omega)
          clear hd5 HD1 OK1 OK2
          go_wp2_with fail
          refine (callsIn_wide (n := 5)).1 ?_
          refine (Chk.chunk 5 A4 body.length c4 w4).mono ?_
          rintro e w5 ⟨rfl, hw5⟩
          have hb5 : Below w4.heap.size w4 w5 := by rw [hw5]; exact ((Below.refl _ w4).alloc (Nat.le_refl _) _).alloc (by simp) _
          have hs5 : w5.heap.size = w4.heap.size + 2 := by rw [hw5]; simp
          have hBs : w5.cell? ⟨w4.heap.size, 0, none⟩ = some (.slice A4 body.length c4) := by rw [hw5]; exact ((Boxed.new w4 28 (.slice A4 body.length c4)).alloc _).cell
          have hBn : w5.cell? ⟨w4.heap.size + 1, 0, none⟩ = some (.int .i64 9) := by
            have := (Boxed.new (w4.alloc (.cells #[.slice A4 body.length c4] 28)) 3 (.int .i64 9)).cell
            rw [World.size_alloc] at this; rw [hw5]; exact this
          have B5 := Aside0.mk (below_step B4.out hb5)
          have BK5 := Aside0.mk (blk_below BK4.out hb5)
          have BC5 := Aside0.mk (blk_below BC4.out hb5)
          have C5 := Aside0.mk (And.intro C4.out.1 (Kd.C_below C4.out.2 hb5))
          have KS := Aside0.mk (And.intro hBs hBn)
          have S5 := Aside0.mk hs5
          have CN := Aside0.mk (blk_lt BC4.out)
          generalize w4.heap.size = n4 at *
          clear hb5 hs5 hBs hBn hw5 B4 BK4 BC4 C4
          go_wp2
          refine (wpIn_wide (n := 5)).1 ?_
          refine wpIn_rangeFunc_ownG (F := Fence.wide) rfl (by decide) (gf := 35) (lb := #[.pointer (some ⟨n4, 0, none⟩), .pointer (some ⟨n4 + 1, 0, none⟩)]) rfl trivial (enters_of Try.func35 (by kernel_rfl) rfl)
            (Chk.stops (5 - 1) (by decide) n4 (n4 + 1) w.heap.size c4 m A4 body w5 (by have := S5.out; omega) (by have := S5.out; omega) (by omega) HBL.out C5.out.1 KS.out.1 KS.out.2 C5.out.2) Chk.Kp_t (Chk.Kp_b (below_size B5.out)) (Below.refl _ _) (fun _ => rfl)
            (RgI.SInv w5.heap.size C w5 body m) (fun _ _ _ => False) (RgI.sinv_own (blk_lt BC5.out) (Nat.le_refl _)) (fun _ _ _ _ _ hs _ _ => hs) (RgI.sinv_start BC5.out) ?a1 ?assign ?body ?done ?stop
          case assign =>
            intro l1 x1 W1 K1 hK1
            gi_wp2
            exact hK1
          case body =>
            rintro l2 pre x2 W2 ⟨v0, v1, hbx, hr0, hr1, hsk⟩ hpre
            have hm0 : 0 < m := by have := x2.2; omega
            obtain ⟨ad4, had4, _⟩ := C5.out.2.2.2 (by have := HBL.out; omega)
            subst had4
            have hC2 : Kd.C (Kd.int .u8) W2 (some ad4) body.length body := Kd.C_foot_ne (g := C) (fun h => h) C5.out.2 (fun ad e _ => NE4.out ad e) W2 ⟨hsk.size, fun k hk hne _ => hsk.block k hk hne⟩
            obtain ⟨zs, hz9, hzb, hzC, hz1, y, hy8, hy1⟩ := nine_at hC2 C5.out.1 HBL.out x2.2
            have hg := get8_w (l := zs) (c := 9) (w := W2) (by rw [hz9]; exact hzC) (by omega) (hzb SBB.out) 0 (by omega) (by omega)
            rw [hz9] at hg
            have G := Aside0.mk hg
            have HR := Aside0.mk (And.intro hr0 hr1)
            have HX := Aside0.mk hbx
            have HSK := Aside0.mk hsk
            have HY := Aside0.mk hy8
            have HZ := Aside0.mk (And.intro hz1 hy1)
            obtain ⟨_, _, _, _, _, y5, hy5, _⟩ := nine_at C5.out.2 C5.out.1 HBL.out x2.2
            have HBK := Aside0.mk (show (ad4.add (9 * x2.1)).block < w5.heap.size from by
              have := World.block_lt_of_cell? w5 _ hy5
              rwa [add_block] at this)
            clear hy5
            clear hg hr0 hr1 hbx hsk hy8 hz1 hy1 hC2 hzC
            gi_wp2_with (refine ⟨trivial, ?_⟩; gi_at_call 23; refine ((callsIn_wide.2 G.out).inRound l2).mono ?_; rintro e w6 ⟨rfl, hb6⟩)
            have hsz := HSK.out.size
            have hpl : pre.length ≤ 8000 := by have := HBL.out; omega
            refine RgI.region_at (fn := Try.f15) (k := 15) (f := 17) (S := Below w5.heap.size w6) (ds := [14, 16]) (by kernel_rfl) (by kernel_rfl) (by kernel_rfl) (by kernel_rfl) ?hL (by kernel_rfl) ⟨rfl, rfl, rfl, Nat.le_refl _, fun _ _ => rfl⟩
              (sdec.grow (n1 := w5.heap.size) (C := C) (W := w6) ?hP (by have := hb6.size; omega) (blk_lt BC5.out) (blk_below HX.out hb6) HBK.out (cell_below HY.out hb6) (Kd.R_below HR.out.1 hb6) (Kd.R_below HR.out.2 hb6) (by simp only [List.length_map]; omega) (by simp only [List.length_map]; omega) ?hQ)
            case hL => rintro ⟨_, _, h⟩; exact h
            case hP => intro _ _ _ _ h; exact h
            case hQ =>
              intro a' W' u0 u1 hbx' hr0' hr1' hst
              have hst2 := (RgI.Stp.of_below' hb6 hsz (C := C)).trans hst
              change KeepsFrom w5.heap.size W2 W' ∧ Chk.Kp w.heap.size n4 (n4 + 1) W2 W' ∧ RgI.SInv w5.heap.size C w5 body m (pre ++ [x2]) W'
              refine ⟨hst2.others.from _, ⟨(RgI.SKeep.of_stp hst2).below (below_size B5.out) CE0.out.2, fun v hv => ?_, fun v hv => ?_⟩, ⟨u0, u1, hbx', ?_, ?_, HSK.out.trans (RgI.SKeep.of_stp hst2)⟩⟩
              · rw [← hv]; exact World.cell?_of_block (hst2.block _ (show _ < w5.heap.size by have := S5.out; dsimp only; omega) (by have := CN.out; dsimp only; omega))
              · rw [← hv]; exact World.cell?_of_block (hst2.block _ (show _ < w5.heap.size by have := S5.out; dsimp only; omega) (by have := CN.out; dsimp only; omega))
              · simp only [List.map_append, List.map_cons, List.map_nil]
                rw [← HZ.out.1]; exact hr0'
              · simp only [List.map_append, List.map_cons, List.map_nil]
                rw [← HZ.out.2]; exact hr1'
          case stop =>
            rintro D c1 pre W1 _ _ h _
            exact h.elim
          case done =>
            rintro D xs W6 hD rfl ⟨v0, v1, hbx, hr0, hr1, hsk⟩ hK
            rw [RgI.come_vats] at hr0 hr1
            have B6 := Aside0.mk (B5.out.trans (hsk.below (below_size B5.out) CE0.out.2))
            have BK6 := Aside0.mk ((hsk.block g (blk_lt BK5.out) (by have := CE0.out; omega)).trans BK5.out)
            have hsv : svs l = vats body m := by rw [SV.out]; rfl
            have SVB := Aside0.mk (vats_in SBB.out m)
            have SVL := Aside0.mk (vats_length body m)
            rw [hsv] at HD5
            have GD := Aside0.mk (And.intro (show g < D from Nat.lt_of_lt_of_le (blk_lt BK5.out) hD) trivial)
            clear hsk B5 BK5 BC5 C5 KS S5 CN NE4 SV hsv SBB
            generalize vats body m = r at *
            obtain ⟨A6, c6, rfl⟩ := Kd.R_slice hr0
            obtain ⟨A7, c7, rfl⟩ := Kd.R_slice hr1
            have O0 := R_C hr0
            have O1 := R_C hr1
            have R0 := Aside0.mk hr0
            have R1 := Aside0.mk hr1
            have BC6 := Aside0.mk hbx
            have DK := Aside0.mk hK
            have hle : (r.map Prod.fst).length ≤ 1000 := by have := HBL.out; have := SVL.out; rw [List.length_map]; omega
            have E6 := Aside0.mk (sencode_w (w := W6) O0.2.2 O0.2.1 O1.2.2 O1.2.1 hle x)
            have hse : serr x (r.map Prod.fst) (r.map Prod.snd) = 0 := if_pos ⟨hxi.1, by simp⟩
            rw [hse] at E6
            have SEB := Aside0.mk (senc_bytes x (r.map Prod.fst) (r.map Prod.snd))
            have hw3 : IntKind.i64.wrap x = x := IntWalk.i64_in _ (by omega)
            obtain ⟨h0, h1⟩ := two_cells hbx
            clear hr0 hr1 hbx hK hD O0 O1 hle hse
            generalize hsn : senc x (r.map Prod.fst) (r.map Prod.snd) = sn at *
            generalize hvs : r.map Prod.fst = vs at *
            generalize hbs : r.map Prod.snd = bs at *
            go_wp2_with fail
            refine E6.out.mono ?_
            rintro e w7 ⟨A8, c8, rfl, hle8, hC8, hb8⟩
            have B7 := Aside0.mk (below_step B6.out hb8)
            have BK7 := Aside0.mk (blk_below BK6.out hb8)
            have BC7 := Aside0.mk (blk_below BC6.out hb8)
            have DK7 := Aside0.mk (blk_below DK.out hb8)
            have R07 := Aside0.mk (Kd.R_below R0.out hb8)
            have R17 := Aside0.mk (Kd.R_below R1.out hb8)
            have C8 := Aside0.mk (And.intro hle8 hC8)
            have C9 := Aside0.mk (Kd.C_below HC.out B7.out)
            have e0 : ((0 : Int) != 0) = false := rfl
            clear hle8 hC8 hb8 B6 BK6 BC6 DK R0 R1 h0 h1 E6
            go_wp2_with fail
            refine (equal_w C8.out.2 C8.out.1 C9.out LC.out SEB.out HBY.out).mono ?_
            by_cases hq : sn = l
            · rw [decide_eq_true hq]
              have hd6 : dd = (x, r, 0) := HD5.out.trans (if_pos hq)
              have HD6 := Aside0.mk hd6
              clear hd6
              rintro e w8 ⟨rfl, m8, rfl⟩
              have BC8 := Aside0.mk (blk_drewN BC7.out m8)
              have BK8 := Aside0.mk (blk_drewN BK7.out m8)
              have DK8 := Aside0.mk (blk_drewN DK7.out m8)
              have R08 := Aside0.mk (Kd.R_drewN R07.out m8)
              have R18 := Aside0.mk (Kd.R_drewN R17.out m8)
              have B8 := Aside0.mk (pw_below_drewN B7.out m8)
              obtain ⟨h2, h3⟩ := two_cells BK8.out
              obtain ⟨f0, f1⟩ := two_free BK8.out
              generalize w7.drewN m8 = w8 at *
              clear BC7 BK7 DK7 R07 R17 B7 C8 C9
              go_wp2
              refine start_ (n := 6) (S := fun w' => Below w8.heap.size w8 w') (ds := [4]) #[false, false, false, false, false, false] (by kernel_rfl) rfl rfl (below_drew (Below.refl _ _)) (fun hHeld => ?_); refine with_tabW sdec.tab19 sdec.bits19 (fun HT_ HW_ => ?_)
              refine pure_ (i := 0) (N := some 111) (v := ?_) (a' := ?_) #[true, false, false, false, false, false] rfl rfl (any_of HT_.out (by kernel_rfl)) (fun _ _ _ h => h) (Or.inl ⟨by rfl, ?_⟩) ?_ ?_
              rotate_left
              · intro w'
                go_simp
                with_reducible rfl
              rotate_left
              · simp only [Act.put, List.setIfInBounds_toArray, List.set_cons_zero, List.set_cons_succ, i64_w, i32_w]
                rfl
              refine pure_ (i := 1) (N := some 112) (v := ?_) (a' := ?_) #[true, true, false, false, false, false] rfl rfl (any_of HT_.out (by kernel_rfl)) (fun _ _ _ h => h) (Or.inl ⟨by rfl, ?_⟩) ?_ ?_
              rotate_left
              · intro w'
                go_simp
                with_reducible rfl
              rotate_left
              · simp only [Act.put, List.setIfInBounds_toArray, List.set_cons_zero, List.set_cons_succ, i64_w, i32_w]
                rfl
              refine take_ (i := 2) (N := some 113) (v := ?_) (a' := ?_) #[true, true, true, false, false, false] rfl rfl (take_ofW HT_.out HW_.out (by kernel_rfl)) (fun _ _ _ h => h) (Or.inl ⟨by rfl, ?_⟩) hHeld ?_ ?_
              rotate_left
              · rintro w' s0
                have ⟨b0, b1⟩ := two_cells (blk_below BC8.out s0)
                go_simp
                (try with_reducible rfl)
              rotate_left
              · simp only [Act.put, List.setIfInBounds_toArray, List.set_cons_zero, List.set_cons_succ, i64_w, i32_w]
                rfl
              refine pure_ (i := 3) (N := some 2) (v := ?_) (a' := ?_) #[true, true, true, true, false, false] rfl rfl (any_of HT_.out (by kernel_rfl)) (fun _ _ _ h => h) (Or.inl ⟨by rfl, ?_⟩) ?_ ?_
              rotate_left
              · intro w'
                go_simp
                with_reducible rfl
              rotate_left
              · simp only [Act.put, List.setIfInBounds_toArray, List.set_cons_zero, List.set_cons_succ, i64_w, i32_w]
                rfl
              refine last_ (i := 4) (N := none) #[true, true, true, true, true, false] rfl rfl (one_of HT_.out (by kernel_rfl)) (by decide) (fun K hK => ?_)
              refine skip_ (w1 := (w8.drew.setCell ⟨g, 0, none⟩ (.slice A6 vs.length c6)).setCell ⟨g, 1, none⟩ (.slice A7 bs.length c7)) (by rfl) rfl ?_ ?_
              · go_simp
                done
              refine hK.out _ _ ?_
              clear hK K hHeld
              refine pure_ (i := 5) (N := some 4) (v := ?_) (a' := ?_) #[true, true, true, true, true, true] rfl rfl (any_of HT_.out (by kernel_rfl)) (fun _ _ _ h => h) (Or.inl ⟨by rfl, ?_⟩) ?_ ?_
              rotate_left
              · intro w'
                go_simp
                with_reducible rfl
              rotate_left
              · simp only [Act.put, List.setIfInBounds_toArray, List.set_cons_zero, List.set_cons_succ, i64_w, i32_w]
                rfl
              refine done_ (done_of HT_.out (by kernel_rfl)) ?_
              go_wp2
              refine fin_w (blk_drew BK8.out) DK8.out GD.out.1 rfl ?_
              have F0 := R_C (fin_R (u0 := .slice A6 vs.length c6) (u1 := .slice A7 bs.length c7) (blk_drew BK8.out) (blk_drew DK8.out) (by decide) rfl (Kd.R_drew R08.out))
              have F1 := R_C (fin_R (u0 := .slice A6 vs.length c6) (u1 := .slice A7 bs.length c7) (blk_drew BK8.out) (blk_drew DK8.out) (by decide) rfl (Kd.R_drew R18.out))
              rw [HD6.out]
              unfold SPost
              dsimp only
              rw [hvs, hbs]
              exact ⟨A6, c6, A7, c7, rfl, F0.2.1, F0.2.2, F1.2.1, F1.2.2, fin_below (pw_below_drewN B8.out 1) GE.out GD.out.1⟩
            · rw [decide_eq_false hq]
              have hd6 : dd = (0, [], 2) := HD5.out.trans (if_neg hq)
              have HD6 := Aside0.mk hd6
              clear hd6
              rintro e w8 ⟨rfl, m8, rfl⟩
              have BC8 := Aside0.mk (blk_drewN BC7.out m8)
              have BK8 := Aside0.mk (blk_drewN BK7.out m8)
              have DK8 := Aside0.mk (blk_drewN DK7.out m8)
              have B8 := Aside0.mk (pw_below_drewN B7.out m8)
              obtain ⟨h2, h3⟩ := two_cells BK8.out
              obtain ⟨f0, f1⟩ := two_free BK8.out
              generalize w7.drewN m8 = w8 at *
              clear BC7 BK7 DK7 R07 R17 B7 C8 C9
              go_wp2
              refine fin_w BK8.out DK8.out GD.out.1 rfl ?_
              rw [HD6.out]
              exact spost_none (fin_below B8.out GE.out GD.out.1)
        · have hno : ¬ OkS l := fun h => hall ⟨(OK1.out h).2.2.1, (OK1.out h).2.2.2.1, (OK1.out h).2.2.2.2.1⟩
          have hd2 : dd = (0, [], 2) := HD1.out.trans (if_neg hno)
          subst hd2
          have hcs : decide (9223372036854775807 < x) = true ∨ (decide (9223372036854775807 < x) = false ∧ decide (1048576 < y) = true) ∨ (decide (9223372036854775807 < x) = false ∧ decide (1048576 < y) = false ∧ IntKind.u64.wrap (body.length : Int) = (body.length : Int) ∧ IntKind.u64.wrap (y * 9) = y * 9 ∧ ((body.length : Int) == y * 9) = false ∧ ((body.length : Int) != y * 9) = true) := by
            by_cases a : x ≤ 9223372036854775807
            · by_cases b : y ≤ 1048576
              · exact .inr (.inr ⟨decide_eq_false (by omega), decide_eq_false (by omega), u64_nat (by omega), u64_in (by omega) (by omega), beq_eq_false_iff_ne.mpr (fun h => hall ⟨a, b, h⟩), bne_iff_ne.mpr (fun h => hall ⟨a, b, h⟩)⟩)
              · exact .inr (.inl ⟨decide_eq_false (by omega), decide_eq_true (by omega)⟩)
            · exact .inl (decide_eq_true (by omega))
          clear hno HD1 OK1 OK2 hall
          obtain ⟨h0, h1⟩ := two_cells BC4.out
          obtain ⟨h2, h3⟩ := two_cells BK4.out
          obtain ⟨f0, f1⟩ := two_free BK4.out
          rcases hcs with d1 | ⟨d1, d2⟩ | ⟨d1, d2, hw, hw2, d3, d4⟩
          all_goals
            go_wp2
            refine start_ (n := 4) (S := fun w' => Below w4.heap.size w4 w') (ds := [2]) #[false, false, false, false] (by kernel_rfl) rfl rfl (below_drew (Below.refl _ _)) (fun hHeld => ?_); refine with_tabW sdec.tab11 sdec.bits11 (fun HT_ HW_ => ?_)
            refine take_ (i := 0) (N := some 71) (v := ?_) (a' := ?_) #[true, false, false, false] rfl rfl (take_ofW HT_.out HW_.out (by kernel_rfl)) (fun _ _ _ h => h) (Or.inl ⟨by rfl, ?_⟩) hHeld ?_ ?_
            rotate_left
            · rintro w' s0
              have ⟨b0, b1⟩ := two_cells (blk_below BC4.out s0)
              go_simp
              (try with_reducible rfl)
            rotate_left
            · simp only [Act.put, List.setIfInBounds_toArray, List.set_cons_zero, List.set_cons_succ, i64_w, i32_w]
              rfl
            refine pure_ (i := 1) (N := some 2) (v := ?_) (a' := ?_) #[true, true, false, false] rfl rfl (any_of HT_.out (by kernel_rfl)) (fun _ _ _ h => h) (Or.inl ⟨by rfl, ?_⟩) ?_ ?_
            rotate_left
            · intro w'
              go_simp
              with_reducible rfl
            rotate_left
            · simp only [Act.put, List.setIfInBounds_toArray, List.set_cons_zero, List.set_cons_succ, i64_w, i32_w]
              rfl
            refine last_ (i := 2) (N := none) #[true, true, true, false] rfl rfl (one_of HT_.out (by kernel_rfl)) (by decide) (fun K hK => ?_)
            refine skip_ (w1 := (w4.drew.setCell ⟨g, 0, none⟩ (.slice none 0 0)).setCell ⟨g, 1, none⟩ (.slice none 0 0)) (by rfl) rfl ?_ ?_
            · go_simp
              done
            refine hK.out _ _ ?_
            clear hK K hHeld
            refine pure_ (i := 3) (N := some 4) (v := ?_) (a' := ?_) #[true, true, true, true] rfl rfl (any_of HT_.out (by kernel_rfl)) (fun _ _ _ h => h) (Or.inl ⟨by rfl, ?_⟩) ?_ ?_
            rotate_left
            · intro w'
              go_simp
              with_reducible rfl
            rotate_left
            · simp only [Act.put, List.setIfInBounds_toArray, List.set_cons_zero, List.set_cons_succ, i64_w, i32_w]
              rfl
            refine done_ (done_of HT_.out (by kernel_rfl)) ?_
            go_wp2
            exact ⟨_, results_tct rfl _ _ g 25 #[.slice none 0 0, .slice none 0 0] (0, 0) _ rfl (two_put (blk_drew BK4.out) _ _) Try.underlying25 rfl (by kernel_rfl), spost_none (two_below (pw_below_drewN B4.out 1) GE.out _ _)⟩
      · have n16 : ((t0.length : Int) == 16) = false := beq_eq_false_iff_ne.mpr (by omega)
        have n16' : ((t0.length : Int) != 16) = true := bne_iff_ne.mpr (by omega)
        have hno : ¬ OkS l := fun h => h16 (OK1.out h).2.1
        have hd2 : dd = (0, [], 2) := HD1.out.trans (if_neg hno)
        subst hd2
        clear hno HD1
        go_wp2
        refine start_ (n := 4) (S := fun w' => Below w1.heap.size w1 w') (ds := [2]) #[false, false, false, false] (by kernel_rfl) rfl rfl (below_drew (Below.refl _ _)) (fun hHeld => ?_); refine with_tabW sdec.tab6 sdec.bits6 (fun HT_ HW_ => ?_)
        refine take_ (i := 0) (N := some 39) (v := ?_) (a' := ?_) #[true, false, false, false] rfl rfl (take_ofW HT_.out HW_.out (by kernel_rfl)) (fun _ _ _ h => h) (Or.inl ⟨by rfl, ?_⟩) hHeld ?_ ?_
        rotate_left
        · rintro w' s0
          have ⟨b0, b1⟩ := two_cells (blk_below BC1.out s0)
          go_simp
          (try with_reducible rfl)
        rotate_left
        · simp only [Act.put, List.setIfInBounds_toArray, List.set_cons_zero, List.set_cons_succ, i64_w, i32_w]
          rfl
        refine pure_ (i := 1) (N := some 2) (v := ?_) (a' := ?_) #[true, true, false, false] rfl rfl (any_of HT_.out (by kernel_rfl)) (fun _ _ _ h => h) (Or.inl ⟨by rfl, ?_⟩) ?_ ?_
        rotate_left
        · intro w'
          go_simp
          with_reducible rfl
        rotate_left
        · simp only [Act.put, List.setIfInBounds_toArray, List.set_cons_zero, List.set_cons_succ, i64_w, i32_w]
          rfl
        refine last_ (i := 2) (N := none) #[true, true, true, false] rfl rfl (one_of HT_.out (by kernel_rfl)) (by decide) (fun K hK => ?_)
        refine skip_ (w1 := (w1.drew.setCell ⟨g, 0, none⟩ (.slice none 0 0)).setCell ⟨g, 1, none⟩ (.slice none 0 0)) (by rfl) rfl ?_ ?_
        · go_simp
          done
        refine hK.out _ _ ?_
        clear hK K hHeld
        refine pure_ (i := 3) (N := some 4) (v := ?_) (a' := ?_) #[true, true, true, true] rfl rfl (any_of HT_.out (by kernel_rfl)) (fun _ _ _ h => h) (Or.inl ⟨by rfl, ?_⟩) ?_ ?_
        rotate_left
        · intro w'
          go_simp
          with_reducible rfl
        rotate_left
        · simp only [Act.put, List.setIfInBounds_toArray, List.set_cons_zero, List.set_cons_succ, i64_w, i32_w]
          rfl
        refine done_ (done_of HT_.out (by kernel_rfl)) ?_
        go_wp2
        exact ⟨_, results_tct rfl _ _ g 25 #[.slice none 0 0, .slice none 0 0] (0, 0) _ rfl (two_put (blk_drew BK1.out) _ _) Try.underlying25 rfl (by kernel_rfl), spost_none (two_below (pw_below_drewN B1.out 1) GE.out _ _)⟩
  · have e2 : ((all l).2.2 != 0) = true := bne_iff_ne.mpr he
    have hd1 : dd = (0, [], (all l).2.2) := by rw [← HD.out]; unfold sdec; rw [if_pos he]
    subst hd1
    clear HD he
    generalize (all l).2.2 = er at *
    obtain ⟨h0, h1⟩ := two_cells BC1.out
    obtain ⟨h2, h3⟩ := two_cells BK1.out
    obtain ⟨f0, f1⟩ := two_free BK1.out
    go_wp2
    refine start_ (n := 5) (S := fun w' => Below w1.heap.size w1 w') (ds := [3]) #[false, false, false, false, false] (by kernel_rfl) rfl rfl (below_drew (Below.refl _ _)) (fun hHeld => ?_); refine with_tabW sdec.tab4 sdec.bits4 (fun HT_ HW_ => ?_)
    refine take_ (i := 0) (N := some 27) (v := ?_) (a' := ?_) #[true, false, false, false, false] rfl rfl (take_ofW HT_.out HW_.out (by kernel_rfl)) (fun _ _ _ h => h) (Or.inl ⟨by rfl, ?_⟩) hHeld ?_ ?_
    rotate_left
    · rintro w' s0
      have ⟨b0, b1⟩ := two_cells (blk_below BC1.out s0)
      go_simp
      (try with_reducible rfl)
    rotate_left
    · simp only [Act.put, List.setIfInBounds_toArray, List.set_cons_zero, List.set_cons_succ, i64_w, i32_w]
      rfl
    refine pure_ (i := 1) (N := some 28) (v := ?_) (a' := ?_) #[true, true, false, false, false] rfl rfl (any_of HT_.out (by kernel_rfl)) (fun _ _ _ h => h) (Or.inl ⟨by rfl, ?_⟩) ?_ ?_
    rotate_left
    · intro w'
      go_simp
      with_reducible rfl
    rotate_left
    · simp only [Act.put, List.setIfInBounds_toArray, List.set_cons_zero, List.set_cons_succ, i64_w, i32_w]
      rfl
    refine pure_ (i := 2) (N := some 2) (v := ?_) (a' := ?_) #[true, true, true, false, false] rfl rfl (any_of HT_.out (by kernel_rfl)) (fun _ _ _ h => h) (Or.inl ⟨by rfl, ?_⟩) ?_ ?_
    rotate_left
    · intro w'
      go_simp
      with_reducible rfl
    rotate_left
    · simp only [Act.put, List.setIfInBounds_toArray, List.set_cons_zero, List.set_cons_succ, i64_w, i32_w]
      rfl
    refine last_ (i := 3) (N := none) #[true, true, true, true, false] rfl rfl (one_of HT_.out (by kernel_rfl)) (by decide) (fun K hK => ?_)
    refine skip_ (w1 := (w1.drew.setCell ⟨g, 0, none⟩ (.slice none 0 0)).setCell ⟨g, 1, none⟩ (.slice none 0 0)) (by rfl) rfl ?_ ?_
    · go_simp
      done
    refine hK.out _ _ ?_
    clear hK K hHeld
    refine pure_ (i := 4) (N := some 4) (v := ?_) (a' := ?_) #[true, true, true, true, true] rfl rfl (any_of HT_.out (by kernel_rfl)) (fun _ _ _ h => h) (Or.inl ⟨by rfl, ?_⟩) ?_ ?_
    rotate_left
    · intro w'
      go_simp
      with_reducible rfl
    rotate_left
    · simp only [Act.put, List.setIfInBounds_toArray, List.set_cons_zero, List.set_cons_succ, i64_w, i32_w]
      rfl
    refine done_ (done_of HT_.out (by kernel_rfl)) ?_
    go_wp2
    exact ⟨_, results_tct rfl _ _ g 25 #[.slice none 0 0, .slice none 0 0] (0, 0) _ rfl (two_put (blk_drew BK1.out) _ _) Try.underlying25 rfl (by kernel_rfl), spost_none (two_below (pw_below_drewN B1.out 1) GE.out _ _)⟩
end Go.Proofs.Ytaohmpblmlkioaa.PAll
