/- The contract of manifest.Decode, over lists alone. -/
import Derived.Test.YtibahgondccdiaaMfW
import Derived.Test.YtibahgondccdiaaPAllx4
namespace Go.Proofs.Ytibahgondccdiaa.PAll
open Go.RowKit Go.Proofs.Ytibahgondccdiaa.Oct Go.Proofs.Ytibahgondccdiaa.HX Go.Proofs.YtibahgondccdiaaW.PrintWords Go.Proofs.YtibahgondccdiaaW.PrintLast Go.Proofs.YtibahgondccdiaaW.PrintMore
attribute [local go_sem] max2_int min2_int max_two min_two max_three min_three max_four min_four   -- for this text's walks alone
set_option linter.unusedVariables false
set_option linter.unusedSimpArgs false
theorem decode_w {A : Option Addr} {c : Nat} {l : List Int} {w : World} (h : Kd.C (Kd.int .u8) w A l.length l) (hc : l.length ≤ c) (hb : Bytes l) (hl : l.length ≤ 1000000) :
    Calls Try.prog 25 #[.slice A l.length c] w fun e w' => ∃ A' c', e = .returned (.tuple #[.slice A' (dec l).1.length c', .int .i64 (dec l).2.1, .int .i64 (dec l).2.2]) ∧ (dec l).1.length ≤ c' ∧ Kd.C (Kd.int .u8) w' A' (dec l).1.length (dec l).1 ∧ Below w.heap.size w w' := by
  refine (block_Decode.calls 20000 _ _ l _ _ _ _ h hc (decode_is hb (by omega) 20000 (by omega))).mono ?_
  rintro e w3 ⟨v3, rfl, ho3, hb3⟩
  obtain ⟨A3, c3, rfl⟩ := Kd.R_slice ho3
  have O3 := R_C ho3
  exact ⟨A3, c3, rfl, O3.2.1, O3.2.2, hb3⟩
theorem get8_w {A : Option Addr} {c : Nat} {l : List Int} {w : World} (h : Kd.C (Kd.int .u8) w A l.length l) (hc : l.length ≤ c) (hb : Bytes l) (hl : l.length ≤ 1000) (j : Nat) (hj : j < 6) :
    Calls Try.prog 26 #[.slice A l.length c, .int .i64 ((j : Int) * 8), .int .i64 8] w fun e w' => (∃ b, e = .returned (.tuple #[.int .u64 (at8 l j), .bool b])) ∧ Below w.heap.size w w' := by
  have hg : octets_Get.f l ((j : Int) * 8) 8 = some (at8 l j, decide (8 * j + 8 ≤ l.length)) := by
    unfold at8
    by_cases g : 8 * j + 8 ≤ l.length
    · rw [if_pos g, decide_eq_true g, get_is hb (by omega) (by omega) (by omega) (by omega), show ((j : Int) * 8).toNat = 8 * j by omega]; rfl
    · rw [if_neg g, decide_eq_false g, get_not (by omega)]
  refine (octets_Get.calls _ _ l _ _ _ _ _ h hc hg).mono ?_
  rintro e w3 ⟨rfl, hb3⟩
  exact ⟨⟨_, rfl⟩, hb3⟩
theorem equal_w {A : Option Addr} {c : Nat} {l : List Int} {w : World} (h : Kd.C (Kd.int .u8) w A l.length l) (hc : l.length ≤ c) {A1 : Option Addr} {c1 : Nat} {l1 : List Int} (h1 : Kd.C (Kd.int .u8) w A1 l1.length l1) (hc1 : l1.length ≤ c1) (hb : Bytes l) (hb1 : Bytes l1) :
    Calls Try.prog 27 #[.slice A l.length c, .slice A1 l1.length c1] w fun e w' => e = .returned (.bool (decide (l = l1))) ∧ ∃ m, w' = w.drewN m := by
  have he : bytes_Equal.f l l1 = some (decide (l = l1)) := by
    unfold bytes_Equal.f
    congr 1
    rw [Bool.eq_iff_iff, beq_iff_eq, decide_eq_true_iff, str_eq hb hb1]
  refine (bytes_Equal.calls _ _ l _ _ l1 _ _ h hc h1 hc1 he).mono ?_
  rintro e w3 ⟨rfl, ⟨m, rfl⟩⟩
  exact ⟨rfl, m, rfl⟩
/-- The array, when j numbers are read. -/
def arr (t : List Int) (j : Nat) : Array Value := ((List.range 6).map fun i => Value.int .u64 (if i < j then at8 t i else 0)).toArray
theorem arr_at (t : List Int) (j : Nat) (hj : j < 6) : (arr t j)[j]? = some (.int .u64 0) := by
  unfold arr
  rw [List.getElem?_toArray, List.getElem?_map, List.getElem?_range hj]
  simp
theorem arr_set (t : List Int) (j : Nat) (hj : j < 6) : (arr t j).setIfInBounds j (.int .u64 (at8 t j)) = arr t (j + 1) := by
  unfold arr
  rw [List.setIfInBounds_toArray]
  congr 1
  apply List.ext_getElem
  · simp
  · intro i h1 h2
    simp only [List.length_map, List.length_range] at h2
    rw [List.getElem_set]
    by_cases h : j = i
    · subst h; simp
    · rw [if_neg h]
      simp only [List.getElem_map, List.getElem_range]
      by_cases h3 : i < j
      · rw [if_pos h3, if_pos (by omega)]
      · rw [if_neg h3, if_neg (by omega)]
theorem arr_zero (t : List Int) : arr t 0 = #[.int .u64 0, .int .u64 0, .int .u64 0, .int .u64 0, .int .u64 0, .int .u64 0] := by rfl
theorem arr_all (t : List Int) : arr t 6 = #[.int .u64 (at8 t 0), .int .u64 (at8 t 1), .int .u64 (at8 t 2), .int .u64 (at8 t 3), .int .u64 (at8 t 4), .int .u64 (at8 t 5)] := by rfl

theorem six_put {w : World} {g t : Nat} {c0 c1 c2 c3 c4 c5 : Value} (h : w.heap[g]? = some (.cells #[c0, c1, c2, c3, c4, c5] t (0, 0))) (v0 v1 v2 v3 v4 v5 : Value) :
    ((((((w.setCell ⟨g, 0, none⟩ v0).setCell ⟨g, 1, none⟩ v1).setCell ⟨g, 2, none⟩ v2).setCell ⟨g, 3, none⟩ v3).setCell ⟨g, 4, none⟩ v4).setCell ⟨g, 5, none⟩ v5).heap[g]? = some (.cells #[v0, v1, v2, v3, v4, v5] t (0, 0)) :=
  blk_put (blk_put (blk_put (blk_put (blk_put (blk_put h 0 v0 rfl) 1 v1 rfl) 2 v2 rfl) 3 v3 rfl) 4 v4 rfl) 5 v5 rfl
theorem six_below {w0 w : World} {B g : Nat} (h : Below B w0 w) (hg : B ≤ g) (v0 v1 v2 v3 v4 v5 : Value) :
    Below B w0 ((((((w.setCell ⟨g, 0, none⟩ v0).setCell ⟨g, 1, none⟩ v1).setCell ⟨g, 2, none⟩ v2).setCell ⟨g, 3, none⟩ v3).setCell ⟨g, 4, none⟩ v4).setCell ⟨g, 5, none⟩ v5) :=
  (((((h.setCell hg _).setCell hg _).setCell hg _).setCell hg _).setCell hg _).setCell hg _
theorem six_other {w : World} {g g' : Nat} {o : Obj} (h : w.heap[g']? = some o) (hne : g' ≠ g) (v0 v1 v2 v3 v4 v5 : Value) :
    ((((((w.setCell ⟨g, 0, none⟩ v0).setCell ⟨g, 1, none⟩ v1).setCell ⟨g, 2, none⟩ v2).setCell ⟨g, 3, none⟩ v3).setCell ⟨g, 4, none⟩ v4).setCell ⟨g, 5, none⟩ v5).heap[g']? = some o := by
  repeat (rw [Below.heap_setCell _ _ _ _ hne])
  exact h
theorem six_F {w : World} {g n : Nat} {A : Option Addr} {l : List Int} (h : Kd.F (Kd.int .u8) w (fun k => k < n) A l.length l) (hn : n ≤ g) (v0 v1 v2 v3 v4 v5 : Value) :
    Kd.F (Kd.int .u8) ((((((w.setCell ⟨g, 0, none⟩ v0).setCell ⟨g, 1, none⟩ v1).setCell ⟨g, 2, none⟩ v2).setCell ⟨g, 3, none⟩ v3).setCell ⟨g, 4, none⟩ v4).setCell ⟨g, 5, none⟩ v5) (fun k => k < n) A l.length l :=
  Kd.F_far (Kd.F_far (Kd.F_far (Kd.F_far (Kd.F_far (Kd.F_far h (fun k hk => Nat.ne_of_lt (Nat.lt_of_lt_of_le hk hn)) _) (fun k hk => Nat.ne_of_lt (Nat.lt_of_lt_of_le hk hn)) _) (fun k hk => Nat.ne_of_lt (Nat.lt_of_lt_of_le hk hn)) _) (fun k hk => Nat.ne_of_lt (Nat.lt_of_lt_of_le hk hn)) _) (fun k hk => Nat.ne_of_lt (Nat.lt_of_lt_of_le hk hn)) _) (fun k hk => Nat.ne_of_lt (Nat.lt_of_lt_of_le hk hn)) _
theorem six_free {w : World} {g t : Nat} {cs : Array Value} (h : w.heap[g]? = some (.cells cs t (0, 0))) :
    w.frozen? ⟨g, 0, none⟩ = false ∧ w.frozen? ⟨g, 1, none⟩ = false ∧ w.frozen? ⟨g, 2, none⟩ = false ∧ w.frozen? ⟨g, 3, none⟩ = false ∧ w.frozen? ⟨g, 4, none⟩ = false ∧ w.frozen? ⟨g, 5, none⟩ = false :=
  ⟨blk_frozen h 0, blk_frozen h 1, blk_frozen h 2, blk_frozen h 3, blk_frozen h 4, blk_frozen h 5⟩
set_option maxHeartbeats 4000000 in
set_option maxRecDepth 100000 in
theorem mdecode_w {A : Option Addr} {c : Nat} {l : List Int} {w : World} (h : Kd.C (Kd.int .u8) w A l.length l) (hc : l.length ≤ c) (hb : Bytes l) (hl : l.length ≤ 1000000) :
    Calls Try.prog 14 #[.slice A l.length c] w fun e w' => e = .returned (.tuple #[.agg #[.int .u64 (mdec l).s, .int .i64 (mdec l).n, .int .i64 (mdec l).h, .int .i64 (mdec l).t, .int .i64 (mdec l).k, .int .u32 (mdec l).p], .int .i64 (mderr l)]) ∧ Below w.heap.size w w' := by
  have HC := Aside0.mk h
  have LC := Aside0.mk hc
  have HBY := Aside0.mk hb
  have HB := Aside0.mk (Below.refl w.heap.size w)
  have hmx := h.2.1
  obtain ⟨mm, hmm⟩ : ∃ q, mdec l = q := ⟨_, rfl⟩
  obtain ⟨me, hme⟩ : ∃ q, mderr l = q := ⟨_, rfl⟩
  rw [hmm, hme]
  have HM := Aside0.mk hmm
  have HE := Aside0.mk hme
  clear h hc hb hmm hme
  go_enter Try.func14, Try.ntmps14
  go_wp2_with ((with_reducible refine gate_dst (N := 2) rfl ?_); refine box_event ?hg (N := 2) ?hd (cs := #[.int .u64 0, .int .i64 0, .int .i64 0, .int .i64 0, .int .i64 0, .int .u32 0]) (t := 27) ?hr ?_; (case hd => rfl); (case hg => rfl); (case hr => first | (go_simp; done) | (go_simp; rfl)); intro g hg w0 hbox hb; have B0 := Aside0.mk hb; have BK := Aside0.mk hbox; clear hb hbox; have GE := Aside0.mk (show w.heap.size ≤ g from by rw [hg]; exact Nat.le_refl _); clear hg)
  refine (decode_w (Kd.C_below HC.out B0.out) LC.out HBY.out hl).mono ?_
  rintro e w1 ⟨A1, c1, rfl, hle1, hC1, hb1⟩
  have B1 := Aside0.mk (below_step B0.out hb1)
  have BK1 := Aside0.mk (blk_below BK.out hb1)
  have HC1 := Aside0.mk (Kd.C_below HC.out B1.out)
  have T1 := Aside0.mk (And.intro hle1 hC1)
  have HT := Aside0.mk (dec_text HBY.out)
  clear hle1 hC1 hb1 BK B0 HC HB
  by_cases he : (dec l).2.2 = 0
  · have hmd : mm = if OkM l then nums (dec l).1 else Mf.zero := HM.out.symm
    have hmr : me = if OkM l then 0 else 2 := by
      rw [← HE.out]; unfold mderr; rw [if_pos he]
    have hok : OkM l ↔ (nums (dec l).1).Right ∧ Oct.enc (nums (dec l).1).text = l := ⟨fun h => h.2, fun h => ⟨he, h⟩⟩
    have HOK := Aside0.mk hok
    have HMD := Aside0.mk hmd
    have HMR := Aside0.mk hmr
    have e1 : ((dec l).2.2 == 0) = true := beq_iff_eq.mpr he
    clear hok hmd hmr he HM HE
    have wf := Aside0.mk (nums_wf HT.out.1)
    generalize (dec l).2.2 = er at *
    generalize (dec l).2.1 = sz at *
    generalize (dec l).1 = t at *
    obtain rfl : er = 0 := beq_iff_eq.mp e1
    clear e1
    go_wp2_with ((with_reducible refine gate_dst (N := 7) rfl ?_); refine box_event ?hg (N := 7) ?hd (cs := #[.int .u64 0, .int .u64 0, .int .u64 0, .int .u64 0, .int .u64 0, .int .u64 0]) (t := 51) ?hr ?_; (case hd => rfl); (case hg => rfl); (case hr => first | (go_simp; done) | (go_simp; rfl)); intro g7 hg w2 hbox hb; have B2 := Aside0.mk (below_step B1.out hb); have BK2 := Aside0.mk (blk_below BK1.out hb); have BA2 := Aside0.mk hbox; have T2 := Aside0.mk (And.intro T1.out.1 (Kd.F_below (Kd.F_mono (ok' := fun k => k < g7) (Kd.C_F (Kd.heap_int .u8) T1.out.2) (fun k hk => by rw [hg]; exact hk)) hb)); have HC2 := Aside0.mk (Kd.F_below (Kd.F_mono (ok' := fun k => k < g7) (Kd.C_F (Kd.heap_int .u8) HC1.out) (fun k hk => by rw [hg]; exact hk)) hb); have GA := Aside0.mk (show w.heap.size ≤ g7 ∧ g < g7 from by rw [hg]; exact ⟨below_size B1.out, blk_lt BK1.out⟩); clear hb hbox hg)
    clear T1 HC1 B1 BK1
    go_loopg [8, 22] 6 (fun kq v8 v22 w' => ∃ j : Nat, kq + j = 6 ∧ v22 = .int .i64 (j : Nat) ∧ Aside0 (Below w.heap.size w w') ∧ Aside0 (w'.heap[g]? = some (.cells #[.int .u64 0, .int .i64 0, .int .i64 0, .int .i64 0, .int .i64 0, .int .u32 0] 27 (0, 0))) ∧ Aside0 (w'.heap[g7]? = some (.cells (arr t j) 51 (0, 0))) ∧ Aside0 (t.length ≤ c1 ∧ Kd.F (Kd.int .u8) w' (fun k => k < g7) A1 t.length t) ∧ Aside0 (Kd.F (Kd.int .u8) w' (fun k => k < g7) A l.length l))
    case atStart => exact ⟨0, by omega, by first | rfl | simp, B2, BK2, ⟨by rw [arr_zero]; exact BA2.out⟩, T2, HC2⟩
    case round =>
      clear B2 BK2 BA2 T2 HC2
      obtain ⟨j, hj, rfl, B2, BK2, BA2, T2, HC2⟩ := hrel
      by_cases hj6 : j < 6
      · have htl := Aside0.mk HT.out.2
        go_wp2_with fail
        refine (get8_w (Kd.F_now T2.out.2) T2.out.1 HT.out.1 htl.out j hj6).mono ?_
        rintro e w3 ⟨⟨b, rfl⟩, hb3⟩
        have B3 := Aside0.mk (below_step B2.out hb3)
        have BK3 := Aside0.mk (blk_below BK2.out hb3)
        have BA3 := Aside0.mk (blk_below BA2.out hb3)
        have T3 := Aside0.mk (And.intro T2.out.1 (Kd.F_below T2.out.2 hb3))
        have HC3 := Aside0.mk (Kd.F_below HC2.out hb3)
        have hcj : w3.cell? ⟨g7, j, none⟩ = some (.int .u64 0) := (blk_cell BA3.out j).trans (arr_at t j hj6)
        have hfj := blk_frozen BA3.out j
        clear hb3 B2 BK2 BA2 T2 HC2
        go_wp2
        obtain ⟨k1, rfl⟩ : ∃ k1, gk = k1 + 1 := ⟨gk - 1, by omega⟩
        go_roundg k1
        case measure => omega
        case rel => exact ⟨j + 1, by omega, by simp, ⟨B3.out.setCell GA.out.1 _⟩, ⟨(Below.heap_setCell _ _ _ _ (Nat.ne_of_lt GA.out.2)).trans BK3.out⟩, ⟨blk_put BA3.out j _ (arr_set t j hj6)⟩,
          ⟨T3.out.1, Kd.F_far T3.out.2 (fun k hk => Nat.ne_of_lt hk) _⟩, ⟨Kd.F_far HC3.out (fun k hk => Nat.ne_of_lt hk) _⟩⟩
      · obtain rfl : j = 6 := by omega
        rw [arr_all] at BA2
        obtain ⟨h0, h1, h2, h3, h4, h5⟩ := six_cells BA2.out
        have hb0 := at8_bounds HT.out.1 0
        have hb5 := at8_bounds HT.out.1 5
        have HN := Aside0.mk (show nums t = ⟨at8 t 0, wrap64 (at8 t 1), wrap64 (at8 t 2), wrap64 (wrap64 (at8 t 3) - 1), wrap64 (at8 t 4), at8 t 5 % 4294967296⟩ from rfl)
        generalize at8 t 0 = x0 at *
        generalize at8 t 1 = x1 at *
        generalize at8 t 2 = x2 at *
        generalize at8 t 3 = x3 at *
        generalize at8 t 4 = x4 at *
        generalize at8 t 5 = x5 at *
        go_wp2_with ((with_reducible refine gate_dst (N := 9) rfl ?_); refine box_event ?hg (N := 9) ?hd (cs := #[.int .u64 0, .int .i64 0, .int .i64 0, .int .i64 0, .int .i64 0, .int .u32 0]) (t := 27) ?hr ?_; (case hd => rfl); (case hg => rfl); (case hr => first | (go_simp; done) | (go_simp; rfl)); intro g9 hg w4 hbox hb; have B4 := Aside0.mk (below_step B2.out hb); have BK4 := Aside0.mk (blk_below BK2.out hb); have BM4 := Aside0.mk hbox; have HC4 := Aside0.mk (Kd.F_below HC2.out hb); have GM := Aside0.mk (show w.heap.size ≤ g9 ∧ g < g9 ∧ g7 < g9 from by rw [hg]; exact ⟨below_size B2.out, blk_lt BK2.out, blk_lt BA2.out⟩); obtain ⟨k0, k1, k2, k3, k4, k5⟩ := six_cells hbox; obtain ⟨f0, f1, f2, f3, f4, f5⟩ := six_free hbox; clear hb hbox hg)
        rw [HN.out] at HOK HMD wf
        refine (mencode_w ⟨x0, wrap64 x1, wrap64 x2, wrap64 (wrap64 x3 - 1), wrap64 x4, x5 % 4294967296⟩ wf.out _).mono ?_
        rintro e w6 ⟨A6, c6, rfl, hle6, hC6, hb6⟩
        have B6 := Aside0.mk (below_step (six_below B4.out GM.out.1 _ _ _ _ _ _) hb6)
        have BK6 := Aside0.mk (blk_below (six_other BK4.out (Nat.ne_of_lt GM.out.2.1) _ _ _ _ _ _) hb6)
        have BM6 := Aside0.mk (blk_below (six_put BM4.out _ _ _ _ _ _) hb6)
        have HC6 := Aside0.mk (Kd.C_below (Kd.F_now (six_F HC4.out (Nat.le_of_lt GM.out.2.2) _ _ _ _ _ _)) hb6)
        have C6 := Aside0.mk (And.intro hle6 hC6)
        clear hle6 hC6 hb6 B4 BK4 BM4 HC4 h0 h1 h2 h3 h4 h5 k0 k1 k2 k3 k4 k5 f0 f1 f2 f3 f4 f5 hb0 hb5 B2 BK2 BA2 T2 HC2 HT
        obtain ⟨h0, h1, h2, h3, h4, h5⟩ := six_cells BK6.out
        obtain ⟨f0, f1, f2, f3, f4, f5⟩ := six_free BK6.out
        obtain ⟨k0, k1, k2, k3, k4, k5⟩ := six_cells BM6.out
        by_cases hr : (⟨x0, wrap64 x1, wrap64 x2, wrap64 (wrap64 x3 - 1), wrap64 x4, x5 % 4294967296⟩ : Mf).Right
        · have en : (⟨x0, wrap64 x1, wrap64 x2, wrap64 (wrap64 x3 - 1), wrap64 x4, x5 % 4294967296⟩ : Mf).enc = Oct.enc (⟨x0, wrap64 x1, wrap64 x2, wrap64 (wrap64 x3 - 1), wrap64 x4, x5 % 4294967296⟩ : Mf).text := if_pos hr
          have er : (⟨x0, wrap64 x1, wrap64 x2, wrap64 (wrap64 x3 - 1), wrap64 x4, x5 % 4294967296⟩ : Mf).err = 0 := if_pos hr
          rw [en] at C6 ⊢
          rw [er]
          have hbt := Aside0.mk (enc_bytes (⟨x0, wrap64 x1, wrap64 x2, wrap64 (wrap64 x3 - 1), wrap64 x4, x5 % 4294967296⟩ : Mf).text_bytes)
          have hok : OkM l ↔ Oct.enc (⟨x0, wrap64 x1, wrap64 x2, wrap64 (wrap64 x3 - 1), wrap64 x4, x5 % 4294967296⟩ : Mf).text = l := ⟨fun h => (HOK.out.1 h).2, fun h => HOK.out.2 ⟨hr, h⟩⟩
          have HO := Aside0.mk hok
          clear en er hok hr HOK
          generalize Oct.enc (⟨x0, wrap64 x1, wrap64 x2, wrap64 (wrap64 x3 - 1), wrap64 x4, x5 % 4294967296⟩ : Mf).text = en at *
          by_cases hq : en = l
          · have hd := Aside0.mk (decide_eq_true hq)
            have hm1 := Aside0.mk (HMD.out.trans (if_pos (HO.out.2 hq)))
            have hm2 := Aside0.mk (HMR.out.trans (if_pos (HO.out.2 hq)))
            clear hq
            go_wp2_with fail
            refine (equal_w C6.out.2 C6.out.1 HC6.out LC.out hbt.out HBY.out).mono ?_
            rw [hd.out]
            rintro e w7 ⟨rfl, m7, rfl⟩
            go_wp2
            refine bodyPost_ret (results_ct rfl _ _ g 27 #[.int .u64 x0, .int .i64 (wrap64 x1), .int .i64 (wrap64 x2), .int .i64 (wrap64 (wrap64 x3 - 1)), .int .i64 (wrap64 x4), .int .u32 (x5 % 4294967296)] (0, 0) _ rfl (six_put (w := w6.drewN m7) (blk_drewN BK6.out _) _ _ _ _ _ _) Try.underlying27 rfl (by kernel_rfl)) rfl ?_
            exact ⟨by rw [hm1.out, hm2.out]; rfl, six_below (pw_below_drewN B6.out _) GE.out _ _ _ _ _ _⟩
          · have hd := Aside0.mk (decide_eq_false hq)
            have hm1 := Aside0.mk (HMD.out.trans (if_neg (fun h => hq (HO.out.1 h))))
            have hm2 := Aside0.mk (HMR.out.trans (if_neg (fun h => hq (HO.out.1 h))))
            clear hq
            go_wp2_with fail
            refine (equal_w C6.out.2 C6.out.1 HC6.out LC.out hbt.out HBY.out).mono ?_
            rw [hd.out]
            rintro e w7 ⟨rfl, m7, rfl⟩
            go_wp2
            refine bodyPost_ret (results_ct rfl _ _ g 27 #[.int .u64 0, .int .i64 0, .int .i64 0, .int .i64 0, .int .i64 0, .int .u32 0] (0, 0) _ rfl (six_put (w := w6.drewN m7) (blk_drewN BK6.out _) _ _ _ _ _ _) Try.underlying27 rfl (by kernel_rfl)) rfl ?_
            exact ⟨by rw [hm1.out, hm2.out]; rfl, six_below (pw_below_drewN B6.out _) GE.out _ _ _ _ _ _⟩
        · have en : (⟨x0, wrap64 x1, wrap64 x2, wrap64 (wrap64 x3 - 1), wrap64 x4, x5 % 4294967296⟩ : Mf).enc = [] := if_neg hr
          have er : (⟨x0, wrap64 x1, wrap64 x2, wrap64 (wrap64 x3 - 1), wrap64 x4, x5 % 4294967296⟩ : Mf).err = 1 := if_neg hr
          rw [en, er]
          have hm1 := Aside0.mk (HMD.out.trans (if_neg (fun h => hr (HOK.out.1 h).1)))
          have hm2 := Aside0.mk (HMR.out.trans (if_neg (fun h => hr (HOK.out.1 h).1)))
          clear en er hr HOK
          go_wp2
          refine bodyPost_ret (results_ct rfl _ _ g 27 #[.int .u64 0, .int .i64 0, .int .i64 0, .int .i64 0, .int .i64 0, .int .u32 0] (0, 0) _ rfl (six_put BK6.out _ _ _ _ _ _) Try.underlying27 rfl (by kernel_rfl)) rfl ?_
          exact ⟨by rw [hm1.out, hm2.out]; rfl, six_below B6.out GE.out _ _ _ _ _ _⟩
  · have hno : ¬ OkM l := fun h => he h.1
    have hm : mm = Mf.zero := HM.out.symm.trans (if_neg hno)
    have hr : me = (dec l).2.2 := by rw [← HE.out]; unfold mderr; rw [if_neg hno, if_neg he]
    have e2 : ((dec l).2.2 != 0) = true := bne_iff_ne.mpr he
    have HM1 := Aside0.mk hm
    have HR1 := Aside0.mk hr
    clear hm hr hno he HM HE
    generalize (dec l).2.2 = er at *
    obtain ⟨h0, h1, h2, h3, h4, h5⟩ := six_cells BK1.out
    obtain ⟨f0, f1, f2, f3, f4, f5⟩ := six_free BK1.out
    go_wp2
    refine bodyPost_ret (results_ct rfl _ _ g 27 #[.int .u64 0, .int .i64 0, .int .i64 0, .int .i64 0, .int .i64 0, .int .u32 0] (0, 0) _ rfl (six_put BK1.out _ _ _ _ _ _) Try.underlying27 rfl (by kernel_rfl)) rfl ?_
    exact ⟨by rw [HM1.out, HR1.out]; rfl, six_below B1.out GE.out _ _ _ _ _ _⟩
end Go.Proofs.Ytibahgondccdiaa.PAll
