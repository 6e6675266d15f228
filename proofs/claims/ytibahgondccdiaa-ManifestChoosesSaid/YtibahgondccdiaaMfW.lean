/- The contracts of manifest: Encode, Decode, Choose, over lists alone. -/
import Derived.Test.YtibahgondccdiaaMfA
import Derived.Test.YtibahgondccdiaaHx
import Derived.Test.YtibahgondccdiaaPAllx3
namespace Go.Proofs.Ytibahgondccdiaa.PAll
open Go.RowKit Go.Proofs.Ytibahgondccdiaa.Oct Go.Proofs.Ytibahgondccdiaa.HX Go.Proofs.YtibahgondccdiaaW.PrintWords Go.Proofs.YtibahgondccdiaaW.PrintLast Go.Proofs.YtibahgondccdiaaW.PrintMore
attribute [local go_sem] max2_int min2_int max_two min_two max_three min_three max_four min_four   -- for this text's walks alone
set_option linter.unusedVariables false
set_option linter.unusedSimpArgs false
theorem u8info5 : (Try.prog.info? 5).map (fun i => (i.zero, i.size, i.bytes)) = some (some (.int .u8 0), 1, 1) := by kernel_rfl
theorem at_six (x0 x1 x2 x3 x4 x5 : Int) (j : Nat) (hj : j < 6) (W : World) : (Instr.index 51 (.agg #[.int .u64 x0, .int .u64 x1, .int .u64 x2, .int .u64 x3, .int .u64 x4, .int .u64 x5]) (.int .i64 (j : Nat))).run Try.prog W = .ok (.int .u64 ([x0, x1, x2, x3, x4, x5].getD j 0)) W := by
  rcases (by omega : j = 0 ∨ j = 1 ∨ j = 2 ∨ j = 3 ∨ j = 4 ∨ j = 5) with rfl | rfl | rfl | rfl | rfl | rfl
  all_goals kernel_rfl
theorem put8_w {A : Option Addr} {c : Nat} {l : List Int} {w : World} (h : Kd.C (Kd.int .u8) w A l.length l) (hc : l.length ≤ c) (hl : l.length ≤ 1000) (x : Int) :
    Calls Try.prog 19 #[.slice A l.length c, .int .i64 8, .int .u64 x] w fun e w' => ∃ A' c', e = .returned (.slice A' (l ++ le 8 x).length c') ∧ (l ++ le 8 x).length ≤ c' ∧ Kd.C (Kd.int .u8) w' A' (l ++ le 8 x).length (l ++ le 8 x) ∧ Below w.heap.size w w' := by
  refine (octets_Put.calls 10 _ _ l 8 x _ _ h hc (put_is 10 l 8 x (by omega) (by omega))).mono ?_
  rintro e w3 ⟨v3, rfl, ho3, hb3⟩
  obtain ⟨A3, c3, rfl⟩ := Kd.R_slice ho3
  have O3 := R_C ho3
  exact ⟨A3, c3, rfl, O3.2.1, O3.2.2, hb3⟩
theorem encode_w {A : Option Addr} {c : Nat} {l : List Int} {w : World} (h : Kd.C (Kd.int .u8) w A l.length l) (hc : l.length ≤ c) (hb : Bytes l) (hl : l.length ≤ 1000) :
    Calls Try.prog 20 #[.slice A l.length c] w fun e w' => ∃ A' c', e = .returned (.tuple #[.slice A' (enc l).length c', .int .i64 0]) ∧ (enc l).length ≤ c' ∧ Kd.C (Kd.int .u8) w' A' (enc l).length (enc l) ∧ Below w.heap.size w w' := by
  refine (block_Encode.calls 20000 (fun k => k < w.heap.size) _ _ l _ _ _ (Kd.V_mk hc (Kd.C_F (Kd.heap_int .u8) h)) (encode_is hb hl 20000 (by omega))).mono ?_
  rintro e w3 ⟨v3, rfl, ho3, hb3⟩
  obtain ⟨A3, c3, rfl⟩ := Kd.R_slice ho3
  have O3 := R_C ho3
  exact ⟨A3, c3, rfl, O3.2.1, O3.2.2, hb3⟩

theorem six_cells {w : World} {g t : Nat} {c0 c1 c2 c3 c4 c5 : Value} (h : w.heap[g]? = some (.cells #[c0, c1, c2, c3, c4, c5] t (0, 0))) :
    w.cell? ⟨g, 0, none⟩ = some c0 ∧ w.cell? ⟨g, 1, none⟩ = some c1 ∧ w.cell? ⟨g, 2, none⟩ = some c2 ∧ w.cell? ⟨g, 3, none⟩ = some c3 ∧ w.cell? ⟨g, 4, none⟩ = some c4 ∧ w.cell? ⟨g, 5, none⟩ = some c5 :=
  ⟨(blk_cell h 0).trans rfl, (blk_cell h 1).trans rfl, (blk_cell h 2).trans rfl, (blk_cell h 3).trans rfl, (blk_cell h 4).trans rfl, (blk_cell h 5).trans rfl⟩
set_option maxHeartbeats 4000000 in
set_option maxRecDepth 100000 in
theorem mencode_w (m : Mf) (wf : m.Wf) (w : World) :
    Calls Try.prog 10 #[.agg #[.int .u64 m.s, .int .i64 m.n, .int .i64 m.h, .int .i64 m.t, .int .i64 m.k, .int .u32 m.p]] w fun e w' => ∃ A' c', e = .returned (.tuple #[.slice A' m.enc.length c', .int .i64 m.err]) ∧ m.enc.length ≤ c' ∧ Kd.C (Kd.int .u8) w' A' m.enc.length m.enc ∧ Below w.heap.size w w' := by
  have hright := mright_is wf 5000 (by omega)
  have hu27 := Try.underlying27
  have HB := Aside0.mk (Below.refl w.heap.size w)
  by_cases hr : m.Right
  · rw [show m.right = true from decide_eq_true hr] at hright
    have he : m.enc = Oct.enc m.text := if_pos hr
    have he0 : m.err = 0 := if_pos hr
    rw [he, he0]
    have HR := Aside0.mk hright
    have WF := Aside0.mk wf
    have hidx := fun (j : Nat) (hj : j < 6) => at_six m.s (IntKind.u64.wrap m.n) (IntKind.u64.wrap m.h) (IntKind.u64.wrap (wrap64 (m.t + 1))) (IntKind.u64.wrap m.k) (IntKind.u64.wrap m.p) j hj
    have HI := Aside0.mk hidx
    clear hright hr he he0 hidx wf
    go_enter Try.func10, Try.ntmps10
    go_wp2_with ((with_reducible refine gate_dst (N := 1) rfl ?_); refine box_event ?hg (N := 1) ?hd (cs := #[.int .u64 m.s, .int .i64 m.n, .int .i64 m.h, .int .i64 m.t, .int .i64 m.k, .int .u32 m.p]) (t := 27) ?hr ?_; (case hd => rfl); (case hg => rfl); (case hr => first | (go_simp; done) | (go_simp; rfl)); intro g hg w0 hbox hb; have B0 := Aside0.mk hb; have BK := Aside0.mk hbox; clear hb hg; obtain ⟨h0, h1, h2, h3, h4, h5⟩ := six_cells hbox; clear hbox)
    refine (manifest_Right.calls 5000 _ _ _ _ _ _ _ _ HR.out).mono ?_
    rintro e w1 ⟨rfl, hb1⟩
    have B1 := Aside0.mk (below_step B0.out hb1)
    obtain ⟨h0, h1, h2, h3, h4, h5⟩ := six_cells (blk_below BK.out hb1)
    clear BK B0 HB hb1
    go_wp2
    clear h0 h1 h2 h3 h4 h5 HR WF
    go_loopg [4, 31] 6 (fun kq v4 v31 w' => ∃ (j : Nat) (A : Option Addr) (c : Nat), kq + j = 6 ∧ v31 = .int .i64 (j : Nat) ∧ v4 = .slice A (texts (m.vals.take j)).length c ∧ Aside0 ((texts (m.vals.take j)).length ≤ c ∧ Kd.C (Kd.int .u8) w' A (texts (m.vals.take j)).length (texts (m.vals.take j))) ∧ Aside0 (Below w.heap.size w w'))
    case atStart => exact ⟨0, none, 0, by omega, by first | rfl | simp, by rfl, ⟨by simp [texts], by simpa [texts] using Kd.C_nil (d := Kd.int .u8) w1⟩, B1⟩
    case round =>
      clear B1
      obtain ⟨j, A, c, hj, rfl, rfl, HC, HB⟩ := hrel
      by_cases hj6 : j < 6
      · have hix := HI.out j hj6
        have htt := texts_take m.vals j hj6
        have hle : (texts (m.vals.take j)).length ≤ 48 := by rw [texts_length, List.length_take]; omega
        have hgv : [m.s, IntKind.u64.wrap m.n, IntKind.u64.wrap m.h, IntKind.u64.wrap (wrap64 (m.t + 1)), IntKind.u64.wrap m.k, IntKind.u64.wrap m.p].getD j 0 = m.vals[j]'hj6 := by
          show m.vals.getD j 0 = _
          rw [List.getD_eq_getElem?_getD, List.getElem?_eq_getElem (show j < m.vals.length from hj6)]; rfl
        rw [hgv] at hix
        have HT := Aside0.mk htt
        clear htt hgv
        generalize m.vals[j]'hj6 = x at *
        generalize texts (m.vals.take j) = y at *
        go_wp2_with fail
        refine (put8_w HC.out.2 HC.out.1 (by omega) x).mono ?_
        rintro e w2 ⟨A2, c2, rfl, hle2, hC2, hb2⟩
        have B2 := Aside0.mk (below_step HB.out hb2)
        rw [← HT.out] at hle2 hC2 ⊢
        have C2 := Aside0.mk (And.intro hle2 hC2)
        clear hle2 hC2 hb2 HC HB HT hix
        go_wp2
        obtain ⟨k1, rfl⟩ : ∃ k1, gk = k1 + 1 := ⟨gk - 1, by omega⟩
        go_roundg k1
        case measure => omega
        case rel => exact ⟨j + 1, A2, c2, by omega, by simp, rfl, C2, B2⟩
      · obtain rfl : j = 6 := by omega
        rw [show m.vals.take 6 = m.vals from rfl] at HC ⊢
        rw [show texts m.vals = m.text from rfl] at HC ⊢
        have HT := Aside0.mk m.text_bytes
        have hl48 : m.text.length ≤ 1000 := by rw [m.text_length]; omega
        clear HI
        go_wp2_with fail
        refine (encode_w HC.out.2 HC.out.1 HT.out hl48).mono ?_
        rintro e w2 ⟨A2, c2, rfl, hle2, hC2, hb2⟩
        have B2 := Aside0.mk (below_step HB.out hb2)
        have C2 := Aside0.mk (And.intro hle2 hC2)
        clear hle2 hC2 hb2 HC HB HT
        go_wp2
        go_ret2
        exact ⟨A2, c2, rfl, C2.out.1, C2.out.2, B2.out⟩
  · rw [show m.right = false from decide_eq_false hr] at hright
    have he : m.enc = [] := if_neg hr
    have he0 : m.err = 1 := if_neg hr
    rw [he, he0]
    have HR := Aside0.mk hright
    clear hright hr he he0 wf
    go_enter Try.func10, Try.ntmps10
    go_wp2_with ((with_reducible refine gate_dst (N := 1) rfl ?_); refine box_event ?hg (N := 1) ?hd (cs := #[.int .u64 m.s, .int .i64 m.n, .int .i64 m.h, .int .i64 m.t, .int .i64 m.k, .int .u32 m.p]) (t := 27) ?hr ?_; (case hd => rfl); (case hg => rfl); (case hr => first | (go_simp; done) | (go_simp; rfl)); intro g hg w0 hbox hb; have B0 := Aside0.mk hb; have BK := Aside0.mk hbox; clear hb hg; obtain ⟨h0, h1, h2, h3, h4, h5⟩ := six_cells hbox; clear hbox)
    refine (manifest_Right.calls 5000 _ _ _ _ _ _ _ _ HR.out).mono ?_
    rintro e w1 ⟨rfl, hb1⟩
    have B1 := Aside0.mk (below_step B0.out hb1)
    clear BK B0 HB hb1
    go_wp2
    go_ret2
    exact ⟨none, 0, rfl, Nat.le_refl _, Kd.C_nil _ _, B1.out⟩
end Go.Proofs.Ytibahgondccdiaa.PAll
