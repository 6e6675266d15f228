/- BlockBack: what was told is read as it was. Conditions: none. -/
import Derived.Test.YtaaojocooklfaaaRefW
import Derived.StillTailTactics
namespace Go.Proofs.Ytaaojocooklfaaa.PAll
open Go.RowKit Go.Proofs.Ytaaojocooklfaaa.Oct Go.Proofs.Ytaaojocooklfaaa.HX Go.Proofs.YtaaojocooklfaaaW.PrintWords Go.Proofs.YtaaojocooklfaaaW.PrintLast Go.Proofs.YtaaojocooklfaaaW.PrintMore
attribute [local go_sem] max2_int min2_int max_two min_two max_three min_three max_four min_four   -- for this text's walks alone
set_option linter.unusedVariables false
set_option linter.unusedSimpArgs false
/-- The first k texts cut to a thousand bytes. -/
def cutK (l : List (List Int)) (k : Nat) : List (List Int) := (l.take k).map (·.take 1000) ++ l.drop k
theorem cutK_length (l : List (List Int)) (k : Nat) : (cutK l k).length = l.length := by
  unfold cutK; simp only [List.length_append, List.length_map, List.length_take, List.length_drop]; omega
theorem cutK_zero (l : List (List Int)) : cutK l 0 = l := by simp [cutK]
theorem cutK_all (l : List (List Int)) : cutK l l.length = l.map (·.take 1000) := by simp [cutK]
theorem cutK_at (l : List (List Int)) (k : Nat) (hk : k < l.length) : (cutK l k).getD k [] = l[k] := by
  unfold cutK
  rw [List.getD_eq_getElem?_getD, List.getElem?_append_right (by simp; omega)]
  simp [Nat.min_eq_left (Nat.le_of_lt hk), List.getElem?_eq_getElem hk]
theorem cutK_set (l : List (List Int)) (k : Nat) (hk : k < l.length) : (cutK l k).set k (l[k].take 1000) = cutK l (k + 1) := by
  unfold cutK
  have hm : ((l.take k).map (·.take 1000)).length = k := by simp; omega
  rw [List.set_append_right _ _ (by omega), hm, Nat.sub_self, List.take_succ_eq_append_getElem hk, List.map_append]
  conv => lhs; rw [List.drop_eq_getElem_cons hk]
  simp only [List.set_cons_zero, List.map_cons, List.map_nil, List.append_assoc, List.singleton_append]
/-- The sizes of the blocks so far. -/
def sizeK (l : List (List Int)) (k : Nat) : Nat := (encs ((l.take k).map (·.take 1000))).length
theorem sizeK_succ (l : List (List Int)) (k : Nat) (hk : k < l.length) : sizeK l (k + 1) = sizeK l k + (l[k].take 1000).length + 6 := by
  unfold sizeK
  rw [List.take_succ_eq_append_getElem hk, List.map_append, Oct.encs_append, List.length_append]
  simp [Oct.encs, enc_length]; omega
theorem sizeK_le (l : List (List Int)) (k : Nat) : sizeK l k ≤ 1006 * l.length := by
  unfold sizeK
  refine Nat.le_trans (encs_length_le (fun t ht => ?_)) ?_
  · obtain ⟨s, _, rfl⟩ := List.mem_map.1 ht
    rw [List.length_take]; omega
  · simp only [List.length_map, List.length_take]; omega
theorem sizeK_all (l : List (List Int)) : sizeK l l.length = (encs (l.map (·.take 1000))).length := by simp [sizeK]

/-- What a round finds of the element that it cuts. -/
theorem cut_round {w0 wr : World} {base g n cap k : Nat} {l : List (List Int)} (hN : Kd.N (Kd.slice 5 (Kd.int .u8)) 22 wr base (fun _ => True) (.slice (some ⟨g, 0, none⟩) n cap) (cutK l k)) (hk : k < l.length) :
    ∃ A m c q, wr.cell? ⟨g, k, none⟩ = some (.slice A m c) ∧ q = l[k].take 1000 ∧ (if (1000 : Int) < (m : Int) then (1000 : Int) else (m : Int)) = (q.length : Int) ∧ m ≤ 9223372036854775807 ∧
      (∀ W : World, (Instr.slice 22 (.slice A m c) none (some (.int .i64 (q.length : Int))) none).run Try.prog W = .ok (.slice A q.length c) W) ∧ Kd.FK (Kd.slice 5 (Kd.int .u8)) wr (fun j => True ∧ j ≠ g) q [.slice A q.length c] := by
  have hn := (Kd.N_reads' hN).1
  rw [cutK_length] at hn
  obtain ⟨ce, hcl, hM, hcc, hfr⟩ := Kd.N_elem hN [] (k : Int) (by omega) (by omega)
  rw [Int.toNat_natCast, cutK_at l k hk] at hM
  obtain ⟨A, c, rfl, hle, hF⟩ := Kd.FK_slice_open hM
  have hcell := hcc 0 _ rfl
  have hC := Kd.F_now hF
  obtain ⟨q, hq, hmin, hcut, hCq, hleq, _⟩ := cut_min 22 5 Try.underlying22 info5 hC hle 1000
  refine ⟨A, l[k].length, c, q, by simpa [Kd.slice] using hcell, hq, hmin, hC.2.1, hcut, Kd.FK_slice_mk hleq (Kd.F_imp hF (fun W' h => ?_))⟩
  obtain ⟨q', hq', _, _, hCq', _⟩ := cut_min 22 5 Try.underlying22 info5 h hle 1000
  rw [hq, ← hq']
  exact hCq'

/-- An element's cell. -/
theorem elem_at {wr : World} {base g n cap k : Nat} {l : List (List Int)} (hN : Kd.N (Kd.slice 5 (Kd.int .u8)) 22 wr base (fun _ => True) (.slice (some ⟨g, 0, none⟩) n cap) l) (hk : k < l.length) :
    ∃ A c, wr.cell? ⟨g, k, none⟩ = some (.slice A (l.getD k []).length c) := by
  have hn := (Kd.N_reads' hN).1
  obtain ⟨ce, hcl, hM, hcc, hfr⟩ := Kd.N_elem hN [] (k : Int) (by omega) (by omega)
  rw [Int.toNat_natCast] at hM
  obtain ⟨A, c, rfl, hle, hF⟩ := Kd.FK_slice_open hM
  exact ⟨A, c, by simpa [Kd.slice] using hcc 0 _ rfl⟩
theorem cutK_done (l : List (List Int)) (k : Nat) (hk : k < l.length) : (cutK l (k + 1)).getD k [] = l[k].take 1000 := by
  rw [← cutK_set l k hk, List.getD_eq_getElem?_getD, List.getElem?_set_self (by rw [cutK_length]; exact hk)]; rfl

set_option maxHeartbeats 4000000 in
set_option maxRecDepth 100000 in
theorem cartagelaw04_BlockBack.calls (A0 : Option Addr) (c0 : Nat) (l0 : List (List Int)) (w : World) (hr0 : Kd.C (Kd.slice 5 (Kd.int .u8)) w A0 l0.length l0) (hc0 : l0.length ≤ c0) (hb0 : ∀ t ∈ l0, Bytes t) :
    Calls Try.prog 8 #[.slice A0 l0.length c0] w fun e w' => e = .returned (.bool true) ∧ Below w.heap.size w w' := by
  have m0 := few_mem hb0
  have n0 := (few_length l0).1
  have R0 := Aside0.mk hr0
  have C0 := Aside0.mk hc0
  have M0 := Aside0.mk m0
  clear hr0 hc0 m0 hb0
  go_enter Try.func8, Try.ntmps8
  go_wp2_with fail
  refine (shown_true _).mono ?_
  rintro e w1 ⟨rfl, hb1⟩
  have B1 := Aside0.mk hb1
  clear hb1
  go_wp2_with fail
  refine (few_w (Kd.C_below R0.out B1.out) C0.out).mono ?_
  rintro e w2 ⟨A2, c2, rfl, hle2, hS2, hb2⟩
  have B2 := Aside0.mk (below_step B1.out hb2)
  have S2 := Aside0.mk (Kd.N_lower (Kd.S_N hS2) (below_size B1.out))
  clear hb2 hle2 hS2 B1 R0 C0
  generalize few l0 = x at *
  go_wp2
  go_loopg [4, 5] x.length (fun kq v4 v5 w' => ∃ k : Nat, kq + k = x.length ∧ v4 = .int .i64 (sizeK x k : Nat) ∧ v5 = .int .i64 (k : Nat) ∧ Aside0 (Kd.N (Kd.slice 5 (Kd.int .u8)) 22 w' w.heap.size (fun _ => True) (.slice A2 x.length c2) (cutK x k)) ∧ Aside0 (Below w.heap.size w w'))
  case atStart => exact ⟨0, by omega, by first | rfl | simp, by first | rfl | simp, ⟨by rw [cutK_zero]; exact S2.out⟩, B2⟩
  case round =>
    clear S2 B2
    rename_i wr
    obtain ⟨k, hk, rfl, rfl, HN, HB⟩ := hrel
    by_cases hlt : k < x.length
    · obtain ⟨g, cap, hv, hg1, hg2, _⟩ := Kd.N_form HN.out (by rw [cutK_length]; omega)
      injection hv with h1 h2 h3
      subst h1 h3
      obtain ⟨A, m, c, q, hcell, hq, hmin, hm, hcut, hF⟩ := cut_round (w0 := w) HN.out hlt
      have hs := sizeK_succ x k hlt
      have hsl := sizeK_le x (k + 1)
      rw [← hq] at hs
      have HQ := Aside0.mk hq
      have HF := Aside0.mk hF
      have HS := Aside0.mk hs
      have hql : q.length ≤ 1000 := by rw [hq, List.length_take]; omega
      have hsk := sizeK_le x k
      clear hq hF hs hg1 hg2 h2
      generalize hy : sizeK x k = y at *
      clear hy
      go_wp2
      go_still_tail 14, (by kernel_rfl)
      have hinf : (Try.prog.info? 22).map (·.size) = some [Value.slice A q.length c].length := by kernel_rfl
      refine Kd.N_store (Kd.slice 5 (Kd.int .u8)) (w0 := w) w.heap.size rfl rfl 22 (.tmp 33) (.tmp 32) rfl 22 (k : Int) 0 (cutK x k) q (.slice A q.length c) [.slice A q.length c] [.slice A m c] (fun _ => True) (fun j => True ∧ j ≠ g) rfl (by simp [Kd.slice]) rfl rfl hinf (by simp [Value.oneCell']) (Kd.N_drew HN.out) (by omega) (by omega) rfl ?hcc (Nat.le_refl 1) (Kd.FK_step HF.out (fun j hj hlt => rfl)) (fun j hj => hj) (below_drew HB.out) ?_
      case hcc =>
        intro j u hu
        have hj0 : j = 0 := by
          have := (List.getElem?_eq_some_iff.1 hu).1
          simpa using this
        subst hj0
        have hu' : u = .slice A m c := by simpa using hu.symm
        rw [hu']
        simpa [Kd.slice] using hcell
      intro w3 hN3 hb3 hg3
      rw [Int.toNat_natCast, HQ.out, cutK_set x k hlt] at hN3
      have N3 := Aside0.mk hN3
      have B3 := Aside0.mk hb3
      clear hN3 hb3 hg3 hcell hcut HF HN HB hmin hinf
      obtain ⟨A3, c3, hcell3⟩ := elem_at N3.out (k := k) (by rw [cutK_length]; exact hlt)
      rw [cutK_done x k hlt, ← HQ.out] at hcell3
      go_wp2
      obtain ⟨k1, rfl⟩ : ∃ k1, gk = k1 + 1 := ⟨gk - 1, by omega⟩
      go_roundg k1
      case measure => omega
      case rel => exact ⟨k + 1, by omega, by rw [HS.out]; simp, by simp, N3, B3⟩
    · obtain rfl : k = x.length := by omega
      rw [cutK_all] at HN
      have hsz := sizeK_all x
      have hx1 : ∀ t ∈ x.map (·.take 1000), Bytes t ∧ t.length ≤ 1000 := fun t ht => by
        obtain ⟨s, hs, rfl⟩ := List.mem_map.1 ht
        exact ⟨(M0.out s hs).1.take _, by rw [List.length_take]; omega⟩
      have HX := Aside0.mk hx1
      have HZ := Aside0.mk hsz
      have hsl := sizeK_le x x.length
      have hxl : (x.map (·.take 1000)).length = x.length := by simp
      clear hx1 hsz
      rw [← hxl] at HN
      generalize x.map (·.take 1000) = y at *
      generalize sizeK x x.length = z at *
      have N3 := Aside0.mk (Kd.N_reads' HN.out)
      clear HN
      have hk20 : y.length ≤ 20 := by omega
      rw [← hxl]
      clear hxl hsl hk hlt M0 n0
      have hJ := join_w N3.out.2.2 N3.out.2.1 (fun t ht => (HX.out t ht).1) (by omega)
      rw [(joined_ok (fun t ht => (HX.out t ht).2)).1, (joined_ok (fun t ht => (HX.out t ht).2)).2] at hJ
      have HJ := Aside0.mk hJ
      have hbl : (encs y).length ≤ 1006 * y.length := encs_length_le (fun t ht => (HX.out t ht).2)
      have hbb := Aside0.mk (encs_bytes (fun t ht => (HX.out t ht).1))
      have hall := Aside0.mk (all_encs HX.out)
      clear hJ
      go_wp2_with fail
      refine HJ.out.mono ?_
      rintro e w4 ⟨A4, c4, rfl, hle4, hC4, hb4⟩
      have B4 := Aside0.mk (below_step HB.out hb4)
      have N4 := Aside0.mk (Kd.C_below N3.out.2.2 hb4)
      have L3 := Aside0.mk N3.out.2.1
      have C4 := Aside0.mk hC4
      have L4 := Aside0.mk hle4
      have hA := fun w (h : Kd.C (Kd.int .u8) w A4 (encs y).length (encs y)) => all_w h L4.out hbb.out (by omega)
      rw [hall.out] at hA
      have HA := Aside0.mk hA
      clear hb4 hle4 hC4 N3 HB HJ hA
      generalize encs y = b at *
      obtain rfl : z = b.length := HZ.out
      clear HZ hall
      go_wp2_with fail
      refine (HA.out _ C4.out).mono ?_
      rintro e w5 ⟨A5, c5, rfl, hle5, hC5, hb5⟩
      have B5 := Aside0.mk (below_step B4.out hb5)
      have N5 := Aside0.mk (Kd.C_below N4.out hb5)
      have C5 := Aside0.mk hC5
      have L5 := Aside0.mk hle5
      clear hb5 hle5 hC5 N4 B4 C4 HA
      go_wp2_with fail
      refine (same_w0 N5.out L3.out C5.out L5.out).mono ?_
      rintro e w6 ⟨rfl, m6, rfl⟩
      go_wp2
      go_ret
      exact ⟨rfl, pw_below_drewN B5.out _⟩
theorem cartagelaw04_BlockBack.walk (a0 : Option Addr) (len0 cap0 : Nat) (z0 : List (List Int)) (w : World)
    (w0 : z0.length = len0 ∧ z0.length ≤ cap0 ∧ Kd.C (Kd.slice 5 (Kd.int .u8)) w a0 z0.length z0 ∧ ∀ t ∈ z0, ∀ n ∈ t, (Lit.int .u8 n).wf = true) :
    Calls Try.prog 8 #[.slice a0 len0 cap0] w fun e w' => e = .returned (.bool true) ∧ Below w.heap.size w w' := by
  obtain ⟨rfl, hc0, hr0, hw0⟩ := w0
  exact cartagelaw04_BlockBack.calls _ _ z0 w hr0 hc0 (fun t ht => bytes_of_wf (hw0 t ht))
end Go.Proofs.Ytaaojocooklfaaa.PAll
