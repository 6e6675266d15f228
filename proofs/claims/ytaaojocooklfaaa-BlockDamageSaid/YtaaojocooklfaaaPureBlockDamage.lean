/- BlockDamage: a byte of the sum that is another one is ErrSum; what is cut is ErrForm. Conditions: none. -/
import Derived.Test.YtaaojocooklfaaaDamB
import Derived.StillTailTactics
namespace Go.Proofs.Ytaaojocooklfaaa.PAll
open Go.RowKit Go.Proofs.Ytaaojocooklfaaa.Oct Go.Proofs.Ytaaojocooklfaaa.HX Go.Proofs.YtaaojocooklfaaaW.PrintWords Go.Proofs.YtaaojocooklfaaaW.PrintLast Go.Proofs.YtaaojocooklfaaaW.PrintMore
attribute [local go_sem] max2_int min2_int max_two min_two max_three min_three max_four min_four   -- for this text's walks alone
set_option linter.unusedVariables false
set_option linter.unusedSimpArgs false

/-- How long the first i blocks are. -/
def szT (y : List (List Int)) (i : Nat) : Nat := (encs (y.take i)).length
theorem szT_zero (y : List (List Int)) : szT y 0 = 0 := by simp [szT, Oct.encs]
theorem szT_succ (y : List (List Int)) (i : Nat) (hi : i < y.length) : szT y (i + 1) = szT y i + y[i].length + 6 := by
  unfold szT
  rw [List.take_succ_eq_append_getElem hi, Oct.encs_append, List.length_append]
  simp [Oct.encs, enc_length]; omega
theorem szT_le {y : List (List Int)} (h : Texts y) (i : Nat) : szT y i ≤ 1006 * y.length := by
  unfold szT
  refine Nat.le_trans (encs_length_le (fun t ht => (h.take i t ht).2)) ?_
  rw [List.length_take]; omega
theorem szT_all (y : List (List Int)) : szT y y.length = (encs y).length := by simp [szT]
theorem getD_at (y : List (List Int)) (i : Nat) (hi : i < y.length) : y.getD i [] = y[i] := by rw [List.getD_eq_getElem?_getD, List.getElem?_eq_getElem hi]; rfl
theorem and_mod_nat (x : Int) (m : Nat) (hm : m < 9223372036854775808) (q : Nat) (hq : 0 < q) : ∃ j : Nat, (bits .and .i64 x m).tmod (q : Int) = (j : Int) ∧ j < q := by
  have h := (and_i64 x m hm).1
  rw [Int.tmod_eq_emod_of_nonneg h]
  have h0 := Int.emod_nonneg (bits .and .i64 x m) (show (q : Int) ≠ 0 by omega)
  have h1 := Int.emod_lt_of_pos (bits .and .i64 x m) (show (0 : Int) < q by omega)
  exact ⟨((bits .and .i64 x m) % (q : Int)).toNat, by omega, by omega⟩
set_option maxHeartbeats 4000000 in
set_option maxRecDepth 100000 in
theorem cartagelaw04_BlockDamage.calls (A0 : Option Addr) (c0 : Nat) (l0 : List (List Int)) (a1 a2 a3 a4 : Int) (w : World) (hr0 : Kd.C (Kd.slice 5 (Kd.int .u8)) w A0 l0.length l0) (hc0 : l0.length ≤ c0) (hb0 : ∀ t ∈ l0, Bytes t) (h3 : 0 ≤ a3 ∧ a3 ≤ 255) :
    Calls Try.prog 9 #[.slice A0 l0.length c0, .int .i64 a1, .int .i64 a2, .int .u8 a3, .int .i64 a4] w fun e w' => e = .returned (.bool true) ∧ Below w.heap.size w w' := by
  have m0 := few_mem hb0
  have n0 := few_length l0
  have R0 := Aside0.mk hr0
  have C0 := Aside0.mk hc0
  have M0 := Aside0.mk m0
  have H3 := Aside0.mk h3
  obtain ⟨mm, hmm⟩ : ∃ m : Nat, m = min l0.length 5 := ⟨_, rfl⟩
  have hmin : (if (5 : Int) < (l0.length : Int) then (5 : Int) else (l0.length : Int)) = (mm : Int) := by rw [hmm]; split <;> omega
  have hmf : mm ≤ (few l0).length := by unfold few; rw [List.length_map, List.length_take, hmm]; omega
  have hm5 : mm ≤ 5 := by omega
  have hm0 := hr0.2.1
  clear hr0 hc0 m0 hb0 h3 hmm n0
  obtain ⟨i0, hi0, hzz⟩ := Option.map_eq_some_iff.1 info22
  have hcut := fun (A : Option Addr) (c : Nat) (hc : (few l0).length ≤ c) (W : World) => cut_to (P := Try.prog) 31 22 .i64 Try.underlying31 hi0 A (few l0).length c (mm : Int) (by omega) (by omega) hc W
  have HCUT := Aside0.mk hcut
  clear hcut hi0 hzz
  go_enter Try.func9, Try.ntmps9
  go_wp2_with fail
  refine (shown_true _).mono ?_
  rintro e w1 ⟨rfl, hb1⟩
  have B1 := Aside0.mk hb1
  clear hb1
  go_wp2_with fail
  refine (few_w (Kd.C_below R0.out B1.out) C0.out).mono ?_
  rintro e w2 ⟨A2, c2, rfl, hle2, hS2, hb2⟩
  have B2 := Aside0.mk (below_step B1.out hb2)
  have S2 := Aside0.mk (Kd.N_take (Kd.N_lower (Kd.S_N hS2) (below_size B1.out)) hmf)
  have hcut2 := HCUT.out A2 c2 hle2
  rw [Int.toNat_natCast] at hcut2
  have hxl : ((few l0).take mm).length = mm := by rw [List.length_take]; omega
  have hM := fun t ht => M0.out t (List.mem_of_mem_take (i := mm) ht)
  have M2 := Aside0.mk hM
  clear hb2 hle2 hS2 B1 R0 C0 HCUT M0 hM
  generalize (few l0).take mm = x at *
  obtain rfl : x.length = mm := hxl
  clear hmf
  generalize few l0 = fl at *
  go_wp2
  go_loopg [12] x.length (fun kq v5 w' => ∃ k : Nat, kq + k = x.length ∧ v5 = .int .i64 (k : Nat) ∧ Aside0 (Kd.N (Kd.slice 5 (Kd.int .u8)) 22 w' w.heap.size (fun _ => True) (.slice A2 x.length c2) (cutK x k)) ∧ Aside0 (Below w.heap.size w w'))
  case atStart => exact ⟨0, by omega, by first | rfl | simp, ⟨by rw [cutK_zero]; exact S2.out⟩, B2⟩
  case round =>
    clear S2 B2 hcut2
    rename_i wr
    obtain ⟨k, hk, rfl, HN, HB⟩ := hrel
    by_cases hlt : k < x.length
    · obtain ⟨g, cap, hv, hg1, hg2, _⟩ := Kd.N_form HN.out (by rw [cutK_length]; omega)
      injection hv with h1 h2 h3
      subst h1 h3
      obtain ⟨A, m, c, q, hcell, hq, hmin, hm, hcut, hF⟩ := cut_round (w0 := w) HN.out hlt
      have HQ := Aside0.mk hq
      have HF := Aside0.mk hF
      clear hq hF hg1 hg2 h2
      go_wp2
      go_still_tail 14, (by kernel_rfl)
      have hinf : (Try.prog.info? 22).map (·.size) = some [Value.slice A q.length c].length := by kernel_rfl
      refine Kd.N_store (Kd.slice 5 (Kd.int .u8)) (w0 := w) w.heap.size rfl rfl 22 (.tmp 53) (.tmp 52) rfl 22 (k : Int) 0 (cutK x k) q (.slice A q.length c) [.slice A q.length c] [.slice A m c] (fun _ => True) (fun j => True ∧ j ≠ g) rfl (by simp [Kd.slice]) rfl rfl hinf (by simp [Value.oneCell']) (Kd.N_drew HN.out) (by omega) (by omega) rfl ?hcc (Nat.le_refl 1) (Kd.FK_step HF.out (fun j hj hlt => rfl)) (fun j hj => hj) (below_drew HB.out) ?_
      case hcc =>
        intro j u hu
        have hj0 : j = 0 := by
          have := (List.getElem?_eq_some_iff.1 hu).1
          simpa using this
        subst hj0
        have hu' : u = .slice A m c := by simpa using hu.symm
        rw [hu']
        simpa [Kd.slice] using hcell
      intro w3 hN3 hb3 hg3
      rw [Int.toNat_natCast, HQ.out, cutK_set x k hlt] at hN3
      have N3 := Aside0.mk hN3
      have B3 := Aside0.mk hb3
      clear hN3 hb3 hg3 hcell hcut HF HN HB hmin hinf
      go_wp2
      obtain ⟨k1, rfl⟩ : ∃ k1, gk = k1 + 1 := ⟨gk - 1, by omega⟩
      go_roundg k1
      case measure => omega
      case rel => exact ⟨k + 1, by omega, by simp, N3, B3⟩
    · obtain rfl : k = x.length := by omega
      rw [cutK_all] at HN
      have hx1 : Texts (x.map (·.take 1000)) := fun t ht => by
        obtain ⟨s, hs, rfl⟩ := List.mem_map.1 ht
        exact ⟨(M2.out s hs).1.take _, by rw [List.length_take]; omega⟩
      have HX := Aside0.mk hx1
      have hxl : (x.map (·.take 1000)).length = x.length := by simp
      clear hx1
      rw [← hxl] at HN
      have N3 := Aside0.mk (Kd.N_reads' HN.out)
      rw [← hxl] at hm5
      rw [← hxl]
      clear HN hk hlt M2 hmin hm0
      generalize x.map (·.take 1000) = y at *
      clear hxl
      by_cases hy0 : y.length = 0
      · have e0 : ((y.length : Int) == 0) = true := by simp [hy0]
        rw [hy0]
        go_wp2
        go_ret
        exact ⟨rfl, HB.out⟩
      · have e0 : ((y.length : Int) == 0) = false := beq_eq_false_iff_ne.mpr (by omega)
        have hyp : (0 : Int) < (y.length : Int) := by omega
        obtain ⟨wi, hwi, hwl⟩ := and_mod_nat a1 65535 (by decide) y.length (by omega)
        rw [show ((65535 : Nat) : Int) = 65535 from rfl] at hwi
        have HWI := Aside0.mk hwi
        clear hwi
        go_wp2
        rw [HWI.out]
        clear HWI
        go_loopg [13, 14] wi (fun kq v13 v14 w' => ∃ i : Nat, kq + i = wi ∧ v13 = .int .i64 (szT y i : Nat) ∧ v14 = .int .i64 (i : Nat) ∧ Aside0 (Below w.heap.size w w') ∧ Aside0 (True ∧ y.length ≤ c2 ∧ Kd.C (Kd.slice 5 (Kd.int .u8)) w' A2 y.length y))
        case atStart => exact ⟨0, by omega, by rw [szT_zero]; rfl, rfl, HB, N3⟩
        case round =>
          clear HB N3
          obtain ⟨i, hi, rfl, rfl, HB, N3⟩ := hrel
          by_cases hiw : i < wi
          · obtain ⟨ad, A, c, rfl, hcell, _, _⟩ := cartagelaw04_same.at_row N3.out.2.2 i (by omega)
            have hs := szT_succ y i (by omega)
            have hle := szT_le HX.out (i + 1)
            have HS := Aside0.mk hs
            have hq : y[i].length ≤ 1000 := (HX.out _ (List.getElem_mem (by omega))).2
            have hsk := szT_le HX.out i
            clear hs
            generalize szT y i = z at *
            generalize y[i].length = q at *
            go_wp2
            obtain ⟨k1, rfl⟩ : ∃ k1, gk = k1 + 1 := ⟨gk - 1, by omega⟩
            go_roundg k1
            case measure => omega
            case rel => exact ⟨i + 1, by omega, by rw [HS.out]; simp, by simp, HB, N3⟩
          · obtain rfl : i = wi := by omega
            have hj := join_is' (fun t ht => (HX.out t ht).1) (by omega) 200000 (by omega)
            rw [(joined_ok (fun t ht => (HX.out t ht).2)).1, (joined_ok (fun t ht => (HX.out t ht).2)).2] at hj
            have HJ := Aside0.mk hj
            have hz := szT_le HX.out i
            clear hj
            generalize hzz : szT y i = z at *
            have HZ := Aside0.mk hzz
            clear hzz
            go_wp2_with fail
            refine (block_Join.calls 200000 _ _ y _ _ _ N3.out.2.2 N3.out.2.1 HJ.out).mono ?_
            rintro e w4 ⟨v4, rfl, ho4, hb4⟩
            have B4 := Aside0.mk (below_step HB.out hb4)
            have C4 := Aside0.mk (Kd.C_below N3.out.2.2 hb4)
            have O4 := Aside0.mk (Kd.R_lower ho4 (below_size HB.out))
            clear hb4 ho4 HB N3 HJ
            have hep : 0 < (encs y).length := by have := @encs_ge y; omega
            have hel : (encs y).length ≤ 1006 * y.length := encs_length_le (fun t ht => (HX.out t ht).2)
            obtain ⟨g, cap, rfl, hg1, hg2, _⟩ := Kd.R_form O4.out hep
            have G1 := Aside0.mk hg1
            clear hg1 hg2
            go_wp2
            go_loopg [17, 18] y.length (fun kq v17 v18 w' => ∃ j : Nat, kq + j = y.length ∧ v17 = .int .i64 (szT y j : Nat) ∧ v18 = .int .i64 (j : Nat) ∧ Aside0 (Below w.heap.size w w') ∧ Aside0 (Kd.C (Kd.slice 5 (Kd.int .u8)) w' A2 y.length y) ∧ Aside0 (Kd.R (Kd.int .u8) 5 w' w.heap.size (fun _ => True) (.slice (some ⟨g, 0, none⟩) (encs y).length cap) (encs y)))
            case atStart => exact ⟨0, by omega, by rw [szT_zero]; rfl, rfl, B4, C4, O4⟩
            case round =>
              clear B4 C4 O4
              obtain ⟨j, hj, rfl, rfl, B4, C4, O4⟩ := hrel
              by_cases hjy : j < y.length
              · obtain ⟨ad, A, c, rfl, hcell, _, _⟩ := cartagelaw04_same.at_row C4.out j (by omega)
                have hs := szT_succ y j (by omega)
                have hle := szT_le HX.out (j + 1)
                have HS := Aside0.mk hs
                have hq : y[j].length ≤ 1000 := (HX.out _ (List.getElem_mem (by omega))).2
                have hsk := szT_le HX.out j
                clear hs
                generalize szT y j = zj at *
                generalize y[j].length = q at *
                go_wp2
                obtain ⟨k1, rfl⟩ : ∃ k1, gk = k1 + 1 := ⟨gk - 1, by omega⟩
                go_roundg k1
                case measure => omega
                case rel => exact ⟨j + 1, by omega, by rw [HS.out]; simp, by simp, B4, C4, O4⟩
              · obtain rfl : j = y.length := by omega
                rw [szT_all]
                obtain ⟨ad, A, c, rfl, hcell, _, _⟩ := cartagelaw04_same.at_row C4.out (y.length - 1) (by omega)
                have hlast := getD_at y (y.length - 1) (by omega)
                have hcutall := fun (c : Nat) => all_cut HX.out (c := c) (by omega)
                rw [hlast] at hcutall
                have HCA := Aside0.mk hcutall
                have hq : y[y.length - 1].length ≤ 1000 := (HX.out _ (List.getElem_mem (by omega))).2
                have hi2 := cartagelaw04_same.at_row C4.out i (by omega)
                obtain ⟨ad', A', c', hadd, hcell', _, _⟩ := hi2
                obtain rfl : ad = ad' := by injection hadd
                have hq' : y[i].length ≤ 1000 := (HX.out _ (List.getElem_mem (by omega))).2
                obtain ⟨j, hj, hjl⟩ : ∃ j : Nat, bits .and .i64 a2 3 = (j : Int) ∧ j < 4 := by
                  have := and_i64 a2 3 (by decide)
                  rw [show ((3 : Nat) : Int) = 3 from rfl] at this
                  exact ⟨(bits .and .i64 a2 3).toNat, by omega, by omega⟩
                obtain ⟨v, hv, hkl, hx0, hx1, hbx, hax⟩ := all_spoilt HX.out (i := i) (by omega) (j := j) hjl H3.out.1 H3.out.2
                rw [show (encs (y.take i)).length = z from HZ.out, getD_at y i (by omega)] at hv hkl hbx hax
                have hq6 : y[y.length - 1].length + 6 ≤ (encs y).length := by
                  have h1 := szT_succ y (y.length - 1) (by omega)
                  rw [show y.length - 1 + 1 = y.length by omega, szT_all] at h1
                  omega
                have HBX := Aside0.mk hbx
                have HAX := Aside0.mk hax
                have HV := Aside0.mk hv
                have hbb := Aside0.mk (encs_bytes (fun t ht => (HX.out t ht).1))
                clear hlast hcutall hadd hbx hax hv
                generalize hqe : y[y.length - 1].length = q at *
                generalize hqe' : y[i].length = q' at *
                generalize encs y = b at *
                clear hqe hqe'
                obtain ⟨cj, hcj, hcl⟩ := and_mod_nat a4 65535 (by decide) (q + 5) (by omega)
                rw [show ((65535 : Nat) : Int) = 65535 from rfl, show ((q + 5 : Nat) : Int) = (q : Int) + 6 - 1 by omega] at hcj
                have HC1 := HCA.out (1 + cj) (by omega) (by omega)
                obtain ⟨bt, hbt, hbl, hcut, hCt, hct⟩ := cut_at 22 5 Try.underlying22 info5 (R_C O4.out).2.2 (R_C O4.out).2.1 ((b.length : Int) - (1 + (cj : Int))) (by omega) (by omega)
                rw [show ((b.length : Int) - (1 + (cj : Int))).toNat = b.length - (1 + cj) by omega] at hbt
                rw [← hbt] at HC1
                have hA := all_w hCt hct (by rw [hbt]; exact hbb.out.take _) (by omega)
                rw [HC1] at hA
                have HA := Aside0.mk hA
                have hkk : ((z : Int) + 2 + (q' : Int) + (j : Int)).toNat = z + 2 + q' + j := by omega
                simp only [hbl] at hcut
                clear hbt HC1 hCt hct hA HCA
                go_wp2_with fail
                refine HA.out.mono ?_
                rintro e w5 ⟨A5, c5, rfl, hle5, hC5, hb5⟩
                have B5 := Aside0.mk (below_step B4.out hb5)
                have O5 := Aside0.mk (Kd.R_below O4.out hb5)
                have hcell5 := pw_cell_below hb5 hcell
                have hcell5' := pw_cell_below hb5 hcell'
                obtain ⟨hck, hfk⟩ := Kd.R_celln (0 : Int) O5.out ((z + 2 + q' + j : Nat) : Int) (by omega) (by omega)
                rw [Int.toNat_natCast] at hck hfk
                have hrd : rdOf (0 : Int) b ((z + 2 + q' + j : Nat) : Int) = v := by
                  unfold rdOf
                  rw [Int.toNat_natCast]; exact HV.out
                rw [hrd] at hck
                have hk0 : (0 : Int) ≤ (z : Int) + 2 + (q' : Int) + (j : Int) := by omega
                have hk1 : (z : Int) + 2 + (q' : Int) + (j : Int) < (b.length : Int) := by omega
                clear hb5 hcell hcell' hle5 hC5 hcut hbl hrd HA B4 C4 O4
                go_wp2_with fail
                have O6 := Kd.R_putn O5.out ((z + 2 + q' + j : Nat) : Int) (bits .xor .u8 v a3)
                rw [Int.toNat_natCast] at O6
                have hO6 := R_C O6
                have hA2 := all_w hO6.2.2 hO6.2.1 HBX.out (by rw [List.length_set]; omega)
                rw [List.length_set, HAX.out] at hA2
                have B6 := Aside0.mk (below_set (j := z + 2 + q' + j) (v := .int .u8 (bits .xor .u8 v a3)) B5.out G1.out)
                have HA2 := Aside0.mk hA2
                clear O6 hO6 hA2 HBX HAX O5 B5
                by_cases h30 : a3 = 0
                · have e3 : (a3 == 0) = true := beq_iff_eq.mpr h30
                  simp only [if_pos h30] at HA2
                  clear h30
                  refine HA2.out.mono ?_
                  rintro e w7 ⟨A7, c7, rfl, hle7, hC7, hb7⟩
                  have B7 := Aside0.mk (below_step B6.out hb7)
                  clear hb7 hC7 hle7 hcell5 hcell5' hck hfk
                  go_wp2
                  go_ret
                  exact ⟨rfl, B7.out⟩
                · have e3 : (a3 == 0) = false := beq_eq_false_iff_ne.mpr h30
                  simp only [if_neg h30] at HA2
                  clear h30
                  refine HA2.out.mono ?_
                  rintro e w7 ⟨A7, c7, rfl, hle7, hC7, hb7⟩
                  have B7 := Aside0.mk (below_step B6.out hb7)
                  clear hb7 hC7 hle7 hcell5 hcell5' hck hfk
                  go_wp2
                  go_ret
                  exact ⟨rfl, B7.out⟩
theorem cartagelaw04_BlockDamage.walk (a0 : Option Addr) (len0 cap0 : Nat) (z0 : List (List Int)) (a1 a2 a3 a4 : Int) (w : World)
    (w0 : z0.length = len0 ∧ z0.length ≤ cap0 ∧ Kd.C (Kd.slice 5 (Kd.int .u8)) w a0 z0.length z0 ∧ ∀ t ∈ z0, ∀ n ∈ t, (Lit.int .u8 n).wf = true) (_w1 : (Lit.int .i64 a1).wf = true) (_w2 : (Lit.int .i64 a2).wf = true) (w3 : (Lit.int .u8 a3).wf = true) (_w4 : (Lit.int .i64 a4).wf = true) :
    Calls Try.prog 9 #[.slice a0 len0 cap0, .int .i64 a1, .int .i64 a2, .int .u8 a3, .int .i64 a4] w fun e w' => e = .returned (.bool true) ∧ Below w.heap.size w w' := by
  obtain ⟨rfl, hc0, hr0, hw0⟩ := w0
  have h3 := bytes_of_wf (l := [a3]) (by simpa using w3) a3 (by simp)
  exact cartagelaw04_BlockDamage.calls _ _ z0 a1 a2 a3 a4 w hr0 hc0 (fun t ht => bytes_of_wf (hw0 t ht)) h3
end Go.Proofs.Ytaaojocooklfaaa.PAll
