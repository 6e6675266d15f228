/- cartagelaw15.shown is true. No conditions. -/
import Derived.Test.YtaohmpblmlkioaaStM
namespace Go.Proofs.Ytaohmpblmlkioaa.PAll
open Go.RowKit Go.Proofs.Ytaohmpblmlkioaa.Oct Go.Proofs.Ytaohmpblmlkioaa.HX Go.Proofs.YtaohmpblmlkioaaW.PrintWords Go.Proofs.YtaohmpblmlkioaaW.PrintLast Go.Proofs.YtaohmpblmlkioaaW.PrintMore
attribute [local go_sem] max2_int min2_int max_two min_two max_three min_three max_four min_four   -- for this text's walks alone
set_option linter.unusedVariables false
set_option linter.unusedSimpArgs false
theorem C_first {α : Type} {d : Kd α} {w : World} {A : Option Addr} {x : α} {u : Value} (hd : ∀ c, d.K w x c → c = [u]) (h : d.C w A 1 [x]) : ∃ ad, A = some ad ∧ w.cell? ad = some u := by
  obtain ⟨ad, e, hcc⟩ := h.2.2 (by omega)
  obtain ⟨c, hcl, hk, hcell⟩ := hcc 0 x rfl
  have hc := hcell 0 u (by rw [hd c hk]; rfl)
  refine ⟨ad, e, ?_⟩
  have h0 : ad.add (0 * d.sz + 0) = ad := by rw [Nat.zero_mul]; rfl
  rwa [h0] at hc
set_option maxHeartbeats 4000000 in
set_option maxRecDepth 100000 in
theorem shown_w (w : World) : Calls Try.prog 9 #[] w fun e w' => e = .returned (.bool true) ∧ Below w.heap.size w w' := by
  have B0 := Aside0.mk (Below.refl w.heap.size w)
  obtain ⟨hS, hD⟩ := sdec_enc (r := [(5, true)]) (fun x hx => by rw [List.mem_singleton.1 hx]; decide) (by decide) (step := 3) (by decide) (by decide)
  have hE : (sdec []) = (0, [], 2) := by
    have ha : all [] = ([], 0, 0) := rfl
    unfold sdec
    rw [if_neg (by rw [ha]; simp), if_neg (fun h => h.2.1 (by rw [ha]))]
  have hlen : (senc 3 [5] [true]).length = 37 := by
    have : senc 3 [5] [true] = encs (stexts 3 [5] [true]) := if_pos ⟨by decide, rfl⟩
    rw [this]
    simp [stexts, encs_cons, encs_nil, enc_length, shead_length, tells, vtx_length]
  have hsb := senc_bytes 3 [5] [true]
  have he : serr 3 [5] [true] = 0 := if_pos ⟨by decide, rfl⟩
  simp only [List.map_cons, List.map_nil] at hD
  have HD := Aside0.mk hD
  have HE := Aside0.mk hE
  have HS := Aside0.mk hsb
  have HL := Aside0.mk hlen
  have HZ := Aside0.mk he
  clear hS hD hE hlen hsb he
  go_enter Try.func9, Try.ntmps9
  go_wp2_with (first | ((with_reducible refine gate_dst (N := 12) rfl ?_); refine Kd.R_lit (Kd.int .u64) w.heap.size 39 ?hg (N := 12) ?hd (xs := [5]) (inner := [.int .u64 5]) (w0 := w) (ok := fun _ => True) (okp := fun _ => False) ?hr ?hp (fun _ hk => trivial) trivial B0.out (below_size B0.out) (by simp) ?_; (case hd => rfl); (case hg => rfl); (case hr => first | (go_simp; done) | (go_simp; rfl)); (case hp => exact reps_one (Kd.int .u64) rfl rfl); intro v_ w1 ho_ hb_ hg_ hnew_; obtain ⟨A1, c1, rfl⟩ := Kd.R_slice ho_; have O1 := Aside0.mk ho_; have B1 := Aside0.mk hb_; have GO1 := Aside0.mk (HX.grown_below hg_); clear ho_ hb_ hg_ hnew_) | ((with_reducible refine gate_dst (N := 13) rfl ?_); refine Kd.R_lit (Kd.bool) w.heap.size 4 ?hg (N := 13) ?hd (xs := [true]) (inner := [.bool true]) (w0 := w) (ok := fun _ => True) (okp := fun _ => False) ?hr ?hp (fun _ hk => trivial) trivial B1.out (below_size B1.out) (by simp) ?_; (case hd => rfl); (case hg => rfl); (case hr => first | (go_simp; done) | (go_simp; rfl)); (case hp => exact reps_one (Kd.bool) rfl rfl); intro v_ w2 ho_ hb_ hg_ hnew_; obtain ⟨A2, c2, rfl⟩ := Kd.R_slice ho_; have O2 := Aside0.mk ho_; have B2 := Aside0.mk hb_; have GO2 := Aside0.mk (HX.grown_below hg_); clear ho_ hb_ hg_ hnew_))
  have O1b := Aside0.mk (Kd.R_below O1.out GO2.out)
  have X1 := R_C O1b.out
  have X2 := R_C O2.out
  refine (sencode_w (vs := [5]) (ls := [true]) X1.2.2 X1.2.1 X2.2.2 X2.2.1 (by decide) 3).mono ?_
  rw [HZ.out]
  rintro e w3 ⟨A3, c3, rfl, hle3, hC3, hb3⟩
  have B3 := Aside0.mk (below_step B2.out hb3)
  have C3 := Aside0.mk (And.intro hle3 hC3)
  clear hle3 hC3 hb3 X1 X2 O1 O1b O2 GO1 GO2 B1 B2 B0
  generalize senc 3 [5] [true] = b at *

  go_wp2_with fail
  refine (sdecode_w C3.out.2 C3.out.1 HS.out (by rw [HL.out]; decide)).mono ?_
  rw [HD.out]
  rintro e w4 ⟨A4, c4, A5, c5, rfl, h41, h42, h51, h52, hb4⟩
  have B4 := Aside0.mk (below_step B3.out hb4)
  simp only [List.map_cons, List.map_nil, List.length_cons, List.length_nil, Nat.reduceAdd] at h41 h42 h51 h52 ⊢
  obtain ⟨ad4, rfl, hc4⟩ := C_first (u := .int .u64 5) (fun _ h => h) h42
  obtain ⟨ad5, rfl, hc5⟩ := C_first (u := .bool true) (fun _ h => h) h52
  have HC4 := Aside0.mk hc4
  have HC5 := Aside0.mk hc5
  clear h41 h42 h51 h52 hb4 B3 C3 HD HS HZ hc4 hc5
  go_wp2_with fail
  have B5 := Aside0.mk (below_alloc B4.out (.cells #[.slice (some ad4) 1 c4, .slice (some ad5) 1 c5] 25))
  have BK5 := Aside0.mk (blk_new w4 (.cells #[.slice (some ad4) 1 c4, .slice (some ad5) 1 c5] 25))
  have D4 := Aside0.mk (cell_below HC4.out (below_alloc (Below.refl _ _) (.cells #[.slice (some ad4) 1 c4, .slice (some ad5) 1 c5] 25)))
  have D5 := Aside0.mk (cell_below HC5.out (below_alloc (Below.refl _ _) (.cells #[.slice (some ad4) 1 c4, .slice (some ad5) 1 c5] 25)))
  generalize w4.heap.size = g at *
  generalize w4.alloc (.cells #[.slice (some ad4) 1 c4, .slice (some ad5) 1 c5] 25) = w5 at *
  clear HC4 HC5 B4
  have hn1 : senc (-1) [] [] = [] := if_neg (fun h => by have := h.1; omega)
  have hn2 : serr (-1) [] [] = 1 := if_neg (fun h => by have := h.1; omega)
  refine (sencode_w (vs := []) (ls := []) (A0 := none) (A1 := none) (c0 := 0) (c1 := 0) (Kd.C_nil _ _) (Nat.le_refl _) (Kd.C_nil _ _) (Nat.le_refl _) (by decide) (-1)).mono ?_
  rw [hn1, hn2]
  rintro e w6 ⟨A6, c6, rfl, _, _, hb6⟩
  have B6 := Aside0.mk (below_step B5.out hb6)
  have BK6 := Aside0.mk (blk_below BK5.out hb6)
  have E4 := Aside0.mk (cell_below D4.out hb6)
  have E5 := Aside0.mk (cell_below D5.out hb6)
  clear hb6 B5 BK5 D4 D5 hn1 hn2
  go_wp2_with fail
  refine (sdecode_w (l := []) (A := none) (c := 0) (Kd.C_nil _ _) (Nat.le_refl _) Bytes.nil (by decide)).mono ?_
  rw [HE.out]
  rintro e w7 ⟨A7, c7, A8, c8, rfl, _, _, _, _, hb7⟩
  have B7 := Aside0.mk (below_step B6.out hb7)
  have BK7 := Aside0.mk (blk_below BK6.out hb7)
  have BA := below_alloc (Below.refl w7.heap.size w7) (.cells #[.slice A7 0 c7, .slice A8 0 c8] 25)
  have k4 := cell_below (cell_below E4.out hb7) BA
  have k5 := cell_below (cell_below E5.out hb7) BA
  obtain ⟨k0, k1⟩ := two_cells (blk_below BK7.out BA)
  have B8 := Aside0.mk (below_step B7.out BA)
  have hlb := HL.out
  have hl37 : ((b.length : Int) == 37) = true := by rw [hlb]; rfl
  simp only [List.map_nil, List.length_nil]
  clear BA B7 hb7 B6 BK6 E4 E5 hlb
  go_wp2
  go_ret
  exact ⟨rfl, B8.out⟩
end Go.Proofs.Ytaohmpblmlkioaa.PAll
