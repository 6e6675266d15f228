/- ManifestUnlike: two manifests that are not the same have unlike texts, and a byte more makes none. Conditions: none. -/
import Derived.Test.YtibahgondccdiaaMfS
import Derived.Test.YtibahgondccdiaaMfO
namespace Go.Proofs.Ytibahgondccdiaa.PAll
open Go.RowKit Go.Proofs.Ytibahgondccdiaa.Oct Go.Proofs.Ytibahgondccdiaa.HX Go.Proofs.YtibahgondccdiaaW.PrintWords Go.Proofs.YtibahgondccdiaaW.PrintLast Go.Proofs.YtibahgondccdiaaW.PrintMore
attribute [local go_sem] max2_int min2_int max_two min_two max_three min_three max_four min_four   -- for this text's walks alone
set_option linter.unusedVariables false
set_option linter.unusedSimpArgs false
theorem mdec_more {m : Mf} (c : Int) : mderr (Oct.enc m.text ++ [c]) = 2 ∧ mdec (Oct.enc m.text ++ [c]) = Mf.zero := by
  have hd := dec_enc m.text_bytes (by rw [m.text_length]; omega) [c]
  have hno : ¬ OkM (Oct.enc m.text ++ [c]) := fun h => by
    have := congrArg List.length h.2.2
    rw [enc54, List.length_append, enc54] at this
    simp at this
  constructor
  · unfold mderr; rw [if_neg hno, if_pos (by rw [hd])]
  · exact if_neg hno
theorem enc_inj {m n : Mf} (wm : m.Wf) (hm : m.Right) (wn : n.Wf) (hn : n.Right) (h : Oct.enc m.text = Oct.enc n.text) : m = n := by
  have a := (mdec_enc wm hm).2.1
  have b := (mdec_enc wn hn).2.1
  rw [h] at a
  exact a.symm.trans b

set_option maxHeartbeats 8000000 in
set_option maxRecDepth 100000 in
theorem cartagelaw16_ManifestUnlike.calls (m n : Mf) (c : Int) (wm : m.Wf) (wn : n.Wf) (hc : 0 ≤ c ∧ c ≤ 255) (w : World) :
    Calls Try.prog 8 #[.agg #[.int .u64 m.s, .int .i64 m.n, .int .i64 m.h, .int .i64 m.t, .int .i64 m.k, .int .u32 m.p], .agg #[.int .u64 n.s, .int .i64 n.n, .int .i64 n.h, .int .i64 n.t, .int .i64 n.k, .int .u32 n.p], .int .u8 c] w fun e w' => e = .returned (.bool true) ∧ Below w.heap.size w w' := by
  have e1 := fun w => mencode_w m wm w
  have e2 := fun w => mencode_w n wn w
  have HB := Aside0.mk (Below.refl w.heap.size w)
  by_cases hm : m.Right
  · rw [(menc_right hm).1, (menc_right hm).2] at e1
    by_cases hn : n.Right
    · rw [(menc_right hn).1, (menc_right hn).2] at e2
      have hd := fun (w : World) (A : Option Addr) (c' : Nat) (h : Kd.C (Kd.int .u8) w A (Oct.enc m.text ++ [c]).length (Oct.enc m.text ++ [c])) (hc' : (Oct.enc m.text ++ [c]).length ≤ c') => mdecode_w h hc' ((enc_bytes m.text_bytes).append (Bytes.cons hc Bytes.nil)) (by rw [List.length_append, enc54]; simp)
      rw [(mdec_more c).1, (mdec_more c).2] at hd
      have hi : (∃ b, ((strOfNums (Oct.enc m.text)).toList == (strOfNums (Oct.enc n.text)).toList) = b ∧ ((m = n ∧ b = true) ∨ (b = false ∧ ((m.s == n.s) = false ∨ ((m.s == n.s) = true ∧ ((m.n == n.n) = false ∨ ((m.n == n.n) = true ∧ ((m.h == n.h) = false ∨ ((m.h == n.h) = true ∧ ((m.t == n.t) = false ∨ ((m.t == n.t) = true ∧ ((m.k == n.k) = false ∨ ((m.k == n.k) = true ∧ (m.p == n.p) = false))))))))))))) := by
        by_cases h : m = n
        · subst h
          exact ⟨true, by simp, .inl ⟨rfl, rfl⟩⟩
        · refine ⟨false, beq_eq_false_iff_ne.mpr fun e => h (enc_inj wm hm wn hn ((str_eq (enc_bytes m.text_bytes) (enc_bytes n.text_bytes)).1 e)), .inr ⟨rfl, ?_⟩⟩
          cases m with | mk ms mn mh mt mk mp =>
          cases n with | mk ns nn nh nt nk np =>
          simp only [Mf.mk.injEq, not_and] at h
          simp only [beq_eq_false_iff_ne, beq_iff_eq]
          by_cases a1 : ms = ns
          · by_cases a2 : mn = nn
            · by_cases a3 : mh = nh
              · by_cases a4 : mt = nt
                · by_cases a5 : mk = nk
                  · exact .inr ⟨a1, .inr ⟨a2, .inr ⟨a3, .inr ⟨a4, .inr ⟨a5, h a1 a2 a3 a4 a5⟩⟩⟩⟩⟩
                  · exact .inr ⟨a1, .inr ⟨a2, .inr ⟨a3, .inr ⟨a4, .inl a5⟩⟩⟩⟩
                · exact .inr ⟨a1, .inr ⟨a2, .inr ⟨a3, .inl a4⟩⟩⟩
              · exact .inr ⟨a1, .inr ⟨a2, .inl a3⟩⟩
            · exact .inr ⟨a1, .inl a2⟩
          · exact .inl a1
      have hl54 := enc54 m
      have E1 := Aside0.mk e1
      have E2 := Aside0.mk e2
      have HD := Aside0.mk hd
      have HI := Aside0.mk hi
      have hl : (Oct.enc m.text).length ≤ 54 := by omega
      clear e1 e2 hd hi hm hn wm wn hl54
      generalize Oct.enc m.text = x at *
      generalize Oct.enc n.text = y at *
      go_enter Try.func8, Try.ntmps8
      go_wp2_with (first | ((with_reducible refine gate_dst (N := 3) rfl ?_); refine box_event ?hg (N := 3) ?hd (cs := #[.int .u64 m.s, .int .i64 m.n, .int .i64 m.h, .int .i64 m.t, .int .i64 m.k, .int .u32 m.p]) (t := 27) ?hr ?_; (case hd => rfl); (case hg => rfl); (case hr => first | (go_simp; done) | (go_simp; rfl)); intro g3 hg w0 hbox hb; have B0 := Aside0.mk hb; have BM := Aside0.mk hbox; clear hb hg hbox) | ((with_reducible refine gate_dst (N := 4) rfl ?_); refine box_event ?hg (N := 4) ?hd (cs := #[.int .u64 n.s, .int .i64 n.n, .int .i64 n.h, .int .i64 n.t, .int .i64 n.k, .int .u32 n.p]) (t := 27) ?hr ?_; (case hd => rfl); (case hg => rfl); (case hr => first | (go_simp; done) | (go_simp; rfl)); intro g4 hg w0' hbox hb; have B0' := Aside0.mk (below_step B0.out hb); have BN := Aside0.mk hbox; have BM' := Aside0.mk (blk_below BM.out hb); clear hb hg hbox))
      refine (shown_true _).mono ?_
      rintro e w1 ⟨rfl, hb1⟩
      have B1 := Aside0.mk (below_step B0'.out hb1)
      have BM1 := Aside0.mk (blk_below BM'.out hb1)
      have BN1 := Aside0.mk (blk_below BN.out hb1)
      clear hb1 B0 B0' BM BM' BN HB
      obtain ⟨h0, h1, h2, h3, h4, h5⟩ := six_cells BM1.out
      go_wp2_with fail
      refine (E1.out _).mono ?_
      rintro e w2 ⟨A2, c2, rfl, hle2, hC2, hb2⟩
      have B2 := Aside0.mk (below_step B1.out hb2)
      have BM2 := Aside0.mk (blk_below BM1.out hb2)
      have BN2 := Aside0.mk (blk_below BN1.out hb2)
      have C2 := Aside0.mk hC2
      have L2 := Aside0.mk hle2
      clear hb2 hle2 hC2 B1 BM1 BN1 h0 h1 h2 h3 h4 h5 E1
      obtain ⟨h0, h1, h2, h3, h4, h5⟩ := six_cells BN2.out
      go_wp2_with fail
      refine (E2.out _).mono ?_
      rintro e w3 ⟨A3, c3, rfl, hle3, hC3, hb3⟩
      have B3 := Aside0.mk (below_step B2.out hb3)
      have BM3 := Aside0.mk (blk_below BM2.out hb3)
      have BN3 := Aside0.mk (blk_below BN2.out hb3)
      have C3 := Aside0.mk (Kd.C_below C2.out hb3)
      have D3 := Aside0.mk hC3
      have M3 := Aside0.mk hle3
      clear hb3 hle3 hC3 B2 BM2 BN2 C2 h0 h1 h2 h3 h4 h5 E2
      go_wp2_with (first | ((with_reducible refine gate_dst (N := 33) rfl ?_); refine Kd.R_lit (Kd.int .u8) _ 5 ?hg (N := 33) ?hd (xs := ([] : List Int)) (inner := []) (ok := fun _ => True) (okp := fun _ => True) ?hr ?hp (fun _ hk => hk) trivial (Below.refl _ _) (Nat.le_refl _) (by simp) ?_; (case hd => rfl); (case hg => rfl); (case hr => first | (go_simp; done) | (go_simp; rfl)); (case hp => exact (Reps.none _ _)); intro v6 w6 ho6 hb6 hg_ hnew_; have O6 := Aside0.mk ho6; have B6 := Aside0.mk hb6; clear ho6 hb6 hg_ hnew_) | ((with_reducible refine gate_builtin (b := .append) (xs := #[.tmp 33, .tmp 34]) rfl ?_); at_builtin; refine Kd.R_append_rows (Kd.int .u8) (w0 := w3) w3.heap.size rfl (.tmp 33) (.tmp 34) 29 5 (.int .u8 0) 1 rfl Try.underlying29 u8info5 rfl (by decide) (by omega) v6 [] x A2 x.length c2 (fun _ => True) (fun _ => False) rfl rfl O6.out (Kd.C_below C3.out B6.out) (fun _ _ h => h) (fun _ h => h.elim) (fun _ _ => trivial) B6.out (below_size B6.out) (by simp; omega) ?_; intro v7 w7 ho7 hb7 hg_ hnew_; have O7 := Aside0.mk ho7; have B7 := Aside0.mk hb7; clear ho7 hb7 hg_ hnew_) | ((with_reducible refine gate_builtin (b := .append) (xs := #[.tmp 35, .tmp 37]) rfl ?_); at_builtin; refine Kd.R_append (Kd.int .u8) (w0 := w3) w3.heap.size rfl (.tmp 35) (.tmp 37) 29 5 (.int .u8 0) 1 rfl Try.underlying29 u8info5 rfl (by decide) (by omega) v7 ([] ++ x) c [.int .u8 c] (fun _ => True) (fun _ => False) rfl rfl rfl (fun _ hk => hk.elim) (fun _ _ => trivial) O7.out B7.out (below_size B7.out) (by simp; omega) ?_; intro v8 w8 ho8 hb8 hg_ hnew_; simp only [List.nil_append] at ho8; obtain ⟨A8, c8, rfl⟩ := Kd.R_slice ho8; have O8 := Aside0.mk (R_C ho8).2; have B8 := Aside0.mk (below_step B3.out hb8); have BM8 := Aside0.mk (blk_below BM3.out hb8); have BN8 := Aside0.mk (blk_below BN3.out hb8); have C8 := Aside0.mk (Kd.C_below C3.out hb8); have D8 := Aside0.mk (Kd.C_below D3.out hb8); clear ho8 hb8 hg_ hnew_))
      have hd' := HD.out w8 A8 c8 O8.out.2 O8.out.1
      simp only [List.length_append, List.length_cons, List.length_nil, Nat.zero_add] at hd'
      refine hd'.mono ?_
      rintro e w9 ⟨rfl, hb9⟩
      have B9 := Aside0.mk ((below_step B8.out hb9).alloc (below_size (below_step B8.out hb9)) (.cells #[.int .u64 Mf.zero.s, .int .i64 Mf.zero.n, .int .i64 Mf.zero.h, .int .i64 Mf.zero.t, .int .i64 Mf.zero.k, .int .u32 Mf.zero.p] 27))
      have BM9 := Aside0.mk (blk_alloc (blk_below BM8.out hb9) (.cells #[.int .u64 Mf.zero.s, .int .i64 Mf.zero.n, .int .i64 Mf.zero.h, .int .i64 Mf.zero.t, .int .i64 Mf.zero.k, .int .u32 Mf.zero.p] 27))
      have BN9 := Aside0.mk (blk_alloc (blk_below BN8.out hb9) (.cells #[.int .u64 Mf.zero.s, .int .i64 Mf.zero.n, .int .i64 Mf.zero.h, .int .i64 Mf.zero.t, .int .i64 Mf.zero.k, .int .u32 Mf.zero.p] 27))
      have C9 := Aside0.mk (Kd.C_alloc (Kd.C_below C8.out hb9) (.cells #[.int .u64 Mf.zero.s, .int .i64 Mf.zero.n, .int .i64 Mf.zero.h, .int .i64 Mf.zero.t, .int .i64 Mf.zero.k, .int .u32 Mf.zero.p] 27))
      have D9 := Aside0.mk (Kd.C_alloc (Kd.C_below D8.out hb9) (.cells #[.int .u64 Mf.zero.s, .int .i64 Mf.zero.n, .int .i64 Mf.zero.h, .int .i64 Mf.zero.t, .int .i64 Mf.zero.k, .int .u32 Mf.zero.p] 27))
      clear hd' hb9 B8 BM8 BN8 C8 D8 HD O8 B3 BM3 BN3 C3 D3 L2 M3 B6 B7 O6 O7
      go_wp2_with fail
      generalize w9.alloc (.cells #[.int .u64 Mf.zero.s, .int .i64 Mf.zero.n, .int .i64 Mf.zero.h, .int .i64 Mf.zero.t, .int .i64 Mf.zero.k, .int .u32 Mf.zero.p] 27) = w10 at *
      have hx1 := fun n => Kd.C_string (P := Try.prog) (A := A2) (c := c2) Try.underlying29 Try.underlying5 Try.underlying9 (Kd.C_drewN C9.out n)
      have hy1 := fun n => Kd.C_string (P := Try.prog) (A := A3) (c := c3) Try.underlying29 Try.underlying5 Try.underlying9 (Kd.C_drewN D9.out n)
      obtain ⟨h0, h1, h2, h3, h4, h5⟩ := six_cells BM9.out
      obtain ⟨k0, k1, k2, k3, k4, k5⟩ := six_cells BN9.out
      obtain ⟨b, hb, hI⟩ := HI.out
      clear HI BM9 BN9 C9 D9 hl hc
      rcases hI with ⟨rfl, rfl⟩ | ⟨rfl, q1 | ⟨p1, q2 | ⟨p2, q3 | ⟨p3, q4 | ⟨p4, q5 | ⟨p5, q6⟩⟩⟩⟩⟩⟩
      all_goals
        go_quiet (fail)
        go_wp2
        go_ret
        exact ⟨rfl, pw_below_drewN B9.out _⟩
    · rw [(menc_wrong hn).1, (menc_wrong hn).2] at e2
      have E1 := Aside0.mk e1
      have E2 := Aside0.mk e2
      clear e1 e2 hm hn wm wn
      go_enter Try.func8, Try.ntmps8
      go_wp2_with (first | ((with_reducible refine gate_dst (N := 3) rfl ?_); refine box_event ?hg (N := 3) ?hd (cs := #[.int .u64 m.s, .int .i64 m.n, .int .i64 m.h, .int .i64 m.t, .int .i64 m.k, .int .u32 m.p]) (t := 27) ?hr ?_; (case hd => rfl); (case hg => rfl); (case hr => first | (go_simp; done) | (go_simp; rfl)); intro g3 hg w0 hbox hb; have B0 := Aside0.mk hb; have BM := Aside0.mk hbox; clear hb hg hbox) | ((with_reducible refine gate_dst (N := 4) rfl ?_); refine box_event ?hg (N := 4) ?hd (cs := #[.int .u64 n.s, .int .i64 n.n, .int .i64 n.h, .int .i64 n.t, .int .i64 n.k, .int .u32 n.p]) (t := 27) ?hr ?_; (case hd => rfl); (case hg => rfl); (case hr => first | (go_simp; done) | (go_simp; rfl)); intro g4 hg w0' hbox hb; have B0' := Aside0.mk (below_step B0.out hb); have BN := Aside0.mk hbox; have BM' := Aside0.mk (blk_below BM.out hb); clear hb hg hbox))
      refine (shown_true _).mono ?_
      rintro e w1 ⟨rfl, hb1⟩
      have B1 := Aside0.mk (below_step B0'.out hb1)
      have BM1 := Aside0.mk (blk_below BM'.out hb1)
      have BN1 := Aside0.mk (blk_below BN.out hb1)
      clear hb1 B0 B0' BM BM' BN HB
      obtain ⟨h0, h1, h2, h3, h4, h5⟩ := six_cells BM1.out
      go_wp2_with fail
      refine (E1.out _).mono ?_
      rintro e w2 ⟨A2, c2, rfl, hle2, hC2, hb2⟩
      have B2 := Aside0.mk (below_step B1.out hb2)
      have BM2 := Aside0.mk (blk_below BM1.out hb2)
      have BN2 := Aside0.mk (blk_below BN1.out hb2)
      have C2 := Aside0.mk hC2
      have L2 := Aside0.mk hle2
      clear hb2 hle2 hC2 B1 BM1 BN1 h0 h1 h2 h3 h4 h5 E1
      obtain ⟨h0, h1, h2, h3, h4, h5⟩ := six_cells BN2.out
      go_wp2_with fail
      refine (E2.out _).mono ?_
      rintro e w3 ⟨A3, c3, rfl, hle3, hC3, hb3⟩
      have B3 := Aside0.mk (below_step B2.out hb3)
      have BM3 := Aside0.mk (blk_below BM2.out hb3)
      have BN3 := Aside0.mk (blk_below BN2.out hb3)
      have C3 := Aside0.mk (Kd.C_below C2.out hb3)
      have D3 := Aside0.mk hC3
      have M3 := Aside0.mk hle3
      clear hb3 hle3 hC3 B2 BM2 BN2 C2 h0 h1 h2 h3 h4 h5 E2
      go_wp2
      go_ret
      exact ⟨rfl, B3.out⟩

  · rw [(menc_wrong hm).1, (menc_wrong hm).2] at e1
    have E1 := Aside0.mk e1
    have E2 := Aside0.mk e2
    clear e1 e2 hm wm wn
    go_enter Try.func8, Try.ntmps8
    go_wp2_with (first | ((with_reducible refine gate_dst (N := 3) rfl ?_); refine box_event ?hg (N := 3) ?hd (cs := #[.int .u64 m.s, .int .i64 m.n, .int .i64 m.h, .int .i64 m.t, .int .i64 m.k, .int .u32 m.p]) (t := 27) ?hr ?_; (case hd => rfl); (case hg => rfl); (case hr => first | (go_simp; done) | (go_simp; rfl)); intro g3 hg w0 hbox hb; have B0 := Aside0.mk hb; have BM := Aside0.mk hbox; clear hb hg hbox) | ((with_reducible refine gate_dst (N := 4) rfl ?_); refine box_event ?hg (N := 4) ?hd (cs := #[.int .u64 n.s, .int .i64 n.n, .int .i64 n.h, .int .i64 n.t, .int .i64 n.k, .int .u32 n.p]) (t := 27) ?hr ?_; (case hd => rfl); (case hg => rfl); (case hr => first | (go_simp; done) | (go_simp; rfl)); intro g4 hg w0' hbox hb; have B0' := Aside0.mk (below_step B0.out hb); have BN := Aside0.mk hbox; have BM' := Aside0.mk (blk_below BM.out hb); clear hb hg hbox))
    refine (shown_true _).mono ?_
    rintro e w1 ⟨rfl, hb1⟩
    have B1 := Aside0.mk (below_step B0'.out hb1)
    have BM1 := Aside0.mk (blk_below BM'.out hb1)
    have BN1 := Aside0.mk (blk_below BN.out hb1)
    clear hb1 B0 B0' BM BM' BN HB
    obtain ⟨h0, h1, h2, h3, h4, h5⟩ := six_cells BM1.out
    go_wp2_with fail
    refine (E1.out _).mono ?_
    rintro e w2 ⟨A2, c2, rfl, hle2, hC2, hb2⟩
    have B2 := Aside0.mk (below_step B1.out hb2)
    have BM2 := Aside0.mk (blk_below BM1.out hb2)
    have BN2 := Aside0.mk (blk_below BN1.out hb2)
    have C2 := Aside0.mk hC2
    have L2 := Aside0.mk hle2
    clear hb2 hle2 hC2 B1 BM1 BN1 h0 h1 h2 h3 h4 h5 E1
    obtain ⟨h0, h1, h2, h3, h4, h5⟩ := six_cells BN2.out
    go_wp2_with fail
    refine (E2.out _).mono ?_
    rintro e w3 ⟨A3, c3, rfl, hle3, hC3, hb3⟩
    have B3 := Aside0.mk (below_step B2.out hb3)
    have BM3 := Aside0.mk (blk_below BM2.out hb3)
    have BN3 := Aside0.mk (blk_below BN2.out hb3)
    have C3 := Aside0.mk (Kd.C_below C2.out hb3)
    have D3 := Aside0.mk hC3
    have M3 := Aside0.mk hle3
    clear hb3 hle3 hC3 B2 BM2 BN2 C2 h0 h1 h2 h3 h4 h5 E2
    go_wp2
    go_ret
    exact ⟨rfl, B3.out⟩
theorem cartagelaw16_ManifestUnlike.walk (m n : Mf) (c : Int) (w : World) (wm : m.Wf) (wn : n.Wf) (wc : (Lit.int .u8 c).wf = true) :
    Calls Try.prog 8 #[.agg #[.int .u64 m.s, .int .i64 m.n, .int .i64 m.h, .int .i64 m.t, .int .i64 m.k, .int .u32 m.p], .agg #[.int .u64 n.s, .int .i64 n.n, .int .i64 n.h, .int .i64 n.t, .int .i64 n.k, .int .u32 n.p], .int .u8 c] w fun e w' => e = .returned (.bool true) ∧ Below w.heap.size w w' :=
  cartagelaw16_ManifestUnlike.calls m n c wm wn (bytes_of_wf (l := [c]) (by simpa using wc) c (by simp)) w
end Go.Proofs.Ytibahgondccdiaa.PAll
