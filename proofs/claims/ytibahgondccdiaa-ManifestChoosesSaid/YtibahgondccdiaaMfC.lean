/- The contract of manifest.Choose, over lists alone. -/
import Derived.Test.YtibahgondccdiaaMfD
namespace Go.Proofs.Ytibahgondccdiaa.PAll
open Go.RowKit Go.Proofs.Ytibahgondccdiaa.Oct Go.Proofs.Ytibahgondccdiaa.HX Go.Proofs.YtibahgondccdiaaW.PrintWords Go.Proofs.YtibahgondccdiaaW.PrintLast Go.Proofs.YtibahgondccdiaaW.PrintMore
attribute [local go_sem] max2_int min2_int max_two min_two max_three min_three max_four min_four   -- for this text's walks alone
set_option linter.unusedVariables false
set_option linter.unusedSimpArgs false
structure Ch where
  m : Mf
  w : Int
  b : Bool
def chStep (y : List Int) (j : Int) (s : Ch) : Ch := if mderr y = 0 ∧ (s.b = false ∨ (mdec y).s > s.m.s) then ⟨mdec y, j, true⟩ else s
def chAt (a b : List Int) : Nat → Ch
  | 0 => ⟨Mf.zero, 0, false⟩
  | 1 => chStep a 0 ⟨Mf.zero, 0, false⟩
  | _ => chStep b 1 (chStep a 0 ⟨Mf.zero, 0, false⟩)
theorem at_two (v0 v1 : Value) (A0 A1 : Option Addr) (n0 n1 c0 c1 : Nat) (j : Nat) (hj : j < 2) (W : World) : (Instr.index 65 (.agg #[.slice A0 n0 c0, .slice A1 n1 c1]) (.int .i64 (j : Nat))).run Try.prog W = .ok (if j = 0 then .slice A0 n0 c0 else .slice A1 n1 c1) W := by
  rcases (by omega : j = 0 ∨ j = 1) with rfl | rfl
  all_goals kernel_rfl

theorem six_alloc {w : World} {g t : Nat} {c0 c1 c2 c3 c4 c5 : Value} (h : w.heap[g]? = some (.cells #[c0, c1, c2, c3, c4, c5] t (0, 0))) :
    (∀ o, (w.alloc o).cell? ⟨g, 0, none⟩ = some c0) ∧ (∀ o, (w.alloc o).cell? ⟨g, 1, none⟩ = some c1) ∧ (∀ o, (w.alloc o).cell? ⟨g, 2, none⟩ = some c2) ∧ (∀ o, (w.alloc o).cell? ⟨g, 3, none⟩ = some c3) ∧ (∀ o, (w.alloc o).cell? ⟨g, 4, none⟩ = some c4) ∧ (∀ o, (w.alloc o).cell? ⟨g, 5, none⟩ = some c5) :=
  ⟨fun o => (six_cells (blk_alloc h o)).1, fun o => (six_cells (blk_alloc h o)).2.1, fun o => (six_cells (blk_alloc h o)).2.2.1, fun o => (six_cells (blk_alloc h o)).2.2.2.1, fun o => (six_cells (blk_alloc h o)).2.2.2.2.1, fun o => (six_cells (blk_alloc h o)).2.2.2.2.2⟩
theorem six_allocF {w : World} {g t : Nat} {cs : Array Value} (h : w.heap[g]? = some (.cells cs t (0, 0))) :
    (∀ o, (w.alloc o).frozen? ⟨g, 0, none⟩ = false) ∧ (∀ o, (w.alloc o).frozen? ⟨g, 1, none⟩ = false) ∧ (∀ o, (w.alloc o).frozen? ⟨g, 2, none⟩ = false) ∧ (∀ o, (w.alloc o).frozen? ⟨g, 3, none⟩ = false) ∧ (∀ o, (w.alloc o).frozen? ⟨g, 4, none⟩ = false) ∧ (∀ o, (w.alloc o).frozen? ⟨g, 5, none⟩ = false) :=
  ⟨fun o => blk_frozen (blk_alloc h o) 0, fun o => blk_frozen (blk_alloc h o) 1, fun o => blk_frozen (blk_alloc h o) 2, fun o => blk_frozen (blk_alloc h o) 3, fun o => blk_frozen (blk_alloc h o) 4, fun o => blk_frozen (blk_alloc h o) 5⟩
set_option maxHeartbeats 4000000 in
set_option maxRecDepth 100000 in
theorem mchoose_w {A0 : Option Addr} {c0 : Nat} {a : List Int} {A1 : Option Addr} {c1 : Nat} {b : List Int} {w : World} (h0 : Kd.C (Kd.int .u8) w A0 a.length a) (hc0 : a.length ≤ c0) (hb0 : Bytes a) (hl0 : a.length ≤ 1000000)
    (h1 : Kd.C (Kd.int .u8) w A1 b.length b) (hc1 : b.length ≤ c1) (hb1 : Bytes b) (hl1 : b.length ≤ 1000000) :
    Calls Try.prog 17 #[.slice A0 a.length c0, .slice A1 b.length c1] w fun e w' => e = .returned (.tuple #[.agg #[.int .u64 (chAt a b 2).m.s, .int .i64 (chAt a b 2).m.n, .int .i64 (chAt a b 2).m.h, .int .i64 (chAt a b 2).m.t, .int .i64 (chAt a b 2).m.k, .int .u32 (chAt a b 2).m.p], .int .i64 (chAt a b 2).w, .bool (chAt a b 2).b]) ∧ Below w.heap.size w w' := by
  have H0 := Aside0.mk h0
  have H1 := Aside0.mk h1
  have L0 := Aside0.mk hc0
  have L1 := Aside0.mk hc1
  have Y0 := Aside0.mk hb0
  have Y1 := Aside0.mk hb1
  clear h0 h1 hc0 hc1 hb0 hb1
  go_enter Try.func17, Try.ntmps17
  go_wp2_with ((with_reducible refine gate_dst (N := 4) rfl ?_); refine box_event ?hg (N := 4) ?hd (cs := #[.int .u64 0, .int .i64 0, .int .i64 0, .int .i64 0, .int .i64 0, .int .u32 0]) (t := 27) ?hr ?_; (case hd => rfl); (case hg => rfl); (case hr => first | (go_simp; done) | (go_simp; rfl)); intro g hg w1 hbox hb; have B1 := Aside0.mk hb; have BK1 := Aside0.mk hbox; have F0 := Aside0.mk (Kd.F_below (Kd.F_mono (ok' := fun k => k < g) (Kd.C_F (Kd.heap_int .u8) H0.out) (fun k hk => by rw [hg]; exact hk)) hb); have F1 := Aside0.mk (Kd.F_below (Kd.F_mono (ok' := fun k => k < g) (Kd.C_F (Kd.heap_int .u8) H1.out) (fun k hk => by rw [hg]; exact hk)) hb); have GE := Aside0.mk (show w.heap.size ≤ g from by rw [hg]; exact Nat.le_refl _); clear hb hbox hg)
  clear H0 H1
  go_loopg [5, 6, 14] 2 (fun kq v5 v6 v14 w' => ∃ j : Nat, kq + j = 2 ∧ v14 = .int .i64 (j : Nat) ∧ v5 = .int .i64 (chAt a b j).w ∧ v6 = .bool (chAt a b j).b ∧ Aside0 (Below w.heap.size w w') ∧
      Aside0 (w'.heap[g]? = some (.cells #[.int .u64 (chAt a b j).m.s, .int .i64 (chAt a b j).m.n, .int .i64 (chAt a b j).m.h, .int .i64 (chAt a b j).m.t, .int .i64 (chAt a b j).m.k, .int .u32 (chAt a b j).m.p] 27 (0, 0))) ∧ Aside0 (Kd.F (Kd.int .u8) w' (fun k => k < g) A0 a.length a) ∧ Aside0 (Kd.F (Kd.int .u8) w' (fun k => k < g) A1 b.length b))
  case atStart => exact ⟨0, by omega, by first | rfl | simp, rfl, rfl, B1, BK1, F0, F1⟩
  case round =>
    clear B1 BK1 F0 F1
    obtain ⟨j, hj, rfl, rfl, rfl, B1, BK1, F0, F1⟩ := hrel
    by_cases hj2 : j < 2
    · have hidx := at_two undef undef A0 A1 a.length b.length c0 c1 j hj2
      obtain ⟨y, A, c, hyi, hyF, hyc, hyb, hyl, hstep⟩ : ∃ y A c, (if j = 0 then Value.slice A0 a.length c0 else .slice A1 b.length c1) = .slice A y.length c ∧ Aside0 (∀ W, (Kd.F (Kd.int .u8) W (fun k => k < g) A0 a.length a) → (Kd.F (Kd.int .u8) W (fun k => k < g) A1 b.length b) → Kd.F (Kd.int .u8) W (fun k => k < g) A y.length y) ∧ Aside0 (y.length ≤ c) ∧ Aside0 (Bytes y) ∧ Aside0 (y.length ≤ 1000000) ∧ chAt a b (j + 1) = chStep y (j : Nat) (chAt a b j) := by
        rcases (by omega : j = 0 ∨ j = 1) with rfl | rfl
        · exact ⟨a, A0, c0, rfl, ⟨fun W x _ => x⟩, L0, Y0, ⟨hl0⟩, rfl⟩
        · exact ⟨b, A1, c1, rfl, ⟨fun W _ x => x⟩, L1, Y1, ⟨hl1⟩, rfl⟩
      rw [hyi] at hidx
      have HST := Aside0.mk hstep
      clear hyi hstep
      generalize hst : chAt a b j = st at *
      clear hst
      obtain ⟨⟨ms, mn, mh, mt, mk, mp⟩, wh, is⟩ := st
      simp only at *
      go_wp2_with fail
      refine (mdecode_w (Kd.F_now (hyF.out _ F0.out F1.out)) hyc.out hyb.out hyl.out).mono ?_
      rintro e w2 ⟨rfl, hb2⟩
      have B2 := Aside0.mk (below_step B1.out hb2)
      have BK2 := Aside0.mk (blk_below BK1.out hb2)
      have F02 := Aside0.mk (Kd.F_below F0.out hb2)
      have F12 := Aside0.mk (Kd.F_below F1.out hb2)
      clear hb2 B1 BK1 F0 F1 hyF hyc hyb hyl
      unfold chStep at HST
      generalize mdec y = q at *
      generalize mderr y = er at *
      obtain ⟨qs, qn, qh, qt, qk, qp⟩ := q
      simp only at *
      by_cases he : er = 0
      · subst he
        cases is with
        | false =>
          have hn := HST.out.trans (if_pos ⟨rfl, Or.inl rfl⟩)
          have HN := Aside0.mk hn
          clear hn HST
          obtain ⟨h0, h1, h2, h3, h4, h5⟩ := six_alloc BK2.out; obtain ⟨r0, r1, r2, r3, r4, r5⟩ := six_allocF BK2.out; go_wp2
          have hn := HN.out
          obtain ⟨k1', rfl⟩ : ∃ k1', gk = k1' + 1 := ⟨gk - 1, by omega⟩
          go_roundg k1'
          case measure => omega
          case rel => exact ⟨j + 1, by omega, by simp, by rw [hn], by rw [hn], ⟨six_below (B2.out.alloc (below_size B2.out) _) GE.out _ _ _ _ _ _⟩, ⟨by rw [hn]; exact six_put (blk_alloc BK2.out _) _ _ _ _ _ _⟩, ⟨six_F (Kd.F_alloc F02.out _) (Nat.le_refl _) _ _ _ _ _ _⟩, ⟨six_F (Kd.F_alloc F12.out _) (Nat.le_refl _) _ _ _ _ _ _⟩⟩
        | true =>
          by_cases hgt : qs > ms
          · have hn := HST.out.trans (if_pos ⟨rfl, Or.inr hgt⟩)
            have HN := Aside0.mk hn
            have d1 : decide (ms < qs) = true := decide_eq_true hgt
            clear hn HST
            obtain ⟨h0, h1, h2, h3, h4, h5⟩ := six_alloc BK2.out; obtain ⟨r0, r1, r2, r3, r4, r5⟩ := six_allocF BK2.out; go_wp2
            have hn := HN.out
            obtain ⟨k1', rfl⟩ : ∃ k1', gk = k1' + 1 := ⟨gk - 1, by omega⟩
            go_roundg k1'
            case measure => omega
            case rel => exact ⟨j + 1, by omega, by simp, by rw [hn], by rw [hn], ⟨six_below (B2.out.alloc (below_size B2.out) _) GE.out _ _ _ _ _ _⟩, ⟨by rw [hn]; exact six_put (blk_alloc BK2.out _) _ _ _ _ _ _⟩, ⟨six_F (Kd.F_alloc F02.out _) (Nat.le_refl _) _ _ _ _ _ _⟩, ⟨six_F (Kd.F_alloc F12.out _) (Nat.le_refl _) _ _ _ _ _ _⟩⟩
          · have hn := HST.out.trans (if_neg (fun h => h.2.elim (fun h => by cases h) hgt))
            have HN := Aside0.mk hn
            have d1 : decide (ms < qs) = false := decide_eq_false hgt
            clear hn HST
            obtain ⟨h0, h1, h2, h3, h4, h5⟩ := six_alloc BK2.out; obtain ⟨r0, r1, r2, r3, r4, r5⟩ := six_allocF BK2.out; go_wp2
            have hn := HN.out
            obtain ⟨k1', rfl⟩ : ∃ k1', gk = k1' + 1 := ⟨gk - 1, by omega⟩
            go_roundg k1'
            case measure => omega
            case rel => exact ⟨j + 1, by omega, by simp, by rw [hn], by rw [hn], ⟨B2.out.alloc (below_size B2.out) _⟩, ⟨by rw [hn]; exact blk_alloc BK2.out _⟩, ⟨Kd.F_alloc F02.out _⟩, ⟨Kd.F_alloc F12.out _⟩⟩
      · have hn := HST.out.trans (if_neg (fun h => he h.1))
        have HN := Aside0.mk hn
        have e1 : (er == 0) = false := beq_eq_false_iff_ne.mpr he
        clear hn HST he
        obtain ⟨h0, h1, h2, h3, h4, h5⟩ := six_alloc BK2.out; obtain ⟨r0, r1, r2, r3, r4, r5⟩ := six_allocF BK2.out; go_wp2
        have hn := HN.out
        obtain ⟨k1', rfl⟩ : ∃ k1', gk = k1' + 1 := ⟨gk - 1, by omega⟩
        go_roundg k1'
        case measure => omega
        case rel => exact ⟨j + 1, by omega, by simp, by rw [hn], by rw [hn], ⟨B2.out.alloc (below_size B2.out) _⟩, ⟨by rw [hn]; exact blk_alloc BK2.out _⟩, ⟨Kd.F_alloc F02.out _⟩, ⟨Kd.F_alloc F12.out _⟩⟩
    · obtain rfl : j = 2 := by omega
      obtain ⟨h0, h1, h2, h3, h4, h5⟩ := six_cells BK1.out
      obtain ⟨r0, r1, r2, r3, r4, r5⟩ := six_free BK1.out
      go_wp2
      refine bodyPost_ret (results_ctt rfl _ _ g 27 #[.int .u64 (chAt a b 2).m.s, .int .i64 (chAt a b 2).m.n, .int .i64 (chAt a b 2).m.h, .int .i64 (chAt a b 2).m.t, .int .i64 (chAt a b 2).m.k, .int .u32 (chAt a b 2).m.p] (0, 0) _ rfl (six_put BK1.out _ _ _ _ _ _) Try.underlying27 rfl (by kernel_rfl)) rfl ?_
      exact ⟨rfl, six_below B1.out GE.out _ _ _ _ _ _⟩
end Go.Proofs.Ytibahgondccdiaa.PAll
