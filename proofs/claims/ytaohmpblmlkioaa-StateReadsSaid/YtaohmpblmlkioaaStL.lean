/- Words for the laws of state: few, Same, Right, the reference's Encode over lists; a config that came in, opened; how long a config's bytes are. Conditions: up to a thousand vertices. -/
import Derived.Test.YtaohmpblmlkioaaStA
import Derived.Test.YtaohmpblmlkioaaPAllx4
import Derived.Test.YtaohmpblmlkioaaPAllx5
import Derived.Test.YtaohmpblmlkioaaPAllx0
import Derived.WideShapes
import Derived.ChangeArms
import Derived.OpenShut
import Derived.Lib.SmallJoins
import Derived.Deep.Grids
import Derived.Test.YtaohmpblmlkioaaStS
import Derived.Test.YtaohmpblmlkioaaStR
namespace Go.Proofs.Ytaohmpblmlkioaa.Oct
open Go.RowKit Go.Proofs.Ytaohmpblmlkioaa.PAll Go.Proofs.YtaohmpblmlkioaaW.PrintWords Go.Proofs.YtaohmpblmlkioaaW.PrintLast Go.Proofs.YtaohmpblmlkioaaW.PrintMore
theorem take_mn {α : Type} (l : List α) : l.take (mn (l.length : Int) 250).toNat = l.take 250 := by
  unfold mn
  split
  · rfl
  · rw [show ((l.length : Int)).toNat = l.length by omega, List.take_of_length_le (Nat.le_refl _), List.take_of_length_le (by omega)]
theorem mn_250 (n : Nat) : 0 ≤ mn (n : Int) 250 ∧ mn (n : Int) 250 ≤ (n : Int) := by unfold mn; split <;> omega
theorem few_is (vs : List Int) (ls : List Bool) : cartagelaw15_few.f vs ls = some (vs.take 250, ls.take 250) := by
  unfold cartagelaw15_few.f
  simp only [Option.bind_some, take_mn, List.nil_append, List.length_nil]
  rw [if_pos (mn_250 _).1, if_pos (mn_250 _).2, if_pos (by rw [List.length_take]; omega), if_pos (mn_250 _).1, if_pos (mn_250 _).2, if_pos (by rw [List.length_take]; omega)]
theorem right_is (step : Int) {vs : List Int} {ls : List Bool} (hn : vs.length ≤ 1000) : cartageref15_Right.f step vs ls = some (decide (SRight step vs ls)) := by
  unfold cartageref15_Right.f
  by_cases g1 : step ≥ 0
  · by_cases g2 : vs.length = ls.length
    · rw [if_pos g1, if_pos (by omega), decide_eq_true (by omega), decide_eq_true (show SRight step vs ls from ⟨g1, g2⟩)]
    · rw [if_pos g1, if_neg (by omega), decide_eq_false (show ¬ SRight step vs ls from fun h => g2 h.2)]
  · rw [if_neg g1, decide_eq_false (show ¬ SRight step vs ls from fun h => g1 h.1)]
theorem same_l1 (vs : List Int) {ls : List Bool} (hn : ls.length ≤ 1000) (d : Nat) : ∀ (k i : Nat), i + d = ls.length → d < k → cartageref13_Same.l1 k (i : Int) vs ls vs ls = some true := by
  induction d with
  | zero =>
    intro k i hd hk
    obtain ⟨k, rfl⟩ : ∃ m, k = m + 1 := ⟨k - 1, by omega⟩
    have c : ¬ (i : Int) < (ls.length : Int) := by omega
    rw [cartageref13_Same.l1, if_neg c]
  | succ d ih =>
    intro k i hd hk
    obtain ⟨k, rfl⟩ : ∃ m, k = m + 1 := ⟨k - 1, by omega⟩
    have c : (i : Int) < (ls.length : Int) := by omega
    have c0 : (0 : Int) ≤ (i : Int) := by omega
    rw [cartageref13_Same.l1, if_pos c, if_pos c0, if_pos c, if_neg (by simp), wr_up i (by omega)]
    exact ih k (i + 1) (by omega) (by omega)
theorem same_l0 {vs : List Int} {ls : List Bool} (hv : vs.length ≤ 1000) (hn : ls.length ≤ 1000) (d : Nat) : ∀ (k i : Nat), i + d = vs.length → 1010 + d < k → cartageref13_Same.l0 k (i : Int) vs ls vs ls = some true := by
  induction d with
  | zero =>
    intro k i hd hk
    obtain ⟨k, rfl⟩ : ∃ m, k = m + 1 := ⟨k - 1, by omega⟩
    have c : ¬ (i : Int) < (vs.length : Int) := by omega
    rw [cartageref13_Same.l0, if_neg c]
    exact same_l1 vs hn ls.length k 0 (by omega) (by omega)
  | succ d ih =>
    intro k i hd hk
    obtain ⟨k, rfl⟩ : ∃ m, k = m + 1 := ⟨k - 1, by omega⟩
    have c : (i : Int) < (vs.length : Int) := by omega
    have c0 : (0 : Int) ≤ (i : Int) := by omega
    rw [cartageref13_Same.l0, if_pos c, if_pos c0, if_pos c, if_pos rfl, wr_up i (by omega)]
    exact ih k (i + 1) (by omega) (by omega)
theorem same_is {vs : List Int} {ls : List Bool} (hv : vs.length ≤ 1000) (hn : ls.length ≤ 1000) (k : Nat) (hk : 2100 < k) : cartageref13_Same.f k vs ls vs ls = some true := by
  obtain ⟨k, rfl⟩ : ∃ m, k = m + 1 := ⟨k - 1, by omega⟩
  unfold cartageref13_Same.f
  rw [if_pos rfl, cartageref13_Same.j0, if_neg (by simp)]
  exact same_l0 hv hn vs.length k 0 (by omega) (by omega)
end Go.Proofs.Ytaohmpblmlkioaa.Oct
namespace Go.Proofs.Ytaohmpblmlkioaa.Oct
open Go.Proofs.Ytaohmpblmlkioaa.PAll Go.ChangeShapes Go.WideShapes Go.RowKit Go.Proofs.YtaohmpblmlkioaaW.PrintWords Go.Proofs.YtaohmpblmlkioaaW.PrintMore
theorem wf_u64 {x : Int} (h : (Lit.int .u64 x).wf = true) : 0 ≤ x ∧ x < 18446744073709551616 := by
  simp [Lit.wf, IntKind.min, IntKind.max, IntKind.bits, IntKind.signed] at h
  omega
/-- The values and the truths of a config, as they lie. -/
def IsCf (w : World) (A0 : Option Addr) (c0 : Nat) (vs : List Int) (A1 : Option Addr) (c1 : Nat) (bs : List Bool) : Prop :=
  Kd.C (Kd.int .u64) w A0 vs.length vs ∧ vs.length ≤ c0 ∧ (∀ n ∈ vs, 0 ≤ n ∧ n < 18446744073709551616) ∧ Kd.C Kd.bool w A1 bs.length bs ∧ bs.length ≤ c1
theorem open_cf {H : Type} {enc : TypeId × Value → H} {w : World} {base b0 : Nat} {held : Bool} {r : Reach} {v : Value} {d : DataW H} {p : List MemPlace}
    (hv : Value.okWide Try.prog w r b0 25 v) (h : DataW.Trod enc Try.prog w base (fun _ => true) held 25 v d p) :
    ∃ A0 c0 vs A1 c1 bs, v = .agg #[.slice A0 vs.length c0, .slice A1 bs.length c1] ∧ IsCf w A0 c0 vs A1 c1 bs := by
  obtain ⟨v0, v1, y0, y1, n, rfl, rfl, rfl, h0, h1⟩ := Joins.open_agg2 Try.underlying25 (by kernel_rfl) (by kernel_rfl) hv h
  have g0 : ∃ A0 c0 vs, v0 = .slice A0 (vs.length) c0 ∧ Kd.C (Kd.int .u64) w A0 vs.length vs ∧ vs.length ≤ c0 ∧ ∀ n ∈ vs, 0 ≤ n ∧ n < 18446744073709551616 := by
    rcases open_ints Try.underlying22 Try.underlying39 (by kernel_rfl) h0 with ⟨hcs, _⟩ | ⟨a, len, cap, zs, hcs, _, hl, hm, hz, _, hcell, hwf⟩
    · obtain rfl : v0 = _ := List.head_eq_of_cons_eq hcs
      exact ⟨none, 0, [], rfl, Kd.C_nil _ _, Nat.le_refl _, fun n hn => by cases hn⟩
    · obtain rfl : v0 = _ := List.head_eq_of_cons_eq hcs
      obtain ⟨l, rfl, hr, hmx, hw, hc⟩ := ReadsInt.ofRowC (k := .u64) (a := some a) (len := len) (cap := cap) (zs := zs) (w := w) (.inr ⟨a, rfl, hl, hm, by simpa using hz, hcell, hwf⟩)
      exact ⟨some a, cap, l, rfl, Kd.C_of_reads (d := (0 : Int)) (h1 := fun _ => rfl) hr, hc, fun n hn => wf_u64 (hw n hn)⟩
  have g1 : ∃ A1 c1 bs, v1 = .slice A1 (bs.length) c1 ∧ Kd.C Kd.bool w A1 bs.length bs ∧ bs.length ≤ c1 := by
    rcases Go.Deep.open_bools Try.underlying23 Try.underlying4 (by kernel_rfl) h1 with ⟨hcs, _⟩ | ⟨a, len, cap, B, hcs, _, hl, hm, _, hcell⟩
    · obtain rfl : v1 = _ := List.head_eq_of_cons_eq hcs
      exact ⟨none, 0, [], rfl, Kd.C_nil _ _, Nat.le_refl _⟩
    · obtain rfl : v1 = _ := List.head_eq_of_cons_eq hcs
      refine ⟨some a, cap, (List.range len).map B, by simp, ⟨rfl, by unfold maxLen at hm; simp; omega, fun hn => ⟨a, rfl, fun j p hj => ⟨[.bool p], rfl, rfl, fun i u hi => ?_⟩⟩⟩, by simpa using hl⟩
      have hj' : j < len := by have := (List.getElem?_eq_some_iff.1 hj).1; simpa using this
      have hp : B j = p := by
        rw [List.getElem?_map, List.getElem?_range hj'] at hj
        simpa using hj
      have hi0 : i = 0 := by have := (List.getElem?_eq_some_iff.1 hi).1; simpa using this
      subst hi0
      have hu : u = .bool p := by simpa using hi.symm
      subst hu
      have := hcell j (by omega)
      rw [hp] at this
      simpa [Kd.bool, Kd.scalar] using this
  obtain ⟨A0, c0, vs, rfl, a1, a2, a3⟩ := g0
  obtain ⟨A1, c1, bs, rfl, b1, b2⟩ := g1
  exact ⟨A0, c0, vs, A1, c1, bs, rfl, a1, a2, a3, b1, b2⟩
end Go.Proofs.Ytaohmpblmlkioaa.Oct
namespace Go.Proofs.Ytaohmpblmlkioaa.Oct
open Go.RowKit Go.Proofs.Ytaohmpblmlkioaa.PAll Go.Proofs.YtaohmpblmlkioaaW.PrintWords Go.Proofs.YtaohmpblmlkioaaW.PrintLast Go.Proofs.YtaohmpblmlkioaaW.PrintMore
theorem and_i64 (x : Int) (m : Nat) (hm : m < 9223372036854775808) : 0 ≤ bits .and .i64 x m ∧ bits .and .i64 x m ≤ m := by
  have e : bits .and .i64 x m = wrap64 (((BitVec.ofInt 64 x &&& BitVec.ofInt 64 (m : Int)).toNat : Nat) : Int) := by
    rw [← i64_w]; rfl
  have hb : (BitVec.ofInt 64 x &&& BitVec.ofInt 64 (m : Int)).toNat ≤ m := by
    rw [BitVec.toNat_and, BitVec.ofInt_natCast, BitVec.toNat_ofNat]
    exact Nat.le_trans Nat.and_le_right (Nat.mod_le _ _)
  rw [e]
  generalize (BitVec.ofInt 64 x &&& BitVec.ofInt 64 (m : Int)).toNat = q at hb
  rw [wrap_in (by omega) (by omega)]
  omega
theorem encs_length (l : List (List Int)) : (encs l).length = l.flatten.length + 6 * l.length := by
  induction l with
  | nil => rfl
  | cons t l ih => rw [encs_cons, List.length_append, enc_length, ih, List.flatten_cons, List.length_append, List.length_cons]; omega
theorem tells_count : ∀ (r : List (Int × Bool)) (t : List Int) (k : Nat), t.length = 9 * k → k < 100 → r ≠ [] → (tells r t).length = (k + r.length + 99) / 100
  | [], _, _, _, _, h => absurd rfl h
  | x :: r, t, k, ht, hk, _ => by
    have hx : (t ++ vtx x).length = 9 * (k + 1) := by rw [List.length_append, vtx_length, ht]; omega
    unfold tells
    rw [List.length_cons]
    by_cases g : (t ++ vtx x).length = 900 ∨ r = []
    · rw [if_pos g, List.length_cons]
      by_cases hr : r = []
      · subst hr; simp [tells]; omega
      · have hk1 : k + 1 = 100 := by rcases g with g | g
                                     · omega
                                     · exact absurd g hr
        rw [tells_count r [] 0 rfl (by omega) hr]; omega
    · rw [if_neg g, tells_count r _ (k + 1) hx (by
        have : ¬ (t ++ vtx x).length = 900 := fun h => g (.inl h)
        omega) (fun h => g (.inr h))]
      congr 1; omega
theorem tells_num (r : List (Int × Bool)) : (tells r []).length = (r.length + 99) / 100 := by
  by_cases h : r = []
  · subst h; rfl
  · rw [tells_count r [] 0 rfl (by omega) h]; congr 1; omega
theorem senc_length {x : Int} {vs : List Int} {ls : List Bool} (h0 : 0 ≤ x) (hl : vs.length = ls.length) : (senc x vs ls).length = 22 + 9 * vs.length + 6 * ((vs.length + 99) / 100) := by
  have hz : (vs.zip ls).length = vs.length := by rw [List.length_zip]; omega
  rw [show senc x vs ls = encs (stexts x vs ls) from if_pos ⟨h0, hl⟩, encs_length, stexts, List.flatten_cons, List.length_append, shead_length, tells_all, flat_length, List.length_cons, tells_num, hz]
  omega
end Go.Proofs.Ytaohmpblmlkioaa.Oct
namespace Go.Proofs.Ytaohmpblmlkioaa.PAll
open Go.RowKit Go.Proofs.Ytaohmpblmlkioaa.Oct Go.Proofs.Ytaohmpblmlkioaa.HX Go.Proofs.YtaohmpblmlkioaaW.PrintWords Go.Proofs.YtaohmpblmlkioaaW.PrintLast Go.Proofs.YtaohmpblmlkioaaW.PrintMore
set_option linter.unusedVariables false
theorem two_R {α : Type} {d : Kd α} {e n1 : Nat} {W : World} {g : Nat} {p q u0 u1 v : Value} {xs : List α} (hbk : W.heap[g]? = some (.cells #[p, q] 25 (0, 0))) (he : e ≠ 25) (hE : d.E = []) (h : d.R e W n1 (fun _ => True) v xs) :
    d.R e ((W.setCell ⟨g, 0, none⟩ u0).setCell ⟨g, 1, none⟩ u1) n1 (fun _ => True) v xs :=
  Kd.R_mono (Kd.R_far (Kd.R_far (Kd.R_far1 h hE (Kd.R_ne h hbk he)) (p := ⟨g, 0, none⟩) (fun k hk => hk.2) u0) (p := ⟨g, 1, none⟩) (fun k hk => hk.2) u1) (fun _ _ => trivial)
theorem few_w {A0 A1 : Option Addr} {c0 c1 : Nat} {vs : List Int} {ls : List Bool} {w : World} (h0 : Kd.C (Kd.int .u64) w A0 vs.length vs) (hc0 : vs.length ≤ c0) (h1 : Kd.C Kd.bool w A1 ls.length ls) (hc1 : ls.length ≤ c1) :
    Calls Try.prog 10 #[.agg #[.slice A0 vs.length c0, .slice A1 ls.length c1]] w fun e w' => ∃ A2 c2 A3 c3, e = .returned (.agg #[.slice A2 (vs.take 250).length c2, .slice A3 (ls.take 250).length c3]) ∧ Kd.R (Kd.int .u64) 39 w' w.heap.size (fun _ => True) (.slice A2 (vs.take 250).length c2) (vs.take 250) ∧ Kd.R Kd.bool 4 w' w.heap.size (fun _ => True) (.slice A3 (ls.take 250).length c3) (ls.take 250) ∧ Below w.heap.size w w' := by
  refine (cartagelaw15_few.calls A0 c0 vs A1 c1 ls _ _ w h0 hc0 h1 hc1 (few_is vs ls)).mono ?_
  rintro e w3 ⟨v3, v4, rfl, ho3, ho4, hb3⟩
  obtain ⟨A3, c3, rfl⟩ := Kd.R_slice ho3
  obtain ⟨A4, c4, rfl⟩ := Kd.R_slice ho4
  exact ⟨A3, c3, A4, c4, rfl, ho3, ho4, hb3⟩
theorem same_w {A0 A1 A2 A3 : Option Addr} {c0 c1 c2 c3 : Nat} {vs : List Int} {ls : List Bool} {w : World} (h0 : Kd.C (Kd.int .u64) w A0 vs.length vs) (hc0 : vs.length ≤ c0) (h1 : Kd.C Kd.bool w A1 ls.length ls) (hc1 : ls.length ≤ c1) (h2 : Kd.C (Kd.int .u64) w A2 vs.length vs) (hc2 : vs.length ≤ c2) (h3 : Kd.C Kd.bool w A3 ls.length ls) (hc3 : ls.length ≤ c3) (hv : vs.length ≤ 1000) (hl : ls.length ≤ 1000) :
    Calls Try.prog 13 #[.agg #[.slice A0 vs.length c0, .slice A1 ls.length c1], .agg #[.slice A2 vs.length c2, .slice A3 ls.length c3]] w fun e w' => e = .returned (.bool true) ∧ Below w.heap.size w w' :=
  cartageref13_Same.calls 5000 A0 c0 vs A1 c1 ls A2 c2 vs A3 c3 ls true w h0 hc0 h1 hc1 h2 hc2 h3 hc3 (same_is hv hl 5000 (by omega))
theorem right_w {A0 A1 : Option Addr} {c0 c1 : Nat} {vs : List Int} {ls : List Bool} {w : World} (h0 : Kd.C (Kd.int .u64) w A0 vs.length vs) (hc0 : vs.length ≤ c0) (h1 : Kd.C Kd.bool w A1 ls.length ls) (hc1 : ls.length ≤ c1) (hn : vs.length ≤ 1000) (step : Int) :
    Calls Try.prog 12 #[.int .i64 step, .agg #[.slice A0 vs.length c0, .slice A1 ls.length c1]] w fun e w' => e = .returned (.bool (decide (SRight step vs ls))) ∧ Below w.heap.size w w' :=
  cartageref15_Right.calls step A0 c0 vs A1 c1 ls _ w h0 hc0 h1 hc1 (right_is step hn)
theorem rencode_w {A0 A1 : Option Addr} {c0 c1 : Nat} {vs : List Int} {ls : List Bool} {w : World} (h0 : Kd.C (Kd.int .u64) w A0 vs.length vs) (hc0 : vs.length ≤ c0) (h1 : Kd.C Kd.bool w A1 ls.length ls) (hc1 : ls.length ≤ c1) (hlen : vs.length = ls.length) (hn : vs.length ≤ 1000) (step : Int) :
    Calls Try.prog 14 #[.int .i64 step, .agg #[.slice A0 vs.length c0, .slice A1 ls.length c1]] w fun e w' => ∃ A' c', e = .returned (.slice A' (encs (stexts step vs ls)).length c') ∧ (encs (stexts step vs ls)).length ≤ c' ∧ Kd.C (Kd.int .u8) w' A' (encs (stexts step vs ls)).length (encs (stexts step vs ls)) ∧ Below w.heap.size w w' := by
  refine (cartageref15_Encode.calls 200000 step A0 c0 vs A1 c1 ls _ w h0 hc0 h1 hc1 (ref_sencode_is hlen hn step 200000 (by omega))).mono ?_
  rintro e w3 ⟨v3, rfl, ho3, hb3⟩
  obtain ⟨A3, c3, rfl⟩ := Kd.R_slice ho3
  have O3 := R_C ho3
  exact ⟨A3, c3, rfl, O3.2.1, O3.2.2, hb3⟩
end Go.Proofs.Ytaohmpblmlkioaa.PAll
