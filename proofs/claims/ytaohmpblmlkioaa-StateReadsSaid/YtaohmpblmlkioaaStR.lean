/- The reference's Encode of configs tells the same. -/
import Derived.Test.YtaohmpblmlkioaaStC
import Derived.Test.YtaohmpblmlkioaaOctP
import Derived.Test.YtaohmpblmlkioaaBlkR
import Derived.Test.YtaohmpblmlkioaaPAllx6
namespace Go.Proofs.Ytaohmpblmlkioaa.Oct
set_option linter.unusedVariables false
open Go.RowKit Go.Proofs.Ytaohmpblmlkioaa.PAll Go.Proofs.YtaohmpblmlkioaaW.PrintWords Go.Proofs.YtaohmpblmlkioaaW.PrintLast Go.Proofs.YtaohmpblmlkioaaW.PrintMore
theorem tells_go {x : Int × Bool} {r : List (Int × Bool)} {t : List Int} (h : ¬ ((t ++ vtx x).length = 900 ∨ r = [])) : tells (x :: r) t = tells r (t ++ vtx x) := by rw [tells, if_neg h]
theorem tells_end {x : Int × Bool} {r : List (Int × Bool)} {t : List Int} (h : (t ++ vtx x).length = 900 ∨ r = []) : tells (x :: r) t = (t ++ vtx x) :: tells r [] := by rw [tells, if_pos h]
theorem wr_100 (i : Nat) (h : i ≤ 1000) : wrap64 ((i : Int) + 100) = ((i + 100 : Nat) : Int) := (wrap_in (by omega) (by omega)).trans (by omega)
/-- One vertex more: what the text that grows comes to. -/
theorem tells_step {r : List (Int × Bool)} {v at_ : Nat} (hv : v < r.length) (h1 : at_ ≤ v) (h2 : v < at_ + 100) {text : List Int} (hl : text.length = 9 * (v - at_)) :
    encs (tells (r.drop v) text) = if v + 1 = at_ + 100 ∨ v + 1 = r.length then enc (text ++ vtx r[v]) ++ encs (tells (r.drop (v + 1)) []) else encs (tells (r.drop (v + 1)) (text ++ vtx r[v])) := by
  have hx : (text ++ vtx r[v]).length = 9 * (v - at_) + 9 := by rw [List.length_append, vtx_length, hl]
  have hnil : r.drop (v + 1) = [] ↔ v + 1 = r.length := by rw [List.drop_eq_nil_iff]; omega
  rw [List.drop_eq_getElem_cons hv]
  by_cases g : v + 1 = at_ + 100 ∨ v + 1 = r.length
  · rw [if_pos g, tells_end (g.elim (fun h => .inl (by omega)) (fun h => .inr (hnil.2 h))), encs_cons]
  · rw [if_neg g, tells_go (fun h => h.elim (fun h => g (.inl (by omega))) (fun h => g (.inr (hnil.1 h))))]
theorem ref_push {vs : List Int} {ls : List Bool} (hn : vs.length ≤ 1000) {k : Nat} {out text : List Int} {at_ v : Nat} (hv : v = at_ + 100 ∨ v = vs.length) (hva : v ≤ at_ + 100) (hat : at_ ≤ 1000) (hb : Bytes text) (hl : text.length ≤ 900) (ho : out.length ≤ 10000 * (at_ + 1)) (hk : 90150 < k) {r : Option (List Int)}
    (h : cartageref15_Encode.l0 k (out ++ enc text) ((at_ + 100 : Nat) : Int) vs ls = r) :
    cartageref15_Encode.l1 (k + 2) out (at_ : Int) text (v : Int) vs ls = r := by
  have hw := wr_100 at_ hat
  have he := ref_encode_is hb (by omega) k (by omega)
  have hlo : out.length + (enc text).length < 140737488355328 := by rw [enc_length]; omega
  have hj : cartageref15_Encode.j2 (k + 1) out (at_ : Int) text (v : Int) false vs ls = r := by
    simp only [cartageref15_Encode.j2]
    rw [if_neg (by decide), he]
    simp only [Option.bind_some]
    rw [if_pos hlo, hw]
    exact h
  simp only [cartageref15_Encode.l1]
  rw [hw]
  by_cases g : v = at_ + 100
  · have c : ¬ (v : Int) < ((at_ + 100 : Nat) : Int) := by omega
    rw [if_neg c]; exact hj
  · have c : (v : Int) < ((at_ + 100 : Nat) : Int) := by omega
    have c2 : ¬ (v : Int) < (vs.length : Int) := by omega
    rw [if_pos c, decide_eq_false c2]; exact hj
theorem ref_vtx {vs : List Int} {ls : List Bool} (hlen : vs.length = ls.length) (hn : vs.length ≤ 1000) {k : Nat} {out text : List Int} {at_ v : Nat} (hv : v < (vs.zip ls).length) (hva : v < at_ + 100) (hat : at_ ≤ 1000) (hl : text.length ≤ 900) (hk : 90150 < k) :
    cartageref15_Encode.l1 (k + 2) out (at_ : Int) text (v : Int) vs ls = cartageref15_Encode.l1 k out (at_ : Int) (text ++ vtx (vs.zip ls)[v]) ((v + 1 : Nat) : Int) vs ls := by
  have hi : v < vs.length := by rw [List.length_zip] at hv; omega
  have hi' : v < ls.length := by omega
  have hw := wr_100 at_ hat
  have hw1 := wr_up v (by omega)
  have e1 : rd vs (v : Int) = vs[v] := by unfold rd; rw [List.getD_eq_getElem?_getD, show ((v : Int)).toNat = v by omega, List.getElem?_eq_getElem hi]; rfl
  have e2 : rdOf false ls (v : Int) = ls[v] := by unfold rdOf; rw [List.getD_eq_getElem?_getD, show ((v : Int)).toNat = v by omega, List.getElem?_eq_getElem hi']; rfl
  have hput := ref_put_is k text 8 vs[v] (by omega) (by omega)
  rw [sz8] at hput
  have hlp : (text ++ le 8 vs[v]).length < 140737488355328 := by rw [List.length_append, le_length]; omega
  have c : (v : Int) < ((at_ + 100 : Nat) : Int) := by omega
  have c2 : (v : Int) < (vs.length : Int) := by omega
  have c3 : (v : Int) < (ls.length : Int) := by omega
  have c4 : (0 : Int) ≤ (v : Int) := by omega
  have ev : ∀ b, vtx (vs[v], b) = le 8 vs[v] ++ [if b = true then 1 else 0] := fun b => rfl
  rw [List.getElem_zip, ev]
  rw [cartageref15_Encode.l1, hw, if_pos c, decide_eq_true c2, cartageref15_Encode.j2, if_pos rfl, if_pos c4, if_pos c2, e1, e2, hput, hw1]
  simp only [Option.bind_some]
  rw [if_pos c3]
  cases ls[v] with
  | true => rw [if_pos rfl, if_pos hlp, if_pos rfl, List.append_assoc]
  | false => simp only [Bool.false_eq_true, if_false]; rw [if_pos hlp, List.append_assoc]
theorem ref_loop {vs : List Int} {ls : List Bool} (hlen : vs.length = ls.length) (hn : vs.length ≤ 1000) (d : Nat) : ∀ (k : Nat) (out text : List Int) (at_ v : Nat), v + d = vs.length → 0 < d → at_ ≤ v → v < at_ + 100 → Bytes text → text.length = 9 * (v - at_) → out.length ≤ 10000 * (at_ + 1) → 90200 + 5 * d < k →
    cartageref15_Encode.l1 k out (at_ : Int) text (v : Int) vs ls = some (out ++ encs (tells ((vs.zip ls).drop v) text)) := by
  induction d with
  | zero => intro k out text at_ v _ h0; omega
  | succ d ih =>
    intro k out text at_ v hd _ h1 h2 hb hl ho hk
    obtain ⟨k, rfl⟩ : ∃ m, k = m + 5 := ⟨k - 5, by omega⟩
    have hz : v < (vs.zip ls).length := by rw [List.length_zip]; omega
    have hzl : (vs.zip ls).length = vs.length := by rw [List.length_zip]; omega
    rw [tells_step hz h1 h2 hl, show k + 5 = (k + 3) + 2 from rfl, ref_vtx hlen hn hz h2 (by omega) (by omega) (by omega)]
    have hyb := hb.append (vtx_bytes (vs.zip ls)[v])
    have hyl : (text ++ vtx (vs.zip ls)[v]).length = 9 * (v - at_) + 9 := by rw [List.length_append, vtx_length, hl]
    generalize text ++ vtx (vs.zip ls)[v] = y at *
    by_cases g : v + 1 = at_ + 100 ∨ v + 1 = (vs.zip ls).length
    · rw [if_pos g]
      refine ref_push hn (k := k + 1) (g.elim .inl (fun h => .inr (by omega))) (by omega) (by omega) hyb (by omega) ho (by omega) ?_
      rw [cartageref15_Encode.l0]
      by_cases q : at_ + 100 < vs.length
      · have c : ((at_ + 100 : Nat) : Int) < (vs.length : Int) := by omega
        rw [if_pos c, ih k (out ++ enc y) [] (at_ + 100) (at_ + 100) (by omega) (by omega) (Nat.le_refl _) (by omega) (fun x hx => by simp at hx) (by simp) (by rw [List.length_append, enc_length]; omega) (by omega), show v + 1 = at_ + 100 by omega, List.append_assoc]
      · have c : ¬ ((at_ + 100 : Nat) : Int) < (vs.length : Int) := by omega
        rw [if_neg c, List.drop_of_length_le (by omega)]; simp [tells, encs_nil]
    · rw [if_neg g]
      exact ih (k + 3) out y at_ (v + 1) (by omega) (by omega) (by omega) (by omega) hyb (by omega) ho (by omega)
theorem ref_sencode_is {vs : List Int} {ls : List Bool} (hlen : vs.length = ls.length) (hn : vs.length ≤ 1000) (step : Int) (k : Nat) (hk : 100000 < k) : cartageref15_Encode.f k step vs ls = some (encs (stexts step vs ls)) := by
  obtain ⟨k, rfl⟩ : ∃ m, k = m + 1 := ⟨k - 1, by omega⟩
  unfold cartageref15_Encode.f
  rw [ref_put_is (k + 1) [] 8 _ (by simp) (by omega)]
  simp only [Option.bind_some]
  rw [ref_put_is (k + 1) _ 8 _ (by simp [le_length, sz8]) (by omega)]
  simp only [Option.bind_some, sz8, List.nil_append]
  have hs : le 8 (IntKind.u64.wrap step) ++ le 8 (IntKind.u64.wrap (vs.length : Int)) = shead step vs.length := rfl
  rw [hs, ref_encode_is (shead_bytes _ _) (by rw [shead_length]; omega) (k + 1) (by omega)]
  simp only [Option.bind_some, stexts, encs_cons]
  rw [cartageref15_Encode.l0]
  by_cases q : 0 < vs.length
  · have c : (0 : Int) < (vs.length : Int) := by omega
    have h := ref_loop hlen hn vs.length k (enc (shead step vs.length)) [] 0 0 (by omega) q (Nat.le_refl _) (by omega) (fun x hx => by simp at hx) (by simp) (by rw [enc_length, shead_length]; omega) (by omega)
    rw [if_pos c]
    simpa using h
  · have c : ¬ (0 : Int) < (vs.length : Int) := by omega
    obtain rfl : vs = [] := List.eq_nil_of_length_eq_zero (by omega)
    rw [if_neg c]; simp [tells, encs_nil]
end Go.Proofs.Ytaohmpblmlkioaa.Oct
