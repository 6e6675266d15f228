/- What the reference's Decode of configs comes to: the same as the program's. Conditions: up to eight thousand bytes. -/
import Derived.Test.YtaohmpblmlkioaaStL
import Derived.Test.YtaohmpblmlkioaaBlkQ
import Derived.Test.YtaohmpblmlkioaaPAllx8
namespace Go.Proofs.Ytaohmpblmlkioaa.Oct
set_option linter.unusedVariables false
open Go.RowKit Go.Proofs.Ytaohmpblmlkioaa.PAll Go.Proofs.YtaohmpblmlkioaaW.PrintWords Go.Proofs.YtaohmpblmlkioaaW.PrintLast Go.Proofs.YtaohmpblmlkioaaW.PrintMore
/-- The vertices of blocks, block by block. -/
def rread (L : List (List Int)) : List (Int × Bool) := L.flatMap fun t => vats t (t.length / 9)
theorem alls_many {b : List Int} (hb : Bytes b) (f : Nat) : ∀ (acc : List (List Int)) (at_ : Int), 0 ≤ at_ → (acc.length : Int) ≤ at_ → at_ ≤ b.length → (alls f b acc at_).1.length ≤ b.length := by
  induction f with
  | zero => intro acc at_ h0 ha hl; simp only [alls]; omega
  | succ f ih =>
    intro acc at_ h0 ha hl
    simp only [alls]
    by_cases g : (b.length : Int) ≤ at_
    · rw [if_pos g]; simp only; omega
    · rw [if_neg g]
      obtain ⟨s0, s1, s2, s3⟩ := dec_size (hb.drop at_.toNat)
      by_cases e : (dec (b.drop at_.toNat)).2.2 = 0
      · rw [if_pos e]
        obtain ⟨s4, s5⟩ := s3 e
        exact ih _ _ (by omega) (by rw [List.length_append, List.length_singleton]; omega) (by rw [List.length_drop] at s2; omega)
      · rw [if_neg e]; simp
theorem alls_count {b : List Int} (hb : Bytes b) : (all b).1.length ≤ b.length := alls_many hb _ [] 0 (by omega) (by simp) (by omega)
theorem rread_cons (t : List Int) (L : List (List Int)) : rread (t :: L) = vats t (t.length / 9) ++ rread L := by simp [rread]
theorem rread_len (L : List (List Int)) : 9 * (rread L).length ≤ L.flatten.length := by
  induction L with
  | nil => simp [rread]
  | cons t L ih => rw [rread_cons, List.length_append, vats_length, List.flatten_cons, List.length_append]; omega
theorem rread_in {L : List (List Int)} (h : Texts L) : ∀ x ∈ rread L, 0 ≤ x.1 ∧ x.1 < 18446744073709551616 := by
  intro x hx
  obtain ⟨t, ht, hx⟩ := List.mem_flatMap.1 hx
  exact vats_in (h t ht).1 _ x hx
theorem rread_tells : ∀ (r r0 : List (Int × Bool)), (∀ x ∈ r0 ++ r, 0 ≤ x.1 ∧ x.1 < 18446744073709551616) → r ≠ [] → rread (tells r (r0.flatMap vtx)) = r0 ++ r
  | [], _, _, h => absurd rfl h
  | x :: r, r0, hv, _ => by
    have hx : r0.flatMap vtx ++ vtx x = (r0 ++ [x]).flatMap vtx := by simp
    have hv1 : ∀ y ∈ r0 ++ [x], 0 ≤ y.1 ∧ y.1 < 18446744073709551616 := fun y hy => hv y (by
      rcases List.mem_append.1 hy with h | h
      · exact List.mem_append.2 (.inl h)
      · rw [List.mem_singleton.1 h]; simp)
    have hread : vats ((r0 ++ [x]).flatMap vtx) (((r0 ++ [x]).flatMap vtx).length / 9) = r0 ++ [x] := by
      rw [flat_length, Nat.mul_div_cancel_left _ (by decide : 0 < 9)]; exact vats_flat hv1
    unfold tells
    rw [hx]
    by_cases g : ((r0 ++ [x]).flatMap vtx).length = 900 ∨ r = []
    · rw [if_pos g, rread_cons, hread]
      by_cases hr : r = []
      · subst hr; simp [tells, rread]
      · have := rread_tells r [] (fun y hy => hv y (by simp at hy; simp [hy])) hr
        simp only [List.flatMap_nil, List.nil_append] at this
        rw [this]; simp
    · rw [if_neg g, rread_tells r (r0 ++ [x]) (fun y hy => hv y (by simpa using hy)) (fun h => g (.inr h))]
      simp
theorem rread_all {r : List (Int × Bool)} (hv : ∀ x ∈ r, 0 ≤ x.1 ∧ x.1 < 18446744073709551616) : rread (tells r []) = r := by
  by_cases h : r = []
  · subst h; rfl
  · exact rread_tells r [] (by simpa using hv) h
theorem vats_drop {t : List Int} {m j : Nat} (h : j < m) : (vats t m).drop j = vat t j :: (vats t m).drop (j + 1) := by
  rw [List.drop_eq_getElem_cons (by rw [vats_length]; exact h)]
  simp [vats]
theorem w9 {j : Nat} (h : j ≤ 10000) : wrap64 (((9 * j : Nat) : Int) + 9) = ((9 * (j + 1) : Nat) : Int) ∧ wrap64 (((9 * j : Nat) : Int) + 8) = ((9 * j + 8 : Nat) : Int) := ⟨(wrap_in (by omega) (by omega)).trans (by omega), (wrap_in (by omega) (by omega)).trans (by omega)⟩
theorem w1 {i : Nat} (h : i ≤ 10000) : wrap64 ((i : Int) + 1) = ((i + 1 : Nat) : Int) := (wrap_in (by omega) (by omega)).trans (by omega)
theorem cn {a b : Nat} (h : a < b) : (a : Int) < (b : Int) := by omega
theorem cz (a : Nat) : (0 : Int) ≤ (a : Int) := by omega
theorem cl {a b : Nat} (h : a ≤ b) : (a : Int) ≤ (b : Int) := by omega
theorem nl {a b : Nat} (h : b < a) : ¬ (a : Int) ≤ (b : Int) := by omega
theorem rl1_end {b : List Int} {L : List (List Int)} {x : Int} {i j k : Nat} {t : List Int} {vs : List Int} {ls : List Bool} (hi : i < L.length) (hi2 : i ≤ 10000) (ht : L.getD i [] = t) (htl : t.length ≤ 1000) (hj : j = t.length / 9) :
    cartageref15_Decode.l1 (k + 1) b L x (i : Int) ((9 * j : Nat) : Int) vs ls = cartageref15_Decode.l0 k b L x ((i + 1 : Nat) : Int) vs ls := by
  have h9 := (w9 (j := j) (by omega)).1
  have h1 := w1 hi2
  have c := nl (a := 9 * (j + 1)) (b := t.length) (by omega)
  rw [cartageref15_Decode.l1, if_pos (cz i), if_pos (cn hi), rd_row, ht, h9, if_neg c, h1]
theorem rl1_go {b : List Int} {L : List (List Int)} {x : Int} {i j k : Nat} {t : List Int} {vs : List Int} {ls : List Bool} (hi : i < L.length) (ht : L.getD i [] = t) (htb : Bytes t) (htl : t.length ≤ 1000) (hj : j < t.length / 9) (hv : vs.length ≤ 10000) (hl : ls.length = vs.length) (hk : 10 < k) :
    cartageref15_Decode.l1 (k + 1) b L x (i : Int) ((9 * j : Nat) : Int) vs ls = cartageref15_Decode.l1 k b L x (i : Int) ((9 * (j + 1) : Nat) : Int) (vs ++ [(vat t j).1]) (ls ++ [(vat t j).2]) := by
  obtain ⟨h9, h8⟩ := w9 (j := j) (by omega)
  have hrd : rd t ((9 * j + 8 : Nat) : Int) = t.getD (9 * j + 8) 0 := by unfold rd; rw [Int.toNat_natCast]
  have hg := ref_get_is htb (by omega) (a := ((9 * j : Nat) : Int)) (s := 8) (by omega) (by omega) (by omega) (by omega) k hk
  rw [Int.toNat_natCast, show (8 : Int).toNat = 8 from rfl] at hg
  have c1 := cl (a := 9 * (j + 1)) (b := t.length) (by omega)
  have c2 : vs.length < 17592186044416 := by omega
  have c3 := cn (a := 9 * j + 8) (b := t.length) (by omega)
  have c4 : ls.length < 140737488355328 := by omega
  rw [cartageref15_Decode.l1, if_pos (cz i), if_pos (cn hi), rd_row, ht, h9, if_pos c1, hg, Option.bind_some, if_pos c2, h8, if_pos (cz _), if_pos c3, if_pos c4, hrd]
  rfl
theorem rl1 {b : List Int} {L : List (List Int)} {x : Int} {i M : Nat} {t : List Int} {R : Option (Int × List Int × List Bool × Int)} (hi : i < L.length) (hi2 : i ≤ 10000) (ht : L.getD i [] = t) (htb : Bytes t) (htl : t.length ≤ 1000) (d : Nat) :
    ∀ (k j : Nat) (vs : List Int) (ls : List Bool), j + d = t.length / 9 → vs.length + d ≤ 10000 → ls.length = vs.length → d + M + 20 < k →
      (∀ k', M < k' → cartageref15_Decode.l0 k' b L x ((i + 1 : Nat) : Int) (vs ++ ((vats t (t.length / 9)).drop j).map Prod.fst) (ls ++ ((vats t (t.length / 9)).drop j).map Prod.snd) = R) →
      cartageref15_Decode.l1 k b L x (i : Int) ((9 * j : Nat) : Int) vs ls = R := by
  induction d with
  | zero =>
    intro k j vs ls hj hv hl hk hR
    obtain ⟨k, rfl⟩ : ∃ m, k = m + 1 := ⟨k - 1, by omega⟩
    have := hR k (by omega)
    rw [List.drop_of_length_le (by rw [vats_length]; omega), List.map_nil, List.map_nil, List.append_nil, List.append_nil] at this
    rw [rl1_end hi hi2 ht htl (by omega), this]
  | succ d ih =>
    intro k j vs ls hj hv hl hk hR
    obtain ⟨k, rfl⟩ : ∃ m, k = m + 1 := ⟨k - 1, by omega⟩
    rw [rl1_go hi ht htb htl (by omega) (by omega) hl (by omega)]
    refine ih k (j + 1) _ _ (by omega) (by rw [List.length_append, List.length_singleton]; omega) (by rw [List.length_append, List.length_append, List.length_singleton, List.length_singleton]; omega) (by omega) (fun k' hk' => ?_)
    have := hR k' hk'
    rw [vats_drop (by omega), List.map_cons, List.map_cons] at this
    rw [List.append_assoc, List.append_assoc]
    exact this
/-- What is told in the end. -/
def rfin (b : List Int) (x : Int) (r : List (Int × Bool)) : Int × List Int × List Bool × Int :=
  if 0 ≤ x ∧ encs (stexts x (r.map Prod.fst) (r.map Prod.snd)) = b then (x, r.map Prod.fst, r.map Prod.snd, 0) else (0, [], [], 2)
theorem rl0 {b : List Int} (hb : Bytes b) {L : List (List Int)} (hL : Texts L) {x : Int} (hx : 0 ≤ x ∧ x ≤ 9223372036854775807) (hLl : L.length ≤ 9000) (d : Nat) :
    ∀ (k i : Nat) (r : List (Int × Bool)), i + d = L.length → 9 * r.length + (L.drop i).flatten.length ≤ 8000 → 200000 + 40 * d + 2 * (L.drop i).flatten.length < k →
      cartageref15_Decode.l0 k b L x (i : Int) (r.map Prod.fst) (r.map Prod.snd) = some (rfin b x (r ++ rread (L.drop i))) := by
  induction d with
  | zero =>
    intro k i r hi hr hk
    obtain ⟨k, rfl⟩ : ∃ m, k = m + 1 := ⟨k - 1, by omega⟩
    have hw : wrap64 x = x := wrap_in (by omega) (by omega)
    have hd : L.drop i = [] := List.drop_of_length_le (by omega)
    rw [hd] at hr ⊢
    simp only [List.flatten_nil, List.length_nil] at hr
    rw [cartageref15_Decode.l0, if_neg (by omega), hw, right_is x (by rw [List.length_map]; omega), Option.bind_some, decide_eq_true (show SRight x (r.map Prod.fst) (r.map Prod.snd) from ⟨hx.1, by simp⟩), if_pos rfl,
      ref_sencode_is (by simp) (by rw [List.length_map]; omega) x k (by omega), Option.bind_some]
    have hsb : Bytes (encs (stexts x (r.map Prod.fst) (r.map Prod.snd))) := encs_bytes fun t ht => by
      rcases List.mem_cons.1 ht with rfl | ht
      · exact shead_bytes _ _
      · exact tells_bytes _ _ Bytes.nil t ht
    have hrn : r ++ rread [] = r := by simp [rread]
    rw [hrn]
    unfold rfin
    by_cases h : encs (stexts x (r.map Prod.fst) (r.map Prod.snd)) = b
    · rw [if_pos (by rw [h]), if_pos ⟨hx.1, h⟩]
    · rw [if_neg (fun e => h ((str_eq hsb hb).1 e)), if_neg (fun e => h e.2)]
  | succ d ih =>
    intro k i r hi hr hk
    obtain ⟨k, rfl⟩ : ∃ m, k = m + 1 := ⟨k - 1, by omega⟩
    have hil : i < L.length := by omega
    have hdc : L.drop i = L[i] :: L.drop (i + 1) := List.drop_eq_getElem_cons hil
    have hgd : L.getD i [] = L[i] := by rw [List.getD_eq_getElem?_getD, List.getElem?_eq_getElem hil]; rfl
    obtain ⟨htb, htl⟩ := hL _ (List.getElem_mem hil)
    rw [hdc] at hr hk ⊢
    rw [List.flatten_cons, List.length_append] at hr hk
    rw [cartageref15_Decode.l0, if_pos (by omega), rread_cons]
    refine rl1 (M := 200000 + 40 * d + 2 * (L.drop (i + 1)).flatten.length) hil (by omega) hgd htb htl (L[i].length / 9) k 0 _ _ (by omega) (by rw [List.length_map]; omega) (by simp) (by omega) (fun k' hk' => ?_)
    have := ih k' (i + 1) (r ++ vats L[i] (L[i].length / 9)) (by omega) (by rw [List.length_append, vats_length]; omega) (by omega)
    rw [List.drop_zero, ← List.map_append, ← List.map_append, this, List.append_assoc]
theorem ref_ok {b : List Int} (hb : Bytes b) (hl : b.length ≤ 8000) (he : (all b).2.2 = 0) (hx : sstep b ≤ 9223372036854775807) : rfin b (sstep b) (rread (all b).1.tail) = if OkS b then (sstep b, (svs b).map Prod.fst, (svs b).map Prod.snd, 0) else (0, [], [], 2) := by
  have h0 := (sstep_in hb).1
  have hfit := all_fit hb
  have hT : Texts (all b).1.tail := fun t ht => hfit.2 t (List.mem_of_mem_tail ht)
  have hbl := (sbody_fit hb).2
  have hrl : (rread (all b).1.tail).length ≤ 1000 := by
    have := rread_len (all b).1.tail
    unfold sbody at hbl
    omega
  unfold rfin
  by_cases hok : OkS b
  · have hen := hok.2.2.2.2.2.2
    have hvi : ∀ x ∈ svs b, 0 ≤ x.1 ∧ x.1 < 18446744073709551616 := vats_in (sbody_fit hb).1 _
    have hse : senc (sstep b) ((svs b).map Prod.fst) ((svs b).map Prod.snd) = encs (stexts (sstep b) ((svs b).map Prod.fst) ((svs b).map Prod.snd)) := if_pos ⟨h0, by simp⟩
    have hTs : Texts (stexts (sstep b) ((svs b).map Prod.fst) ((svs b).map Prod.snd)) := by
      intro t ht
      rcases List.mem_cons.1 ht with rfl | ht
      · exact ⟨shead_bytes _ _, by rw [shead_length]; omega⟩
      · exact ⟨tells_bytes _ _ Bytes.nil t ht, by have := tells_le _ [] (by simp) (by simp) t ht; omega⟩
    have ha := all_encs hTs
    rw [← hse, hen] at ha
    have hrr : rread (all b).1.tail = svs b := by
      rw [ha, stexts, List.tail_cons, zip_parts]; exact rread_all hvi
    rw [if_pos hok, hrr, if_pos ⟨h0, hse.symm.trans hen⟩]
  · rw [if_neg hok, if_neg]
    rintro ⟨_, h⟩
    have hse : senc (sstep b) ((rread (all b).1.tail).map Prod.fst) ((rread (all b).1.tail).map Prod.snd) = b := (if_pos ⟨h0, by simp⟩ : senc _ _ _ = _).trans h
    have := (sdec_enc (rread_in hT) hrl h0 hx).1
    rw [hse] at this
    exact hok this
theorem rdec_is {b : List Int} (hb : Bytes b) (hl : b.length ≤ 8000) (k : Nat) (hk : 1000000 < k) : cartageref15_Decode.f k b = some ((sdec b).1, (sdec b).2.1.map Prod.fst, (sdec b).2.1.map Prod.snd, (sdec b).2.2) := by
  obtain ⟨k, rfl⟩ : ∃ m, k = m + 1 := ⟨k - 1, by omega⟩
  have hfit := all_fit hb
  unfold cartageref15_Decode.f
  rw [ref_all_is hb (by omega) (k + 1) (by omega), Option.bind_some]
  by_cases he : (all b).2.2 = 0
  · have hj1 : ∀ L, cartageref15_Decode.j0 (k + 1) b L true = some (0, [], [], 2) := fun L => by rw [cartageref15_Decode.j0, if_pos rfl]
    have hno : ¬ OkS b → sdec b = (0, [], 2) := fun h => by unfold sdec; rw [if_neg (by rw [he]; simp), if_neg h]
    rw [if_pos he]
    by_cases h0 : (all b).1 = []
    · rw [if_pos (by rw [h0]; rfl), hj1, hno (fun h => h.2.1 h0)]; rfl
    · have hpos : 0 < (all b).1.length := List.length_pos_iff.2 h0
      have hsh : (all b).1.getD 0 [] = shd b := by
        unfold shd
        cases h : (all b).1 with
        | nil => exact absurd h h0
        | cons t l => rfl
      rw [if_neg (by omega), if_pos (by omega), show (0 : Int) = ((0 : Nat) : Int) from rfl, rd_row, hsh]
      by_cases h16 : (shd b).length = 16
      · have hne : (((shd b).length : Int) != 16) = false := by rw [h16]; rfl
        have hg := ref_get_is (shd_bytes hb) (by omega) (a := 0) (s := 8) (by omega) (by omega) (by omega) (by omega) k (by omega)
        rw [show (0 : Int).toNat = 0 from rfl, show (8 : Int).toNat = 8 from rfl, List.drop_zero] at hg
        have hst : num ((shd b).take 8) = sstep b := rfl
        rw [hst] at hg
        have hrow : rd_L1 (all b).1 0 = shd b := by rw [show (0 : Int) = ((0 : Nat) : Int) from rfl, rd_row, hsh]
        rw [hne, cartageref15_Decode.j0, if_neg (by simp), if_pos (by omega), hrow, hg, Option.bind_some]
        by_cases hx : sstep b ≤ 9223372036854775807
        · rw [if_neg (by omega)]
          have hcs : (all b).1.drop 1 = (all b).1.tail := List.drop_one
          have hlen : ((all b).1.drop 1).flatten.length ≤ 8000 := by
            have := (sbody_fit hb).2
            unfold sbody at this
            rw [hcs]; omega
          have hLl : (all b).1.length ≤ 9000 := by
            have h1 := alls_count hb
            omega
          have := rl0 hb hfit.2 ⟨(sstep_in hb).1, hx⟩ hLl ((all b).1.length - 1) k 1 [] (by omega) (by simp only [List.length_nil]; omega) (by omega)
          rw [hcs, List.nil_append, ref_ok hb hl he hx] at this
          rw [show ((1 : Nat) : Int) = 1 from rfl] at this
          simp only [List.map_nil] at this
          rw [this]
          congr 1
          by_cases hok : OkS b
          · rw [if_pos hok]; unfold sdec; rw [if_neg (by rw [he]; simp), if_pos hok]
          · rw [if_neg hok, hno hok]; rfl
        · rw [if_pos (by omega), hno (fun h => hx h.2.2.2.1)]; rfl
      · have hne : (((shd b).length : Int) != 16) = true := bne_iff_ne.mpr (by omega)
        rw [hne, hj1, hno (fun h => h16 h.2.2.1)]; rfl
  · rw [if_neg he]
    unfold sdec
    rw [if_pos he]; rfl
end Go.Proofs.Ytaohmpblmlkioaa.Oct
