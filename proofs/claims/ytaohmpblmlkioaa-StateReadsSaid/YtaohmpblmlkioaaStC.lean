/- What is read of a config's bytes, and that what was told is read back. Conditions: bytes; up to a thousand vertices. -/
import Derived.Test.YtaohmpblmlkioaaStA
namespace Go.Proofs.Ytaohmpblmlkioaa.Oct
open Go.RowKit Go.Proofs.Ytaohmpblmlkioaa.PAll Go.Proofs.YtaohmpblmlkioaaW.PrintWords Go.Proofs.YtaohmpblmlkioaaW.PrintLast Go.Proofs.YtaohmpblmlkioaaW.PrintMore
/-- The vertex at the j-th place of a body. -/
def vat (body : List Int) (j : Nat) : Int × Bool := (num ((body.drop (9 * j)).take 8), body.getD (9 * j + 8) 0 == 1)
def vats (body : List Int) (m : Nat) : List (Int × Bool) := (List.range m).map (vat body)
theorem vats_succ (body : List Int) (m : Nat) : vats body (m + 1) = vats body m ++ [vat body m] := by simp [vats, List.range_succ]
theorem vats_length (body : List Int) (m : Nat) : (vats body m).length = m := by simp [vats]
theorem tells_flat : ∀ (r : List (Int × Bool)) (t : List Int), (tells r t).flatten = if r = [] then [] else t ++ r.flatMap vtx
  | [], t => by simp [tells]
  | x :: r, t => by
    have hc : ¬ (x :: r = []) := by simp
    rw [if_neg hc]
    unfold tells
    by_cases h : r = []
    · subst h; simp [tells]
    · by_cases g : (t ++ vtx x).length = 900
      · rw [if_pos (.inl g), List.flatten_cons, tells_flat r [], if_neg h]; simp
      · rw [if_neg (fun k => k.elim g h), tells_flat r _, if_neg h]; simp
theorem tells_all (r : List (Int × Bool)) : (tells r []).flatten = r.flatMap vtx := by
  rw [tells_flat]; split
  · rename_i h; simp [h]
  · simp
theorem flat_length (r : List (Int × Bool)) : (r.flatMap vtx).length = 9 * r.length := by
  induction r with
  | nil => rfl
  | cons x r ih => rw [List.flatMap_cons, List.length_append, vtx_length, ih, List.length_cons]; omega
theorem flat_drop (r : List (Int × Bool)) (j : Nat) : (r.flatMap vtx).drop (9 * j) = (r.drop j).flatMap vtx := by
  induction r generalizing j with
  | nil => simp
  | cons x r ih =>
    cases j with
    | zero => simp
    | succ j =>
      rw [List.flatMap_cons, show 9 * (j + 1) = (vtx x).length + 9 * j by rw [vtx_length]; omega, List.drop_append, List.drop_succ_cons, ← ih j]
      simp
theorem vat_flat {r : List (Int × Bool)} {j : Nat} (hj : j < r.length) (hv : 0 ≤ r[j].1 ∧ r[j].1 < 18446744073709551616) : vat (r.flatMap vtx) j = r[j] := by
  have hd := flat_drop r j
  rw [List.drop_eq_getElem_cons hj, List.flatMap_cons] at hd
  unfold vat
  have h8 : (r.flatMap vtx).getD (9 * j + 8) 0 = if r[j].2 = true then 1 else 0 := by
    have := congrArg (fun l => l.getD 8 0) hd
    simp only [List.getD_eq_getElem?_getD, List.getElem?_drop] at this
    rw [List.getD_eq_getElem?_getD, this, vtx, List.append_assoc, List.getElem?_append_right (by simp [le_length])]
    simp [le_length]
  rw [h8, hd, vtx, List.append_assoc, take_left' (by simp [le_length])]
  clear hd h8
  generalize r[j] = x at hv ⊢
  obtain ⟨v, b⟩ := x
  simp only at hv ⊢
  have hn : num (le 8 v) = v := by
    rw [num_le, show (256 : Int) ^ 8 = 18446744073709551616 from rfl]; omega
  rw [hn]
  cases b <;> rfl
theorem vats_flat {r : List (Int × Bool)} (hv : ∀ x ∈ r, 0 ≤ x.1 ∧ x.1 < 18446744073709551616) : vats (r.flatMap vtx) r.length = r := by
  apply List.ext_getElem
  · rw [vats_length]
  · intro i h1 h2
    simp only [vats, List.getElem_map, List.getElem_range]
    exact vat_flat h2 (hv _ (List.getElem_mem h2))
end Go.Proofs.Ytaohmpblmlkioaa.Oct
namespace Go.Proofs.Ytaohmpblmlkioaa.Oct
open Go.RowKit Go.Proofs.Ytaohmpblmlkioaa.PAll Go.Proofs.YtaohmpblmlkioaaW.PrintWords Go.Proofs.YtaohmpblmlkioaaW.PrintLast Go.Proofs.YtaohmpblmlkioaaW.PrintMore
def shd (b : List Int) : List Int := (all b).1.headD []
def sbody (b : List Int) : List Int := (all b).1.tail.flatten
def sstep (b : List Int) : Int := num ((shd b).take 8)
def scnt (b : List Int) : Int := num (((shd b).drop 8).take 8)
def svs (b : List Int) : List (Int × Bool) := vats (sbody b) (scnt b).toNat
def OkS (b : List Int) : Prop := (all b).2.2 = 0 ∧ (all b).1 ≠ [] ∧ (shd b).length = 16 ∧ sstep b ≤ 9223372036854775807 ∧ scnt b ≤ 1048576 ∧ ((sbody b).length : Int) = scnt b * 9 ∧ senc (sstep b) ((svs b).map Prod.fst) ((svs b).map Prod.snd) = b
instance (b : List Int) : Decidable (OkS b) := inferInstanceAs (Decidable (_ ∧ _))
def sdec (b : List Int) : Int × List (Int × Bool) × Int := if (all b).2.2 ≠ 0 then (0, [], (all b).2.2) else if OkS b then (sstep b, svs b, 0) else (0, [], 2)
theorem zip_parts (r : List (Int × Bool)) : (r.map Prod.fst).zip (r.map Prod.snd) = r := by
  induction r with
  | nil => rfl
  | cons x r ih => simp [ih]
theorem sdec_enc {r : List (Int × Bool)} (hv : ∀ x ∈ r, 0 ≤ x.1 ∧ x.1 < 18446744073709551616) (hr : r.length ≤ 1000) {step : Int} (h0 : 0 ≤ step) (h1 : step ≤ 9223372036854775807) :
    OkS (senc step (r.map Prod.fst) (r.map Prod.snd)) ∧ sdec (senc step (r.map Prod.fst) (r.map Prod.snd)) = (step, r, 0) := by
  have hok : SRight step (r.map Prod.fst) (r.map Prod.snd) := ⟨h0, by simp⟩
  have he : senc step (r.map Prod.fst) (r.map Prod.snd) = encs (stexts step (r.map Prod.fst) (r.map Prod.snd)) := if_pos hok
  have hT : Texts (stexts step (r.map Prod.fst) (r.map Prod.snd)) := by
    intro t ht
    rcases List.mem_cons.1 ht with rfl | ht
    · exact ⟨shead_bytes _ _, by rw [shead_length]; omega⟩
    · exact ⟨tells_bytes _ _ (fun x hx => by simp at hx) t ht, by have := tells_le _ [] (by simp) (by simp) t ht; omega⟩
  have ha := all_encs hT
  rw [← he] at ha
  generalize hb : senc step (r.map Prod.fst) (r.map Prod.snd) = b at *
  have e1 : shd b = shead step r.length := by unfold shd; rw [ha]; simp [stexts]
  have e2 : sbody b = r.flatMap vtx := by unfold sbody; rw [ha]; simp only [stexts, List.tail_cons]; rw [zip_parts, tells_all]
  have e3 : sstep b = step := by
    unfold sstep; rw [e1, shead, take_left' (by simp [le_length]), u64_in (by omega) (by omega), num_le, show (256 : Int) ^ 8 = 18446744073709551616 from rfl]; omega
  have e4 : scnt b = r.length := by
    unfold scnt; rw [e1, shead, drop_left' (by simp [le_length]), List.take_of_length_le (by simp [le_length]), u64_in (by omega) (by omega), num_le, show (256 : Int) ^ 8 = 18446744073709551616 from rfl]; omega
  have e5 : svs b = r := by unfold svs; rw [e2, e4, Int.toNat_natCast]; exact vats_flat hv
  have hS : OkS b := ⟨by rw [ha], by rw [ha]; simp [stexts], by rw [e1, shead_length], by rw [e3]; exact h1, by rw [e4]; omega, by rw [e2, e4, flat_length]; omega, by rw [e3, e5]; exact hb⟩
  exact ⟨hS, by unfold sdec; rw [if_neg (by rw [ha]; simp), if_pos hS, e3, e5]⟩
end Go.Proofs.Ytaohmpblmlkioaa.Oct
namespace Go.Proofs.Ytaohmpblmlkioaa.Oct
open Go.RowKit Go.Proofs.Ytaohmpblmlkioaa.PAll Go.Proofs.YtaohmpblmlkioaaW.PrintWords Go.Proofs.YtaohmpblmlkioaaW.PrintLast Go.Proofs.YtaohmpblmlkioaaW.PrintMore
theorem alls_fit {b : List Int} (hb : Bytes b) (f : Nat) : ∀ (acc : List (List Int)) (at_ : Int), 0 ≤ at_ → Texts acc → (acc.flatten.length : Int) ≤ at_ → at_ ≤ b.length → (alls f b acc at_).1.flatten.length ≤ b.length ∧ Texts (alls f b acc at_).1 := by
  induction f with
  | zero => intro acc at_ h0 ht ha hl; exact ⟨by simp only [alls]; omega, ht⟩
  | succ f ih =>
    intro acc at_ h0 ht ha hl
    simp only [alls]
    by_cases g : (b.length : Int) ≤ at_
    · rw [if_pos g]; exact ⟨by simp only; omega, ht⟩
    · rw [if_neg g]
      obtain ⟨s0, s1, s2, s3⟩ := dec_size (hb.drop at_.toNat)
      by_cases e : (dec (b.drop at_.toNat)).2.2 = 0
      · rw [if_pos e]
        obtain ⟨s4, s5⟩ := s3 e
        refine ih _ _ (by omega) (fun t h => ?_) ?_ ?_
        · rcases List.mem_append.1 h with h | h
          · exact ht t h
          · rw [List.mem_singleton.1 h]; exact dec_text (hb.drop _)
        · rw [List.flatten_append, List.length_append, List.flatten_singleton]; omega
        · rw [List.length_drop] at s2; omega
      · rw [if_neg e]
        exact ⟨by simp, fun t h => by cases h⟩
theorem all_fit {b : List Int} (hb : Bytes b) : (all b).1.flatten.length ≤ b.length ∧ Texts (all b).1 := alls_fit hb _ [] 0 (by omega) (fun t h => by cases h) (by simp) (by omega)
theorem flat_bytes {l : List (List Int)} (h : Texts l) : Bytes l.flatten := fun x hx => by
  obtain ⟨t, ht, hx⟩ := List.mem_flatten.1 hx
  exact (h t ht).1 x hx
theorem shd_bytes {b : List Int} (hb : Bytes b) : Bytes (shd b) := by
  have := (all_fit hb).2
  unfold shd
  cases h : (all b).1 with
  | nil => exact Bytes.nil
  | cons t l => rw [h] at this; exact (this t (by simp)).1
theorem sbody_fit {b : List Int} (hb : Bytes b) : Bytes (sbody b) ∧ (sbody b).length ≤ b.length := by
  have := all_fit hb
  unfold sbody
  cases h : (all b).1 with
  | nil => exact ⟨Bytes.nil, by simp⟩
  | cons t l =>
    rw [h] at this
    refine ⟨flat_bytes this.2.tail, ?_⟩
    have h2 := this.1
    rw [List.flatten_cons, List.length_append] at h2
    rw [List.tail_cons]; omega
theorem num8 {l : List Int} (h : Bytes l) (hl : l.length ≤ 8) : 0 ≤ num l ∧ num l < 18446744073709551616 := by
  refine ⟨num_nonneg h, ?_⟩
  have h1 := num_lt h
  have h2 := Nat.pow_le_pow_right (show 0 < 256 by decide) hl
  rw [show (256 : Nat) ^ 8 = 18446744073709551616 from rfl] at h2
  have h' := Int.ofNat_le.2 h2
  rw [Int.natCast_pow] at h'
  exact Int.lt_of_lt_of_le h1 h'
theorem sstep_in {b : List Int} (hb : Bytes b) : 0 ≤ sstep b ∧ sstep b < 18446744073709551616 := num8 ((shd_bytes hb).take _) (by rw [List.length_take]; omega)
theorem scnt_in {b : List Int} (hb : Bytes b) : 0 ≤ scnt b ∧ scnt b < 18446744073709551616 := num8 (((shd_bytes hb).drop _).take _) (by rw [List.length_take]; omega)
theorem vat_in {b : List Int} (hb : Bytes b) (j : Nat) : 0 ≤ (vat b j).1 ∧ (vat b j).1 < 18446744073709551616 := num8 ((hb.drop _).take _) (by rw [List.length_take]; omega)
theorem vats_in {b : List Int} (hb : Bytes b) (m : Nat) : ∀ x ∈ vats b m, 0 ≤ x.1 ∧ x.1 < 18446744073709551616 := fun x hx => by
  obtain ⟨j, _, rfl⟩ := List.mem_map.1 hx
  exact vat_in hb j
end Go.Proofs.Ytaohmpblmlkioaa.Oct
