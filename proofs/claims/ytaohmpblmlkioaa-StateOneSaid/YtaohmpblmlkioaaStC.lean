/- What state.Decode comes to, and that what was told is read back. -/
import Derived.Test.YtaohmpblmlkioaaStB
namespace Go.Proofs.Ytaohmpblmlkioaa.Oct
open Go.RowKit Go.Proofs.Ytaohmpblmlkioaa.PAll Go.Proofs.YtaohmpblmlkioaaW.PrintWords Go.Proofs.YtaohmpblmlkioaaW.PrintLast Go.Proofs.YtaohmpblmlkioaaW.PrintMore
def shd (b : List Int) : List Int := (all b).1.headD []
def sbody (b : List Int) : List Int := (all b).1.tail.flatten
def sstep (b : List Int) : Int := num ((shd b).take 8)
def scnt (b : List Int) : Int := num (((shd b).drop 8).take 8)
def svs (b : List Int) : List (Int × Bool) := vats (sbody b) (scnt b).toNat
def OkS (b : List Int) : Prop := (all b).2.2 = 0 ∧ (all b).1 ≠ [] ∧ (shd b).length = 16 ∧ sstep b ≤ 9223372036854775807 ∧ scnt b ≤ 1048576 ∧ ((sbody b).length : Int) = scnt b * 9 ∧ senc (sstep b) ((svs b).map Prod.fst) ((svs b).map Prod.snd) = b
instance (b : List Int) : Decidable (OkS b) := inferInstanceAs (Decidable (_ ∧ _))
def sdec (b : List Int) : Int × List (Int × Bool) × Int := if (all b).2.2 ≠ 0 then (0, [], (all b).2.2) else if OkS b then (sstep b, svs b, 0) else (0, [], 2)
theorem zip_parts (r : List (Int × Bool)) : (r.map Prod.fst).zip (r.map Prod.snd) = r := by
  induction r with
  | nil => rfl
  | cons x r ih => simp [ih]
theorem sdec_enc {r : List (Int × Bool)} (hv : ∀ x ∈ r, 0 ≤ x.1 ∧ x.1 < 18446744073709551616) (hr : r.length ≤ 1000) {step : Int} (h0 : 0 ≤ step) (h1 : step ≤ 9223372036854775807) :
    OkS (senc step (r.map Prod.fst) (r.map Prod.snd)) ∧ sdec (senc step (r.map Prod.fst) (r.map Prod.snd)) = (step, r, 0) := by
  have hok : SRight step (r.map Prod.fst) (r.map Prod.snd) := ⟨h0, by simp⟩
  have he : senc step (r.map Prod.fst) (r.map Prod.snd) = encs (stexts step (r.map Prod.fst) (r.map Prod.snd)) := if_pos hok
  have hT : Texts (stexts step (r.map Prod.fst) (r.map Prod.snd)) := by
    intro t ht
    rcases List.mem_cons.1 ht with rfl | ht
    · exact ⟨shead_bytes _ _, by rw [shead_length]; omega⟩
    · exact ⟨tells_bytes _ _ (fun x hx => by simp at hx) t ht, by have := tells_le _ [] (by simp) (by simp) t ht; omega⟩
  have ha := all_encs hT
  rw [← he] at ha
  generalize hb : senc step (r.map Prod.fst) (r.map Prod.snd) = b at *
  have e1 : shd b = shead step r.length := by unfold shd; rw [ha]; simp [stexts]
  have e2 : sbody b = r.flatMap vtx := by unfold sbody; rw [ha]; simp only [stexts, List.tail_cons]; rw [zip_parts, tells_all]
  have e3 : sstep b = step := by
    unfold sstep; rw [e1, shead, take_left' (by simp [le_length]), u64_in (by omega) (by omega), num_le, show (256 : Int) ^ 8 = 18446744073709551616 from rfl]; omega
  have e4 : scnt b = r.length := by
    unfold scnt; rw [e1, shead, drop_left' (by simp [le_length]), List.take_of_length_le (by simp [le_length]), u64_in (by omega) (by omega), num_le, show (256 : Int) ^ 8 = 18446744073709551616 from rfl]; omega
  have e5 : svs b = r := by unfold svs; rw [e2, e4, Int.toNat_natCast]; exact vats_flat hv
  have hS : OkS b := ⟨by rw [ha], by rw [ha]; simp [stexts], by rw [e1, shead_length], by rw [e3]; exact h1, by rw [e4]; omega, by rw [e2, e4, flat_length]; omega, by rw [e3, e5]; exact hb⟩
  exact ⟨hS, by unfold sdec; rw [if_neg (by rw [ha]; simp), if_pos hS, e3, e5]⟩
end Go.Proofs.Ytaohmpblmlkioaa.Oct
