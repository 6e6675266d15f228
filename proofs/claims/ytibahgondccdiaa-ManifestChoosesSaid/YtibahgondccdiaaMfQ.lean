/- What bytes of a manifest must be: for the reference's Decode. -/
import Derived.Test.YtibahgondccdiaaMfC
import Derived.Test.YtibahgondccdiaaMfR
namespace Go.Proofs.Ytibahgondccdiaa.Oct
open Go.RowKit Go.Proofs.Ytibahgondccdiaa.PAll Go.Proofs.YtibahgondccdiaaW.PrintWords Go.Proofs.YtibahgondccdiaaW.PrintLast Go.Proofs.YtibahgondccdiaaW.PrintMore
theorem okM_shape {b : List Int} (hb : Bytes b) (h : OkM b) : (dec b).1.length = 48 ∧ (dec b).2.1 = b.length ∧ ∀ j, 0 < j → j < 6 → at8 (dec b).1 j ≤ 1099511627777 := by
  obtain ⟨ht, hr, he, hw⟩ := okM_text hb h
  have hd := enc_text (mdec b).text_bytes (by rw [Mf.text_length]; omega)
  rw [he, Mf.text_length] at hd
  have hl : b.length = 54 := by rw [← he, enc_length, Mf.text_length]
  refine ⟨by rw [ht, Mf.text_length], by rw [hd, hl]; rfl, fun j h0 h1 => ?_⟩
  rw [ht]
  generalize mdec b = m at hr hw
  obtain ⟨⟨a1, a2⟩, ⟨b1, b2⟩, _, ⟨c1, c2⟩, d, e⟩ := hr
  have wp := hw.p
  have hk : 0 ≤ m.k ∧ m.k ≤ 5 := by
    by_cases h : m.t = -1
    · have := (d h).1; omega
    · have := e h; omega
  rcases (by omega : j = 1 ∨ j = 2 ∨ j = 3 ∨ j = 4 ∨ j = 5) with rfl | rfl | rfl | rfl | rfl
  · rw [Mf.text, texts_at m.vals 1 (show 1 < 6 by decide)]; show IntKind.u64.wrap m.n % _ ≤ _; rw [u64_in (by omega) (by omega)]; omega
  · rw [Mf.text, texts_at m.vals 2 (show 2 < 6 by decide)]; show IntKind.u64.wrap m.h % _ ≤ _; rw [u64_in (by omega) (by omega)]; omega
  · rw [Mf.text, texts_at m.vals 3 (show 3 < 6 by decide)]; show IntKind.u64.wrap (wrap64 (m.t + 1)) % _ ≤ _; rw [wrap_in (by omega) (by omega), u64_in (by omega) (by omega)]; omega
  · rw [Mf.text, texts_at m.vals 4 (show 4 < 6 by decide)]; show IntKind.u64.wrap m.k % _ ≤ _; rw [u64_in (by omega) (by omega)]; omega
  · rw [Mf.text, texts_at m.vals 5 (show 5 < 6 by decide)]; show IntKind.u64.wrap m.p % _ ≤ _; rw [u64_in (by omega) (by omega)]; omega
/-- The first j numbers. -/
def firsts (t : List Int) (j : Nat) : List Int := (List.range j).map (at8 t)
theorem firsts_succ (t : List Int) (j : Nat) : firsts t (j + 1) = firsts t j ++ [at8 t j] := by simp [firsts, List.range_succ]
theorem firsts_length (t : List Int) (j : Nat) : (firsts t j).length = j := by simp [firsts]
theorem firsts_six (t : List Int) : firsts t 6 = [at8 t 0, at8 t 1, at8 t 2, at8 t 3, at8 t 4, at8 t 5] := rfl
end Go.Proofs.Ytibahgondccdiaa.Oct
