/- A manifest that came in, by value, opened. -/
import Derived.Test.YtibahgondccdiaaMfA
import Derived.WideShapes
import Derived.ChangeArms
import Derived.OpenShut
namespace Go.Proofs.Ytibahgondccdiaa.Oct
open Go.ChangeShapes Go.WideShapes Go.RowKit
theorem wf_u64 {x : Int} (h : (Lit.int .u64 x).wf = true) : 0 ≤ x ∧ x < 18446744073709551616 := by
  simp [Lit.wf, IntKind.min, IntKind.max, IntKind.bits, IntKind.signed] at h
  omega
theorem wf_i64 {x : Int} (h : (Lit.int .i64 x).wf = true) : -9223372036854775808 ≤ x ∧ x < 9223372036854775808 := by
  simp [Lit.wf, IntKind.min, IntKind.max, IntKind.bits, IntKind.signed] at h
  omega
theorem wf_u32 {x : Int} (h : (Lit.int .u32 x).wf = true) : 0 ≤ x ∧ x < 4294967296 := by
  simp [Lit.wf, IntKind.min, IntKind.max, IntKind.bits, IntKind.signed] at h
  omega
theorem array6 {α : Type} {cs : Array α} (h : cs.size = 6) : ∃ c0 c1 c2 c3 c4 c5, cs = #[c0, c1, c2, c3, c4, c5] := by
  obtain ⟨l⟩ := cs
  match l, h with
  | [c0, c1, c2, c3, c4, c5], _ => exact ⟨c0, c1, c2, c3, c4, c5, rfl⟩
theorem open_mf {H : Type} {enc : TypeId × Value → H} {w : World} {base b0 : Nat} {spare : Nat → Bool} {held : Bool} {r : Reach} {v : Value} {d : DataW H} {p : List MemPlace}
    (hv : Value.okWide Try.prog w r b0 27 v) (h : DataW.Trod enc Try.prog w base spare held 27 v d p) :
    ∃ m : Mf, v = .agg #[.int .u64 m.s, .int .i64 m.n, .int .i64 m.h, .int .i64 m.t, .int .i64 m.k, .int .u32 m.p] ∧ m.Wf := by
  obtain ⟨cs, rfl, hsz⟩ := okWide_struct Try.underlying27 hv
  obtain ⟨c0, c1, c2, c3, c4, c5, rfl⟩ := array6 (hsz.trans (by kernel_rfl))
  obtain ⟨fuel, hf⟩ := h
  obtain ⟨xs, n, _, _, _, hlen, hx⟩ := DataW.trod_struct Try.underlying27 hf
  have hl5 : xs.length = 5 := hlen
  have g0 := hx 0 _ rfl
  have g1 := hx 1 _ rfl
  have g2 := hx 2 _ rfl
  have g3 := hx 3 _ rfl
  have g4 := hx 4 _ rfl
  rw [List.getElem?_eq_getElem (by omega)] at g0 g1 g2 g3 g4
  obtain ⟨xs', n', _, _, _, hlen', hx'⟩ := DataW.trod_struct Try.underlying25 g4
  have hl2 : xs'.length = 2 := hlen'
  have g5 := hx' 0 _ rfl
  have g6 := hx' 1 _ rfl
  rw [List.getElem?_eq_getElem (by omega)] at g5 g6
  obtain ⟨x0, e0, _, w0⟩ := DataW.trod_int Try.underlying22 g0
  obtain ⟨x1, e1, _, w1⟩ := DataW.trod_int Try.underlying3 g1
  obtain ⟨x2, e2, _, w2⟩ := DataW.trod_int Try.underlying3 g2
  obtain ⟨x3, e3, _, w3⟩ := DataW.trod_int Try.underlying3 g3
  obtain ⟨x4, e4, _, w4⟩ := DataW.trod_int Try.underlying3 g5
  obtain ⟨x5, e5, _, w5⟩ := DataW.trod_int Try.underlying23 g6
  have k22 : Try.prog.cellsOf 22 = 1 := by kernel_rfl
  have k3 : Try.prog.cellsOf 3 = 1 := by kernel_rfl
  have k23 : Try.prog.cellsOf 23 = 1 := by kernel_rfl
  have k25 : Try.prog.cellsOf 25 = 2 := by kernel_rfl
  change List.take (Try.prog.cellsOf 22) (List.drop 0 [c0, c1, c2, c3, c4, c5]) = _ at e0
  rw [k22] at e0
  obtain rfl : c0 = _ := List.head_eq_of_cons_eq e0
  change List.take (Try.prog.cellsOf 3) (List.drop 1 [.int .u64 x0, c1, c2, c3, c4, c5]) = _ at e1
  rw [k3] at e1
  obtain rfl : c1 = _ := List.head_eq_of_cons_eq e1
  change List.take (Try.prog.cellsOf 3) (List.drop 2 [.int .u64 x0, .int .i64 x1, c2, c3, c4, c5]) = _ at e2
  rw [k3] at e2
  obtain rfl : c2 = _ := List.head_eq_of_cons_eq e2
  change List.take (Try.prog.cellsOf 3) (List.drop 3 [.int .u64 x0, .int .i64 x1, .int .i64 x2, c3, c4, c5]) = _ at e3
  rw [k3] at e3
  obtain rfl : c3 = _ := List.head_eq_of_cons_eq e3
  change List.take (Try.prog.cellsOf 3) (List.drop 0 (List.take (Try.prog.cellsOf 25) (List.drop 4 [.int .u64 x0, .int .i64 x1, .int .i64 x2, .int .i64 x3, c4, c5]))) = _ at e4
  rw [k3, k25] at e4
  obtain rfl : c4 = _ := List.head_eq_of_cons_eq e4
  change List.take (Try.prog.cellsOf 23) (List.drop 1 (List.take (Try.prog.cellsOf 25) (List.drop 4 [.int .u64 x0, .int .i64 x1, .int .i64 x2, .int .i64 x3, .int .i64 x4, c5]))) = _ at e5
  rw [k23, k25] at e5
  obtain rfl : c5 = _ := List.head_eq_of_cons_eq e5
  exact ⟨⟨x0, x1, x2, x3, x4, x5⟩, rfl, ⟨wf_u64 w0, wf_i64 w1, wf_i64 w2, wf_i64 w3, wf_i64 w4, wf_u32 w5⟩⟩
end Go.Proofs.Ytibahgondccdiaa.Oct
