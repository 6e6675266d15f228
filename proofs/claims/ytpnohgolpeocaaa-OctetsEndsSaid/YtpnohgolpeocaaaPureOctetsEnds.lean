/- A number by digits that ends too early, or has a digit 0 behind, is none. No condition. -/
import Derived.Test.YtpnohgolpeocaaaOctS
import Derived.Test.YtpnohgolpeocaaaOctV
import Derived.Test.YtpnohgolpeocaaaPAllx7
namespace Go.Proofs.Ytpnohgolpeocaaa.Pure
open Go.RowKit Go.Proofs.Ytpnohgolpeocaaa.PAll Go.Proofs.YtpnohgolpeocaaaW.PrintWords Go.Proofs.YtpnohgolpeocaaaW.PrintLast Go.Proofs.YtpnohgolpeocaaaW.PrintMore Go.Proofs.Ytpnohgolpeocaaa.Oct

theorem OctetsEnds : cartagelaw01_OctetsEnds.Pure := by
  intro n a1 hn _
  have hn := wf_u64 hn
  refine ⟨200, ?_⟩
  unfold cartagelaw01_OctetsEnds.f
  have hv := vd_length 9 n
  have hvb := vd_bytes 9 n
  have hm := and_mod a1 65535 (by omega) ((vd 9 n).length : Int) (by omega)
  rw [show ((65535 : Nat) : Int) = 65535 from rfl] at hm
  obtain ⟨ds, c, e2, h2, hc0, hc1⟩ := vd_high 9 n hn.1
  rw [shown_is _ (by omega), putvar_is _ _ _ hn.1 hn.2 (by simp) (by omega)]
  simp only [Option.bind_some, List.nil_append]
  generalize Int.tmod (bits .and .i64 a1 65535) ((vd 9 n).length : Int) = t at hm ⊢
  rw [e2] at hv hvb hm ⊢
  have hl : (ds ++ [c]).length = ds.length + 1 := by simp
  rw [if_neg (by omega), if_pos hm.1, if_pos (by omega), getvar_is (hvb.take _) (by rw [List.length_take]; omega) _ (by omega)]
  have e3 : gp 0 (((ds ++ [c]).take t.toNat).take 10) = none := by
    rw [List.take_append_of_le_length (by omega)]
    exact gp_high _ 0 (fun d hd => h2 d (List.mem_of_mem_take (List.mem_of_mem_take hd)))
  rw [res0, e3]
  simp only [Option.bind_some]
  have e4 : (((ds ++ [c]).length : Int) - 1) = (ds.length : Int) := by rw [hl]; omega
  have e5 : rd (ds ++ [c]) (ds.length : Int) = c := by unfold rd; simp
  rw [if_pos (by rw [List.length_nil]; omega), e4, wrap_in (by omega) (by omega), if_pos (by omega), if_pos (by omega), e5, or128 c hc0 (by omega), Int.toNat_natCast]
  have e6 : (ds ++ [c]).set ds.length (c % 128 + 128) = ds ++ [c % 128 + 128] := by simp
  have hh : ∀ d ∈ ds ++ [c % 128 + 128], 128 ≤ d := fun d hd => by
    rcases List.mem_append.1 hd with h | h
    · exact h2 d h
    · have := List.mem_singleton.1 h; omega
  have hyb : Bytes (ds ++ [c % 128 + 128] ++ [0]) := by
    refine Bytes.append (Bytes.append (fun d hd => hvb d (by simp [hd])) (Bytes.cons (by omega) Bytes.nil)) (Bytes.cons (by omega) Bytes.nil)
  have hyl : (ds ++ [c % 128 + 128]).length = ds.length + 1 := by simp
  have e7 : gp 0 ((ds ++ [c % 128 + 128] ++ [0]).take 10) = none := by
    rw [List.take_append, hyl]
    by_cases h9 : ds.length + 1 ≤ 9
    · rw [List.take_of_length_le (by omega), List.take_of_length_le (by simp; omega)]
      exact gp_zero _ [] 0 hh (by omega)
    · rw [show 10 - (ds.length + 1) = 0 by omega, List.take_zero, List.append_nil]
      exact gp_high _ 0 (fun d hd => hh d (List.mem_of_mem_take hd))
  rw [e6]
  rw [if_pos (by omega), getvar_is hyb (by rw [List.length_append, hyl]; simp; omega) _ (by omega), res0, e7]
  simp
end Go.Proofs.Ytpnohgolpeocaaa.Pure
