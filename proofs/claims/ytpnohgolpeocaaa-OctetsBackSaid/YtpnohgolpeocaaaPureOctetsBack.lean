/- What was put is got, whatever stands around it. No condition. -/
import Derived.Test.YtpnohgolpeocaaaOctS
import Derived.Test.YtpnohgolpeocaaaPAllx5
namespace Go.Proofs.Ytpnohgolpeocaaa.Pure
open Go.RowKit Go.Proofs.Ytpnohgolpeocaaa.PAll Go.Proofs.YtpnohgolpeocaaaW.PrintWords Go.Proofs.YtpnohgolpeocaaaW.PrintLast Go.Proofs.YtpnohgolpeocaaaW.PrintMore Go.Proofs.Ytpnohgolpeocaaa.Oct

theorem OctetsBack : cartagelaw01_OctetsBack.Pure := by
  intro l0 l1 x a3 _ _ hw0 _ _ hw1 hx _
  have ha := (bytes_of_wf hw0).take 50
  have hb := (bytes_of_wf hw1).take 50
  have hx := wf_u64 hx
  refine ⟨200, ?_⟩
  unfold cartagelaw01_OctetsBack.f
  have h5 : (l0.take 50).length ≤ 50 := by rw [List.length_take]; omega
  have h6 : (l1.take 50).length ≤ 50 := by rw [List.length_take]; omega
  have hm := and_i64 a3 7 (by omega)
  rw [shown_is _ (by omega)]
  simp only [Option.bind_some]
  rw [show (50 : Int) = ((50 : Nat) : Int) from rfl, if_pos (mn_lo l0 50), if_pos (mn_hi l0 50), if_pos (mn_lo l1 50), if_pos (mn_hi l1 50), mn_take, mn_take]
  generalize l0.take 50 = a at ha h5 ⊢
  generalize l1.take 50 = b at hb h6 ⊢
  rw [show ((7 : Nat) : Int) = 7 from rfl] at hm
  generalize bits .and .i64 a3 7 = q at hm ⊢
  rw [wrap_in (x := 1 + q) (by omega) (by omega)]
  obtain ⟨s, hs⟩ : ∃ s : Nat, 1 + q = (s : Int) := ⟨(1 + q).toNat, by omega⟩
  rw [hs, put_is _ _ _ _ (by omega) (by omega), sz_of (by omega) (by omega), Int.toNat_natCast]
  simp only [Option.bind_some]
  have hl : (a ++ le s x).length = a.length + s := by rw [List.length_append, le_length]
  have hl2 : (a ++ le s x ++ b).length = a.length + s + b.length := by rw [List.length_append, hl]
  rw [if_pos (by rw [hl]; omega), get_is ((ha.append (le_bytes _ _)).append hb) (by omega) (by omega) (by omega) (by rw [hl2]; omega), Int.toNat_natCast, Int.toNat_natCast]
  have e1 : ((a ++ le s x ++ b).drop a.length).take s = le s x := by
    rw [List.append_assoc, List.drop_left, List.take_append_of_le_length (by rw [le_length]; omega), List.take_of_length_le (by rw [le_length]; omega)]
  have e2 : (a ++ le s x ++ b).take a.length = a := by rw [List.append_assoc, List.take_left]
  have e3 : wrap64 (wrap64 ((a.length : Int) + (s : Int)) + (b.length : Int)) = ((a ++ le s x ++ b).length : Int) := by
    rw [wrap_in (x := (a.length : Int) + s) (by omega) (by omega), wrap_in (by omega) (by omega), hl2]; omega
  rw [e1, num_le, e3, e2]
  clear e1 e2 e3
  simp only [Option.bind_some]
  by_cases h8 : (s : Int) < 8
  · rw [if_pos h8, wrap_in (x := 8 * (s : Int)) (by omega) (by omega), u64_in (by omega) (by omega), if_pos (by omega)]
    have hk := mask_is hx.1 hx.2 (show s ≤ 7 by omega)
    rw [wrap_in (x := 8 * (s : Int)) (by omega) (by omega), u64_in (x := 8 * (s : Int)) (by omega) (by omega)] at hk
    rw [hk]
    clear hk
    simp only [if_true]
    rw [if_pos (by omega), if_pos (show (a.length : Int) ≤ ((a ++ le s x ++ b).length : Int) by have := hl2; omega)]
    simp
  · have hs8 : s = 8 := by omega
    have hmod : x % 256 ^ s = x := by rw [hs8]; exact mod8 hx.1 hx.2
    rw [if_neg h8, hmod]
    clear hmod
    simp only [if_true]
    rw [if_pos (by omega), if_pos (show (a.length : Int) ≤ ((a ++ le s x ++ b).length : Int) by have := hl2; omega)]
    simp
end Go.Proofs.Ytpnohgolpeocaaa.Pure
