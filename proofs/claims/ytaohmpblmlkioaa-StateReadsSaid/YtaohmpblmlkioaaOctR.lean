/- What the reference's Crc comes to: the same. Conditions: bytes. -/
import Derived.Test.YtaohmpblmlkioaaOctB
import Derived.Test.YtaohmpblmlkioaaPAllx5
namespace Go.Proofs.Ytaohmpblmlkioaa.Oct
open Go.RowKit Go.Proofs.Ytaohmpblmlkioaa.PAll Go.Proofs.YtaohmpblmlkioaaW.PrintWords Go.Proofs.YtaohmpblmlkioaaW.PrintLast Go.Proofs.YtaohmpblmlkioaaW.PrintMore

theorem ref_crc_inner (m : Nat) : ∀ (k c : Nat) (l : List Int) (i : Int) (j : Nat), j + m = 8 → c < 4294967296 → cartageref01_Crc.l1 (k + m + 1) l (c : Int) i (j : Int) = cartageref01_Crc.l0 k l (stn m c : Int) (wrap64 (i + 1)) := by
  induction m with
  | zero => intro k c l i j hj hc; simp only [cartageref01_Crc.l1]; rw [if_neg (by omega)]; rfl
  | succ m ih =>
    intro k c l i j hj hc
    rw [show k + (m + 1) + 1 = (k + m + 1) + 1 by omega]
    have e2 := ih k (st c) l i (j + 1) (by omega) (st_lt hc)
    generalize k + m + 1 = q at e2 ⊢
    simp only [cartageref01_Crc.l1]
    have e1 : bits .and .u32 (c : Int) 1 = ((c % 2 : Nat) : Int) := by
      rw [show (1 : Int) = ((1 : Nat) : Int) from rfl, bits_and32 _ _ hc (by omega), Nat.and_one_is_mod]
    rw [if_pos (by omega), e1, wrap_in (by omega) (by omega), show ((j : Int) + 1) = ((j + 1 : Nat) : Int) by omega]
    by_cases h : c % 2 = 1
    · rw [if_pos (by omega), show (c : Int) / 2 = ((c / 2 : Nat) : Int) by omega, show (3988292384 : Int) = ((3988292384 : Nat) : Int) from rfl, bits_xor32 _ _ (by omega) (by omega)]
      simp only [stn]
      rw [← e2]; unfold st; rw [if_pos h]
    · rw [if_neg (by omega), show (c : Int) / 2 = ((c / 2 : Nat) : Int) by omega]
      simp only [stn]
      rw [← e2]; unfold st; rw [if_neg h]
theorem ref_crc_loop {l : List Int} (hb : Bytes l) (hl : l.length ≤ 1000000) (d : Nat) : ∀ (k c i : Nat), i + d = l.length → 10 * d < k → c < 4294967296 →
    cartageref01_Crc.l0 k l (c : Int) (i : Int) = some ((cr (l.drop i) c ^^^ 4294967295 : Nat) : Int) := by
  induction d with
  | zero =>
    intro k c i hd hk hc
    obtain ⟨k, rfl⟩ : ∃ m, k = m + 1 := ⟨k - 1, by omega⟩
    simp only [cartageref01_Crc.l0]
    rw [if_neg (by omega), show (4294967295 : Int) = ((4294967295 : Nat) : Int) from rfl, bits_xor32 _ _ hc (by omega), List.drop_eq_nil_of_le (by omega)]; rfl
  | succ d ih =>
    intro k c i hd hk hc
    obtain ⟨k, rfl⟩ : ∃ m, k = (m + 8 + 1) + 1 := ⟨k - 10, by omega⟩
    have hi : i < l.length := by omega
    have hx := hb _ (List.getElem_mem hi)
    have e : rd l (i : Int) = l[i] := by unfold rd; rw [Int.toNat_natCast, List.getD_eq_getElem?_getD, List.getElem?_eq_getElem hi]; rfl
    simp only [cartageref01_Crc.l0]
    rw [if_pos (by omega), if_pos (by omega), e, crc_byte hc hx.1 hx.2]
    rw [show (0 : Int) = ((0 : Nat) : Int) from rfl, ref_crc_inner 8 k _ l _ 0 rfl (xor_lt hc (by omega)), wrap_in (by omega) (by omega), show ((i : Int) + 1) = ((i + 1 : Nat) : Int) by omega,
      ih k _ (i + 1) (by omega) (by omega) (stn_lt 8 (xor_lt hc (by omega))), List.drop_eq_getElem_cons hi]
    rfl
theorem ref_crc_is {l : List Int} (hb : Bytes l) (hl : l.length ≤ 1000000) (k : Nat) (hk : 10 * l.length < k) : cartageref01_Crc.f k l = some (crc l : Int) := by
  have := ref_crc_loop hb hl l.length k 4294967295 0 (by omega) hk (by omega)
  simpa [cartageref01_Crc.f, crc] using this
end Go.Proofs.Ytaohmpblmlkioaa.Oct
