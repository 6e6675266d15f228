/- What the reference's Put and Get come to: the same. Conditions: bytes; rows within the bound. -/
import Derived.Test.YtaohmpblmlkioaaOctB
import Derived.Test.YtaohmpblmlkioaaPAllx5
import Derived.Test.YtaohmpblmlkioaaPAllx6
namespace Go.Proofs.Ytaohmpblmlkioaa.Oct
open Go.RowKit Go.Proofs.Ytaohmpblmlkioaa.PAll Go.Proofs.YtaohmpblmlkioaaW.PrintWords Go.Proofs.YtaohmpblmlkioaaW.PrintLast Go.Proofs.YtaohmpblmlkioaaW.PrintMore

theorem q8 (s : Nat) : (2 : Int) ^ (8 * s) = 256 ^ s := by rw [Int.pow_mul]; rfl
theorem shr8 (x : Int) {i : Nat} (hi : i ≤ 7) : shr .u64 x (IntKind.u64.wrap (wrap64 (8 * (i : Int)))) = x / 256 ^ i := by
  rw [wrap_in (by omega) (by omega), u64_in (by omega) (by omega)]
  unfold shr
  rw [show (8 * (i : Int)).toNat = 8 * i by omega, show min (8 * i) IntKind.u64.bits = 8 * i from Nat.min_eq_left (show 8 * i ≤ 64 by omega), q8]
theorem shl8 {d : Int} {i : Nat} (hi : i ≤ 7) (h0 : 0 ≤ d) (h1 : d ≤ 255) : shl .u64 (IntKind.u64.wrap d) (IntKind.u64.wrap (wrap64 (8 * (i : Int)))) = 256 ^ i * d ∧ 0 ≤ 256 ^ i * d ∧ 256 ^ i * d ≤ 255 * 256 ^ i := by
  have hp : (256 : Int) ^ i ≤ 256 ^ 7 := by
    have h := Nat.pow_le_pow_right (show 0 < 256 by decide) hi
    have h' := Int.ofNat_le.2 h
    rw [Int.natCast_pow, Int.natCast_pow] at h'
    exact h'
  have hp0 : (0 : Int) < 256 ^ i := Int.pow_pos (by omega)
  have hm : 256 ^ i * d ≤ 256 ^ i * 255 := Int.mul_le_mul_of_nonneg_left h1 (by omega)
  have hn : 0 ≤ 256 ^ i * d := Int.mul_nonneg (by omega) h0
  rw [show (256 : Int) ^ 7 = 72057594037927936 from rfl] at hp
  refine ⟨?_, hn, by omega⟩
  rw [wrap_in (by omega) (by omega), u64_in (x := 8 * (i : Int)) (by omega) (by omega), u64_in h0 (by omega)]
  unfold shl
  rw [show (8 * (i : Int)).toNat = 8 * i by omega, show min (8 * i) IntKind.u64.bits = 8 * i from Nat.min_eq_left (show 8 * i ≤ 64 by omega), q8, Int.mul_comm, u64_in hn (by omega)]

theorem le_drop (x : Int) (i m : Nat) : le (m + 1) (x / 256 ^ i) = x / 256 ^ i % 256 :: le m (x / 256 ^ (i + 1)) := by
  rw [le, Int.ediv_ediv_of_nonneg (Int.le_of_lt (Int.pow_pos (by omega))), ← Int.pow_succ]
theorem ref_put_loop (m : Nat) : ∀ (k : Nat) (a x : Int) (acc : List Int) (i : Nat), i + m = sz a → acc.length + m < 140737488355328 → m < k →
    cartageref01_Put.l0 k a x acc (i : Int) = some (acc ++ le m (x / 256 ^ i)) := by
  have hs : ∀ a : Int, ((sz a : Nat) : Int) = mn (mx a 0) 8 := fun a => by unfold sz mn mx; omega
  induction m with
  | zero =>
    intro k a x acc i ht hl hk
    obtain ⟨k, rfl⟩ : ∃ m, k = m + 1 := ⟨k - 1, by omega⟩
    have := hs a
    unfold mn mx at this
    simp only [cartageref01_Put.l0]
    by_cases h : (i : Int) < a
    · rw [if_pos h, if_neg (by omega)]; simp [le]
    · rw [if_neg h]; simp [le]
  | succ m ih =>
    intro k a x acc i ht hl hk
    obtain ⟨k, rfl⟩ : ∃ m, k = m + 1 := ⟨k - 1, by omega⟩
    have := hs a
    have h8 := sz_le a
    unfold mn mx at this
    simp only [cartageref01_Put.l0]
    rw [if_pos (by omega), if_pos (by omega), if_pos (by rw [wrap_in (by omega) (by omega), u64_in (by omega) (by omega)]; omega), if_pos (by omega), shr8 x (by omega), wrap_in (by omega) (by omega), show ((i : Int) + 1) = ((i + 1 : Nat) : Int) by omega,
      ih k a x _ (i + 1) (by omega) (by simp; omega) (by omega), le_drop]
    simp
theorem ref_put_is (k : Nat) (l : List Int) (a x : Int) (hl : l.length + 8 < 140737488355328) (hk : 8 < k) : cartageref01_Put.f k l a x = some (l ++ le (sz a) x) := by
  unfold cartageref01_Put.f
  have h := sz_le a
  have := ref_put_loop (sz a) k a x l 0 (by omega) (by omega) (by omega)
  simp only [Int.pow_zero, Int.ediv_one] at this
  simpa [show l.length < 140737488355328 by omega] using this

theorem ref_get_loop {l : List Int} (hb : Bytes l) (hl : l.length ≤ 140737488351232) {a s : Nat} (hs : s ≤ 8) (ha : a + s ≤ l.length) (d : Nat) : ∀ (k i : Nat), i + d = s → d < k →
    cartageref01_Get.l0 k l (a : Int) (s : Int) (num ((l.drop a).take i)) (i : Int) = some (num ((l.drop a).take s), true) := by
  induction d with
  | zero =>
    intro k i hd hk
    obtain ⟨k, rfl⟩ : ∃ m, k = m + 1 := ⟨k - 1, by omega⟩
    obtain rfl : i = s := by omega
    simp only [cartageref01_Get.l0]
    rw [if_neg (by omega)]
  | succ d ih =>
    intro k i hd hk
    obtain ⟨k, rfl⟩ : ∃ m, k = m + 1 := ⟨k - 1, by omega⟩
    have hi : a + i < l.length := by omega
    have hx := hb _ (List.getElem_mem hi)
    have e : rd l ((a : Int) + (i : Int)) = l[a + i] := by
      unfold rd
      rw [show ((a : Int) + (i : Int)).toNat = a + i by omega, List.getD_eq_getElem?_getD, List.getElem?_eq_getElem hi]; rfl
    obtain ⟨e1, n0, n1⟩ := shl8 (i := i) (by omega) hx.1 hx.2
    have et : (l.drop a).take (i + 1) = (l.drop a).take i ++ [l[a + i]] := by
      rw [List.take_succ_eq_append_getElem (by simp; omega)]; simp
    have hbt : Bytes ((l.drop a).take i) := (hb.drop _).take _
    have hlen : ((l.drop a).take i).length = i := by simp; omega
    have hlt := num_lt hbt
    have hnn := num_nonneg hbt
    rw [hlen] at hlt
    have hp : (256 : Int) ^ i ≤ 256 ^ 7 := by
      have h := Nat.pow_le_pow_right (show 0 < 256 by decide) (show i ≤ 7 by omega)
      have h' := Int.ofNat_le.2 h
      rw [Int.natCast_pow, Int.natCast_pow] at h'
      exact h'
    rw [show (256 : Int) ^ 7 = 72057594037927936 from rfl] at hp
    simp only [cartageref01_Get.l0]
    rw [wrap_in (x := (a : Int) + i) (by omega) (by omega)]
    rw [if_pos (by omega), if_pos (by omega), if_pos (by omega), if_pos (by rw [wrap_in (by omega) (by omega), u64_in (by omega) (by omega)]; omega), e, e1, wrap_in (by omega) (by omega), show ((i : Int) + 1) = ((i + 1 : Nat) : Int) by omega, u64_in (by omega) (by omega)]
    have en : num ((l.drop a).take i) + 256 ^ i * l[a + i] = num ((l.drop a).take (i + 1)) := by
      rw [et, num_append, hlen]; simp [num]
    rw [en]
    exact ih k (i + 1) (by omega) (by omega)
theorem ref_get_is {l : List Int} (hb : Bytes l) (hl : l.length ≤ 140737488351232) {a s : Int} (h1 : 1 ≤ s) (h2 : s ≤ 8) (h3 : 0 ≤ a) (h4 : a + s ≤ l.length) (k : Nat) (hk : 10 < k) :
    cartageref01_Get.f k l a s = some (num ((l.drop a.toNat).take s.toNat), true) := by
  obtain ⟨k, rfl⟩ : ∃ m, k = m + 1 := ⟨k - 1, by omega⟩
  unfold cartageref01_Get.f
  rw [if_neg (by omega), if_neg (by omega), if_neg (by omega), wrap_in (by omega) (by omega), decide_eq_false (by omega)]
  simp only [cartageref01_Get.j0]
  rw [if_neg (by simp)]
  obtain ⟨a, rfl⟩ := Int.eq_ofNat_of_zero_le h3
  obtain ⟨s, rfl⟩ := Int.eq_ofNat_of_zero_le (show 0 ≤ s by omega)
  have := ref_get_loop hb hl (a := a) (s := s) (by omega) (by omega) s k 0 (by omega) (by omega)
  simpa [num] using this
theorem ref_get_not {l : List Int} (hl : l.length ≤ 140737488351232) {a s : Int} (h : ¬ (1 ≤ s ∧ s ≤ 8 ∧ 0 ≤ a ∧ a + s ≤ l.length)) (k : Nat) (hk : 10 < k) : cartageref01_Get.f k l a s = some (0, false) := by
  obtain ⟨k, rfl⟩ : ∃ m, k = m + 1 := ⟨k - 1, by omega⟩
  unfold cartageref01_Get.f
  by_cases g1 : s < 1
  · rw [if_pos g1]; simp [cartageref01_Get.j0]
  by_cases g2 : s > 8
  · rw [if_neg g1, if_pos g2]; simp [cartageref01_Get.j0]
  by_cases g3 : a < 0
  · rw [if_neg g1, if_neg g2, if_pos g3]; simp [cartageref01_Get.j0]
  · rw [if_neg g1, if_neg g2, if_neg g3, wrap_in (by omega) (by omega), decide_eq_true (by omega)]; simp [cartageref01_Get.j0]
end Go.Proofs.Ytaohmpblmlkioaa.Oct
