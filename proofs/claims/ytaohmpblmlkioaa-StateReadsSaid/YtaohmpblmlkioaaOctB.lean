/- What the printed functions of octets come to: Put, Get, Crc. Conditions: bytes; rows within the bound. -/
import Derived.Test.YtaohmpblmlkioaaOctA
import Derived.Test.YtaohmpblmlkioaaPAllx1
import Derived.Test.YtaohmpblmlkioaaPAllx2
namespace Go.Proofs.Ytaohmpblmlkioaa.Oct
open Go.RowKit Go.Proofs.Ytaohmpblmlkioaa.PAll Go.Proofs.YtaohmpblmlkioaaW.PrintWords Go.Proofs.YtaohmpblmlkioaaW.PrintLast Go.Proofs.YtaohmpblmlkioaaW.PrintMore

theorem clone_is {l : List Int} (h : l.length < 140737488355328) : slices_Clone_byte_byte.f l = some l := if_pos h

theorem put_loop (m : Nat) : ∀ (k : Nat) (x : Int) (acc : List Int) (i t : Nat), i + m = t → t ≤ 8 → acc.length + m < 140737488355328 → m < k →
    octets_Put.l0 k x acc (t : Int) (i : Int) = some (acc ++ le m x) := by
  induction m with
  | zero =>
    intro k x acc i t ht h8 hl hk
    obtain ⟨k, rfl⟩ : ∃ m, k = m + 1 := ⟨k - 1, by omega⟩
    simp only [octets_Put.l0]
    rw [if_neg (by omega)]; simp [le]
  | succ m ih =>
    intro k x acc i t ht h8 hl hk
    obtain ⟨k, rfl⟩ : ∃ m, k = m + 1 := ⟨k - 1, by omega⟩
    simp only [octets_Put.l0]
    rw [if_pos (by omega), if_pos (by omega), wrap_in (by omega) (by omega), show ((i : Int) + 1) = ((i + 1 : Nat) : Int) by omega,
      ih k (x / 256) (acc ++ [x % 256]) (i + 1) t (by omega) h8 (by simp; omega) (by omega)]
    simp [le]
/-- How many bytes are put. -/
def sz (a : Int) : Nat := (mn (mx a 0) 8).toNat
theorem sz_le (a : Int) : sz a ≤ 8 := by unfold sz mn mx; omega
theorem sz_of {a : Int} (h0 : 0 ≤ a) (h1 : a ≤ 8) : sz a = a.toNat := by unfold sz mn mx; omega
theorem put_is (k : Nat) (l : List Int) (a x : Int) (hl : l.length + 8 < 140737488355328) (hk : 8 < k) : octets_Put.f k l a x = some (l ++ le (sz a) x) := by
  unfold octets_Put.f
  rw [clone_is (by omega)]
  simp only [Option.bind_some]
  have h := sz_le a
  have e : mn (mx a 0) 8 = ((sz a : Nat) : Int) := by unfold sz mn mx; omega
  rw [e]
  exact put_loop (sz a) k x l 0 (sz a) (by omega) h (by omega) (by omega)

theorem step_is {n c : Int} (h0 : 0 ≤ n) (h1 : n < 72057594037927936) (c0 : 0 ≤ c) (c1 : c ≤ 255) : octets_Get.step n c = c + 256 * n := by
  unfold octets_Get.step
  rw [u64_in (by omega) (by omega), u64_in (by omega) (by omega)]
  obtain ⟨a, rfl⟩ := Int.eq_ofNat_of_zero_le h0
  obtain ⟨b, rfl⟩ := Int.eq_ofNat_of_zero_le c0
  have hb : b < 2 ^ 8 := by omega
  have hk := (Nat.two_pow_add_eq_or_of_lt hb a).symm
  rw [show (2 : Nat) ^ 8 = 256 from rfl] at hk
  rw [show (a : Int) * 256 = ((256 * a : Nat) : Int) by omega, bits_or64 _ _ (by omega) (by omega), hk]
  omega
theorem getnum_is : ∀ {l : List Int}, Bytes l → l.length ≤ 8 → octets_Get.num l = num l := by
  intro l
  unfold octets_Get.num
  rw [List.foldl_reverse]
  induction l with
  | nil => intro _ _; rfl
  | cons c r ih =>
    intro hb hl
    have hr : Bytes r := fun d hd => hb d (by simp [hd])
    have hc := hb c (by simp)
    have hn := num_lt hr
    have h7 : (256 : Int) ^ r.length ≤ 72057594037927936 := by
      have h := Nat.pow_le_pow_right (show 0 < 256 by decide) (show r.length ≤ 7 by simp only [List.length_cons] at hl; omega)
      rw [show (256 : Nat) ^ 7 = 72057594037927936 from rfl] at h
      have h' := Int.ofNat_le.2 h
      rw [Int.natCast_pow] at h'
      exact h'
    simp only [List.foldr_cons]
    rw [ih hr (by simp only [List.length_cons] at hl; omega), step_is (num_nonneg hr) (by omega) hc.1 hc.2]
    rfl
theorem get_is {l : List Int} (hb : Bytes l) {a s : Int} (h1 : 1 ≤ s) (h2 : s ≤ 8) (h3 : 0 ≤ a) (h4 : a + s ≤ l.length) :
    octets_Get.f l a s = some (num ((l.drop a.toNat).take s.toNat), true) := by
  unfold octets_Get.f
  rw [if_neg (by omega)]
  have e : (l.take (a + s).toNat).drop a.toNat = (l.drop a.toNat).take s.toNat := by
    rw [List.drop_take]; congr 1; omega
  rw [e, getnum_is ((hb.drop _).take _) (by simp only [List.length_take]; omega)]
theorem get_not {l : List Int} {a s : Int} (h : ¬ (1 ≤ s ∧ s ≤ 8 ∧ 0 ≤ a ∧ a + s ≤ l.length)) : octets_Get.f l a s = some (0, false) := by
  unfold octets_Get.f
  rw [if_pos (by omega)]

theorem crc_step {c : Nat} (h : c < 4294967296) : bits .xor .u32 ((c : Int) / 2) (bits .and .u32 3988292384 ((-(bits .and .u32 (c : Int) 1)) % 4294967296)) = (st c : Int) := by
  have e1 : bits .and .u32 (c : Int) 1 = ((c % 2 : Nat) : Int) := by
    rw [show (1 : Int) = ((1 : Nat) : Int) from rfl, bits_and32 _ _ h (by omega), Nat.and_one_is_mod]
  rw [e1, show (c : Int) / 2 = ((c / 2 : Nat) : Int) by omega]
  unfold st
  rcases Nat.mod_two_eq_zero_or_one c with h2 | h2
  · rw [h2, if_neg (by omega)]
    rw [show (-((0 : Nat) : Int)) % 4294967296 = ((0 : Nat) : Int) by omega, show (3988292384 : Int) = ((3988292384 : Nat) : Int) from rfl, bits_and32 _ _ (by omega) (by omega), Nat.and_zero, bits_xor32 _ _ (by omega) (by omega), Nat.xor_zero]
  · rw [h2, if_pos rfl]
    rw [show (-((1 : Nat) : Int)) % 4294967296 = ((4294967295 : Nat) : Int) by omega, show (3988292384 : Int) = ((3988292384 : Nat) : Int) from rfl, bits_and32 _ _ (by omega) (by omega), show 3988292384 &&& 4294967295 = 3988292384 by decide, bits_xor32 _ _ (by omega) (by omega)]
theorem crc_byte {c : Nat} {x : Int} (h : c < 4294967296) (h0 : 0 ≤ x) (h1 : x ≤ 255) : bits .xor .u32 (c : Int) (x % 4294967296) = ((c ^^^ x.toNat : Nat) : Int) := by
  rw [show x % 4294967296 = ((x.toNat : Nat) : Int) by omega, bits_xor32 _ _ h (by omega)]
theorem crc_inner (m : Nat) : ∀ (k c : Nat) (l : List Int) (n i : Int) (j : Nat), j + m = 8 → c < 4294967296 → octets_Crc.l1 (k + m + 1) (c : Int) l n i (j : Int) = octets_Crc.l0 k (stn m c : Int) l n (wrap64 (i + 1)) := by
  induction m with
  | zero => intro k c l n i j hj hc; simp only [octets_Crc.l1]; rw [if_neg (by omega)]; rfl
  | succ m ih =>
    intro k c l n i j hj hc
    rw [show k + (m + 1) + 1 = (k + m + 1) + 1 by omega]
    simp only [octets_Crc.l1]
    rw [if_pos (by omega), crc_step hc, wrap_in (by omega) (by omega), show ((j : Int) + 1) = ((j + 1 : Nat) : Int) by omega]
    exact ih k (st c) l n i (j + 1) (by omega) (st_lt hc)
theorem crc_loop {l : List Int} (hb : Bytes l) (hl : l.length ≤ 1000000) (d : Nat) : ∀ (k c i : Nat), i + d = l.length → 10 * d < k → c < 4294967296 →
    octets_Crc.l0 k (c : Int) l (l.length : Int) (i : Int) = some ((cr (l.drop i) c ^^^ 4294967295 : Nat) : Int) := by
  induction d with
  | zero =>
    intro k c i hd hk hc
    obtain ⟨k, rfl⟩ : ∃ m, k = m + 1 := ⟨k - 1, by omega⟩
    simp only [octets_Crc.l0]
    rw [if_neg (by omega), bits_xor32_top _ hc, List.drop_eq_nil_of_le (by omega)]; rfl
  | succ d ih =>
    intro k c i hd hk hc
    obtain ⟨k, rfl⟩ : ∃ m, k = (m + 8 + 1) + 1 := ⟨k - 10, by omega⟩
    have hi : i < l.length := by omega
    have hx := hb _ (List.getElem_mem hi)
    have e : rd l (i : Int) = l[i] := by unfold rd; rw [Int.toNat_natCast, List.getD_eq_getElem?_getD, List.getElem?_eq_getElem hi]; rfl
    simp only [octets_Crc.l0]
    rw [if_pos (by omega), if_pos (by omega), if_pos (by omega), e, crc_byte hc hx.1 hx.2]
    rw [show (0 : Int) = ((0 : Nat) : Int) from rfl, crc_inner 8 k _ l _ _ 0 rfl (xor_lt hc (by omega)), wrap_in (by omega) (by omega), show ((i : Int) + 1) = ((i + 1 : Nat) : Int) by omega,
      ih k _ (i + 1) (by omega) (by omega) (stn_lt 8 (xor_lt hc (by omega))), List.drop_eq_getElem_cons hi]
    rfl
theorem crc_is {l : List Int} (hb : Bytes l) (hl : l.length ≤ 1000000) (k : Nat) (hk : 10 * l.length < k) : octets_Crc.f k l = some (crc l : Int) := by
  have := crc_loop hb hl l.length k 4294967295 0 (by omega) hk (by omega)
  simpa [octets_Crc.f, crc] using this
end Go.Proofs.Ytaohmpblmlkioaa.Oct
