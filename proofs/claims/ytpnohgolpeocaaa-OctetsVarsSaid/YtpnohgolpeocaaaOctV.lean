/- What PutVar and GetVar come to. Conditions: bytes; numbers of sixty-four bits. -/
import Derived.Test.YtpnohgolpeocaaaOctB
import Derived.Test.YtpnohgolpeocaaaPAllx1
namespace Go.Proofs.Ytpnohgolpeocaaa.Oct
open Go.RowKit Go.Proofs.Ytpnohgolpeocaaa.PAll Go.Proofs.YtpnohgolpeocaaaW.PrintWords Go.Proofs.YtpnohgolpeocaaaW.PrintLast Go.Proofs.YtpnohgolpeocaaaW.PrintMore

theorem putvar_loop (f : Nat) : ∀ (k : Nat) (x : Int) (acc : List Int), 0 ≤ x → x < 2 * 128 ^ f → acc.length + f + 1 < 140737488355328 → f < k →
    octets_PutVar.l0 k x acc = some (acc ++ vd f x) := by
  induction f with
  | zero =>
    intro k x acc h0 h1 hl hk
    obtain ⟨k, rfl⟩ : ∃ m, k = m + 1 := ⟨k - 1, by omega⟩
    have : x < 2 := by simpa using h1
    simp only [octets_PutVar.l0]
    rw [if_neg (by omega), if_pos (by omega)]; rfl
  | succ f ih =>
    intro k x acc h0 h1 hl hk
    obtain ⟨k, rfl⟩ : ∃ m, k = m + 1 := ⟨k - 1, by omega⟩
    simp only [octets_PutVar.l0, vd]
    by_cases hx : x ≥ 128
    · rw [if_pos hx, if_pos (by omega), if_pos hx, or128 _ (by omega) (by omega), ih k (x / 128) _ (by omega) (by rw [Int.pow_succ] at h1; omega) (by simp; omega) (by omega)]
      rw [show x % 256 % 128 = x % 128 by omega]; simp
    · rw [if_neg hx, if_neg hx, if_pos (by omega)]
theorem putvar_is (k : Nat) (l : List Int) (x : Int) (h0 : 0 ≤ x) (h1 : x < 18446744073709551616) (hl : l.length + 10 < 140737488355328) (hk : 9 < k) : octets_PutVar.f k l x = some (l ++ vd 9 x) := by
  unfold octets_PutVar.f
  rw [clone_is (by omega)]
  simp only [Option.bind_some]
  exact putvar_loop 9 k x l h0 (by rw [show (2 : Int) * 128 ^ 9 = 18446744073709551616 from rfl]; exact h1) (by omega) hk

theorem pow7 (i : Nat) : (2 : Int) ^ (7 * i) = 128 ^ i := by rw [Int.pow_mul]; rfl
theorem shl7 {d : Int} {i : Nat} (hi : i ≤ 8) (h0 : 0 ≤ d) (h1 : d ≤ 127) : shl .u64 d (((7 * i : Nat) : Int)) = 2 ^ (7 * i) * d ∧ 2 ^ (7 * i) * d < 18446744073709551616 := by
  have hp : (2 : Int) ^ (7 * i) ≤ 2 ^ 56 := by
    have h := Nat.pow_le_pow_right (show 0 < 2 by decide) (show 7 * i ≤ 56 by omega)
    have h' := Int.ofNat_le.2 h
    rw [Int.natCast_pow, Int.natCast_pow] at h'
    exact h'
  have hp0 : (0 : Int) < 2 ^ (7 * i) := Int.pow_pos (by omega)
  have hm : 2 ^ (7 * i) * d ≤ 2 ^ 56 * 127 := Int.mul_le_mul hp h1 h0 (by decide)
  rw [show (2 : Int) ^ 56 * 127 = 9151314442816847872 from rfl] at hm
  have hn : 0 ≤ 2 ^ (7 * i) * d := Int.mul_nonneg (by omega) h0
  refine ⟨?_, by omega⟩
  unfold shl
  rw [Int.toNat_natCast, show min (7 * i) IntKind.u64.bits = 7 * i from Nat.min_eq_left (show 7 * i ≤ 64 by omega), Int.mul_comm, u64_in hn (by omega)]
theorem shl9 {d : Int} (h0 : 0 ≤ d) (h1 : d ≤ 1) : shl .u64 d 63 = 2 ^ 63 * d := by
  unfold shl
  rw [show min (63 : Int).toNat IntKind.u64.bits = 63 from rfl, Int.mul_comm, show (2 : Int) ^ 63 = 9223372036854775808 from rfl, u64_in (by omega) (by omega)]
theorem acc_next {a d : Int} {i : Nat} (hi : i ≤ 8) (h0 : 0 ≤ a) (h1 : a < 128 ^ i) (hd : 0 ≤ d) (hd1 : d ≤ 127) :
    bits .or .u64 a (shl .u64 d (((7 * i : Nat) : Int))) = a + 128 ^ i * d ∧ a + 128 ^ i * d < 128 ^ (i + 1) := by
  obtain ⟨e, hlt⟩ := shl7 hi hd hd1
  have hm : 128 ^ i * d ≤ 128 ^ i * 127 := Int.mul_le_mul_of_nonneg_left hd1 (by omega)
  have h1' := h1
  rw [← pow7] at h1'
  rw [e, or_add a d (7 * i) (by omega) h0 h1' hd hlt, pow7]
  refine ⟨rfl, ?_⟩
  rw [Int.pow_succ]; omega

theorem getvar_loop {L : List Int} (hb : Bytes L) (hL : L.length ≤ 10) (d : Nat) : ∀ (k i : Nat) (a : Int), i + d = L.length → d < k → (i ≤ 9 → 0 ≤ a ∧ a < 128 ^ i) →
    octets_GetVar.l0 k a L (L.length : Int) (i : Int) = some (res (gp i (L.drop i)) a i) := by
  induction d with
  | zero =>
    intro k i a hd hk ha
    obtain ⟨k, rfl⟩ : ∃ m, k = m + 1 := ⟨k - 1, by omega⟩
    simp only [octets_GetVar.l0]
    rw [if_neg (by omega), List.drop_eq_nil_of_le (by omega)]; rfl
  | succ d ih =>
    intro k i a hd hk ha
    obtain ⟨k, rfl⟩ : ∃ m, k = m + 1 := ⟨k - 1, by omega⟩
    have hi : i < L.length := by omega
    obtain ⟨ha0, ha1⟩ := ha (by omega)
    obtain ⟨c, hc⟩ : ∃ c, c = L[i] := ⟨_, rfl⟩
    have hx := hb _ (List.getElem_mem hi)
    rw [← hc] at hx
    have e : rd L (i : Int) = c := by unfold rd; rw [Int.toNat_natCast, List.getD_eq_getElem?_getD, List.getElem?_eq_getElem hi, hc]; rfl
    have hdr : L.drop i = c :: L.drop (i + 1) := by rw [List.drop_eq_getElem_cons hi, hc]
    simp only [octets_GetVar.l0]
    rw [if_pos (by omega), if_pos (by omega), if_pos (by omega), e, wrap_in (x := 7 * (i : Int)) (by omega) (by omega), wrap_in (x := (i : Int) + 1) (by omega) (by omega), if_pos (by omega),
      show (7 * (i : Int)) = ((7 * i : Nat) : Int) by omega, andNot128 _ hx.1 (by omega), u64_in (x := c % 128) (by omega) (by omega), show ((i : Int) + 1) = ((i + 1 : Nat) : Int) by omega, hdr]
    simp only [gp]
    by_cases h128 : c ≥ 128
    · rw [if_pos h128, if_pos h128]
      by_cases h8 : i ≤ 8
      · obtain ⟨e2, e3⟩ := acc_next h8 ha0 ha1 (show 0 ≤ c % 128 by omega) (by omega)
        have hp : (0 : Int) ≤ 128 ^ i := Int.le_of_lt (Int.pow_pos (by omega))
        have hm : 0 ≤ 128 ^ i * (c % 128) := Int.mul_nonneg hp (by omega)
        rw [e2, ih k (i + 1) _ (by omega) (by omega) (fun _ => ⟨by omega, e3⟩)]
        cases hg : gp (i + 1) (L.drop (i + 1)) with
        | none => rfl
        | some p =>
          simp only [res, Option.map_some, Option.some.injEq, Prod.mk.injEq, and_true]
          refine ⟨?_, by omega⟩
          rw [Int.pow_succ, Int.mul_add, Int.mul_assoc]; omega
      · have hn : L.drop (i + 1) = [] := List.drop_eq_nil_of_le (by omega)
        rw [ih k (i + 1) _ (by omega) (by omega) (fun h => by omega), hn]; rfl
    · rw [if_neg h128, if_neg h128]
      by_cases hz : c = 0 ∧ 0 < i
      · rw [if_pos hz.1, if_pos (by omega), if_pos (.inl hz)]; rfl
      · by_cases h9 : i = 9 ∧ 1 < c
        · rw [if_neg (show ¬ c = 0 by omega), if_pos (show (i : Int) = 9 by omega), if_pos h9.2, if_pos (show (c = 0 ∧ 0 < i) ∨ (i = 9 ∧ 1 < c) from .inr h9)]; rfl
        · rw [if_neg (show ¬ ((c = 0 ∧ 0 < i) ∨ (i = 9 ∧ 1 < c)) by omega)]
          have hv : bits .or .u64 a (shl .u64 (c % 128) (((7 * i : Nat) : Int))) = a + 128 ^ i * c := by
            rw [show c % 128 = c by omega]
            by_cases h8 : i ≤ 8
            · exact (acc_next h8 ha0 ha1 (by omega) (by omega)).1
            · have hi9 : i = 9 := by omega
              subst hi9
              rw [show (((7 * 9 : Nat)) : Int) = 63 from rfl, shl9 hx.1 (by omega), or_add a c 63 (by omega) ha0 (by rw [← pow7] at ha1; exact ha1) hx.1 (by rw [show (2 : Int) ^ 63 = 9223372036854775808 from rfl]; omega)]
              rfl
          rw [hv]
          have hr : some (a + 128 ^ i * c, ((i + 1 : Nat) : Int), true) = some (res (some (c, 1)) a i) := rfl
          by_cases hc0 : c = 0
          · rw [if_pos hc0, if_neg (by omega)]
            by_cases hi9 : (i : Int) = 9
            · rw [if_pos hi9, if_neg (by omega)]; exact hr
            · rw [if_neg hi9]; exact hr
          · rw [if_neg hc0]
            by_cases hi9 : (i : Int) = 9
            · rw [if_pos hi9, if_neg (by omega)]; exact hr
            · rw [if_neg hi9]; exact hr
theorem res0 (x : Option (Int × Nat)) : res x 0 0 = match x with | some (n, s) => (n, (s : Int), true) | none => (0, 0, false) := by
  cases x with
  | none => rfl
  | some p => simp [res]
theorem getvar_is {l : List Int} (hb : Bytes l) (hl : l.length ≤ 140737488355328) (k : Nat) (hk : 11 < k) : octets_GetVar.f k l = some (res (gp 0 (l.take 10)) 0 0) := by
  unfold octets_GetVar.f
  have e : (mn (l.length : Int) 10).toNat = min l.length 10 := by unfold mn; omega
  have e2 : l.take (mn (l.length : Int) 10).toNat = l.take 10 := by
    rw [e]
    by_cases h : l.length ≤ 10
    · rw [Nat.min_eq_left h, List.take_length, List.take_of_length_le h]
    · rw [Nat.min_eq_right (by omega)]
  rw [if_pos (by unfold mn; omega), if_pos (by unfold mn; omega), e2]
  have h10 : (l.take 10).length ≤ 10 := by rw [List.length_take]; omega
  exact getvar_loop (hb.take 10) h10 (l.take 10).length k 0 0 (by omega) (by omega) (fun _ => ⟨by omega, by simp⟩)
end Go.Proofs.Ytpnohgolpeocaaa.Oct
