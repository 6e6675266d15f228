/- What the reference's PutVar and GetVar come to: the same. Conditions: bytes; numbers of sixty-four bits. -/
import Derived.Test.YtpnohgolpeocaaaOctV
import Derived.Test.YtpnohgolpeocaaaPAllx2
import Derived.Test.YtpnohgolpeocaaaPAllx3
namespace Go.Proofs.Ytpnohgolpeocaaa.Oct
open Go.RowKit Go.Proofs.Ytpnohgolpeocaaa.PAll Go.Proofs.YtpnohgolpeocaaaW.PrintWords Go.Proofs.YtpnohgolpeocaaaW.PrintLast Go.Proofs.YtpnohgolpeocaaaW.PrintMore

theorem ref_putvar_loop (f : Nat) : ∀ (k : Nat) (x : Int) (acc : List Int), 0 ≤ x → x < 2 * 128 ^ f → x < 18446744073709551616 → acc.length + f + 1 < 140737488355328 → f < k →
    cartageref01_PutVar.l0 k x acc = some (acc ++ vd f x) := by
  induction f with
  | zero =>
    intro k x acc h0 h1 h2 hl hk
    obtain ⟨k, rfl⟩ : ∃ m, k = m + 1 := ⟨k - 1, by omega⟩
    have : x < 2 := by simpa using h1
    simp only [cartageref01_PutVar.l0]
    rw [if_neg (by omega), if_pos (by omega)]; rfl
  | succ f ih =>
    intro k x acc h0 h1 h2 hl hk
    obtain ⟨k, rfl⟩ : ∃ m, k = m + 1 := ⟨k - 1, by omega⟩
    simp only [cartageref01_PutVar.l0, vd]
    by_cases hx : x ≥ 128
    · rw [if_pos hx, if_pos (by omega), if_pos hx, Int.tdiv_eq_ediv_of_nonneg h0, Int.tmod_eq_emod_of_nonneg h0, u64_in (x := x / 128) (by omega) (by omega),
        ih k (x / 128) _ (by omega) (by rw [Int.pow_succ] at h1; omega) (by omega) (by simp; omega) (by omega)]
      rw [show (x % 128 + 128) % 256 = x % 128 + 128 by omega]; simp
    · rw [if_neg hx, if_neg hx, if_pos (by omega)]
theorem ref_putvar_is (k : Nat) (l : List Int) (x : Int) (h0 : 0 ≤ x) (h1 : x < 18446744073709551616) (hl : l.length + 10 < 140737488355328) (hk : 9 < k) : cartageref01_PutVar.f k l x = some (l ++ vd 9 x) := by
  unfold cartageref01_PutVar.f
  simp only [Option.bind_some, List.nil_append]
  rw [if_pos (by simp; omega)]
  exact ref_putvar_loop 9 k x l h0 (by rw [show (2 : Int) * 128 ^ 9 = 18446744073709551616 from rfl]; exact h1) h1 (by omega) hk

/-- The number of digits that go on. -/
def val : List Int → Int
  | [] => 0
  | c :: r => c % 128 + 128 * val r
theorem val_lt : ∀ (l : List Int), 0 ≤ val l ∧ val l < 128 ^ l.length := by
  intro l
  induction l with
  | nil => simp [val]
  | cons c r ih => simp only [val, List.length_cons, Int.pow_succ]; omega
theorem val_snoc (c : Int) : ∀ (l : List Int), val (l ++ [c]) = val l + 128 ^ l.length * (c % 128) := by
  intro l
  induction l with
  | nil => simp [val]
  | cons d r ih =>
    simp only [List.cons_append, val, ih, List.length_cons, Int.pow_succ]
    rw [Int.mul_comm (128 ^ r.length) 128, Int.mul_add, Int.mul_assoc, Int.add_assoc]
theorem vd_val (c : Int) (h0 : 0 ≤ c) (h1 : c < 128) : ∀ (l : List Int) (f : Nat), (∀ d ∈ l, 128 ≤ d ∧ d ≤ 255) → (l ≠ [] → c ≠ 0) → l.length ≤ f → vd f (val l + 128 ^ l.length * c) = l ++ [c] := by
  intro l
  induction l with
  | nil =>
    intro f _ _ _
    simp only [val, List.length_nil, Int.pow_zero, Int.one_mul, Int.zero_add, List.nil_append]
    cases f with
    | zero => simp only [vd]; rw [show c % 256 = c by omega]
    | succ f => simp only [vd]; rw [if_neg (by omega), show c % 256 = c by omega]
  | cons d r ih =>
    intro f hd hc hf
    have hd1 := hd d (by simp)
    have hc1 := hc (by simp)
    cases f with
    | zero => simp at hf
    | succ f =>
      have hp : (0 : Int) < 128 ^ r.length := Int.pow_pos (by omega)
      have hy : 1 ≤ 128 ^ r.length * c := Int.le_trans (by omega) (Int.mul_le_mul (show 1 ≤ 128 ^ r.length by omega) (show 1 ≤ c by omega) (by omega) (by omega))
      have hv := val_lt r
      have e : val (d :: r) + 128 ^ (d :: r).length * c = d % 128 + 128 * (val r + 128 ^ r.length * c) := by
        simp only [val, List.length_cons, Int.pow_succ]
        rw [Int.mul_comm (128 ^ r.length) 128, Int.mul_add, Int.mul_assoc, Int.add_assoc]
      rw [e]
      generalize hq : val r + 128 ^ r.length * c = y
      have hy1 : 1 ≤ y := by omega
      simp only [vd]
      rw [if_pos (by omega), show (d % 128 + 128 * y) % 128 + 128 = d by omega, show (d % 128 + 128 * y) / 128 = y by omega, ← hq,
        ih f (fun x hx => hd x (by simp [hx])) (fun _ => hc1) (by simpa using hf)]
      rfl

theorem ref_getvar_loop {l : List Int} (hb : Bytes l) (hl : l.length ≤ 140737488351232) (d : Nat) : ∀ (k i : Nat) (a : Int), i + d = 10 → i ≤ l.length → 2 * d + 12 < k → (∀ c ∈ l.take i, 128 ≤ c) → (i ≤ 9 → a = val (l.take i)) →
    cartageref01_GetVar.l0 k l a (i : Int) = some (res (gp i ((l.take 10).drop i)) a i) := by
  induction d with
  | zero =>
    intro k i a hd hi hk hh ha
    obtain ⟨k, rfl⟩ : ∃ m, k = m + 1 + 1 := ⟨k - 2, by omega⟩
    rw [List.drop_eq_nil_of_le (by rw [List.length_take]; omega)]
    have hf : cartageref01_GetVar.j1 (k + 1) l a (i : Int) false = some (res (gp i []) a i) := by simp only [cartageref01_GetVar.j1]; rw [if_neg (by simp)]; rfl
    generalize hq : k + 1 = q at hf ⊢
    simp only [cartageref01_GetVar.l0]
    rw [decide_eq_false (by omega)]
    split <;> exact hf
  | succ d ih =>
    intro k i a hd hi hk hh ha
    obtain ⟨k, rfl⟩ : ∃ m, k = m + 1 + 1 := ⟨k - 2, by omega⟩
    by_cases hlen : i < l.length
    · have hj : cartageref01_GetVar.l0 (k + 1 + 1) l a (i : Int) = cartageref01_GetVar.j1 (k + 1) l a (i : Int) true := by
        generalize k + 1 = q
        simp only [cartageref01_GetVar.l0]
        rw [if_pos (by omega), decide_eq_true (by omega)]
      obtain ⟨c, hc⟩ : ∃ c, c = l[i] := ⟨_, rfl⟩
      have hx := hb _ (List.getElem_mem hlen)
      rw [← hc] at hx
      have e : rd l (i : Int) = c := by unfold rd; rw [Int.toNat_natCast, List.getD_eq_getElem?_getD, List.getElem?_eq_getElem hlen, hc]; rfl
      have hdr : (l.take 10).drop i = c :: (l.take 10).drop (i + 1) := by
        rw [List.drop_eq_getElem_cons (by rw [List.length_take]; omega), List.getElem_take, hc]
      have htk : l.take (i + 1) = l.take i ++ [c] := by rw [List.take_succ_eq_append_getElem hlen, hc]
      have htl : (l.take i).length = i := by rw [List.length_take]; omega
      have hv := val_lt (l.take i)
      rw [htl] at hv
      have hai := ha (by omega)
      rw [hj, hdr]
      simp only [cartageref01_GetVar.j1]
      rw [if_pos trivial, if_pos (by omega), if_pos (by omega), e, wrap_in (x := 7 * (i : Int)) (by omega) (by omega), wrap_in (x := (i : Int) + 1) (by omega) (by omega), u64_in (x := 7 * (i : Int)) (by omega) (by omega), if_pos (by omega),
        show (7 * (i : Int)) = ((7 * i : Nat) : Int) by omega, Int.tmod_eq_emod_of_nonneg hx.1, u64_in (x := c % 128) (by omega) (by omega), show ((i : Int) + 1) = ((i + 1 : Nat) : Int) by omega]
      simp only [gp]
      by_cases h128 : c ≥ 128
      · rw [if_neg (by omega), if_pos h128]
        by_cases h8 : i ≤ 8
        · obtain ⟨s1, s2⟩ := shl7 h8 (show 0 ≤ c % 128 by omega) (by omega)
          have an := acc_next h8 hv.1 hv.2 (show 0 ≤ c % 128 by omega) (by omega)
          have hp8 : (128 : Int) ^ (i + 1) ≤ 9223372036854775808 := by
            have h := Nat.pow_le_pow_right (show 0 < 128 by decide) (show i + 1 ≤ 9 by omega)
            rw [show (128 : Nat) ^ 9 = 9223372036854775808 from rfl] at h
            have h' := Int.ofNat_le.2 h
            rw [Int.natCast_pow] at h'
            exact h'
          have hm : (0 : Int) ≤ 128 ^ i * (c % 128) := Int.mul_nonneg (Int.le_of_lt (Int.pow_pos (by omega))) (by omega)
          rw [s1, pow7, hai, u64_in (x := val (l.take i) + 128 ^ i * (c % 128)) (by omega) (by omega)]
          have hvn : val (l.take (i + 1)) = val (l.take i) + 128 ^ i * (c % 128) := by rw [htk, val_snoc, htl]
          rw [ih k (i + 1) _ (by omega) (by omega) (by omega) (fun x hx2 => by
            rw [htk] at hx2
            rcases List.mem_append.1 hx2 with h | h
            · exact hh x h
            · have := List.mem_singleton.1 h; omega) (fun _ => hvn.symm)]
          cases hg : gp (i + 1) ((l.take 10).drop (i + 1)) with
          | none => rfl
          | some p =>
            simp only [res, Option.map_some, Option.some.injEq, Prod.mk.injEq, and_true]
            refine ⟨?_, by omega⟩
            rw [Int.pow_succ, Int.mul_add, Int.mul_assoc]; omega
        · have hn : (l.take 10).drop (i + 1) = [] := List.drop_eq_nil_of_le (by rw [List.length_take]; omega)
          rw [ih k (i + 1) _ (by omega) (by omega) (by omega) (fun x hx2 => by
            rw [htk] at hx2
            rcases List.mem_append.1 hx2 with h | h
            · exact hh x h
            · have := List.mem_singleton.1 h; omega) (fun h => by omega), hn]
          rfl
      · rw [if_pos (by omega), if_neg h128]
        obtain ⟨n, hn⟩ : ∃ n, n = IntKind.u64.wrap (a + shl .u64 (c % 128) (((7 * i : Nat) : Int))) := ⟨_, rfl⟩
        have hn0 : 0 ≤ n ∧ n < 18446744073709551616 := by rw [hn, u64_is]; omega
        rw [← hn, ref_putvar_is k [] n hn0.1 hn0.2 (by simp) (by omega)]
        simp only [Option.bind_some, List.nil_append]
        rw [if_pos (by omega), if_pos (by omega), Int.toNat_natCast]
        have hs := str_eq (vd_bytes 9 n) (hb.take (i + 1))
        by_cases hbad : (c = 0 ∧ 0 < i) ∨ (i = 9 ∧ 1 < c)
        · rw [if_pos hbad, if_neg (fun h => by
            have h2 := hs.1 h
            rw [htk] at h2
            have h3 := vd_last 9 n (l.take i) c hn0.1 (by rw [show (2 : Int) * 128 ^ 9 = 18446744073709551616 from rfl]; exact hn0.2) h2
            rcases hbad with ⟨h4, h5⟩ | ⟨h4, h5⟩
            · exact h3.1 (fun h6 => by rw [h6] at htl; simp at htl; omega) h4
            · have := h3.2.2.2.2 (by omega); omega)]
          rfl
        · rw [if_neg hbad]
          have hn2 : n = a + 128 ^ i * c := by
            rw [hn, show c % 128 = c by omega, hai]
            by_cases h8 : i ≤ 8
            · obtain ⟨s1, s2⟩ := shl7 h8 hx.1 (by omega)
              have an := acc_next h8 hv.1 hv.2 hx.1 (by omega)
              have hp8 : (128 : Int) ^ (i + 1) ≤ 9223372036854775808 := by
                have h := Nat.pow_le_pow_right (show 0 < 128 by decide) (show i + 1 ≤ 9 by omega)
                rw [show (128 : Nat) ^ 9 = 9223372036854775808 from rfl] at h
                have h' := Int.ofNat_le.2 h
                rw [Int.natCast_pow] at h'
                exact h'
              have hm : (0 : Int) ≤ 128 ^ i * c := Int.mul_nonneg (Int.le_of_lt (Int.pow_pos (by omega))) hx.1
              rw [s1, pow7, u64_in (x := val (l.take i) + 128 ^ i * c) (by omega) (by omega)]
            · have hi9 : i = 9 := by omega
              subst hi9
              have h63 : (128 : Int) ^ 9 = 9223372036854775808 := by decide +kernel
              rw [h63] at hv ⊢
              rw [show (((7 * 9 : Nat)) : Int) = 63 from rfl, shl9 hx.1 (by omega), show (2 : Int) ^ 63 = 9223372036854775808 by decide +kernel, u64_in (by omega) (by omega)]
          have heq : vd 9 n = l.take (i + 1) := by
            have h3 := vd_val c hx.1 (by omega) (l.take i) 9 (fun x hx2 => ⟨hh x hx2, (hb x (List.mem_of_mem_take hx2)).2⟩) (fun h4 h5 => hbad (.inl ⟨h5, by
              rcases Nat.eq_zero_or_pos i with h6 | h6
              · subst h6; simp at h4
              · exact h6⟩)) (by omega)
            rw [htl] at h3
            rw [hn2, hai, h3, htk]
          rw [if_pos (hs.2 heq), hn2]
          rfl
    · have hj : cartageref01_GetVar.l0 (k + 1 + 1) l a (i : Int) = cartageref01_GetVar.j1 (k + 1) l a (i : Int) false := by
        generalize k + 1 = q
        simp only [cartageref01_GetVar.l0]
        rw [if_neg (by omega)]
      rw [hj, List.drop_eq_nil_of_le (by rw [List.length_take]; omega)]
      simp only [cartageref01_GetVar.j1]; rw [if_neg (by simp)]; rfl
theorem ref_getvar_is {l : List Int} (hb : Bytes l) (hl : l.length ≤ 140737488351232) (k : Nat) (hk : 40 < k) : cartageref01_GetVar.f k l = some (res (gp 0 (l.take 10)) 0 0) :=
  ref_getvar_loop hb hl 10 k 0 0 rfl (by omega) (by omega) (fun c hc => by simp at hc) (fun _ => by simp [val])
end Go.Proofs.Ytpnohgolpeocaaa.Oct
