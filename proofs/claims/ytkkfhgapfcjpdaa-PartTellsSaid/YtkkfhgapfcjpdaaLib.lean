/- Plain laws of layer 11: what Bounds, Of and the reference's come to, over whole numbers. Conditions: the numbers of vertices and shards that may be. -/
import Derived.Test.YtkkfhgapfcjpdaaPAllx1
namespace Go.Proofs.Ytkkfhgapfcjpdaa.Lib
open Go.RowKit Go.Proofs.Ytkkfhgapfcjpdaa.PAll Go.Proofs.YtkkfhgapfcjpdaaW.PrintWords Go.Proofs.YtkkfhgapfcjpdaaW.PrintLast

/-- How many vertices, and shards, may be. -/
def may (n s : Int) : Prop := 0 ≤ n ∧ n ≤ 1048576 ∧ 1 ≤ s ∧ s ≤ 4096
/-- Where interval i begins. -/
def B (n s i : Int) : Int := i * n / s
def bs (n s : Int) (m : Nat) : List Int := (List.range m).map fun (i : Nat) => B n s i

theorem wrap_in {x : Int} (h0 : -9223372036854775808 ≤ x) (h1 : x ≤ 9223372036854775807) : wrap64 x = x := by unfold wrap64; omega

theorem bs_length (n s : Int) (m : Nat) : (bs n s m).length = m := by simp [bs]
theorem bs_succ (n s : Int) (m : Nat) : bs n s (m + 1) = bs n s m ++ [B n s m] := by simp [bs, List.range_succ]
theorem bs_rd (n s : Int) (m : Nat) (i : Int) (h0 : 0 ≤ i) (h1 : i < m) : rd (bs n s m) i = B n s i := by
  unfold rd bs
  rw [List.getD_eq_getElem?_getD, List.getElem?_map, List.getElem?_range (by omega)]
  simp; rw [show max i 0 = i by omega]

theorem B_lo {n s i : Int} (h : may n s) (h0 : 0 ≤ i) : 0 ≤ B n s i := Int.ediv_nonneg (Int.mul_nonneg h0 h.1) (by have := h.2.2.1; omega)
theorem mul_hi {n s i : Int} (h : may n s) (h0 : 0 ≤ i) (h1 : i ≤ s) : 0 ≤ i * n ∧ i * n ≤ 4294967296 :=
  ⟨Int.mul_nonneg h0 h.1, Int.le_trans (Int.mul_le_mul (show i ≤ 4096 by have := h.2.2.2; omega) h.2.1 h.1 (by omega)) (by omega)⟩
theorem B_mono {n s i j : Int} (h : may n s) (hij : i ≤ j) : B n s i ≤ B n s j :=
  Int.ediv_le_ediv (by have := h.2.2.1; omega) (Int.mul_le_mul_of_nonneg_right hij h.1)
theorem B_top {n s : Int} (h : may n s) : B n s s = n := Int.mul_ediv_cancel_left n (by have := h.2.2.1; omega)
theorem B_zero (n s : Int) : B n s 0 = 0 := by simp [B]

theorem bound_is {n s i : Int} (h : may n s) (h0 : 0 ≤ i) (h1 : i ≤ s) : part_bound.f n s i = some (B n s i) := part_Of.bound_is n s i h.1 h.2.1 h.2.2.1 h.2.2.2 h0 h1

theorem right_yes {n s : Int} (h : may n s) : part_right.f n s = some true := by
  rw [part_Of.right_is]; exact congrArg some (decide_eq_true h)
theorem right_no {n s : Int} (h : ¬ may n s) : part_right.f n s = some false := by
  rw [part_Of.right_is]; exact congrArg some (decide_eq_false h)
theorem ref_right_yes {n s : Int} (h : may n s) : cartageref11_Right.f n s = some true := right_yes h
theorem ref_right_no {n s : Int} (h : ¬ may n s) : cartageref11_Right.f n s = some false := right_no h

theorem set_at (l : List Int) (m : Nat) (x : Int) (hm : 0 < m) : (l ++ List.replicate m 0).set l.length x = l ++ [x] ++ List.replicate (m - 1) 0 := by
  obtain ⟨m, rfl⟩ : ∃ j, m = j + 1 := ⟨m - 1, by omega⟩
  simp [List.replicate_succ]

theorem bounds_loop {n s : Int} (h : may n s) (d : Nat) : ∀ (k i : Nat), i + d = s.toNat + 1 → d < k →
    part_Bounds.l0 k n s (bs n s i ++ List.replicate d 0) ((s.toNat + 1 : Nat) : Int) (i : Int) = some (bs n s (s.toNat + 1), 0) := by
  have hs := h.2.2.1
  have hs2 := h.2.2.2
  induction d with
  | zero =>
    intro k i hd hk
    obtain ⟨k, rfl⟩ : ∃ m, k = m + 1 := ⟨k - 1, by omega⟩
    simp only [part_Bounds.l0]
    rw [if_neg (by omega)]
    obtain rfl : i = s.toNat + 1 := by omega
    simp
  | succ d ih =>
    intro k i hd hk
    obtain ⟨k, rfl⟩ : ∃ m, k = m + 1 := ⟨k - 1, by omega⟩
    simp only [part_Bounds.l0]
    rw [if_pos (by omega), bound_is h (by omega) (by omega)]
    simp only [Option.bind_some]
    rw [if_pos (by omega), if_pos (by simp [bs_length]; omega)]
    have e : (bs n s i ++ List.replicate (d + 1) 0).set (i : Int).toNat (B n s i) = bs n s (i + 1) ++ List.replicate d 0 := by
      have := set_at (bs n s i) (d + 1) (B n s i) (by omega)
      rw [bs_length] at this
      rw [Int.toNat_natCast, this, bs_succ]; simp
    rw [e, wrap_in (by omega) (by omega), show ((i : Int) + 1) = ((i + 1 : Nat) : Int) by omega]
    exact ih k (i + 1) (by omega) (by omega)

theorem bounds_is {n s : Int} (h : may n s) (k : Nat) (hk : s.toNat + 1 < k) : part_Bounds.f k n s = some (bs n s (s.toNat + 1), 0) := by
  have hs := h.2.2.1
  have hs2 := h.2.2.2
  unfold part_Bounds.f
  rw [right_yes h]
  simp only [Option.bind_some, if_true]
  rw [wrap_in (by omega) (by omega), if_pos (by omega), if_pos (by omega), show (s + 1).toNat = s.toNat + 1 by omega, List.length_replicate]
  have := bounds_loop h (s.toNat + 1) k 0 (by omega) hk
  simpa [bs] using this
theorem bounds_not {n s : Int} (h : ¬ may n s) (k : Nat) : part_Bounds.f k n s = some ([], 1) := by
  unfold part_Bounds.f
  rw [right_no h]; rfl

theorem ref_loop {n s : Int} (h : may n s) (d : Nat) : ∀ (k i : Nat), i + d = s.toNat + 1 → d < k →
    cartageref11_Bounds.l0 k n s (bs n s i) (i : Int) = some (bs n s (s.toNat + 1)) := by
  have hs := h.2.2.1
  have hs2 := h.2.2.2
  induction d with
  | zero =>
    intro k i hd hk
    obtain ⟨k, rfl⟩ : ∃ m, k = m + 1 := ⟨k - 1, by omega⟩
    simp only [cartageref11_Bounds.l0]
    rw [if_neg (by omega)]
    obtain rfl : i = s.toNat + 1 := by omega
    rfl
  | succ d ih =>
    intro k i hd hk
    obtain ⟨k, rfl⟩ : ∃ m, k = m + 1 := ⟨k - 1, by omega⟩
    have hm := mul_hi h (show (0 : Int) ≤ i by omega) (by omega)
    have hB := bound_is h (show (0 : Int) ≤ i by omega) (by omega)
    unfold part_bound.f at hB
    rw [if_neg (by omega)] at hB
    simp only [cartageref11_Bounds.l0]
    rw [if_pos (by omega), if_neg (by omega), if_pos (by rw [bs_length]; omega), Option.some.inj hB, wrap_in (by omega) (by omega), show ((i : Int) + 1) = ((i + 1 : Nat) : Int) by omega, ← bs_succ]
    exact ih k (i + 1) (by omega) (by omega)
theorem ref_bounds_is {n s : Int} (h : may n s) (k : Nat) (hk : s.toNat + 1 < k) : cartageref11_Bounds.f k n s = some (bs n s (s.toNat + 1)) :=
  ref_loop h (s.toNat + 1) k 0 (by omega) hk

/-- The interval of a vertex. -/
def at_ (n s v : Int) : Int := ((v + 1) * s - 1) / n
theorem at_iff {n s v : Int} (h : may n s) (h0 : 0 ≤ v) (h1 : v < n) (i : Int) : i ≤ at_ n s v ↔ B n s i ≤ v :=
  part_Of.div_iff n s v i (by omega) (by have := h.2.2.1; omega)
theorem at_lo {n s v : Int} (h : may n s) (h0 : 0 ≤ v) (h1 : v < n) : 0 ≤ at_ n s v := (at_iff h h0 h1 0).2 (by rw [B_zero]; exact h0)
theorem at_hi {n s v : Int} (h : may n s) (h0 : 0 ≤ v) (h1 : v < n) : at_ n s v < s := by
  have := mt (at_iff h h0 h1 s).1 (by rw [B_top h]; omega)
  omega
theorem of_is {n s v : Int} (h : may n s) (h0 : 0 ≤ v) (h1 : v < n) : part_Of.f n s v = some (at_ n s v, 0) := by
  unfold part_Of.f
  rw [if_pos ⟨h.1, h.2.1, h.2.2.1, h.2.2.2, h0, h1⟩]; rfl
theorem of_not {n s v : Int} (h : ¬ (may n s ∧ 0 ≤ v ∧ v < n)) : part_Of.f n s v = some (0, 1) := by
  unfold part_Of.f
  rw [if_neg (fun x => h ⟨⟨x.1, x.2.1, x.2.2.1, x.2.2.2.1⟩, x.2.2.2.2⟩)]

theorem ref_of_loop {n s v : Int} (h : may n s) (h0 : 0 ≤ v) (h1 : v < n) (d : Nat) : ∀ (k i : Nat), (i : Int) + d = at_ n s v → d < k →
    cartageref11_Of.l0 k n s v (i : Int) = some (at_ n s v) := by
  have hs := h.2.2.1
  have hs2 := h.2.2.2
  have hh := at_hi h h0 h1
  induction d with
  | zero =>
    intro k i hd hk
    obtain ⟨k, rfl⟩ : ∃ m, k = m + 1 := ⟨k - 1, by omega⟩
    have hB := bound_is h (show (0 : Int) ≤ (i : Int) + 1 by omega) (by omega)
    unfold part_bound.f at hB
    rw [if_neg (by omega)] at hB
    have hn := mt (at_iff h h0 h1 ((i : Int) + 1)).2 (by omega)
    simp only [cartageref11_Of.l0]
    rw [if_neg (by omega), wrap_in (x := (i : Int) + 1) (by omega) (by omega), Option.some.inj hB, if_neg hn]
    congr 1
  | succ d ih =>
    intro k i hd hk
    obtain ⟨k, rfl⟩ : ∃ m, k = m + 1 := ⟨k - 1, by omega⟩
    have hB := bound_is h (show (0 : Int) ≤ (i : Int) + 1 by omega) (by omega)
    unfold part_bound.f at hB
    rw [if_neg (by omega)] at hB
    have hy := (at_iff h h0 h1 ((i : Int) + 1)).1 (by omega)
    simp only [cartageref11_Of.l0]
    rw [if_neg (by omega), wrap_in (x := (i : Int) + 1) (by omega) (by omega), Option.some.inj hB, if_pos hy, show ((i : Int) + 1) = ((i + 1 : Nat) : Int) by omega]
    exact ih k (i + 1) (by omega) (by omega)
theorem ref_of_is {n s v : Int} (h : may n s) (h0 : 0 ≤ v) (h1 : v < n) (k : Nat) (hk : s.toNat < k) : cartageref11_Of.f k n s v = some (at_ n s v) :=
  ref_of_loop h h0 h1 (at_ n s v).toNat k 0 (by have := at_lo h h0 h1; omega) (by have := at_lo h h0 h1; have := at_hi h h0 h1; omega)

theorem shown_is (k : Nat) (hk : 4 ≤ k) : cartagelaw11_shown.f k = some true :=
  at_rounds cartagelaw11_shown.mono hk (show cartagelaw11_shown.f 4 = some true by decide +kernel)

theorem and_i64 (x : Int) (m : Nat) (hm : m < 9223372036854775808) : 0 ≤ bits .and .i64 x m ∧ bits .and .i64 x m ≤ m := by
  have e : bits .and .i64 x m = wrap64 (((BitVec.ofInt 64 x &&& BitVec.ofInt 64 (m : Int)).toNat : Nat) : Int) := by
    rw [← i64_w]; rfl
  have hb : (BitVec.ofInt 64 x &&& BitVec.ofInt 64 (m : Int)).toNat ≤ m := by
    rw [BitVec.toNat_and, BitVec.ofInt_natCast, BitVec.toNat_ofNat]
    exact Nat.le_trans Nat.and_le_right (Nat.mod_le _ _)
  rw [e]
  generalize (BitVec.ofInt 64 x &&& BitVec.ofInt 64 (m : Int)).toNat = q at hb
  rw [wrap_in (by omega) (by omega)]
  omega
/-- 'x & m', counted round. -/
theorem and_mod (x : Int) (m : Nat) (hm : m < 9223372036854775808) (q : Int) (hq : 0 < q) : 0 ≤ Int.tmod (bits .and .i64 x m) q ∧ Int.tmod (bits .and .i64 x m) q < q := by
  have := (and_i64 x m hm).1
  rw [Int.tmod_eq_emod_of_nonneg this]
  exact ⟨Int.emod_nonneg _ (by omega), Int.emod_lt_of_pos _ hq⟩
end Go.Proofs.Ytkkfhgapfcjpdaa.Lib
