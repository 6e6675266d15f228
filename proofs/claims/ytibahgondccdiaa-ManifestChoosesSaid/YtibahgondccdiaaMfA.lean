/- Manifests, over numbers and lists alone: which are right, and their bytes. -/
import Derived.Test.YtibahgondccdiaaBlkA
import Derived.Test.YtibahgondccdiaaPAllx2
namespace Go.Proofs.Ytibahgondccdiaa.Oct
open Go.RowKit Go.Proofs.Ytibahgondccdiaa.PAll Go.Proofs.YtibahgondccdiaaW.PrintWords Go.Proofs.YtibahgondccdiaaW.PrintLast Go.Proofs.YtibahgondccdiaaW.PrintMore

structure Mf where
  s : Int
  n : Int
  h : Int
  t : Int
  k : Int
  p : Int
def Mf.zero : Mf := ⟨0, 0, 0, 0, 0, 0⟩
/-- The numbers are of their kinds. -/
structure Mf.Wf (m : Mf) : Prop where
  s : 0 ≤ m.s ∧ m.s < 18446744073709551616
  n : -9223372036854775808 ≤ m.n ∧ m.n < 9223372036854775808
  h : -9223372036854775808 ≤ m.h ∧ m.h < 9223372036854775808
  t : -9223372036854775808 ≤ m.t ∧ m.t < 9223372036854775808
  k : -9223372036854775808 ≤ m.k ∧ m.k < 9223372036854775808
  p : 0 ≤ m.p ∧ m.p < 4294967296
def Mf.Right (m : Mf) : Prop := (0 ≤ m.n ∧ m.n ≤ 1048576) ∧ (1 ≤ m.h ∧ m.h ≤ 4096) ∧ m.s ≠ 0 ∧ (-1 ≤ m.t ∧ m.t ≤ 1099511627776) ∧ (m.t = -1 → m.k = 0 ∧ m.p = 0) ∧ (m.t ≠ -1 → 1 ≤ m.k ∧ m.k ≤ 5 ∧ ((m.k = 1 ∨ m.k = 3) → m.p < m.n))
instance (m : Mf) : Decidable m.Right := by unfold Mf.Right; infer_instance
def Mf.right (m : Mf) : Bool := decide m.Right

/-! ### the program's Right -/
theorem pr_is (a b : Int) : part_right.f a b = some (decide ((0 ≤ a ∧ a ≤ 1048576) ∧ (1 ≤ b ∧ b ≤ 4096))) := by
  unfold part_right.f
  by_cases h1 : a ≥ 0
  · by_cases h2 : a ≤ 1048576
    · by_cases h3 : b ≥ 1
      · rw [if_pos h1, if_pos h2, if_pos h3]
        congr 1
        by_cases h4 : b ≤ 4096
        · rw [decide_eq_true h4, decide_eq_true (by omega)]
        · rw [decide_eq_false h4, decide_eq_false (by omega)]
      · rw [if_pos h1, if_pos h2, if_neg h3, decide_eq_false (by omega)]
    · rw [if_pos h1, if_neg h2, decide_eq_false (by omega)]
  · rw [if_neg h1, decide_eq_false (by omega)]
theorem bounds_loop {a b : Int} (hb : b ≠ 0) (d : Nat) : ∀ (k : Nat) (l : List Int) (i : Nat), i + d = l.length → l.length ≤ 5000 → d < k → ∃ l', part_Bounds.l0 k a b l (l.length : Int) (i : Int) = some (l', 0) := by
  induction d with
  | zero =>
    intro k l i hd hl hk
    obtain ⟨k, rfl⟩ : ∃ m, k = m + 1 := ⟨k - 1, by omega⟩
    simp only [part_Bounds.l0]
    rw [if_neg (by omega)]
    exact ⟨l, rfl⟩
  | succ d ih =>
    intro k l i hd hl hk
    obtain ⟨k, rfl⟩ : ∃ m, k = m + 1 := ⟨k - 1, by omega⟩
    simp only [part_Bounds.l0, part_bound.f]
    rw [if_pos (by omega), if_neg hb, Option.bind_some, if_pos (by omega), if_pos (by omega), wrap_in (x := (i : Int) + 1) (by omega) (by omega), show ((i : Int) + 1) = ((i + 1 : Nat) : Int) by omega]
    have h := ih k (l.set (i : Int).toNat (wrap64 (Int.tdiv (wrap64 ((i : Int) * a)) b))) (i + 1) (by rw [List.length_set]; omega) (by rw [List.length_set]; omega) (by omega)
    rwa [List.length_set] at h
theorem bounds_is (a b : Int) (k : Nat) (hk : 4200 < k) : ∃ l, part_Bounds.f k a b = some (l, if (0 ≤ a ∧ a ≤ 1048576) ∧ (1 ≤ b ∧ b ≤ 4096) then 0 else 1) := by
  unfold part_Bounds.f
  rw [pr_is, Option.bind_some]
  by_cases h : (0 ≤ a ∧ a ≤ 1048576) ∧ (1 ≤ b ∧ b ≤ 4096)
  · rw [decide_eq_true h, if_pos rfl, wrap_in (by omega) (by omega), if_pos (by omega), if_pos (by omega), Option.bind_some, if_pos h]
    exact bounds_loop (by omega) (b + 1).toNat k _ 0 (by simp) (by rw [List.length_replicate]; omega) (by omega)
  · rw [decide_eq_false h, if_neg (by simp), if_neg h]
    exact ⟨[], rfl⟩
theorem tr_is (k p n : Int) (hp : 0 ≤ p ∧ p < 4294967296) : trace_Right.f k p n = some (decide ((1 ≤ k ∧ k ≤ 5) ∧ (0 ≤ n ∧ n ≤ 1048576) ∧ ((k = 1 ∨ k = 3) → p < n))) := by
  unfold trace_Right.f
  rw [wrap_in (x := p) (by omega) (by omega)]
  repeat' split
  all_goals
    apply congrArg some
    rw [Bool.eq_iff_iff]
    simp only [decide_eq_true_eq, Bool.false_eq_true, false_iff, true_iff]
    omega
theorem mright_is {m : Mf} (w : m.Wf) (k : Nat) (hk : 4300 < k) : manifest_Right.f k m.s m.n m.h m.t m.k m.p = some m.right := by
  obtain ⟨k, rfl⟩ : ∃ q, k = q + 1 := ⟨k - 1, by omega⟩
  obtain ⟨l, hl⟩ := bounds_is m.n m.h (k + 1) (by omega)
  unfold manifest_Right.f Mf.right
  rw [hl, Option.bind_some]
  have ht : ∀ x0 x1 x2 x3 x4 x5, manifest_Right.j0 (k + 1) true x0 x1 x2 x3 x4 x5 = some false := fun x0 x1 x2 x3 x4 x5 => by simp [manifest_Right.j0]
  by_cases h1 : (0 ≤ m.n ∧ m.n ≤ 1048576) ∧ (1 ≤ m.h ∧ m.h ≤ 4096)
  · simp only [if_pos h1]
    rw [if_pos trivial]
    by_cases h2 : m.s = 0
    · rw [if_pos h2, ht, decide_eq_false (fun h => h.2.2.1 h2)]
    · rw [if_neg h2]
      by_cases h3 : m.t > 1099511627776
      · rw [decide_eq_true h3, ht, decide_eq_false (fun h => by have := h.2.2.2.1; omega)]
      · rw [decide_eq_false h3]
        simp only [manifest_Right.j0]
        rw [if_neg (by simp)]
        by_cases h4 : m.t = -1
        · rw [if_pos h4]
          congr 1
          by_cases h5 : m.k = 0 ∧ m.p = 0
          · rw [decide_eq_true (p := m.Right) ⟨h1.1, h1.2, h2, by omega, fun _ => h5, fun h => absurd h4 h⟩]
            simp [h5]
          · rw [decide_eq_false (fun h => h5 (h.2.2.2.2.1 h4))]
            simp; intro hk; simpa [hk] using h5
        · rw [if_neg h4]
          by_cases h5 : m.t ≥ 0
          · rw [if_pos h5, tr_is _ _ _ w.p, Option.bind_some]
            congr 1
            by_cases h6 : (1 ≤ m.k ∧ m.k ≤ 5) ∧ (0 ≤ m.n ∧ m.n ≤ 1048576) ∧ ((m.k = 1 ∨ m.k = 3) → m.p < m.n)
            · rw [decide_eq_true h6, decide_eq_true (p := m.Right) ⟨h1.1, h1.2, h2, by omega, fun h => absurd h h4, fun _ => ⟨h6.1.1, h6.1.2, h6.2.2⟩⟩]
            · rw [decide_eq_false h6, decide_eq_false (fun h => h6 (by have := h.2.2.2.2.2 h4; exact ⟨⟨this.1, this.2.1⟩, h1.1, this.2.2⟩))]
          · rw [if_neg h5, decide_eq_false (fun h => by have := h.2.2.2.1; omega)]
  · simp only [if_neg h1]
    rw [if_neg (by simp), ht, decide_eq_false (fun h => h1 ⟨h.1, h.2.1⟩)]

/-! ### the bytes -/
def Mf.vals (m : Mf) : List Int := [m.s, IntKind.u64.wrap m.n, IntKind.u64.wrap m.h, IntKind.u64.wrap (wrap64 (m.t + 1)), IntKind.u64.wrap m.k, IntKind.u64.wrap m.p]
def texts (l : List Int) : List Int := (l.map (le 8)).flatten
theorem texts_length (l : List Int) : (texts l).length = 8 * l.length := by
  induction l with
  | nil => rfl
  | cons x l ih => simp only [texts, List.map_cons, List.flatten_cons, List.length_append, le_length, List.length_cons] at ih ⊢; omega
theorem texts_bytes (l : List Int) : Bytes (texts l) := by
  induction l with
  | nil => exact Bytes.nil
  | cons x l ih => exact (le_bytes 8 x).append ih
theorem texts_take (l : List Int) (i : Nat) (hi : i < l.length) : texts (l.take (i + 1)) = texts (l.take i) ++ le 8 l[i] := by
  unfold texts
  rw [List.take_succ_eq_append_getElem hi, List.map_append, List.flatten_append]; simp
def Mf.text (m : Mf) : List Int := texts m.vals
theorem Mf.text_length (m : Mf) : m.text.length = 48 := by rw [Mf.text, texts_length]; rfl
theorem Mf.text_bytes (m : Mf) : Bytes m.text := texts_bytes _
def Mf.enc (m : Mf) : List Int := if m.Right then Oct.enc m.text else []
def Mf.err (m : Mf) : Int := if m.Right then 0 else 1
/-- Number i of a text: 0 where it ends ahead of it. -/
def at8 (t : List Int) (i : Nat) : Int := if 8 * i + 8 ≤ t.length then num ((t.drop (8 * i)).take 8) else 0
def nums (t : List Int) : Mf := ⟨at8 t 0, wrap64 (at8 t 1), wrap64 (at8 t 2), wrap64 (wrap64 (at8 t 3) - 1), wrap64 (at8 t 4), at8 t 5 % 4294967296⟩
theorem at8_bounds {t : List Int} (hb : Bytes t) (i : Nat) : 0 ≤ at8 t i ∧ at8 t i < 18446744073709551616 := by
  unfold at8
  split
  · have h0 := num_nonneg ((hb.drop (8 * i)).take 8)
    have h1 := num_lt ((hb.drop (8 * i)).take 8)
    rw [show ((t.drop (8 * i)).take 8).length = 8 by simp only [List.length_take, List.length_drop]; omega, show (256 : Int) ^ 8 = 18446744073709551616 from rfl] at h1
    exact ⟨h0, h1⟩
  · omega
theorem texts_at (l : List Int) (i : Nat) (hi : i < l.length) : at8 (texts l) i = l[i] % 18446744073709551616 := by
  unfold at8
  rw [if_pos (by rw [texts_length]; omega)]
  have e : (texts l).drop (8 * i) = le 8 l[i] ++ texts (l.drop (i + 1)) := by
    have h1 : texts l = texts (l.take i) ++ (le 8 l[i] ++ texts (l.drop (i + 1))) := by
      have h2 : l = l.take i ++ (l[i] :: l.drop (i + 1)) := by rw [← List.drop_eq_getElem_cons hi, List.take_append_drop]
      conv => lhs; rw [h2]
      simp only [texts, List.map_append, List.map_cons, List.flatten_append, List.flatten_cons]
    rw [h1]
    exact drop_left' (by rw [texts_length, List.length_take]; omega)
  rw [e, take_left' (le_length 8 _).symm, num_le]; rfl
theorem wrap64_w (x : Int) : ∃ q : Int, wrap64 x = x + 18446744073709551616 * q ∧ -9223372036854775808 ≤ wrap64 x ∧ wrap64 x < 9223372036854775808 := by
  unfold wrap64
  exact ⟨-((x + 9223372036854775808) / 18446744073709551616), by omega, by omega, by omega⟩
theorem nums_text {m : Mf} (w : m.Wf) (hr : m.Right) : nums m.text = m := by
  obtain ⟨⟨a1, a2⟩, ⟨b1, b2⟩, _, ⟨c1, c2⟩, d, e⟩ := hr
  have ws := w.s
  have wp := w.p
  have hk : 0 ≤ m.k ∧ m.k ≤ 5 := by
    by_cases h : m.t = -1
    · have := (d h).1; omega
    · have := e h; omega
  have v0 : at8 m.text 0 = m.s := by rw [Mf.text, texts_at m.vals 0 (show 0 < 6 by decide)]; show m.s % _ = _; omega
  have v1 : at8 m.text 1 = m.n := by rw [Mf.text, texts_at m.vals 1 (show 1 < 6 by decide)]; show IntKind.u64.wrap m.n % _ = _; rw [u64_in (by omega) (by omega)]; omega
  have v2 : at8 m.text 2 = m.h := by rw [Mf.text, texts_at m.vals 2 (show 2 < 6 by decide)]; show IntKind.u64.wrap m.h % _ = _; rw [u64_in (by omega) (by omega)]; omega
  have v3 : at8 m.text 3 = m.t + 1 := by rw [Mf.text, texts_at m.vals 3 (show 3 < 6 by decide)]; show IntKind.u64.wrap (wrap64 (m.t + 1)) % _ = _; rw [wrap_in (by omega) (by omega), u64_in (by omega) (by omega)]; omega
  have v4 : at8 m.text 4 = m.k := by rw [Mf.text, texts_at m.vals 4 (show 4 < 6 by decide)]; show IntKind.u64.wrap m.k % _ = _; rw [u64_in (by omega) (by omega)]; omega
  have v5 : at8 m.text 5 = m.p := by rw [Mf.text, texts_at m.vals 5 (show 5 < 6 by decide)]; show IntKind.u64.wrap m.p % _ = _; rw [u64_in (by omega) (by omega)]; omega
  unfold nums
  rw [v0, v1, v2, v3, v4, v5]
  cases m
  simp only at *
  rw [wrap_in (by omega) (by omega), wrap_in (by omega) (by omega), wrap_in (x := _ + 1) (by omega) (by omega), wrap_in (by omega) (by omega), wrap_in (by omega) (by omega)]
  congr 1 <;> omega
theorem nums_wf {t : List Int} (hb : Bytes t) : (nums t).Wf := by
  have h0 := at8_bounds hb 0
  obtain ⟨_, _, a1, a2⟩ := wrap64_w (at8 t 1)
  obtain ⟨_, _, b1, b2⟩ := wrap64_w (at8 t 2)
  obtain ⟨_, _, c1, c2⟩ := wrap64_w (wrap64 (at8 t 3) - 1)
  obtain ⟨_, _, d1, d2⟩ := wrap64_w (at8 t 4)
  exact ⟨h0, ⟨a1, a2⟩, ⟨b1, b2⟩, ⟨c1, c2⟩, ⟨d1, d2⟩, by show 0 ≤ _ % _ ∧ _ % _ < _; omega⟩
/-- What bytes are read as. -/
def OkM (b : List Int) : Prop := (dec b).2.2 = 0 ∧ (nums (dec b).1).Right ∧ Oct.enc (nums (dec b).1).text = b
instance (b : List Int) : Decidable (OkM b) := by unfold OkM; infer_instance
def mdec (b : List Int) : Mf := if OkM b then nums (dec b).1 else Mf.zero
def mderr (b : List Int) : Int := if OkM b then 0 else if (dec b).2.2 = 0 then 2 else (dec b).2.2
theorem enc_text {t : List Int} (hb : Bytes t) (hl : t.length ≤ 1000) : dec (Oct.enc t) = (t, (t.length : Int) + 6, 0) := by
  have := dec_enc hb hl []
  rwa [List.append_nil] at this
/-- A right manifest's bytes are read as it. -/
theorem mdec_enc {m : Mf} (w : m.Wf) (hr : m.Right) : OkM (Oct.enc m.text) ∧ mdec (Oct.enc m.text) = m ∧ mderr (Oct.enc m.text) = 0 := by
  have hd := enc_text m.text_bytes (by rw [m.text_length]; omega)
  have hok : OkM (Oct.enc m.text) := by
    unfold OkM
    rw [hd]
    simp only [nums_text w hr]
    exact ⟨trivial, hr, trivial⟩
  refine ⟨hok, ?_, ?_⟩
  · unfold mdec; rw [if_pos hok, hd]; exact nums_text w hr
  · unfold mderr; rw [if_pos hok]
theorem okM_text {b : List Int} (hb : Bytes b) (h : OkM b) : (dec b).1 = (mdec b).text ∧ (mdec b).Right ∧ Oct.enc (mdec b).text = b ∧ (mdec b).Wf := by
  have e : mdec b = nums (dec b).1 := if_pos h
  rw [e]
  have ht := dec_text hb
  refine ⟨?_, h.2.1, h.2.2, nums_wf ht.1⟩
  have hd := enc_text (nums (dec b).1).text_bytes (by rw [Mf.text_length]; omega)
  rw [h.2.2] at hd
  exact congrArg (fun x => x.1) hd
end Go.Proofs.Ytibahgondccdiaa.Oct
