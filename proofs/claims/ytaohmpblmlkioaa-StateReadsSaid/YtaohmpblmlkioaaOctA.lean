/- Plain laws of numbers as bytes: no program in sight. -/
import Derived.Test.YtaohmpblmlkioaaWMore
namespace Go.Proofs.Ytaohmpblmlkioaa.Oct
open Go.RowKit Go.Proofs.YtaohmpblmlkioaaW.PrintWords Go.Proofs.YtaohmpblmlkioaaW.PrintLast Go.Proofs.YtaohmpblmlkioaaW.PrintMore

theorem wrap_in {x : Int} (h0 : -9223372036854775808 ≤ x) (h1 : x ≤ 9223372036854775807) : wrap64 x = x := by unfold wrap64; omega
theorem u64_in {x : Int} (h0 : 0 ≤ x) (h1 : x < 18446744073709551616) : IntKind.u64.wrap x = x := IntWalk.u64_in _ (by omega)
theorem u64_is (x : Int) : IntKind.u64.wrap x = x % 18446744073709551616 := by simp [IntKind.wrap, IntKind.bits, IntKind.signed]

/-! ### bits of two numbers that are not below 0 -/
theorem bits_or64 (a b : Nat) (ha : a < 18446744073709551616) (hb : b < 18446744073709551616) : bits .or .u64 (a : Int) b = ((a ||| b : Nat) : Int) :=
  (bits_nat .u64 64 (Nat.le_refl _) (fun n h0 h1 => u64_in h0 (by simpa using h1)) a b ha hb).2
theorem u32_in {x : Int} (h0 : 0 ≤ x) (h1 : x < 4294967296) : IntKind.u32.wrap x = x := by rw [IntKind.wrap_u32]; omega
theorem bits_and32 (a b : Nat) (ha : a < 4294967296) (hb : b < 4294967296) : bits .and .u32 (a : Int) b = ((a &&& b : Nat) : Int) :=
  (bits_nat .u32 32 (Nat.le_refl _) (fun n h0 h1 => u32_in h0 (by simpa using h1)) a b ha hb).1
theorem bits_xor32 (a b : Nat) (ha : a < 4294967296) (hb : b < 4294967296) : bits .xor .u32 (a : Int) b = ((a ^^^ b : Nat) : Int) := by
  have e : bits .xor .u32 (a : Int) b = IntKind.u32.wrap (((BitVec.ofInt 32 (a : Int) ^^^ BitVec.ofInt 32 (b : Int)).toNat : Nat) : Int) := rfl
  rw [e, BitVec.toNat_xor, BitVec.ofInt_natCast, BitVec.ofInt_natCast, BitVec.toNat_ofNat, BitVec.toNat_ofNat, Nat.mod_eq_of_lt ha, Nat.mod_eq_of_lt hb]
  have := Nat.xor_lt_two_pow (n := 32) ha hb
  exact u32_in (by omega) (by omega)
theorem bits_xor32_top (a : Nat) (ha : a < 4294967296) : bits .xor .u32 (-1) (a : Int) = ((a ^^^ 4294967295 : Nat) : Int) := by
  have e : bits .xor .u32 (-1) (a : Int) = bits .xor .u32 ((4294967295 : Nat) : Int) a := rfl
  rw [e, bits_xor32 _ _ (by omega) ha, Nat.xor_comm]

/-! ### a number by so many bytes, the lowest first -/
def le : Nat → Int → List Int
  | 0, _ => []
  | m + 1, x => x % 256 :: le m (x / 256)
def num : List Int → Int
  | [] => 0
  | c :: r => c + 256 * num r
def Bytes (l : List Int) : Prop := ∀ c ∈ l, 0 ≤ c ∧ c ≤ 255
theorem bytes_of_wf {l : List Int} (h : ∀ x ∈ l, (Lit.int .u8 x).wf = true) : Bytes l := fun c hc => by
  have := h c hc
  simp [Lit.wf, IntKind.min, IntKind.max, IntKind.bits, IntKind.signed] at this
  omega
theorem Bytes.append {a b : List Int} (ha : Bytes a) (hb : Bytes b) : Bytes (a ++ b) := fun c hc => (List.mem_append.1 hc).elim (ha c) (hb c)
theorem Bytes.take {a : List Int} (ha : Bytes a) (n : Nat) : Bytes (a.take n) := fun c hc => ha c (List.mem_of_mem_take hc)
theorem Bytes.drop {a : List Int} (ha : Bytes a) (n : Nat) : Bytes (a.drop n) := fun c hc => ha c (List.mem_of_mem_drop hc)
theorem Bytes.nil : Bytes [] := fun c hc => by cases hc
theorem Bytes.cons {c : Int} {l : List Int} (h : 0 ≤ c ∧ c ≤ 255) (hl : Bytes l) : Bytes (c :: l) := fun d hd => by
  rcases List.mem_cons.1 hd with rfl | hd
  · exact h
  · exact hl d hd
theorem le_length (m : Nat) : ∀ x, (le m x).length = m := by
  induction m with
  | zero => intro x; rfl
  | succ m ih => intro x; simp [le, ih]
theorem le_bytes (m : Nat) : ∀ x, Bytes (le m x) := by
  induction m with
  | zero => intro x; exact Bytes.nil
  | succ m ih => intro x; exact Bytes.cons (by omega) (ih _)
theorem le_succ (m : Nat) : ∀ x, le (m + 1) x = le m x ++ [x / 256 ^ m % 256] := by
  induction m with
  | zero => intro x; simp [le]
  | succ m ih =>
    intro x
    rw [le, ih, le]
    simp only [List.cons_append]
    rw [Int.ediv_ediv_of_nonneg (by omega), Int.pow_succ, Int.mul_comm (256 ^ m) 256]
theorem num_nonneg {l : List Int} (h : Bytes l) : 0 ≤ num l := by
  induction l with
  | nil => simp [num]
  | cons c r ih => have := h c (by simp); have := ih (fun d hd => h d (by simp [hd])); simp only [num]; omega
theorem num_lt {l : List Int} (h : Bytes l) : num l < 256 ^ l.length := by
  induction l with
  | nil => simp [num]
  | cons c r ih =>
    have h1 := h c (by simp)
    have h2 := ih (fun d hd => h d (by simp [hd]))
    simp only [num, List.length_cons, Int.pow_succ]
    omega
theorem num_le (m : Nat) : ∀ x, num (le m x) = x % 256 ^ m := by
  induction m with
  | zero => intro x; simp [le, num]
  | succ m ih =>
    intro x
    rw [le, num, ih, Int.pow_succ, Int.mul_comm (256 ^ m) 256]
    have hp : (0 : Int) < 256 ^ m := Int.pow_pos (by omega)
    have h1 := Int.emod_add_mul_ediv x 256
    have h2 := Int.emod_add_mul_ediv (x / 256) (256 ^ m)
    have h3 := Int.emod_nonneg (x / 256) (show (256 : Int) ^ m ≠ 0 by omega)
    have h4 := Int.emod_lt_of_pos (x / 256) hp
    have e : x = (x % 256 + 256 * ((x / 256) % 256 ^ m)) + (256 * 256 ^ m) * (x / 256 / 256 ^ m) := by
      rw [Int.mul_assoc]; omega
    conv => rhs; rw [e]
    rw [Int.add_mul_emod_self_left]
    exact (Int.emod_eq_of_lt (by omega) (by omega)).symm
theorem le_num {l : List Int} (h : Bytes l) : le l.length (num l) = l := by
  induction l with
  | nil => rfl
  | cons c r ih =>
    have h1 := h c (by simp)
    have h2 := ih (fun d hd => h d (by simp [hd]))
    simp only [num, List.length_cons, le]
    rw [show (c + 256 * num r) % 256 = c by omega, show (c + 256 * num r) / 256 = num r by omega, h2]
theorem num_append (a b : List Int) : num (a ++ b) = num a + 256 ^ a.length * num b := by
  induction a with
  | nil => simp [num]
  | cons c r ih => simp only [List.cons_append, num, ih, List.length_cons, Int.pow_succ]; rw [Int.mul_comm (256 ^ r.length) 256, Int.mul_add, Int.mul_assoc, Int.add_assoc]

/-! ### texts of bytes -/
theorem str_list (a : List Int) : (strOfNums a).toList = a.map fun n => UInt8.ofNat n.toNat := by
  rw [ByteArray.toList_eq]; rfl
theorem str_eq {a b : List Int} (ha : Bytes a) (hb : Bytes b) : (strOfNums a).toList = (strOfNums b).toList ↔ a = b := by
  refine ⟨fun h => ?_, fun h => by rw [h]⟩
  rw [str_list, str_list] at h
  have hl : a.length = b.length := by simpa using congrArg List.length h
  apply List.ext_getElem hl
  intro i h1 h2
  have e : (a.map fun n => UInt8.ofNat n.toNat)[i]? = (b.map fun n => UInt8.ofNat n.toNat)[i]? := by rw [h]
  rw [List.getElem?_map, List.getElem?_map, List.getElem?_eq_getElem h1, List.getElem?_eq_getElem h2] at e
  have e2 : UInt8.ofNat (a[i]).toNat = UInt8.ofNat (b[i]).toNat := by simpa using e
  have e3 := congrArg UInt8.toNat e2
  simp only [UInt8.toNat_ofNat'] at e3
  have := ha _ (List.getElem_mem h1)
  have := hb _ (List.getElem_mem h2)
  omega

/-! ### numbers by digits of seven bits -/
def vd : Nat → Int → List Int
  | 0, x => [x % 256]
  | f + 1, x => if x ≥ 128 then (x % 128 + 128) :: vd f (x / 128) else [x % 256]
theorem vd_bytes (f : Nat) : ∀ x, Bytes (vd f x) := by
  induction f with
  | zero => intro x; exact Bytes.cons (by omega) Bytes.nil
  | succ f ih =>
    intro x
    simp only [vd]
    split
    · exact Bytes.cons (by omega) (ih _)
    · exact Bytes.cons (by omega) Bytes.nil
theorem vd_length (f : Nat) : ∀ x, 1 ≤ (vd f x).length ∧ (vd f x).length ≤ f + 1 := by
  induction f with
  | zero => intro x; simp [vd]
  | succ f ih =>
    intro x
    simp only [vd]
    split
    · have := ih (x / 128); simp only [List.length_cons]; omega
    · simp
theorem vd_mono (f : Nat) : ∀ x y, 0 ≤ x → x ≤ y → (vd f x).length ≤ (vd f y).length := by
  induction f with
  | zero => intro x y _ _; simp [vd]
  | succ f ih =>
    intro x y h0 h
    simp only [vd]
    by_cases hx : x ≥ 128
    · rw [if_pos hx, if_pos (by omega)]
      have := ih (x / 128) (y / 128) (by omega) (by omega)
      simp only [List.length_cons]; omega
    · rw [if_neg hx]
      have := vd_length (f + 1) y
      simp only [vd] at this
      simp only [List.length_singleton]; omega
theorem or128 (c : Int) (h0 : 0 ≤ c) (h1 : c < 256) : bits .or .u8 c 128 = c % 128 + 128 := by
  obtain ⟨n, rfl⟩ := Int.eq_ofNat_of_zero_le h0
  have hn : n < 256 := by omega
  have := (bits_nat .u8 8 (Nat.le_refl _) (fun n h0 h1 => wraps_u8 n h0 h1) n 128 hn (by decide)).2
  have e : n ||| 128 = n % 128 + 128 := by
    have h : ∀ m : Nat, m < 256 → m ||| 128 = m % 128 + 128 := by decide +kernel
    exact h n hn
  rw [e] at this
  rw [show ((128 : Int)) = ((128 : Nat) : Int) from rfl, this]; omega
theorem andNot128 (c : Int) (h0 : 0 ≤ c) (h1 : c < 256) : bits .andNot .u8 c 128 = c % 128 := by
  obtain ⟨n, rfl⟩ := Int.eq_ofNat_of_zero_le h0
  have hn : n < 256 := by omega
  have h : ∀ m : Nat, m < 256 → bits .andNot .u8 (m : Int) 128 = ((m % 128 : Nat) : Int) := by decide +kernel
  rw [h n hn]; omega
theorem or_add (a d : Int) (s : Nat) (hs : s ≤ 63) (h0 : 0 ≤ a) (h1 : a < 2 ^ s) (hd : 0 ≤ d) (hb : 2 ^ s * d < 18446744073709551616) : bits .or .u64 a (2 ^ s * d) = a + 2 ^ s * d := by
  obtain ⟨n, rfl⟩ := Int.eq_ofNat_of_zero_le h0
  obtain ⟨m, rfl⟩ := Int.eq_ofNat_of_zero_le hd
  have e : ((2 : Int) ^ s * (m : Int)) = ((2 ^ s * m : Nat) : Int) := by push_cast; rfl
  have hn : n < 2 ^ s := by exact_mod_cast h1
  rw [e] at hb ⊢
  have hp : (2 : Nat) ^ s ≤ 2 ^ 63 := Nat.pow_le_pow_right (by decide) hs
  rw [bits_or64 n _ (by omega) (by omega), Nat.or_comm, ← Nat.two_pow_add_eq_or_of_lt hn]
  push_cast; omega
/-- What bytes begin with: a number, and how many bytes it has (i bytes stand ahead). -/
def gp : Nat → List Int → Option (Int × Nat)
  | _, [] => none
  | i, c :: r => if c ≥ 128 then (gp (i + 1) r).map (fun p => (c % 128 + 128 * p.1, p.2 + 1)) else if (c = 0 ∧ 0 < i) ∨ (i = 9 ∧ 1 < c) then none else some (c, 1)
def res (x : Option (Int × Nat)) (a : Int) (i : Nat) : Int × Int × Bool := match x with
  | some (n, s) => (a + 128 ^ i * n, ((i + s : Nat) : Int), true)
  | none => (0, 0, false)
theorem gp_nonneg : ∀ (l : List Int) (i : Nat) (n : Int) (s : Nat), Bytes l → gp i l = some (n, s) → 0 ≤ n ∧ (0 < i → 0 < n) ∧ 1 ≤ s ∧ s ≤ l.length := by
  intro l
  induction l with
  | nil => intro i n s _ h; simp [gp] at h
  | cons c r ih =>
    intro i n s hb h
    have hc := hb c (by simp)
    simp only [gp] at h
    split at h
    · cases hg : gp (i + 1) r with
      | none => rw [hg] at h; simp at h
      | some p =>
        rw [hg] at h
        simp only [Option.map_some, Option.some.injEq, Prod.mk.injEq] at h
        obtain ⟨h1, h2, h3, h4⟩ := ih (i + 1) p.1 p.2 (fun d hd => hb d (by simp [hd])) hg
        have := h2 (by omega)
        simp only [List.length_cons]
        omega
    · split at h
      · simp at h
      · simp only [Option.some.injEq, Prod.mk.injEq] at h
        obtain ⟨rfl, rfl⟩ := h
        simp only [List.length_cons]
        omega
/-- What was put is got. -/
theorem gp_vd (rest : List Int) (f : Nat) : ∀ (x : Int) (i : Nat), i + f = 9 → 0 ≤ x → (0 < i → 0 < x) → x < 2 * 128 ^ f → gp i (vd f x ++ rest) = some (x, (vd f x).length) := by
  induction f with
  | zero =>
    intro x i hi h0 h1 h2
    have hx : x < 2 := by simpa using h2
    have := h1 (by omega)
    simp only [vd, List.cons_append, List.nil_append, gp]
    rw [if_neg (by omega), if_neg (by omega), show x % 256 = x by omega]; rfl
  | succ f ih =>
    intro x i hi h0 h1 h2
    simp only [vd]
    by_cases hx : x ≥ 128
    · rw [if_pos hx]
      simp only [List.cons_append, gp]
      rw [if_pos (by omega), ih (x / 128) (i + 1) (by omega) (by omega) (by omega) (by rw [Int.pow_succ] at h2; omega)]
      simp only [Option.map_some, List.length_cons, Option.some.injEq, Prod.mk.injEq, and_true]
      omega
    · rw [if_neg hx]
      simp only [List.cons_append, List.nil_append, gp]
      rw [if_neg (by omega), if_neg (by omega), show x % 256 = x by omega]; rfl
/-- What is got is put so. -/
theorem vd_gp (f : Nat) : ∀ (l : List Int) (i : Nat) (n : Int) (s : Nat), Bytes l → i + f = 9 → l.length ≤ f + 1 → gp i l = some (n, s) → vd f n = l.take s ∧ n < 2 * 128 ^ f := by
  induction f with
  | zero =>
    intro l i n s hb hi hl h
    cases l with
    | nil => simp [gp] at h
    | cons c r =>
      have hr : r = [] := List.eq_nil_of_length_eq_zero (by simp only [List.length_cons] at hl; omega)
      subst hr
      have hc := hb c (by simp)
      simp only [gp, Option.map_none] at h
      split at h
      · simp at h
      · split at h
        · simp at h
        · simp only [Option.some.injEq, Prod.mk.injEq] at h
          obtain ⟨rfl, rfl⟩ := h
          simp [vd]; omega
  | succ f ih =>
    intro l i n s hb hi hl h
    cases l with
    | nil => simp [gp] at h
    | cons c r =>
      have hc := hb c (by simp)
      have hr : Bytes r := fun d hd => hb d (by simp [hd])
      simp only [gp] at h
      split at h
      · cases hg : gp (i + 1) r with
        | none => rw [hg] at h; simp at h
        | some p =>
          rw [hg] at h
          simp only [Option.map_some, Option.some.injEq, Prod.mk.injEq] at h
          obtain ⟨rfl, rfl⟩ := h
          obtain ⟨e1, e2⟩ := ih r (i + 1) p.1 p.2 hr (by omega) (by simp only [List.length_cons] at hl; omega) hg
          obtain ⟨h1, h2, h3, h4⟩ := gp_nonneg r (i + 1) p.1 p.2 hr hg
          have := h2 (by omega)
          simp only [vd]
          rw [if_pos (by omega), show (c % 128 + 128 * p.1) / 128 = p.1 by omega, show (c % 128 + 128 * p.1) % 128 + 128 = c by omega, e1]
          refine ⟨by simp, ?_⟩
          rw [Int.pow_succ]; omega
      · split at h
        · simp at h
        · simp only [Option.some.injEq, Prod.mk.injEq] at h
          obtain ⟨rfl, rfl⟩ := h
          simp only [vd]
          rw [if_neg (by omega)]
          have : (0 : Int) < 128 ^ f := Int.pow_pos (by omega)
          refine ⟨by simp; omega, ?_⟩
          rw [Int.pow_succ]; omega
theorem gp_high : ∀ (l : List Int) (i : Nat), (∀ c ∈ l, 128 ≤ c) → gp i l = none := by
  intro l
  induction l with
  | nil => intro i _; rfl
  | cons c r ih =>
    intro i h
    simp only [gp]
    rw [if_pos (h c (by simp)), ih (i + 1) (fun d hd => h d (by simp [hd]))]; rfl
theorem gp_zero : ∀ (l : List Int) (r : List Int) (i : Nat), (∀ c ∈ l, 128 ≤ c) → 0 < i + l.length → gp i (l ++ 0 :: r) = none := by
  intro l
  induction l with
  | nil => intro r i _ h; simp only [List.nil_append, gp]; simp only [List.length_nil] at h; rw [if_neg (by omega), if_pos (.inl ⟨trivial, by omega⟩)]
  | cons c t ih =>
    intro r i h hl
    simp only [List.cons_append, gp]
    rw [if_pos (h c (by simp)), ih r (i + 1) (fun d hd => h d (by simp [hd])) (by omega)]; rfl
/-- All digits but the last one bear the highest bit. -/
theorem vd_high (f : Nat) : ∀ x, 0 ≤ x → ∃ ds c, vd f x = ds ++ [c] ∧ (∀ d ∈ ds, 128 ≤ d) ∧ 0 ≤ c ∧ c ≤ 255 := by
  induction f with
  | zero => intro x h; exact ⟨[], x % 256, rfl, by simp, by omega, by omega⟩
  | succ f ih =>
    intro x h
    simp only [vd]
    split
    · obtain ⟨ds, c, e, h1, h2, h3⟩ := ih (x / 128) (by omega)
      refine ⟨(x % 128 + 128) :: ds, c, by rw [e]; rfl, fun d hd => ?_, h2, h3⟩
      rcases List.mem_cons.1 hd with rfl | hd
      · omega
      · exact h1 d hd
    · exact ⟨[], x % 256, rfl, by simp, by omega, by omega⟩
/-- No number is told with a last digit 0, or with a tenth one above 1. -/
theorem vd_last (f : Nat) : ∀ x ds c, 0 ≤ x → x < 2 * 128 ^ f → vd f x = ds ++ [c] → (ds ≠ [] → c ≠ 0) ∧ (ds.length = f → c ≤ 1 ∨ f = 0) ∧ (ds = [] → f = 0 → c ≤ 1) ∧ (0 < x → c ≠ 0) ∧ (ds.length = f → c ≤ 1) := by
  induction f with
  | zero =>
    intro x ds c h0 h1 h
    simp only [vd] at h
    have hl : ds = [] := by
      have := congrArg List.length h; simp at this; exact this
    subst hl
    simp at h
    have : x < 2 := by simpa using h1
    refine ⟨by simp, by omega, by omega, by omega, by omega⟩
  | succ f ih =>
    intro x ds c h0 h1 h
    simp only [vd] at h
    by_cases hx : x ≥ 128
    · rw [if_pos hx] at h
      cases ds with
      | nil =>
        have := congrArg List.length h
        have := vd_length f (x / 128)
        simp at *; omega
      | cons d ds =>
        simp only [List.cons_append, List.cons.injEq] at h
        obtain ⟨a1, a2, a3, a4, a5⟩ := ih (x / 128) ds c (by omega) (by rw [Int.pow_succ] at h1; omega) h.2
        have := a4 (by omega)
        refine ⟨fun _ => this, fun hl => .inl (a5 (by simpa using hl)), by simp, fun _ => this, fun hl => a5 (by simpa using hl)⟩
    · rw [if_neg hx] at h
      cases ds with
      | nil => simp at h; refine ⟨by simp, by simp, by simp, by omega, by simp⟩
      | cons d ds => have := congrArg List.length h; simp at this

/-! ### the sum -/
def st (c : Nat) : Nat := if c % 2 = 1 then (c / 2) ^^^ 3988292384 else c / 2
def stn : Nat → Nat → Nat
  | 0, c => c
  | m + 1, c => stn m (st c)
def cr (l : List Int) (c : Nat) : Nat := l.foldl (fun c x => stn 8 (c ^^^ x.toNat)) c
theorem st_lt {c : Nat} (h : c < 4294967296) : st c < 4294967296 := by
  unfold st
  split
  · exact Nat.xor_lt_two_pow (n := 32) (by omega) (by omega)
  · omega
theorem stn_lt (m : Nat) : ∀ {c : Nat}, c < 4294967296 → stn m c < 4294967296 := by
  induction m with
  | zero => intro c h; exact h
  | succ m ih => intro c h; exact ih (st_lt h)
theorem xor_lt {a b : Nat} (ha : a < 4294967296) (hb : b < 4294967296) : a ^^^ b < 4294967296 := Nat.xor_lt_two_pow (n := 32) ha hb
theorem st_xor (a b : Nat) : st (a ^^^ b) = st a ^^^ st b := by
  have hm : (a ^^^ b) % 2 = (a % 2) ^^^ (b % 2) := Nat.xor_mod_two_pow (n := 1)
  have hd : (a ^^^ b) / 2 = (a / 2) ^^^ (b / 2) := Nat.xor_div_two_pow (n := 1)
  unfold st
  rw [hm, hd]
  rcases Nat.mod_two_eq_zero_or_one a with ha | ha <;> rcases Nat.mod_two_eq_zero_or_one b with hb | hb <;> rw [ha, hb]
  · simp
  · simp [Nat.xor_assoc]
  · simp only [Nat.xor_zero, if_true, Nat.zero_ne_one, if_false]
    rw [Nat.xor_assoc, Nat.xor_comm (b / 2), ← Nat.xor_assoc]
  · simp only [Nat.xor_self, Nat.zero_ne_one, if_false, if_true]
    rw [Nat.xor_assoc, Nat.xor_comm (b / 2), ← Nat.xor_assoc 3988292384, Nat.xor_self, Nat.zero_xor]
theorem stn_xor (m : Nat) : ∀ a b, stn m (a ^^^ b) = stn m a ^^^ stn m b := by
  induction m with
  | zero => intro a b; rfl
  | succ m ih => intro a b; simp only [stn]; rw [st_xor, ih]
theorem stn_shift (m : Nat) : ∀ b, stn m (2 ^ m * b) = b := by
  induction m with
  | zero => intro b; simp [stn]
  | succ m ih =>
    intro b
    simp only [stn]
    have e : st (2 ^ (m + 1) * b) = 2 ^ m * b := by
      have : 2 ^ (m + 1) * b = 2 * (2 ^ m * b) := by rw [Nat.pow_succ, Nat.mul_comm (2 ^ m) 2, Nat.mul_assoc]
      rw [this]; unfold st
      rw [if_neg (by omega)]; omega
    rw [e, ih]
theorem stn_add (m n : Nat) : ∀ c, stn (m + n) c = stn n (stn m c) := by
  induction m with
  | zero => intro c; simp [stn]
  | succ m ih => intro c; rw [Nat.succ_add]; simp only [stn]; exact ih _
theorem split8 (v : Nat) : v = (v % 256) ^^^ (256 * (v / 256)) := by
  have h := Nat.two_pow_add_eq_or_of_lt (i := 8) (b := v % 256) (by omega) (v / 256)
  apply Nat.eq_of_testBit_eq
  intro i
  rw [Nat.testBit_xor, show (256 : Nat) = 2 ^ 8 from rfl, Nat.testBit_mod_two_pow, Nat.testBit_two_pow_mul, Nat.testBit_div_two_pow]
  by_cases hi : i < 8
  · simp [hi, show ¬ (i ≥ 8) by omega]
  · simp [hi, show i ≥ 8 by omega]
theorem cr_word (m : Nat) : ∀ (v c : Nat), v < 256 ^ m → cr (le m (v : Int)) c = stn (8 * m) (c ^^^ v) := by
  induction m with
  | zero =>
    intro v c h
    have hv : v = 0 := by simpa using h
    subst hv
    simp [le, cr, stn]
  | succ m ih =>
    intro v c h
    have e : (v : Int) / 256 = ((v / 256 : Nat) : Int) := by omega
    simp only [le, cr, List.foldl_cons]
    rw [e]
    have := ih (v / 256) (stn 8 (c ^^^ ((v : Int) % 256).toNat)) (by rw [Nat.pow_succ] at h; omega)
    unfold cr at this
    rw [this, show ((v : Int) % 256).toNat = v % 256 by omega, show 8 * (m + 1) = 8 + 8 * m by omega, stn_add]
    congr 1
    conv => rhs; rw [split8 v, ← Nat.xor_assoc, stn_xor, show (256 : Nat) = 2 ^ 8 from rfl, stn_shift]
theorem cr_lt (l : List Int) : ∀ c, c < 4294967296 → Bytes l → cr l c < 4294967296 := by
  induction l with
  | nil => intro c h _; exact h
  | cons x r ih =>
    intro c h hb
    have := hb x (by simp)
    exact ih _ (stn_lt 8 (xor_lt h (by omega))) (fun d hd => hb d (by simp [hd]))
theorem cr_append (a b : List Int) (c : Nat) : cr (a ++ b) c = cr b (cr a c) := by simp [cr, List.foldl_append]
/-- The Crc of bytes. -/
def crc (l : List Int) : Nat := cr l 4294967295 ^^^ 4294967295
theorem crc_lt {l : List Int} (h : Bytes l) : crc l < 4294967296 := xor_lt (cr_lt l _ (by omega) h) (by omega)
theorem crc_runs {l : List Int} (h : Bytes l) : crc (l ++ le 4 (crc l : Int)) = 558161692 := by
  have hc := crc_lt h
  unfold crc at hc ⊢
  rw [cr_append, cr_word 4 _ _ (by omega), ← Nat.xor_assoc, Nat.xor_self, Nat.zero_xor]
  decide +kernel
end Go.Proofs.Ytaohmpblmlkioaa.Oct
