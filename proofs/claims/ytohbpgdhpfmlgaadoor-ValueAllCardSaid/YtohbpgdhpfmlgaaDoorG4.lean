/- Values in plain Lean: which fit, their order, and that it is one. -/
import Derived.Test.YtohbpgdhpfmlgaaDoorPAx4
import Derived.Test.YtohbpgdhpfmlgaaDoorPAx2
import Derived.Test.YtohbpgdhpfmlgaaDoorPAx2
import Derived.Test.YtohbpgdhpfmlgaaDoorPAx2
namespace Go.Proofs.YtohbpgdhpfmlgaaDoor.PA
set_option linter.unusedVariables false
set_option linter.unusedSimpArgs false
open Go.RowKit Go.Proofs.YtohbpgdhpfmlgaaDoorW.PrintWords Go.Proofs.YtohbpgdhpfmlgaaDoorW.PrintLast
/-- How two numbers compare. -/
def c3 (a b : Int) : Int := if a < b then -1 else if a > b then 1 else 0
theorem c3_u (a b : Int) : cmp_Compare_uint64.f a b = some (c3 a b) := by
  simp only [cmp_Compare_uint64.f, cmp_isNaN_uint64.f, Option.bind_some, bne_self_eq_false, Bool.false_eq_true, if_false, c3]
  repeat' split
  all_goals rfl
theorem c3_i (a b : Int) : cmp_Compare_int64.f a b = some (c3 a b) := by
  simp only [cmp_Compare_int64.f, cmp_isNaN_int64.f, Option.bind_some, bne_self_eq_false, Bool.false_eq_true, if_false, c3]
  repeat' split
  all_goals rfl
theorem c3_rng (a b : Int) : c3 a b = -1 ∧ a < b ∨ c3 a b = 0 ∧ a = b ∨ c3 a b = 1 ∧ b < a := by
  unfold c3
  split
  · left; omega
  · split
    · right; right; omega
    · right; left; omega
/-- How two texts compare. -/
abbrev cB := Lib.compareBytes
theorem cB_swap : ∀ a b : List UInt8, cB b a = - cB a b
  | [], [] => by simp [cB, Lib.compareBytes]
  | [], _ :: _ => by simp [cB, Lib.compareBytes]
  | _ :: _, [] => by simp [cB, Lib.compareBytes]
  | a :: xs, b :: ys => by
    have ih := cB_swap xs ys
    simp only [cB, Lib.compareBytes] at *
    have h1 : a < b ∨ b < a ∨ a = b := by
      simp only [UInt8.lt_iff_toNat_lt, ← UInt8.toNat_inj]; omega
    rcases h1 with h | h | rfl
    · have h2 : ¬ b < a := by simp only [UInt8.lt_iff_toNat_lt] at *; omega
      simp [h, h2]
    · have h2 : ¬ a < b := by simp only [UInt8.lt_iff_toNat_lt] at *; omega
      simp [h, h2]
    · have h2 : ¬ a < a := by simp only [UInt8.lt_iff_toNat_lt]; omega
      simp only [if_neg h2]; exact ih
theorem cB_rng : ∀ a b : List UInt8, cB a b = -1 ∨ cB a b = 0 ∨ cB a b = 1
  | [], [] => by simp [cB, Lib.compareBytes]
  | [], _ :: _ => by simp [cB, Lib.compareBytes]
  | _ :: _, [] => by simp [cB, Lib.compareBytes]
  | a :: xs, b :: ys => by
    have ih := cB_rng xs ys
    simp only [cB, Lib.compareBytes] at *
    split
    · simp
    · split
      · simp
      · exact ih
theorem cB_eq : ∀ a b : List UInt8, cB a b = 0 ↔ a = b
  | [], [] => by simp [cB, Lib.compareBytes]
  | [], _ :: _ => by simp [cB, Lib.compareBytes]
  | _ :: _, [] => by simp [cB, Lib.compareBytes]
  | a :: xs, b :: ys => by
    have ih := cB_eq xs ys
    simp only [cB, Lib.compareBytes] at *
    split
    · rename_i h
      have h2 : a ≠ b := by rintro rfl; simp only [UInt8.lt_iff_toNat_lt] at h; omega
      simp [h2]
    · split
      · rename_i h
        have h2 : a ≠ b := by rintro rfl; simp only [UInt8.lt_iff_toNat_lt] at h; omega
        simp [h2]
      · rename_i h1 h2
        have h3 : a = b := by simp only [UInt8.lt_iff_toNat_lt, ← UInt8.toNat_inj] at *; omega
        subst h3
        rw [ih]; simp
theorem cB_le : ∀ a b c : List UInt8, cB a b ≤ 0 → cB b c ≤ 0 → cB a c ≤ 0 ∧ (cB a b < 0 ∨ cB b c < 0 → cB a c < 0)
  | [], b, [] => by
    cases b <;> simp [cB, Lib.compareBytes]
  | [], b, c :: cs => by simp [cB, Lib.compareBytes]
  | a :: xs, [], c => by simp [cB, Lib.compareBytes]
  | a :: xs, b :: ys, [] => by simp [cB, Lib.compareBytes]
  | a :: xs, b :: ys, c :: zs => by
    have ih := cB_le xs ys zs
    simp only [cB, Lib.compareBytes] at *
    simp only [UInt8.lt_iff_toNat_lt]
    intro h1 h2
    by_cases x1 : a.toNat < b.toNat
    · by_cases x2 : b.toNat < c.toNat
      · simp [show a.toNat < c.toNat by omega]
      · by_cases x3 : c.toNat < b.toNat
        · simp [x2, x3] at h2
        · simp [show a.toNat < c.toNat by omega]
    · by_cases y1 : b.toNat < a.toNat
      · simp [x1, y1] at h1
      · by_cases x2 : b.toNat < c.toNat
        · simp [show a.toNat < c.toNat by omega]
        · by_cases x3 : c.toNat < b.toNat
          · simp [x2, x3] at h2
          · simp only [if_neg x1, if_neg y1, if_neg x2, if_neg x3] at h1 h2 ⊢
            rw [if_neg (by omega), if_neg (by omega)]
            exact ih h1 h2
/-- A value of a type. -/
def FitP (k n : Int) (s : ByteArray) : Prop := (k = 1 ∨ k = 2 ∨ k = 3) ∧ (k = 3 → n = 0 ∧ s.size ≤ 60) ∧ (k ≠ 3 → s = ⟨#[]⟩) ∧ -9223372036854775808 ≤ n ∧ n < 9223372036854775808
theorem fits_of {k n : Int} {s : ByteArray} (h : FitP k n s) (m : Nat) : value_Fits.f (m + 1) k n s = some true := by
  obtain ⟨hk, h3, h1, _⟩ := h
  simp only [value_Fits.f, value_Fits.j0]
  rcases hk with rfl | rfl | rfl
  · rw [h1 (by decide)]; simp
  · rw [h1 (by decide)]; simp
  · obtain ⟨rfl, hs⟩ := h3 rfl
    simp; omega
/-- The order of two values. -/
def cV (k : Int) (n : Int) (s : ByteArray) (n' : Int) (s' : ByteArray) : Int := if k = 3 then cB s.data.toList s'.data.toList else if k = 2 then c3 (IntKind.u64.wrap n) (IntKind.u64.wrap n') else c3 n n'
theorem cmp_of {k n n' : Int} {s s' : ByteArray} (h : FitP k n s) (h' : FitP k n' s') (m : Nat) : value_Compare.f (m + 1) k n s n' s' = some (cV k n s n' s') := by
  simp only [value_Compare.f, value_Compare.j0, fits_of h, fits_of h', Option.bind_some, if_true, Bool.not_true, Bool.false_eq_true, if_false, cV, c3_u, c3_i, strings_Compare.f]
  repeat' split
  all_goals rfl
theorem cV_rng (k n : Int) (s : ByteArray) (n' : Int) (s' : ByteArray) : cV k n s n' s' = -1 ∨ cV k n s n' s' = 0 ∨ cV k n s n' s' = 1 := by
  unfold cV
  split
  · exact cB_rng _ _
  · split
    · have := c3_rng (IntKind.u64.wrap n) (IntKind.u64.wrap n'); omega
    · have := c3_rng n n'; omega
theorem cV_swap (k n : Int) (s : ByteArray) (n' : Int) (s' : ByteArray) : cV k n' s' n s = - cV k n s n' s' := by
  unfold cV
  split
  · exact cB_swap _ _
  · split
    · have := c3_rng (IntKind.u64.wrap n) (IntKind.u64.wrap n'); have := c3_rng (IntKind.u64.wrap n') (IntKind.u64.wrap n); omega
    · have := c3_rng n n'; have := c3_rng n' n; omega
theorem cV_le (k n : Int) (s : ByteArray) (n' : Int) (s' : ByteArray) (n'' : Int) (s'' : ByteArray) (h1 : cV k n s n' s' ≤ 0) (h2 : cV k n' s' n'' s'' ≤ 0) : cV k n s n'' s'' ≤ 0 ∧ (cV k n s n' s' < 0 ∨ cV k n' s' n'' s'' < 0 → cV k n s n'' s'' < 0) := by
  unfold cV at *
  by_cases e : k = 3
  · simp only [if_pos e] at *
    exact cB_le _ _ _ h1 h2
  · simp only [if_neg e] at *
    by_cases e2 : k = 2
    · simp only [if_pos e2] at *
      have := c3_rng (IntKind.u64.wrap n) (IntKind.u64.wrap n'); have := c3_rng (IntKind.u64.wrap n') (IntKind.u64.wrap n''); have := c3_rng (IntKind.u64.wrap n) (IntKind.u64.wrap n'')
      omega
    · simp only [if_neg e2] at *
      have := c3_rng n n'; have := c3_rng n' n''; have := c3_rng n n''
      omega
theorem toList_inj {s s' : ByteArray} (h : s.data.toList = s'.data.toList) : s = s' := by
  cases s; cases s'; simp at h; simp [h]
theorem wrap_inj {a b : Int} (h : IntKind.u64.wrap a = IntKind.u64.wrap b) (ha : -9223372036854775808 ≤ a) (ha' : a < 9223372036854775808) (hb : -9223372036854775808 ≤ b) (hb' : b < 9223372036854775808) : a = b := by
  rw [IntKind.wrap_u64, IntKind.wrap_u64] at h; omega
theorem cV_eq {k n n' : Int} {s s' : ByteArray} (h : FitP k n s) (h' : FitP k n' s') : cV k n s n' s' = 0 ↔ n = n' ∧ s = s' := by
  obtain ⟨hk, h3, h1, l, u⟩ := h
  obtain ⟨_, h3', h1', l', u'⟩ := h'
  unfold cV
  by_cases e : k = 3
  · rw [if_pos e, cB_eq]
    have := (h3 e).1; have := (h3' e).1
    constructor
    · intro x; exact ⟨by omega, toList_inj x⟩
    · rintro ⟨_, rfl⟩; rfl
  · rw [if_neg e]
    have a := h1 e; have b := h1' e
    subst a b
    by_cases e2 : k = 2
    · rw [if_pos e2]
      have c := c3_rng (IntKind.u64.wrap n) (IntKind.u64.wrap n')
      constructor
      · intro x
        exact ⟨wrap_inj (by omega) l u l' u', rfl⟩
      · rintro ⟨rfl, _⟩; omega
    · rw [if_neg e2]
      have c := c3_rng n n'
      constructor
      · intro x; exact ⟨by omega, rfl⟩
      · rintro ⟨rfl, _⟩; omega
/-- The type that a byte tells. -/
def kindOf (t : Int) : Int := 1 + t % 3
theorem kind_of (t : Int) (h0 : 0 ≤ t) (h1 : t < 256) : thresherlaw03_kind.f t = some (kindOf t) ∧ (kindOf t = 1 ∨ kindOf t = 2 ∨ kindOf t = 3) := by
  have e : Int.tmod (wrap64 t) 3 = t % 3 := by
    rw [show wrap64 t = t by unfold wrap64; omega, Int.tmod_eq_emod_of_nonneg h0]
  unfold kindOf
  refine ⟨?_, by omega⟩
  simp only [thresherlaw03_kind.f, e]
  rw [show wrap64 (1 + t % 3) = 1 + t % 3 by unfold wrap64; omega]
/-- A value made to fit. -/
def cut60 (s : ByteArray) : ByteArray := if (s.size : Int) > 60 then s.extract 0 60 else s
def fitN (k n : Int) : Int := if k = 3 then 0 else n
def fitS (k : Int) (s : ByteArray) : ByteArray := if k = 3 then cut60 s else ⟨#[]⟩
theorem fit_of (k n : Int) (s : ByteArray) (hk : k = 1 ∨ k = 2 ∨ k = 3) (l : -9223372036854775808 ≤ n) (u : n < 9223372036854775808) : thresherlaw03_fit.f k n s = some (fitN k n, fitS k s) ∧ FitP k (fitN k n) (fitS k s) := by
  unfold thresherlaw03_fit.f fitN fitS cut60 FitP
  constructor
  · by_cases e : k = 3
    · simp only [if_pos e]
      split
      · rw [if_pos (by decide), if_pos (by omega)]
      · rfl
    · simp only [if_neg e]
  · refine ⟨hk, fun e => ?_, fun e => ?_, ?_⟩
    · refine ⟨by rw [if_pos e], ?_⟩
      rw [if_pos e]
      split
      · simp; omega
      · omega
    · simp only [if_neg e]
    · split <;> omega
theorem toList_loop (b : ByteArray) : ∀ (n i : Nat) (r : List UInt8), i + n = b.size → ByteArray.toList.loop b i r = r.reverse ++ b.data.toList.drop i
  | 0, i, r, h => by
    rw [ByteArray.toList.loop, if_neg (by omega), List.drop_of_length_le (by simp; omega)]; simp
  | n + 1, i, r, h => by
    have hi : i < b.size := by omega
    rw [ByteArray.toList.loop, if_pos hi, toList_loop b n (i + 1) _ (by omega)]
    have e : b.get! i = b.data.toList[i]'(by simpa using hi) := by
      simp [ByteArray.get!, hi]
    rw [List.drop_eq_getElem_cons (i := i) (by simpa using hi), e]
    simp
theorem toList_eq (b : ByteArray) : b.toList = b.data.toList := by
  show ByteArray.toList.loop b 0 [] = _
  rw [toList_loop b b.size 0 [] (by omega)]; simp
theorem dec_max : Lib.decDigits 18446744073709551615 = [49, 56, 52, 52, 54, 55, 52, 52, 48, 55, 51, 55, 48, 57, 53, 53, 49, 54, 49, 53] := by
  simp [Lib.decDigits]
theorem fmt_max : strconv_FormatUint_28.f (IntKind.u64.wrap (-1)) 10 = some ⟨#[49, 56, 52, 52, 54, 55, 52, 52, 48, 55, 51, 55, 48, 57, 53, 53, 49, 54, 49, 53]⟩ := by
  have e : IntKind.u64.wrap (-1) = 18446744073709551615 := by rw [IntKind.wrap_u64]; decide
  rw [e]
  unfold strconv_FormatUint_28.f
  rw [if_pos (by decide)]
  rw [show (18446744073709551615 : Int).toNat = 18446744073709551615 from rfl, dec_max]
/-- The document's examples. -/
theorem shown_true (m : Nat) : thresherlaw03_shown.f (m + 1) = some true := by
  have hf : FitP 2 (-1) ⟨#[]⟩ := by unfold FitP; refine ⟨by decide, by decide, fun _ => rfl, by decide, by decide⟩
  have hg : FitP 2 1 ⟨#[]⟩ := by unfold FitP; refine ⟨by decide, by decide, fun _ => rfl, by decide, by decide⟩
  simp only [thresherlaw03_shown.f, value_Text.f, fits_of hf, Option.bind_some, if_true, cmp_of hf hg]
  rw [if_neg (by decide), fmt_max]
  simp only [Option.bind_some]
  rw [toList_eq, if_pos rfl]
  have e : IntKind.u64.wrap (-1) = 18446744073709551615 := by rw [IntKind.wrap_u64]; decide
  have e1 : IntKind.u64.wrap 1 = 1 := by rw [IntKind.wrap_u64]; decide
  simp [cV, c3, e, e1]
end Go.Proofs.YtohbpgdhpfmlgaaDoor.PA
