/- FilterSides, in plain Lean: every part is told, and the counts fit. -/
import Derived.Test.YtohbpgdhpfmlgaaG2
import Derived.Test.YtohbpgdhpfmlgaaG5
import Derived.Test.YtohbpgdhpfmlgaaPAx5
import Derived.Test.YtohbpgdhpfmlgaaPAx5
import Derived.Test.YtohbpgdhpfmlgaaPAx6
import Derived.Test.YtohbpgdhpfmlgaaPAx8
namespace Go.Proofs.Ytohbpgdhpfmlgaa.PA
set_option linter.unusedVariables false
set_option linter.unusedSimpArgs false
open Go.RowKit Go.Proofs.YtohbpgdhpfmlgaaW.PrintWords Go.Proofs.YtohbpgdhpfmlgaaW.PrintLast

theorem cmpU_tot (a b : Int) : ∃ c, cmp_Compare_uint64.f a b = some c := by
  simp only [cmp_Compare_uint64.f, cmp_isNaN_uint64.f, Option.bind_some]
  repeat' split
  all_goals exact ⟨_, rfl⟩
theorem cmpI_tot (a b : Int) : ∃ c, cmp_Compare_int64.f a b = some c := by
  simp only [cmp_Compare_int64.f, cmp_isNaN_int64.f, Option.bind_some]
  repeat' split
  all_goals exact ⟨_, rfl⟩
theorem fits_tot (k : Nat) (t v : Int) (s : ByteArray) : ∃ b, value_Fits.f (k + 1) t v s = some b := by
  simp only [value_Fits.f, value_Fits.j0]
  repeat' split
  all_goals exact ⟨_, rfl⟩
theorem cmp_tot (k : Nat) (t v0 : Int) (v1 : ByteArray) (x0 : Int) (x1 : ByteArray) : ∃ c, value_Compare.f (k + 1) t v0 v1 x0 x1 = some c := by
  obtain ⟨b1, h1⟩ := fits_tot k t v0 v1
  obtain ⟨b2, h2⟩ := fits_tot k t x0 x1
  obtain ⟨c1, h3⟩ := cmpU_tot (IntKind.u64.wrap v0) (IntKind.u64.wrap x0)
  obtain ⟨c2, h4⟩ := cmpI_tot v0 x0
  simp only [value_Compare.f, value_Compare.j0, h1, h2, h3, h4, Option.bind_some, strings_Compare.f]
  repeat' split
  all_goals exact ⟨_, rfl⟩
theorem pre_tot (a b : ByteArray) : ∃ c, strings_HasPrefix.f a b = some c := by
  simp only [strings_HasPrefix.f, stringslite_HasPrefix.f]
  split
  · rename_i h
    first | exact ⟨_, rfl⟩ | (repeat' split) <;> first | exact ⟨_, rfl⟩ | omega
  · exact ⟨_, rfl⟩
/-- What an op asks of the order. -/
def opOf (op c : Int) : Bool := if op = 3 then decide (c < 0) else if op = 5 then decide (c > 0) else if op = 2 then c != 0 else if op = 4 then (if c < 0 then true else c == 0) else if op = 1 then c == 0 else decide (c ≥ 0)
theorem holds_op (k : Nat) (t : Int) (col v0 : Int) (v1 : ByteArray) (x0 : Int) (x1 : ByteArray) : ∃ c : Int, ∀ op, op ∈ [1, 2, 3, 4, 5, 6] → filter_holds.f (k + 1) t col op v0 v1 x0 x1 = some (opOf op c) := by
  obtain ⟨c, h⟩ := cmp_tot k t x0 x1 v0 v1
  refine ⟨c, fun op ho => ?_⟩
  simp only [filter_holds.f, h, Option.bind_some]
  simp only [List.mem_cons, List.not_mem_nil, or_false] at ho
  rcases ho with rfl | rfl | rfl | rfl | rfl | rfl <;> simp [opOf]
  split <;> simp_all <;> omega
theorem holds_tot (k : Nat) (t col op v0 : Int) (v1 : ByteArray) (x0 : Int) (x1 : ByteArray) : ∃ b, filter_holds.f (k + 1) t col op v0 v1 x0 x1 = some b := by
  obtain ⟨c, h⟩ := cmp_tot k t x0 x1 v0 v1
  obtain ⟨b, h2⟩ := pre_tot x1 v1
  simp only [filter_holds.f, h, h2, Option.bind_some]
  repeat' split
  all_goals exact ⟨_, rfl⟩
/-- Rows kept: those of which every filter holds. -/
theorem keepRow_all (k : Nat) (types : List Int) (r : List S26) (H : S28 → Bool) : ∀ fs : List S28, (∀ f ∈ fs, 0 ≤ f.f0 ∧ f.f0 < (types.length : Int) ∧ f.f0 < (r.length : Int) ∧ filter_holds.f k (rd types f.f0) f.f0 f.f1 f.f2.f0 f.f2.f1 (rd_T26 r f.f0).f0 (rd_T26 r f.f0).f1 = some (H f)) →
    keepRow k types r fs = some (fs.all H)
  | [], _ => rfl
  | f :: fs, h => by
    obtain ⟨h0, h1, h2, h3⟩ := h f (List.mem_cons_self ..)
    have ih := keepRow_all k types r H fs (fun g hg => h g (List.mem_cons_of_mem _ hg))
    simp only [keepRow, if_pos (And.intro h0 (And.intro h1 h2)), h3, Option.bind_some, ih, List.all_cons]
    cases H f <;> simp
theorem keepRows_filter (k : Nat) (types : List Int) (fs : List S28) (Q : List S26 → Bool) : ∀ rows : List (List S26), (∀ r ∈ rows, keepRow k types r fs = some (Q r)) → keepRows k types fs rows = some (rows.filter Q)
  | [], _ => rfl
  | r :: rs, h => by
    simp only [keepRows, h r (List.mem_cons_self ..), Option.bind_some, keepRows_filter k types fs Q rs (fun x hx => h x (List.mem_cons_of_mem _ hx)), List.filter_cons]
theorem fl_count {α : Type} (rows : List α) (p q s : α → Bool) (h : ∀ r, (p r).toNat + (q r).toNat = (s r).toNat) : (rows.filter p).length + (rows.filter q).length = (rows.filter s).length := by
  induction rows with
  | nil => rfl
  | cons r rs ih =>
    have h1 := h r
    simp only [List.filter_cons]
    cases hp : p r <;> cases hq : q r <;> cases hs : s r <;> simp_all [Bool.toNat] <;> omega
theorem fl_count2 {α : Type} (rows : List α) (p q s : α → Bool) (h : ∀ r, (p r).toNat + (q r).toNat = 1 + (s r).toNat) : (rows.filter p).length + (rows.filter q).length = rows.length + (rows.filter s).length := by
  induction rows with
  | nil => rfl
  | cons r rs ih =>
    have h1 := h r
    simp only [List.filter_cons]
    cases hp : p r <;> cases hq : q r <;> cases hs : s r <;> simp_all [Bool.toNat] <;> omega
/-- A fit row is as long as the types. -/
theorem fit_l0 (types : List Int) (x y z : Int) (row : List S26) (hl : types.length ≤ 100) : ∀ (n k i : Nat) (acc : List S26), i + n = types.length → acc.length = i → 2 * n + 1 ≤ k → ∃ r, thresherref04_Fit.l0 k row acc (i : Int) types x y z = some r ∧ r.length = types.length
  | 0, k, i, acc, hi, ha, hk => by
    obtain ⟨k, rfl⟩ : ∃ q, k = q + 1 := ⟨k - 1, by omega⟩
    refine ⟨acc, ?_, by omega⟩
    simp only [thresherref04_Fit.l0]
    rw [if_neg (by omega)]
  | n + 1, k, i, acc, hi, ha, hk => by
    obtain ⟨k, rfl⟩ : ∃ q, k = q + 2 := ⟨k - 2, by omega⟩
    have go : ∀ a0 a1, ∃ r, thresherref04_Fit.j1 (k + 1) row acc (i : Int) types x y z a0 a1 = some r ∧ r.length = types.length := by
      intro a0 a1
      have ih := fun v => fit_l0 types x y z row hl n k (i + 1) (acc ++ [v]) (by omega) (by simp; omega) (by omega)
      simp only [thresherref04_Fit.j1]
      rw [show wrap64 ((i : Int) + 1) = ((i + 1 : Nat) : Int) by unfold wrap64; omega]
      rw [if_pos (by omega), if_pos (by omega), if_pos (show acc.length < 5864062014805 by omega)]
      repeat' split
      all_goals first | exact ih _ | omega | skip
    simp only [thresherref04_Fit.l0]
    rw [if_pos (by omega)]
    split
    · rw [if_pos (by omega)]
      exact go _ _
    · exact go _ _
theorem fits_l0 (types : List Int) (x y z : Int) (l : List (List S26)) (hl : types.length ≤ 100) : ∀ (n k i : Nat) (acc : List (List S26)), i + n = 60 → acc.length ≤ i → (∀ r ∈ acc, r.length = types.length) → 300 + n + 1 ≤ k → ∃ r, thresherref04_Fits.l0 k l 60 acc (i : Int) types x y z = some r ∧ r.length ≤ 60 ∧ ∀ q ∈ r, q.length = types.length
  | 0, k, i, acc, hi, ha, hq, hk => by
    obtain ⟨k, rfl⟩ : ∃ q, k = q + 1 := ⟨k - 1, by omega⟩
    refine ⟨acc, ?_, by omega, hq⟩
    simp only [thresherref04_Fits.l0]
    rw [if_neg (show ¬ ((i : Int) < 60) by omega)]
    split <;> rfl
  | n + 1, k, i, acc, hi, ha, hq, hk => by
    obtain ⟨k, rfl⟩ : ∃ q, k = q + 1 := ⟨k - 1, by omega⟩
    simp only [thresherref04_Fits.l0]
    rw [if_pos (show ((i : Int) < 60) by omega), if_pos (show (0 : Int) ≤ (i : Int) by omega)]
    split
    · obtain ⟨r, h1, h2⟩ := fit_l0 types x y z (rd_L7 l (i : Int)) hl types.length k 0 [] (by omega) rfl (by omega)
      have h1' : thresherref04_Fit.f k types x y z (rd_L7 l (i : Int)) = some r := h1
      rw [h1', Option.bind_some, if_pos (show acc.length < 5864062014805 by omega)]
      rw [show wrap64 ((i : Int) + 1) = ((i + 1 : Nat) : Int) by unfold wrap64; omega]
      refine fits_l0 types x y z l hl n k (i + 1) (acc ++ [r]) (by omega) (by simp; omega) ?_ (by omega)
      intro q hq'
      rcases List.mem_append.1 hq' with h | h
      · exact hq q h
      · rw [List.mem_singleton.1 h]; exact h2
    · exact ⟨acc, rfl, by omega, hq⟩
theorem one_refl_l0 (l : List S26) : ∀ (n k i : Nat), i + n = l.length → l.length ≤ 1000 → n + 1 ≤ k → thresherref04_One.l0 k l l (i : Int) = some true
  | 0, k, i, hi, hl, hk => by
    obtain ⟨k, rfl⟩ : ∃ q, k = q + 1 := ⟨k - 1, by omega⟩
    simp only [thresherref04_One.l0]
    rw [if_neg (by omega)]
  | n + 1, k, i, hi, hl, hk => by
    obtain ⟨k, rfl⟩ : ∃ q, k = q + 1 := ⟨k - 1, by omega⟩
    simp only [thresherref04_One.l0]
    rw [if_pos (by omega), if_pos (by omega), if_pos (by omega), if_neg (by simp)]
    rw [show wrap64 ((i : Int) + 1) = ((i + 1 : Nat) : Int) by unfold wrap64; omega]
    exact one_refl_l0 l n k (i + 1) (by omega) hl (by omega)
theorem rows_refl_l0 (l : List (List S26)) (hr : ∀ r ∈ l, r.length ≤ 100) : ∀ (n k i : Nat), i + n = l.length → l.length ≤ 1000 → n + 201 ≤ k → thresherref04_Rows.l0 k l l (i : Int) = some true
  | 0, k, i, hi, hl, hk => by
    obtain ⟨k, rfl⟩ : ∃ q, k = q + 1 := ⟨k - 1, by omega⟩
    simp only [thresherref04_Rows.l0]
    rw [if_neg (by omega)]
  | n + 1, k, i, hi, hl, hk => by
    obtain ⟨k, rfl⟩ : ∃ q, k = q + 1 := ⟨k - 1, by omega⟩
    have h0 : (rd_L7 l (i : Int)).length ≤ 100 := by rw [rdL7_at l i (by omega)]; exact hr _ (List.getElem_mem _)
    have h1 : thresherref04_One.f k (rd_L7 l (i : Int)) (rd_L7 l (i : Int)) = some true := by
      simp only [thresherref04_One.f, if_true]
      exact one_refl_l0 _ (rd_L7 l (i : Int)).length k 0 (by omega) (by omega) (by omega)
    simp only [thresherref04_Rows.l0]
    rw [if_pos (by omega), if_pos (by omega), if_pos (by omega), h1, Option.bind_some, if_pos rfl]
    rw [show wrap64 ((i : Int) + 1) = ((i + 1 : Nat) : Int) by unfold wrap64; omega]
    exact rows_refl_l0 l hr n k (i + 1) (by omega) hl (by omega)
theorem rows_refl (l : List (List S26)) (hr : ∀ r ∈ l, r.length ≤ 100) (hl : l.length ≤ 500) (k : Nat) (hk : 900 ≤ k) : thresherref04_Rows.f k l l = some true := by
  simp only [thresherref04_Rows.f, if_true]
  exact rows_refl_l0 l hr l.length k 0 (by omega) (by omega) (by omega)
theorem shown_ok : thresherlaw19_shown.f 1000 = some true := by kernel_rfl
end Go.Proofs.Ytohbpgdhpfmlgaa.PA
