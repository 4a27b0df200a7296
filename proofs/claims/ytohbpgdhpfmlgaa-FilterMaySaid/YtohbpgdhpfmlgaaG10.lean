/- FilterMay, in plain Lean: what May answers, and for every input its walk answers true. -/
import Derived.Test.YtohbpgdhpfmlgaaG7
import Derived.Test.YtohbpgdhpfmlgaaG9
namespace Go.Proofs.Ytohbpgdhpfmlgaa.PA
set_option linter.unusedVariables false
set_option linter.unusedSimpArgs false
open Go.RowKit Go.Proofs.YtohbpgdhpfmlgaaW.PrintWords Go.Proofs.YtohbpgdhpfmlgaaW.PrintLast

def fitsB (t v0 : Int) (v1 : ByteArray) : Bool := if t = 1 then v1.toList == [] else if t = 2 then v1.toList == [] else if t = 3 then (if v0 = 0 then decide ((v1.size : Int) ≤ 60) else false) else false
theorem fits_is (k : Nat) (t v0 : Int) (v1 : ByteArray) : value_Fits.f (k + 1) t v0 v1 = some (fitsB t v0 v1) := by
  simp only [value_Fits.f, value_Fits.j0, fitsB]
  by_cases h1 : t = 1
  · subst h1; rfl
  · rw [if_neg h1, if_neg h1]
    by_cases h2 : t = 2
    · subst h2; rfl
    · rw [if_neg h2, if_neg (by simpa using h2)]
      repeat' split
      all_goals rfl
/-- A filter that fits the schema. -/
def okF (types : List Int) (f : S28) : Bool := decide (0 ≤ f.f0) && decide (f.f0 < (types.length : Int)) && fitsB (rd types f.f0) f.f2.f0 f.f2.f1 && decide (1 ≤ f.f1) && decide (f.f1 ≤ 7) && (if f.f1 = 7 then decide (rd types f.f0 = 3) else true)
theorem may_l0 (types : List Int) (x y z : Int) (l : List S28) (hl : l.length ≤ 100) : ∀ (n k i : Nat), i + n = l.length → 3 * n + 2 ≤ k → filter_May.l0 k l l (l.length : Int) (i : Int) types x y z = some ((l.drop i).all (okF types) && decide (l.length ≤ 16))
  | 0, k, i, hi, hk => by
    obtain ⟨k, rfl⟩ : ∃ q, k = q + 1 := ⟨k - 1, by omega⟩
    simp only [filter_May.l0]
    rw [if_neg (by omega), List.drop_of_length_le (by omega)]
    simp
    omega
  | n + 1, k, i, hi, hk => by
    obtain ⟨k, rfl⟩ : ∃ q, k = q + 4 := ⟨k - 4, by omega⟩
    have ih := may_l0 types x y z l hl n (k + 1) (i + 1) (by omega) (by omega)
    have hd : l.drop i = l[i] :: l.drop (i + 1) := List.drop_eq_getElem_cons (by omega)
    rw [hd, List.all_cons]
    simp only [filter_May.l0]
    rw [if_pos (by omega), if_pos (by omega), if_pos (by omega), rdT28_at l i (by omega)]
    generalize l[i] = f
    simp only [filter_May.j1, filter_May.j2, fits_is, Option.bind_some]
    rw [show wrap64 ((i : Int) + 1) = ((i + 1 : Nat) : Int) by unfold wrap64; omega, ih]
    generalize (l.drop (i + 1)).all (okF types) = r
    by_cases c0 : f.f0 < 0
    · have c0' : ¬ 0 ≤ f.f0 := by omega
      simp [okF, c0, c0']
    · have c0' : 0 ≤ f.f0 := by omega
      by_cases c1 : f.f0 < (types.length : Int)
      · have c1' : ¬ (f.f0 ≥ (types.length : Int)) := by omega
        by_cases c2 : fitsB (rd types f.f0) f.f2.f0 f.f2.f1 = true
        · by_cases c3 : f.f1 < 1
          · have c3' : ¬ 1 ≤ f.f1 := by omega
            simp [okF, c0, c0', c1, c1', c2, c3, c3']
          · have c3' : 1 ≤ f.f1 := by omega
            by_cases c4 : f.f1 > 7
            · have c4' : ¬ f.f1 ≤ 7 := by omega
              simp [okF, c0, c0', c1, c1', c2, c3, c3', c4, c4']
            · have c4' : f.f1 ≤ 7 := by omega
              by_cases c5 : f.f1 = 7
              · by_cases c6 : rd types f.f0 = 3
                · rw [c6] at c2
                  simp [okF, c0, c0', c1, c1', c2, c3, c3', c4, c4', c5, c6]
                · simp [okF, c0, c0', c1, c1', c2, c3, c3', c4, c4', c5, c6]
              · simp [okF, c0, c0', c1, c1', c2, c3, c3', c4, c4', c5]
        · simp [okF, c0, c0', c1, c1', c2]
      · have c1' : (f.f0 ≥ (types.length : Int)) := by omega
        simp [okF, c0, c0', c1, c1']
theorem may_is (types : List Int) (x y z : Int) (l : List S28) (hl : l.length ≤ 100) (k : Nat) (hk : 500 ≤ k) : filter_May.f k types x y z l = some (l.all (okF types) && decide (l.length ≤ 16)) := by
  have h := may_l0 types x y z l hl l.length k 0 (by omega) (by omega)
  exact h
theorem fit_nil (types : List Int) (x y z : Int) (hl : types.length ≤ 100) : ∀ (n k i : Nat) (acc : List S26), i + n = types.length → acc.length = i → 2 * n + 1 ≤ k → thresherref04_Fit.l0 k [] acc (i : Int) types x y z = some (acc ++ List.replicate n ⟨0, ⟨#[]⟩⟩)
  | 0, k, i, acc, hi, ha, hk => by
    obtain ⟨k, rfl⟩ : ∃ q, k = q + 1 := ⟨k - 1, by omega⟩
    simp only [thresherref04_Fit.l0]
    rw [if_neg (by omega)]
    simp
  | n + 1, k, i, acc, hi, ha, hk => by
    obtain ⟨k, rfl⟩ : ∃ q, k = q + 2 := ⟨k - 2, by omega⟩
    have ih := fit_nil types x y z hl n k (i + 1) (acc ++ [⟨0, ⟨#[]⟩⟩]) (by omega) (by simp; omega) (by omega)
    simp only [thresherref04_Fit.l0, thresherref04_Fit.j1]
    rw [if_pos (by omega), if_neg (by simp), if_pos (by omega), if_pos (by omega), if_pos (show acc.length < 5864062014805 by omega)]
    rw [show wrap64 ((i : Int) + 1) = ((i + 1 : Nat) : Int) by unfold wrap64; omega, ih]
    rw [if_neg (show ¬ ((((⟨#[]⟩ : ByteArray).size : Nat) : Int) > 60) by decide), if_pos (show acc.length < 5864062014805 by omega), ite_self]
    simp [List.replicate_succ]
theorem e_list : (⟨#[]⟩ : ByteArray).toList = [] := by kernel_rfl
theorem x_list : (⟨#[120]⟩ : ByteArray).toList = [120] := by kernel_rfl
theorem okF_one (types : List Int) (f : S28) (hlen : 0 < types.length) (ht : ∀ t ∈ types, t = 1 ∨ t = 2 ∨ t = 3) : okF types (fitOne types f) = true := by
  have h0 := fitOne_f0 types f
  have h1 : 0 ≤ f.f0 % (types.length : Int) := Int.emod_nonneg _ (by omega)
  have h2 : f.f0 % (types.length : Int) < (types.length : Int) := Int.emod_lt_of_pos _ (by omega)
  have h3 : rd types (f.f0 % (types.length : Int)) ∈ types := by
    unfold rd
    rw [List.getD_eq_getElem?_getD, List.getElem?_eq_getElem (by omega)]
    exact List.getElem_mem _
  have h4 := ht _ h3
  have o0 : 0 ≤ f.f1 % 7 := Int.emod_nonneg _ (by omega)
  have o1 : f.f1 % 7 < 7 := Int.emod_lt_of_pos _ (by omega)
  unfold fitOne
  by_cases c3 : rd types (f.f0 % (types.length : Int)) = 3
  · rw [if_pos c3]
    have hs : ((f.f2.f1.extract 0 (min f.f2.f1.size 60)).size : Int) ≤ 60 := by
      rw [ByteArray.size_extract]
      omega
    have g1 : 1 ≤ 1 + f.f1 % 7 := by omega
    have g2 : 1 + f.f1 % 7 ≤ 7 := by omega
    simp only [okF, c3, fitsB, h1, h2, g1, g2, hs, decide_true, Bool.and_true, if_true, Bool.true_and]
    simp
  · rw [if_neg c3]
    have hf : fitsB (rd types (f.f0 % (types.length : Int))) f.f2.f0 ⟨#[]⟩ = true := by
      rcases h4 with h | h | h
      · rw [h]; simp [fitsB, e_list]
      · rw [h]; simp [fitsB, e_list]
      · exact absurd h c3
    by_cases c7 : 1 + f.f1 % 7 = 7
    · simp only [okF, if_pos c7, h1, h2, hf, decide_true, Bool.and_true]
      simp
    · have g1 : 1 ≤ 1 + f.f1 % 7 := by omega
      have g2 : 1 + f.f1 % 7 ≤ 7 := by omega
      simp only [okF, if_neg c7, h1, h2, hf, g1, g2, decide_true, Bool.and_true]
theorem FilterMay.works (x0 x1 x2 x3 x4 x5 x6 x7 x8 x9 x10 x11 : Int) (A1 : Option Addr) (c1 : Nat) (l1 : List S28) (col : Int) (w : World) (hb : [x0, x1, x2, x3, x4, x5, x6, x7, x8, x9, x10, x11].all byteOk = true)
    (hp : (l1.all fun f => okInt f.f0 && okInt f.f1) = true) (hr1 : Kd.C k28 w A1 l1.length l1) (hc1 : l1.length ≤ c1) :
    Calls Try.prog 4 #[.agg #[.int .u8 x0, .int .u8 x1, .int .u8 x2, .int .u8 x3, .int .u8 x4, .int .u8 x5, .int .u8 x6, .int .u8 x7, .int .u8 x8, .int .u8 x9, .int .u8 x10, .int .u8 x11],
      .slice A1 l1.length c1, .int .i64 col] w fun e w' => e = .returned (.bool true) ∧ Below w.heap.size w w' := by
  have hmade : thresherlaw19_made.f x0 x1 x2 x3 x4 x5 x6 x7 x8 x9 x10 x11 = some (madeTypes [x0, x1, x2, x3, x4, x5, x6, x7] (1 + x8 % 8).toNat, 1 + x9 % (1 + x8 % 8), 1 + x10 % 3, 1 + x11 % 8) := by
    simp only [thresherlaw19_made.f, thresherref04_Made.f, hb, if_true, Option.bind_some]
  have hlen : (madeTypes [x0, x1, x2, x3, x4, x5, x6, x7] (1 + x8 % 8).toNat).length ≤ 8 ∧ 0 < (madeTypes [x0, x1, x2, x3, x4, x5, x6, x7] (1 + x8 % 8).toNat).length := by
    simp only [madeTypes, List.length_map, List.length_take, List.length_cons, List.length_nil]
    omega
  have htys : ∀ t ∈ madeTypes [x0, x1, x2, x3, x4, x5, x6, x7] (1 + x8 % 8).toNat, t = 1 ∨ t = 2 ∨ t = 3 := by
    intro t ht
    obtain ⟨x, _, rfl⟩ := List.mem_map.1 ht
    have h1 : 0 ≤ x % 3 := Int.emod_nonneg _ (by omega)
    have h2 : x % 3 < 3 := Int.emod_lt_of_pos _ (by omega)
    omega
  generalize madeTypes [x0, x1, x2, x3, x4, x5, x6, x7] (1 + x8 % 8).toNat = types at hmade hlen htys
  generalize 1 + x9 % (1 + x8 % 8) = q1 at hmade
  generalize 1 + x10 % 3 = q2 at hmade
  generalize 1 + x11 % 8 = q3 at hmade
  obtain ⟨hl8, hl0⟩ := hlen
  have hfit : thresherref19_Fit.f types q1 q2 q3 l1 15 = some ((l1.take 15).map (fitOne types)) := by
    unfold thresherref19_Fit.f
    rw [if_pos ⟨hl0, by omega, by omega, by omega, hp⟩]
    rfl
  have hlf : ((l1.take 15).map (fitOne types)).length ≤ 15 := by
    rw [List.length_map, List.length_take]
    omega
  have hok : ((l1.take 15).map (fitOne types)).all (okF types) = true := by
    rw [List.all_eq_true]
    intro f hf
    obtain ⟨g, _, rfl⟩ := List.mem_map.1 hf
    exact okF_one types g hl0 htys
  generalize (l1.take 15).map (fitOne types) = fit at hfit hlf hok
  obtain ⟨n, hn⟩ : ∃ n, types.length = n + 1 := ⟨types.length - 1, by omega⟩
  have hzero : thresherref04_Fit.f 1000 types q1 q2 q3 [] = some ((⟨0, ⟨#[]⟩⟩ : S26) :: List.replicate n ⟨0, ⟨#[]⟩⟩) := by
    have h := fit_nil types q1 q2 q3 (by omega) types.length 1000 0 [] (by omega) rfl (by omega)
    rw [hn, List.replicate_succ] at h
    exact h
  have ht0 : rd types 0 = 1 ∨ rd types 0 = 2 ∨ rd types 0 = 3 := by
    refine htys _ ?_
    unfold rd
    rw [List.getD_eq_getElem?_getD, List.getElem?_eq_getElem (by simpa using hl0)]
    exact List.getElem_mem _
  have hz : ∀ t, t = 1 ∨ t = 2 ∨ t = 3 → fitsB t 0 ⟨#[]⟩ = true := by
    rintro t (rfl | rfl | rfl) <;> simp [fitsB, e_list] <;> decide
  have hz0 := hz _ ht0
  have h0l : (0 : Int) < (types.length : Int) := by omega
  have mays : ∀ l : List S28, l.length ≤ 2 → filter_May.f 1000 types q1 q2 q3 (fit ++ l) = some (l.all (okF types) && decide (fit.length + l.length ≤ 16)) := by
    intro l hl
    rw [may_is types q1 q2 q3 (fit ++ l) (by simp; omega) 1000 (by omega), List.all_append, hok, List.length_append, Bool.true_and]
  refine FilterMay.walk 1000 x0 x1 x2 x3 x4 x5 x6 x7 x8 x9 x10 x11 A1 c1 l1 col types q1 q2 q3 fit ⟨0, ⟨#[]⟩⟩ _ (okF types ⟨col, 1, ⟨0, ⟨#[]⟩⟩⟩) w hr1 hc1 hl0 shown_ok hmade hfit hlf hzero ?_ ?_ ?_ ?_ ?_ ?_ ?_
  · rw [mays _ (by simp)]
    simp
    omega
  · intro h
    simp only [okF, Bool.and_eq_true, decide_eq_true_eq] at h
    exact ⟨h.1.1.1.1.1, h.1.1.1.1.2⟩
  · intro h e
    subst e
    simp [okF, hz0, hl0] at h
  · rw [mays _ (by simp)]
    have : fit.length + 1 ≤ 16 := by omega
    simp only [List.all_cons, List.all_nil, Bool.and_true, List.length_cons, List.length_nil, decide_eq_true this]
    congr 1
    simp only [okF, opOk, hz0, decide_eq_true h0l, decide_true, Bool.true_and, Int.le_refl]
    by_cases c7 : col = 7
    · subst c7
      simp
    · by_cases c6 : col ≤ 6
      · have : col ≤ 7 := by omega
        simp [c7, c6, this]
      · have : ¬ col ≤ 7 := by omega
        simp [c7, c6, this]
  · rw [List.append_assoc, mays _ (by simp)]
    simp only [List.cons_append, List.nil_append, List.all_cons, List.all_nil, Bool.and_true, List.length_cons, List.length_nil]
    have e2 : okF types ⟨0, 2, ⟨0, ⟨#[]⟩⟩⟩ = true := by simp [okF, hz0, hl0]
    have e1 : okF types ⟨0, 1, ⟨0, ⟨#[]⟩⟩⟩ = true := by simp [okF, hz0, hl0]
    rw [e1, e2]
    simp
    omega
  · rw [mays _ (by simp)]
    have e1 : okF types ⟨0, 1, ⟨1, ⟨#[120]⟩⟩⟩ = false := by
      have : fitsB (rd types 0) 1 ⟨#[120]⟩ = false := by rcases ht0 with h | h | h <;> rw [h] <;> simp [fitsB, x_list]
      simp [okF, this]
    simp [e1]
  · rw [may_is types q1 q2 q3 [] (by simp) 1000 (by omega)]
    rfl
end Go.Proofs.Ytohbpgdhpfmlgaa.PA
