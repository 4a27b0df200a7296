/- What is written, in plain Lean. -/
import Derived.Test.YtohbpgdhpfmlgaaDoorG8
namespace Go.Proofs.YtohbpgdhpfmlgaaDoor.PA
set_option linter.unusedVariables false
set_option linter.unusedSimpArgs false
open Go.RowKit Go.Proofs.YtohbpgdhpfmlgaaDoorW.PrintWords Go.Proofs.YtohbpgdhpfmlgaaDoorW.PrintLast Go.Proofs.YtohbpgdhpfmlgaaDoorW.PrintMore
theorem bt_mk (l : List UInt8) (i : Nat) (h : i < l.length) : bt ⟨l.toArray⟩ (i : Int) = ((l[i]'h).toNat : Int) := by
  have hs : ((i : Int)).toNat < (⟨l.toArray⟩ : ByteArray).size := by simpa [ByteArray.size] using h
  unfold bt
  rw [dif_pos hs]
  rfl
theorem size_mk (l : List UInt8) : (⟨l.toArray⟩ : ByteArray).size = l.length := by simp [ByteArray.size]
/-- What may stand at a place of what is written. -/
def okB (kk : Int) (n i : Nat) (c : Int) : Prop := if kk = 3 then 32 ≤ c ∧ c ≤ 126 ∧ (c = 34 → i = 0 ∨ i + 1 = n) else (48 ≤ c ∧ c ≤ 57) ∨ (i = 0 ∧ kk = 1 ∧ c = 45)
theorem dec_at (u i : Nat) (h : i < (Lib.decDigits u).length) : 48 ≤ ((Lib.decDigits u)[i]).toNat ∧ ((Lib.decDigits u)[i]).toNat ≤ 57 := dec_digits u _ (List.getElem_mem h)
theorem dec_len (u : Nat) : 1 ≤ (Lib.decDigits u).length := by
  have := dec_ne u
  cases h : Lib.decDigits u with
  | nil => exact absurd h this
  | cons a l => simp
theorem dec_len20 (u : Nat) (hu : u < 18446744073709551616) : (Lib.decDigits u).length ≤ 20 := by
  rw [Lib.decDigits_length]
  by_cases h : 1 ≤ u
  · have := Lib.numDigits_eq u h hu; split at this <;> omega
  · obtain rfl : u = 0 := by omega
    rw [← Lib.decDigits_length]; rw [Lib.decDigits_one (by omega)]; simp
theorem qc_ok (c : UInt8) : ∀ x ∈ qc c, 32 ≤ x.toNat ∧ x.toNat ≤ 126 ∧ x.toNat ≠ 34 := by
  have hx : ∀ n, n < 16 → 32 ≤ (hexL.getD n 0).toNat ∧ (hexL.getD n 0).toNat ≤ 126 ∧ (hexL.getD n 0).toNat ≠ 34 := by decide
  have hc : c.toNat < 256 := c.toNat_lt
  unfold qc
  split
  · intro x h
    simp only [List.mem_cons, List.not_mem_nil, or_false] at h
    rcases h with rfl | rfl | rfl
    · decide
    · exact hx _ (by omega)
    · exact hx _ (by omega)
  · rename_i h
    intro x hx
    rw [List.mem_singleton.1 hx]
    simp [odd] at h
    omega
/-- What is told of a written value. -/
theorem writes_text (k n : Int) (s : ByteArray) (h : FitP k n s) (m : Nat) : ∃ r, value_Text.f (m + 1) k n s = some r ∧ 1 ≤ r.size ∧ r.size ≤ 200 ∧ (k = 3 → 2 ≤ r.size ∧ bt r 0 = 34 ∧ bt r ((r.size : Int) - 1) = 34) ∧ ∀ i, i < r.size → okB k r.size i (bt r i) := by
  have hf := fits_of h m
  rcases h.1 with rfl | rfl | rfl
  · have e := h.2.2.1 (by decide)
    subst e
    refine ⟨_, text_i h m, ?_⟩
    rw [size_mk]
    have hl : n.natAbs < 18446744073709551616 := by have := h.2.2.2; omega
    unfold Lib.itoa
    split
    · have a := dec_len n.natAbs
      have b := dec_len20 n.natAbs hl
      refine ⟨by simp, by simp; omega, fun e => absurd e (by decide), fun i hi => ?_⟩
      rw [bt_mk _ i hi]
      unfold okB
      rw [if_neg (by decide)]
      cases i with
      | zero => right; simp
      | succ i =>
        left
        simp only [List.getElem_cons_succ]
        have := dec_at n.natAbs i (by simpa using hi)
        omega
    · have a := dec_len n.toNat
      have b := dec_len20 n.toNat (by omega)
      refine ⟨a, by omega, fun e => absurd e (by decide), fun i hi => ?_⟩
      rw [bt_mk _ i hi]
      unfold okB
      rw [if_neg (by decide)]
      left
      have := dec_at n.toNat i hi
      omega
  · have e := h.2.2.1 (by decide)
    subst e
    refine ⟨_, text_u h m, ?_⟩
    rw [size_mk]
    have hl : (IntKind.u64.wrap n).toNat < 18446744073709551616 := by have := u_rng n; omega
    have a := dec_len (IntKind.u64.wrap n).toNat
    have b := dec_len20 _ hl
    refine ⟨a, by omega, fun e => absurd e (by decide), fun i hi => ?_⟩
    rw [bt_mk _ i hi]
    unfold okB
    rw [if_neg (by decide)]
    left
    have := dec_at _ i hi
    omega
  · obtain ⟨_, hs⟩ := h.2.1 rfl
    refine ⟨⟨(qL s.data.toList ++ [34]).toArray⟩, ?_, ?_⟩
    · simp only [value_Text.f, hf, Option.bind_some, if_true, value_quoted.f]
      rw [if_neg (by decide), if_neg (by decide), if_pos hs]; rfl
    · rw [size_mk]
      have hq := qL_len s.data.toList
      have hq2 : s.data.toList.length ≤ 60 := by simpa using hs
      have hl : (qL s.data.toList ++ [34]).length = (s.data.toList.flatMap qc).length + 2 := by simp [qL]
      refine ⟨by omega, by simp; omega, fun _ => ⟨by omega, ?_, ?_⟩, fun i hi => ?_⟩
      · have := bt_mk (qL s.data.toList ++ [34]) 0 (by omega)
        simpa [qL] using this
      · have e : (((qL s.data.toList ++ [34]).length : Int) - 1) = ((qL s.data.toList).length : Int) := by simp
        rw [e, bt_mk _ _ (by simp)]
        simp
      · rw [bt_mk _ i hi]
        unfold okB
        rw [if_pos rfl]
        by_cases h0 : i = 0
        · subst h0
          simp [qL]
        · by_cases h1 : i + 1 = (qL s.data.toList ++ [34]).length
          · have e : i = (qL s.data.toList).length := by simp at h1; omega
            subst e
            simp
          · have hm : (qL s.data.toList ++ [34])[i] ∈ s.data.toList.flatMap qc := by
              obtain ⟨j, rfl⟩ : ∃ j, i = j + 1 := ⟨i - 1, by omega⟩
              have hj : j < (s.data.toList.flatMap qc).length := by omega
              have : (qL s.data.toList ++ [34])[j + 1] = (s.data.toList.flatMap qc)[j] := by
                have e0 : (qL s.data.toList ++ [34])[j + 1]? = (s.data.toList.flatMap qc)[j]? := by
                  simp only [qL, List.cons_append, List.getElem?_cons_succ]
                  rw [List.getElem?_append_left hj]
                rw [List.getElem?_eq_getElem hi, List.getElem?_eq_getElem hj] at e0
                exact Option.some.inj e0
              rw [this]
              exact List.getElem_mem hj
            obtain ⟨c, _, hc⟩ := List.mem_flatMap.1 hm
            have := qc_ok c _ hc
            refine ⟨by omega, by omega, fun e => ?_⟩
            omega
end Go.Proofs.YtohbpgdhpfmlgaaDoor.PA
