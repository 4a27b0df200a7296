/- What is written of a value is read again as it. -/
import Derived.Test.YtohbpgdhpfmlgaaDoorG12
import Derived.Test.YtohbpgdhpfmlgaaDoorG9
namespace Go.Proofs.YtohbpgdhpfmlgaaDoor.PA
set_option linter.unusedVariables false
set_option linter.unusedSimpArgs false
open Go.Lib Go.RowKit Go.Proofs.YtohbpgdhpfmlgaaDoorW.PrintWords Go.Proofs.YtohbpgdhpfmlgaaDoorW.PrintLast Go.Proofs.YtohbpgdhpfmlgaaDoorW.PrintMore
theorem pm_append (M : Nat) : ∀ (l r : List UInt8) (acc a : Nat), Lib.parseUintM M acc l = .ok a → Lib.parseUintM M acc (l ++ r) = Lib.parseUintM M a r
  | [], r, acc, a, h => by
    have e : acc = a := by simpa [Lib.parseUintM] using h
    rw [e]; rfl
  | c :: l, r, acc, a, h => by
    simp only [List.cons_append, Lib.parseUintM] at h ⊢
    split at h
    · rename_i h1
      rw [if_pos h1]
      split at h
      · cases h
      · rename_i h2
        rw [if_neg h2]
        split at h
        · cases h
        · rename_i h3
          rw [if_neg h3]
          exact pm_append M l r _ a h
    · cases h
theorem pm_dec (M : Nat) (hM : M < 18446744073709551616) (u : Nat) : u ≤ M → Lib.parseUintM M 0 (Lib.decDigits u) = .ok u := by
  induction u using Nat.strongRecOn with
  | _ u ih =>
    intro hu
    have dig : ∀ n, n < 10 → (UInt8.ofNat (48 + n)).toNat = 48 + n := by
      intro n hn
      simp [UInt8.toNat_ofNat']; omega
    rw [Lib.decDigits]
    split
    · rename_i h
      have d := dig u h
      simp only [Lib.parseUintM, d]
      rw [if_pos (by omega), if_neg (by omega), if_neg (by omega)]
      congr 1
      omega
    · rename_i h
      rw [pm_append M _ _ 0 (u / 10) (ih (u / 10) (by omega) (by omega))]
      have d := dig (u % 10) (by omega)
      simp only [Lib.parseUintM, d]
      rw [if_pos (by omega), if_neg (by omega), if_neg (by omega)]
      congr 1
      omega
theorem pB_dec (u : Nat) (hu : u < 18446744073709551616) : Lib.parseUintB 64 (Lib.decDigits u) = .ok u := by
  unfold Lib.parseUintB
  rw [if_neg (dec_ne u)]
  exact pm_dec _ (by decide) u (by have : (2 : Nat) ^ 64 - 1 = 18446744073709551615 := by decide
                                   omega)
theorem pI_itoa (n : Int) (l : -9223372036854775808 ≤ n) (u : n < 9223372036854775808) : Lib.parseIntB 64 (Lib.itoa n) = .ok n := by
  have e63 : (2 : Nat) ^ (64 - 1) = 9223372036854775808 := by decide
  unfold Lib.itoa
  split
  · rename_i h
    have hp := pB_dec n.natAbs (by omega)
    simp only [Lib.parseIntB]
    rw [if_pos (Or.inr (by decide)), hp]
    simp only
    rw [if_neg (by rintro ⟨h1, _⟩; exact h1 (by decide)), if_neg (by rintro ⟨_, h2⟩; omega), if_pos (by decide)]
    congr 1
    omega
  · rename_i h
    have hp := pB_dec n.toNat (by omega)
    have hd := dec_digits n.toNat
    cases hl : Lib.decDigits n.toNat with
    | nil => exact absurd hl (dec_ne _)
    | cons c r =>
      rw [hl] at hp hd
      have hc := hd c (List.mem_cons_self ..)
      simp only [Lib.parseIntB]
      rw [if_neg (by omega), hp]
      simp only
      rw [if_neg (by rintro ⟨_, h2⟩; omega), if_neg (by rintro ⟨h1, _⟩; omega), if_neg (by omega)]
      congr 1
      omega
theorem wrap_back {n : Int} (l : -9223372036854775808 ≤ n) (u : n < 9223372036854775808) : wrap64 (((IntKind.u64.wrap n).toNat : Nat) : Int) = n := by
  have := u_rng n
  rw [Int.toNat_of_nonneg this.1, IntKind.wrap_u64]
  unfold wrap64
  omega
theorem hx_hex : ∀ n, n < 16 → hx (hexL.getD n 0) = some n := by decide +kernel
theorem unq_qc : ∀ (l : List UInt8) (k : Nat), (l.flatMap qc).length < k → unq k (l.flatMap qc) = some l
  | [], k, h => by
    obtain ⟨k, rfl⟩ : ∃ q, k = q + 1 := ⟨k - 1, by simp at h; omega⟩
    rfl
  | c :: l, k, h => by
    obtain ⟨k, rfl⟩ : ∃ q, k = q + 1 := ⟨k - 1, by omega⟩
    have hc : c.toNat < 256 := c.toNat_lt
    simp only [List.flatMap_cons, List.length_append] at h ⊢
    unfold qc at h ⊢
    by_cases ho : odd c = true
    · rw [if_pos ho] at h ⊢
      simp only [List.length_cons, List.length_nil] at h
      simp only [List.cons_append, List.nil_append]
      unfold unq
      rw [if_pos (by decide)]
      have h2 : hx2 (hexL.getD (c.toNat / 16) 0) (hexL.getD (c.toNat % 16) 0) = some c.toNat := by
        unfold hx2
        rw [hx_hex _ (by omega), hx_hex _ (by omega)]
        simp only [Option.bind_some, Option.map_some]
        congr 1
        omega
      simp only [h2, Option.bind_some]
      have ih := unq_qc l k (by unfold qc; omega)
      unfold qc at ih
      rw [ih]
      simp
    · rw [if_neg ho] at h ⊢
      simp only [List.length_cons, List.length_nil] at h
      simp only [List.cons_append, List.nil_append]
      unfold unq
      have hc92 : ¬ c.toNat = 92 := by
        intro e
        apply ho
        simp [odd, e]
      rw [if_neg hc92]
      have ih := unq_qc l k (by unfold qc; omega)
      unfold qc at ih
      rw [ih]
      rfl
theorem inner_q (s x : ByteArray) (h : s.data.toList = qL x.data.toList ++ [34]) : inner s = x.data.toList.flatMap qc ∧ marks s = true := by
  have e1 : Lib.hasPrefix s.data.toList [34] = true := by rw [h]; simp [Lib.hasPrefix, qL]
  have e2 : Lib.trimPrefix s.data.toList [34] = x.data.toList.flatMap qc ++ [34] := by
    unfold Lib.trimPrefix; rw [if_pos e1, h]; simp [qL]
  have e3 : Lib.hasSuffix (x.data.toList.flatMap qc ++ [34]) [34] = true := by
    simp [Lib.hasSuffix, List.isSuffixOf]
  unfold inner marks
  rw [e1, e2, e3]
  refine ⟨?_, rfl⟩
  unfold Lib.trimSuffix
  rw [if_pos e3]
  simp
theorem textV_q (s x : ByteArray) (h : s.data.toList = qL x.data.toList ++ [34]) : textV s = (x.data.toList, true) := by
  obtain ⟨h1, h2⟩ := inner_q s x h
  have hsz : s.size = (x.data.toList.flatMap qc).length + 2 := by
    have : s.data.toList.length = s.size := by simp
    rw [← this, h]; simp [qL]
  unfold textV
  rw [h1, h2, unq_qc _ _ (by omega)]
/-- What is written is read. -/
theorem parsed_text {k n : Int} {s r : ByteArray} (h : FitP k n s) (hr : value_Text.f 1 k n s = some r) : parsed k r = some (n, s) := by
  rcases h.1 with rfl | rfl | rfl
  · have e := h.2.2.1 (by decide)
    subst e
    rw [text_i h 0] at hr
    obtain rfl := Option.some.inj hr
    unfold parsed
    rw [if_pos rfl]
    show (match Lib.parseIntB 64 (Lib.itoa n) with | .ok v => _ | _ => _) = _
    rw [pI_itoa n h.2.2.2.1 h.2.2.2.2]
  · have e := h.2.2.1 (by decide)
    subst e
    rw [text_u h 0] at hr
    obtain rfl := Option.some.inj hr
    unfold parsed
    rw [if_neg (by decide), if_pos rfl]
    show (match Lib.parseUintB 64 (Lib.decDigits (IntKind.u64.wrap n).toNat) with | .ok u => _ | _ => _) = _
    rw [pB_dec _ (by have := u_rng n; omega)]
    simp only
    rw [wrap_back h.2.2.2.1 h.2.2.2.2]
  · obtain ⟨rfl, hs⟩ := h.2.1 rfl
    have hr2 : r = ⟨(qL s.data.toList ++ [34]).toArray⟩ := by
      have hf := fits_of h 0
      simp only [value_Text.f, hf, Option.bind_some, if_true, value_quoted.f] at hr
      rw [if_neg (by decide), if_neg (by decide), if_pos hs] at hr
      exact (Option.some.inj hr).symm
    have ht := textV_q r s (by rw [hr2])
    unfold parsed
    rw [if_neg (by decide), if_neg (by decide), ht]
    simp
theorem read_text {k n : Int} {s r : ByteArray} (h : FitP k n s) (hr : value_Text.f 1 k n s = some r) (h1 : 1 ≤ r.size) : readV k r = ((n, s), true) := by
  unfold readV
  rw [parsed_text h hr]
  show (if r.data.toList = [] then _ else _) = _
  rw [if_neg (by intro e; have : r.data.toList.length = r.size := by simp
                 rw [e] at this; simp at this; omega), if_pos hr]
theorem text_inj {k n n' : Int} {s s' r : ByteArray} (h : FitP k n s) (h' : FitP k n' s') (hr : value_Text.f 1 k n s = some r) (hr' : value_Text.f 1 k n' s' = some r) : n = n' ∧ s = s' := by
  have a := parsed_text h hr
  have b := parsed_text h' hr'
  rw [a] at b
  have := Option.some.inj b
  exact ⟨congrArg Prod.fst this, congrArg Prod.snd this⟩
end Go.Proofs.YtohbpgdhpfmlgaaDoor.PA
