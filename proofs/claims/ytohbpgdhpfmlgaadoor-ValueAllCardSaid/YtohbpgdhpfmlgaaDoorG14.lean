/- Plain aids of ValueBack. -/
import Derived.Test.YtohbpgdhpfmlgaaDoorG13
import Derived.Test.YtohbpgdhpfmlgaaDoorPCx1
import Derived.Outline
import Derived.Deep.RegionHeld3
import Derived.Deep.DeepCutAuto
namespace Go.Proofs.YtohbpgdhpfmlgaaDoor.PA
set_option linter.unusedVariables false
set_option linter.unusedSimpArgs false
open Go.Lib Go.RowKit Go.Proofs.YtohbpgdhpfmlgaaDoorW.PrintWords Go.Proofs.YtohbpgdhpfmlgaaDoorW.PrintLast Go.Proofs.YtohbpgdhpfmlgaaDoorW.PrintMore
theorem off_ {oi : Oper} {ops : Array Oper} {N : Option Tmp} {a : Act} {w : World} {K : Act → World → Prop} {X : Prop} (hw : Region.wanted oi (yielded ops a.tmps) = false) (h : K (a.put N undef) w) : if Region.wanted oi (yielded ops a.tmps) = true then X else K (a.put N undef) w := by
  rw [hw]; exact h
theorem rtoList {a b : ByteArray} : (a.toList == b.toList) = decide (a = b) := by
  rw [ByteArray.toList_eq, ByteArray.toList_eq]
  by_cases h : a = b
  · simp [h]
  · have h3 : a.data.toList ≠ b.data.toList := fun e => h (toList_inj e)
    rw [beq_eq_false_iff_ne.2 h3]; simp [h]
/-- Which values fit. -/
def fitB (k n : Int) (s : ByteArray) : Bool := if k = 3 then decide (n = 0 ∧ s.size ≤ 60) else decide ((k = 1 ∨ k = 2) ∧ s = ⟨#[]⟩)
theorem nil_eq (s : ByteArray) : (s.toList == ([] : List UInt8)) = decide (s = ⟨#[]⟩) := by
  rw [ByteArray.toList_eq]
  by_cases h : s = ⟨#[]⟩
  · subst h; simp
  · have h3 : s.data.toList ≠ [] := fun e => h (toList_inj e)
    rw [beq_eq_false_iff_ne.2 h3]; simp [h]
theorem fits_b (k n : Int) (s : ByteArray) (m : Nat) : value_Fits.f (m + 1) k n s = some (fitB k n s) := by
  simp only [value_Fits.f, value_Fits.j0, nil_eq, fitB]
  by_cases h1 : k = 1
  · subst h1; simp
  · by_cases h2 : k = 2
    · subst h2; simp
    · by_cases h3 : k = 3
      · subst h3
        by_cases h4 : n = 0
        · subst h4; simp; omega
        · simp [h4]
      · simp [h1, h2, h3]
theorem parseM_le (M : Nat) : ∀ (l : List UInt8) (acc u : Nat), Lib.parseUintM M acc l = .ok u → acc ≤ M → u ≤ M
  | [], acc, u, h, ha => by
    have e : acc = u := by simpa [Lib.parseUintM] using h
    omega
  | c :: l, acc, u, h, ha => by
    simp only [Lib.parseUintM] at h
    split at h
    · split at h
      · cases h
      · split at h
        · cases h
        · exact parseM_le M l _ u h (by omega)
    · cases h
theorem parseI_rng (l : List UInt8) (v : Int) (h : Lib.parseIntB 64 l = .ok v) : -9223372036854775808 ≤ v ∧ v < 9223372036854775808 := by
  have e63 : (2 : Nat) ^ (64 - 1) = 9223372036854775808 := by decide
  unfold Lib.parseIntB at h
  split at h
  · cases h
  · simp only at h
    split at h
    · cases h
    · cases h
    · rename_i u _
      split at h
      · cases h
      · split at h
        · cases h
        · rename_i h1 h2
          obtain rfl := NumEnd.ok.inj h
          rw [e63] at h1 h2
          split <;> omega
/-- Whatever is read has a text. -/
theorem text_tot (t : Int) (s : ByteArray) : ∀ p, parsed t s = some p → ∃ r, value_Text.f 1 t p.1 p.2 = some r := by
  intro p hp
  have hq : ∀ x : ByteArray, value_Text.f 1 t 0 x = value_Text.f 1 t 0 x := fun _ => rfl
  unfold parsed at hp
  simp only [value_Text.f, fits_b, Option.bind_some]
  split at hp
  · rename_i h1
    subst h1
    split at hp
    · rename_i v hv
      obtain rfl := Option.some.inj hp
      have hr := parseI_rng _ _ hv
      split
      · simp only [if_true, strconv_FormatInt_27.f]
        rw [if_pos ⟨trivial, hr.1, hr.2⟩]
        exact ⟨_, rfl⟩
      · exact ⟨_, rfl⟩
    · cases hp
  · rename_i h1
    split at hp
    · rename_i h2
      subst h2
      split at hp
      · rename_i u hu
        obtain rfl := Option.some.inj hp
        have hr := u_rng (wrap64 (u : Int))
        split
        · (first | rw [if_neg h1, if_pos rfl] | rw [if_pos rfl])
          simp only [strconv_FormatUint_28.f]
          rw [if_pos ⟨trivial, hr.1, hr.2⟩]
          exact ⟨_, rfl⟩
        · exact ⟨_, rfl⟩
      · cases hp
    · rename_i h2
      split at hp
      · obtain rfl := Option.some.inj hp
        split
        · rename_i h3
          (first | rw [if_neg h1, if_neg h2] | skip)
          simp only [value_quoted.f]
          have hs : (⟨(textV s).1.toArray⟩ : ByteArray).size ≤ 60 := by
            unfold fitB at h3
            split at h3
            · exact (of_decide_eq_true h3).2
            · have := (of_decide_eq_true h3).1; omega
          rw [if_pos hs]
          exact ⟨_, rfl⟩
        · exact ⟨_, rfl⟩
      · cases hp
/-- At most a hundred bytes. -/
def cut100 (s : ByteArray) : ByteArray := if (s.size : Int) > 100 then s.extract 0 100 else s
theorem some_of (n : Int) (s : ByteArray) : PC.thresherlaw03_some.f n s = some (n, cut100 s) := by
  unfold PC.thresherlaw03_some.f cut100
  split
  · rw [if_pos (by decide), if_pos (by omega)]
  · rfl
theorem fit_same (k n : Int) (s : ByteArray) (hk : k = 1 ∨ k = 2 ∨ k = 3) : (n == fitN k n && (s.toList == (fitS k s).toList)) = fitB k n s := by
  rw [rtoList]
  unfold fitN fitS fitB cut60
  by_cases e : k = 3
  · simp only [if_pos e]
    by_cases h0 : n = 0
    · subst h0
      by_cases hs : (s.size : Int) > 60
      · rw [if_pos hs]
        have h1 : ¬ s = s.extract 0 60 := by
          intro h
          have := congrArg ByteArray.size h
          simp at this; omega
        have h2 : ¬ s.size ≤ 60 := by omega
        simp [h1, h2]
      · rw [if_neg hs]
        have h2 : s.size ≤ 60 := by omega
        simp [h2]
    · have : ¬ n = 0 := h0
      simp [this]
  · simp only [if_neg e]
    have : k = 1 ∨ k = 2 := by omega
    simp [this]
theorem text_bad (k n : Int) (s : ByteArray) (h : fitB k n s = false) : value_Text.f 1 k n s = some ⟨#[]⟩ := by
  simp only [value_Text.f, fits_b, h, Option.bind_some]
  rfl
end Go.Proofs.YtohbpgdhpfmlgaaDoor.PA
