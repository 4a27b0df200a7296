/- What an argument reads as: rows of values out of what the row of the law tells of it. -/
import Derived.Test.YtohbpgdhpfmlgaaPAx0
import Derived.Deep.Slices
import Derived.ChangeArms
namespace Go.Proofs.Ytohbpgdhpfmlgaa.PA
set_option linter.unusedVariables false
open Go.RowKit Go.Proofs.YtohbpgdhpfmlgaaW.PrintWords Go.Proofs.YtohbpgdhpfmlgaaW.PrintLast Go.ChangeShapes Go.WideShapes

/-- Whatever reads by the type is an element of the kind, of which G holds. -/
def Opens {α : Type} (H : Type) (enc : TypeId × Value → H) (w : World) (base : Nat) (sp : Nat → Bool) (held : Bool) (d : Kd α) (t : TypeId) (G : α → Prop) : Prop :=
  ∀ n cs x, DataW.trod enc Try.prog w base sp held n t cs = some x → ∃ a, d.K w a cs ∧ G a
instance : Inhabited S26 := ⟨z26⟩
section
variable {H : Type} {enc : TypeId × Value → H} {w : World} {base : Nat} {sp : Nat → Bool} {held : Bool} {α : Type}
theorem opens_slice [Inhabited α] {d : Kd α} {t e : TypeId} {G : α → Prop} (ht : Try.prog.underlying t = some (.slice e)) (hc : Try.prog.cellsOf e = d.sz) (he : Opens H enc w base sp held d e G) : Opens H enc w base sp held (Kd.slice e d) t (fun l => ∀ x ∈ l, G x) := by
  intro n cs x h
  rcases Go.Deep.open_slice ht h with ⟨rfl, _⟩ | ⟨a, len, cap, m, n', D, Pl, rfl, hb, hl, hm, hmm, rfl, hx⟩
  · exact ⟨[], ⟨none, 0, rfl, Nat.le_refl _, Kd.C_nil d w⟩, by simp⟩
  · have hlm : len ≤ m := by rw [hmm]; split <;> omega
    have each : ∀ i, i < len → ∃ y : α, ∃ cs' : List Value, cs'.length = d.sz ∧ d.K w y cs' ∧ (∀ j u, cs'[j]? = some u → w.cell? (a.add (i * d.sz + j)) = some u) ∧ G y := by
      intro i hi
      obtain ⟨cs', h1, h2⟩ := hx i (by omega)
      obtain ⟨y, hK, hG⟩ := he _ _ _ h2
      rw [hc] at h1
      obtain ⟨_, hlen, hcell⟩ := World.cells?_some h1
      refine ⟨y, cs', hlen, hK, fun j u hu => ?_, hG⟩
      have hj : j < d.sz := by rw [← hlen]; exact (List.getElem?_eq_some_iff.1 hu).1
      have h3 := hcell j hj
      rw [Go.Deep.add_add] at h3
      rw [h3, hu]
    obtain ⟨F, hF⟩ := Go.Deep.choose_lt each
    have hml : maxLen = 9223372036854775807 := rfl
    refine ⟨(List.range len).map F, ⟨some a, cap, by simp, by simpa using hl, by simp, by simp; omega, fun _ => ⟨a, rfl, fun j p hj => ?_⟩⟩, ?_⟩
    · rw [List.getElem?_map] at hj
      obtain ⟨i, hi, rfl⟩ := Option.map_eq_some_iff.1 hj
      obtain ⟨hjl, hji⟩ := List.getElem?_eq_some_iff.1 hi
      rw [List.getElem_range] at hji
      subst hji
      obtain ⟨cs', h1, h2, h3, _⟩ := hF j (by simpa using hjl)
      exact ⟨cs', h1, h2, h3⟩
    · intro x hx
      obtain ⟨i, hi, rfl⟩ := List.mem_map.1 hx
      exact (hF i (List.mem_range.1 hi)).choose_spec.2.2.2

set_option maxRecDepth 100000 in
theorem opens26 : Opens H enc w base sp held k26 26 (fun x => (Lit.int .i64 x.f0).wf = true ∧ x.f1.size ≤ maxLen) := by
  intro n cs x h
  obtain ⟨xs, k, hk, hxy, hcl, hxl, hf⟩ := DataW.trod_struct Try.underlying26 h
  have hcl' : cs.length = 2 := hcl.trans (by kernel_rfl)
  match xs, hxl, cs, hcl' with
  | [y0, y1], _, [v0, v1], _ =>
    have g0 := hf 0 _ rfl
    have g1 := hf 1 _ rfl
    obtain ⟨a, e0, _, hw⟩ := DataW.trod_int (k := .i64) (by kernel_rfl) g0
    obtain ⟨s, e1, _, hs⟩ := DataW.trod_string (by kernel_rfl) g1
    have e0' : [v0] = [.int .i64 a] := e0
    have e1' : [v1] = [.string s] := e1
    obtain rfl := (List.cons.inj e0').1
    obtain rfl := (List.cons.inj e1').1
    exact ⟨⟨a, s⟩, k26_mk w ⟨a, s⟩, hw, hs⟩
end
end Go.Proofs.Ytohbpgdhpfmlgaa.PA
