/- A law's first argument, twelve bytes; filters out of what reads as filters. -/
import Derived.Test.YtohbpgdhpfmlgaaG8
import Derived.Test.YtohbpgdhpfmlgaaG5
import Derived.Test.YtohbpgdhpfmlgaaG1
import Derived.WideShapes
namespace Go.Proofs.Ytohbpgdhpfmlgaa.PA
set_option linter.unusedVariables false
open Go.RowKit Go.Proofs.YtohbpgdhpfmlgaaW.PrintWords Go.Proofs.YtohbpgdhpfmlgaaW.PrintLast Go.ChangeShapes Go.WideShapes
theorem cells24 : Try.prog.cellTypes Try.prog.depth 24 = some [5, 5, 5, 5, 5, 5, 5, 5, 5, 5, 5, 5] := by kernel_rfl
theorem cell_int {w : World} {r : Reach} {base : Nat} {t : TypeId} {k : IntKind} {v : Value} (ht : Try.prog.underlying t = some (.int k)) (h : Cell.okWide Try.prog w r base t v) : ∃ n, v = .int k n ∧ k.has n := by
  unfold Cell.okWide Cell.ok at h
  rw [ht] at h
  cases v <;> simp_all
set_option maxRecDepth 100000 in
theorem open24 {W : World} {base : Nat} {v0 : Value} (h : Value.okWide Try.prog W .any base 24 v0) : ∃ x0 x1 x2 x3 x4 x5 x6 x7 x8 x9 x10 x11 : Int,
    v0 = .agg #[.int .u8 x0, .int .u8 x1, .int .u8 x2, .int .u8 x3, .int .u8 x4, .int .u8 x5, .int .u8 x6, .int .u8 x7, .int .u8 x8, .int .u8 x9, .int .u8 x10, .int .u8 x11] ∧ [x0, x1, x2, x3, x4, x5, x6, x7, x8, x9, x10, x11].all byteOk = true := by
  obtain ⟨cs, rfl, hcs, ts, hts, _, hcell⟩ : ∃ cs, v0 = .agg cs ∧ cs.size = Try.prog.cellsOf 24 ∧ Row.okWide Try.prog W .any base 24 cs := by
    have h' := h
    unfold Value.okWide at h'
    rw [Try.underlying24] at h'
    exact h'
  rw [cells24] at hts
  obtain rfl := Option.some.inj hts
  have hcs' : cs.size = 12 := hcs.trans (by kernel_rfl)
  have g : ∀ i, i < 12 → ∃ n, cs[i]? = some (.int .u8 n) ∧ byteOk n = true := by
    intro i hi
    obtain ⟨u, hu, hc⟩ := hcell i cs[i] (Array.getElem?_eq_getElem (by omega))
    have hu' : u = 5 := by
      rw [Nat.mod_eq_of_lt (by simpa using hi)] at hu
      have h5 : ∀ j, j < 12 → ([5, 5, 5, 5, 5, 5, 5, 5, 5, 5, 5, 5] : List TypeId)[j]? = some 5 := by decide
      exact Option.some.inj (hu.symm.trans (h5 i hi))
    subst hu'
    obtain ⟨n, e, hn⟩ := cell_int (k := .u8) (by kernel_rfl) hc
    refine ⟨n, by rw [Array.getElem?_eq_getElem (by omega), e], ?_⟩
    have h1 : 0 ≤ n := hn.1
    have h2 : n ≤ 255 := hn.2
    simp [byteOk, h1, h2]
  obtain ⟨x0, e0, b0⟩ := g 0 (by omega)
  obtain ⟨x1, e1, b1⟩ := g 1 (by omega)
  obtain ⟨x2, e2, b2⟩ := g 2 (by omega)
  obtain ⟨x3, e3, b3⟩ := g 3 (by omega)
  obtain ⟨x4, e4, b4⟩ := g 4 (by omega)
  obtain ⟨x5, e5, b5⟩ := g 5 (by omega)
  obtain ⟨x6, e6, b6⟩ := g 6 (by omega)
  obtain ⟨x7, e7, b7⟩ := g 7 (by omega)
  obtain ⟨x8, e8, b8⟩ := g 8 (by omega)
  obtain ⟨x9, e9, b9⟩ := g 9 (by omega)
  obtain ⟨x10, e10, b10⟩ := g 10 (by omega)
  obtain ⟨x11, e11, b11⟩ := g 11 (by omega)
  clear g hcell
  obtain rfl : cs = #[.int .u8 x0, .int .u8 x1, .int .u8 x2, .int .u8 x3, .int .u8 x4, .int .u8 x5, .int .u8 x6, .int .u8 x7, .int .u8 x8, .int .u8 x9, .int .u8 x10, .int .u8 x11] := by
    refine Array.ext (by simpa using hcs') fun i hi hj => ?_
    have hi' : i < 12 := by omega
    apply Option.some.inj
    rw [← Array.getElem?_eq_getElem, ← Array.getElem?_eq_getElem]
    match i, hi' with
    | 0, _ => exact e0
    | 1, _ => exact e1
    | 2, _ => exact e2
    | 3, _ => exact e3
    | 4, _ => exact e4
    | 5, _ => exact e5
    | 6, _ => exact e6
    | 7, _ => exact e7
    | 8, _ => exact e8
    | 9, _ => exact e9
    | 10, _ => exact e10
    | 11, _ => exact e11
  exact ⟨x0, x1, x2, x3, x4, x5, x6, x7, x8, x9, x10, x11, rfl, by simp [b0, b1, b2, b3, b4, b5, b6, b7, b8, b9, b10, b11]⟩
instance : Inhabited S28 := ⟨z28⟩
theorem wf_ok {n : Int} (h : (Lit.int .i64 n).wf = true) : okInt n = true := by
  have h1 : IntKind.i64.min ≤ n ∧ n ≤ 9223372036854775807 := by simpa [Lit.wf] using h
  have h2 : -9223372036854775808 ≤ n := h1.1
  have h3 : n ≤ 9223372036854775807 := h1.2
  simp [okInt, h2, h3]
section
variable {H : Type} {enc : TypeId × Value → H} {w : World} {base : Nat} {sp : Nat → Bool} {held : Bool}
set_option maxRecDepth 100000 in
theorem opens28 : Opens H enc w base sp held k28 28 (fun x => okInt x.f0 = true ∧ okInt x.f1 = true) := by
  intro n cs x h
  obtain ⟨xs, k, hk, hxy, hcl, hxl, hf⟩ := DataW.trod_struct Try.underlying28 h
  have hcl' : cs.length = 4 := hcl.trans (by kernel_rfl)
  match xs, hxl, cs, hcl' with
  | [y0, y1, y2], _, [v0, v1, v2, v3], _ =>
    have g0 := hf 0 _ rfl
    have g1 := hf 1 _ rfl
    have g2 := hf 2 _ rfl
    obtain ⟨a, e0, _, hw⟩ := DataW.trod_int (k := .i64) (by kernel_rfl) g0
    obtain ⟨b, e1, _, hv⟩ := DataW.trod_int (k := .i64) (by kernel_rfl) g1
    obtain ⟨c, hK, _⟩ := opens26 _ _ _ g2
    have e0' : [v0] = [.int .i64 a] := e0
    have e1' : [v1] = [.int .i64 b] := e1
    have hK' : k26.K w c [v2, v3] := hK
    obtain rfl := (List.cons.inj e0').1
    obtain rfl := (List.cons.inj e1').1
    have e2 := k26_open hK'
    obtain rfl := (List.cons.inj e2).1
    obtain rfl := (List.cons.inj (List.cons.inj e2).2).1
    exact ⟨⟨a, b, c⟩, k28_mk w ⟨a, b, c⟩, wf_ok hw, wf_ok hv⟩
end
end Go.Proofs.Ytohbpgdhpfmlgaa.PA
