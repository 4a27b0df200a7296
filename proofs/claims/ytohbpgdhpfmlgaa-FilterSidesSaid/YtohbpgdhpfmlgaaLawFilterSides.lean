/- For every input thresherlaw19.FilterSides answers true, and each argument reads afterwards as it read before. No conditions. -/
import Derived.Test.YtohbpgdhpfmlgaaRows
import Derived.Test.YtohbpgdhpfmlgaaG7
import Derived.Test.YtohbpgdhpfmlgaaG8
import Derived.WalkKit
import Derived.ProofKit
import Derived.OpenShut
import Derived.ShutString
import Derived.ChangeOld
import Derived.Below
import Derived.SizedLaws
namespace Go.Proofs.Ytohbpgdhpfmlgaa.filterSides
open Go.ChangeShapes Go.WideShapes Go.ChangeAt Go.RowKit Go.Proofs.Ytohbpgdhpfmlgaa.PA
set_option linter.unusedVariables false
theorem own : ownKnob Try.prog.godebug = none := by kernel_rfl
theorem laidOut : laidOutB Try.prog = true := by kernel_rfl
theorem cells24 : Try.prog.cellTypes Try.prog.depth 24 = some [5, 5, 5, 5, 5, 5, 5, 5, 5, 5, 5, 5] := by kernel_rfl
theorem cells29 : Try.prog.cellTypes Try.prog.depth 29 = some [3, 3, 2, 9, 3, 3, 2, 9] := by kernel_rfl
theorem cell_int {w : World} {r : Reach} {base : Nat} {t : TypeId} {k : IntKind} {v : Value} (ht : Try.prog.underlying t = some (.int k)) (h : Cell.okWide Try.prog w r base t v) : ∃ n, v = .int k n ∧ k.has n := by
  unfold Cell.okWide Cell.ok at h
  rw [ht] at h
  cases v <;> simp_all
theorem cell_string {w : World} {r : Reach} {base : Nat} {t : TypeId} {v : Value} (ht : Try.prog.underlying t = some .string) (h : Cell.okWide Try.prog w r base t v) : ∃ s : ByteArray, v = .string s := by
  unfold Cell.okWide Cell.ok at h
  rw [ht] at h
  cases v <;> simp_all
set_option maxRecDepth 100000 in
theorem lifted (os : Os) (started : os.Started) (H : Type) (enc : TypeId × Value → H) :
    ReturnsInHanded {} Try.checked os 3 .any (Rows.filterSidesSpec.pre6 enc Try.prog Try.f3 Rows.filterSidesRow.domain false) (Rows.filterSidesSpec.post enc Try.prog Try.f3 false true false false) := by
  refine returnsInHanded_of_change_sized (C := Try.checked) own started (by kernel_rfl) Try.func3
    (ChangeSpec.witness6 (enc := enc) (C := Try.checked) false ⟨#[], #[.agg #[.int .u8 0, .int .u8 0, .int .u8 0, .int .u8 0, .int .u8 0, .int .u8 0, .int .u8 0, .int .u8 0, .int .u8 0, .int .u8 0, .int .u8 0, .int .u8 0], .agg #[.int .i64 0, .int .i64 0, .int .i64 0, .string ByteArray.empty, .int .i64 0, .int .i64 0, .int .i64 0, .string ByteArray.empty], .slice none 0 0], []⟩ 8 (by kernel_rfl) (by kernel_rfl) (by kernel_rfl) (by kernel_rfl)) ?_
  intro W base args ds gs before hval0 hW hcnd hsz0 _
  have hval : ∀ (j : Nat) t v, Try.f3.params[j]? = some t → args[j]? = some v → Value.okWide Try.prog W .any base t v := hval0
  have hW' := hW
  obtain ⟨p, q, hA0, hV, rfl, hfz, hnd⟩ := hW
  have hA : DataW.TrodAll enc Try.prog W 0 (fun _ => true) true Try.f3.params.toList args.toList ds p := hA0
  rw [Try.params3] at hA hval
  obtain ⟨v0, vs0, d0, ds0, p0, q0, hargs, rfl, rfl, h0, r0⟩ := trodAll_cons hA
  obtain ⟨v1, vs1, d1, ds1, p1, q1, rfl, rfl, rfl, h1, r1⟩ := trodAll_cons r0
  obtain ⟨v2, vs2, d2, ds2, p2, q2, rfl, rfl, rfl, h2, r2⟩ := trodAll_cons r1
  obtain ⟨rfl, rfl, rfl⟩ := trodAll_nil r2
  obtain rfl : args = #[v0, v1, v2] := by cases args; simp_all
  obtain ⟨rfl, rfl⟩ := trodVars_none hV
  have k0 := h0
  have lt0 : ∀ x ∈ p0, x.block < W.heap.size := by obtain ⟨m, hm⟩ := k0; exact DataW.trod_lt m _ _ _ hm
  have k1 := h1
  have lt1 : ∀ x ∈ p1, x.block < W.heap.size := by obtain ⟨m, hm⟩ := k1; exact DataW.trod_lt m _ _ _ hm
  have k2 := h2
  have lt2 : ∀ x ∈ p2, x.block < W.heap.size := by obtain ⟨m, hm⟩ := k2; exact DataW.trod_lt m _ _ _ hm
  -- the shape
  obtain ⟨cs, rfl, hcs, ts, hts, _, hcell⟩ : ∃ cs, v0 = .agg cs ∧ cs.size = Try.prog.cellsOf 24 ∧ Row.okWide Try.prog W .any base 24 cs := by
    have h := hval 0 24 v0 rfl rfl
    unfold Value.okWide at h
    rw [Try.underlying24] at h
    exact h
  rw [cells24] at hts
  obtain rfl := Option.some.inj hts
  have hcs' : cs.size = 12 := hcs.trans (by kernel_rfl)
  have g : ∀ i, i < 12 → ∃ n, cs[i]? = some (.int .u8 n) ∧ byteOk n = true := by
    intro i hi
    obtain ⟨u, hu, hc⟩ := hcell i cs[i] (Array.getElem?_eq_getElem (by omega))
    have hu' : u = 5 := by
      rw [Nat.mod_eq_of_lt (by simpa using hi)] at hu
      have h5 : ∀ j, j < 12 → ([5, 5, 5, 5, 5, 5, 5, 5, 5, 5, 5, 5] : List TypeId)[j]? = some 5 := by decide
      exact Option.some.inj (hu.symm.trans (h5 i hi))
    subst hu'
    obtain ⟨n, e, hn⟩ := cell_int (k := .u8) (by kernel_rfl) hc
    refine ⟨n, by rw [Array.getElem?_eq_getElem (by omega), e], ?_⟩
    have h1 : 0 ≤ n := hn.1
    have h2 : n ≤ 255 := hn.2
    simp [byteOk, h1, h2]
  obtain ⟨x0, e0, b0⟩ := g 0 (by omega)
  obtain ⟨x1, e1, b1⟩ := g 1 (by omega)
  obtain ⟨x2, e2, b2⟩ := g 2 (by omega)
  obtain ⟨x3, e3, b3⟩ := g 3 (by omega)
  obtain ⟨x4, e4, b4⟩ := g 4 (by omega)
  obtain ⟨x5, e5, b5⟩ := g 5 (by omega)
  obtain ⟨x6, e6, b6⟩ := g 6 (by omega)
  obtain ⟨x7, e7, b7⟩ := g 7 (by omega)
  obtain ⟨x8, e8, b8⟩ := g 8 (by omega)
  obtain ⟨x9, e9, b9⟩ := g 9 (by omega)
  obtain ⟨x10, e10, b10⟩ := g 10 (by omega)
  obtain ⟨x11, e11, b11⟩ := g 11 (by omega)
  clear g hcell
  obtain rfl : cs = #[.int .u8 x0, .int .u8 x1, .int .u8 x2, .int .u8 x3, .int .u8 x4, .int .u8 x5, .int .u8 x6, .int .u8 x7, .int .u8 x8, .int .u8 x9, .int .u8 x10, .int .u8 x11] := by
    refine Array.ext (by simpa using hcs') fun i hi hj => ?_
    have hi' : i < 12 := by omega
    apply Option.some.inj
    rw [← Array.getElem?_eq_getElem, ← Array.getElem?_eq_getElem]
    match i, hi' with
    | 0, _ => exact e0
    | 1, _ => exact e1
    | 2, _ => exact e2
    | 3, _ => exact e3
    | 4, _ => exact e4
    | 5, _ => exact e5
    | 6, _ => exact e6
    | 7, _ => exact e7
    | 8, _ => exact e8
    | 9, _ => exact e9
    | 10, _ => exact e10
    | 11, _ => exact e11
  -- the filters
  obtain ⟨cs, rfl, hcs2, ts, hts, _, hcell⟩ : ∃ cs, v1 = .agg cs ∧ cs.size = Try.prog.cellsOf 29 ∧ Row.okWide Try.prog W .any base 29 cs := by
    have h := hval 1 29 v1 rfl rfl
    unfold Value.okWide at h
    rw [Try.underlying29] at h
    exact h
  rw [cells29] at hts
  obtain rfl := Option.some.inj hts
  have hcs2' : cs.size = 8 := hcs2.trans (by kernel_rfl)
  have gi : ∀ t i, Try.prog.underlying t = some (.int .i64) → i < 8 → ([3, 3, 2, 9, 3, 3, 2, 9] : List TypeId)[i]? = some t → ∃ n, cs[i]? = some (.int .i64 n) ∧ okInt n = true := by
    intro t i ht hi h3
    obtain ⟨u, hu, hc⟩ := hcell i cs[i] (Array.getElem?_eq_getElem (by omega))
    rw [Nat.mod_eq_of_lt (by simpa using hi)] at hu
    obtain rfl : u = t := Option.some.inj (hu.symm.trans h3)
    obtain ⟨n, e, hn⟩ := cell_int (k := .i64) ht hc
    refine ⟨n, by rw [Array.getElem?_eq_getElem (by omega), e], ?_⟩
    have h1 : -9223372036854775808 ≤ n := hn.1
    have h2 : n ≤ 9223372036854775807 := hn.2
    simp [okInt, h1, h2]
  have gs : ∀ i, i < 8 → ([3, 3, 2, 9, 3, 3, 2, 9] : List TypeId)[i]? = some 9 → ∃ s : ByteArray, cs[i]? = some (.string s) := by
    intro i hi h3
    obtain ⟨u, hu, hc⟩ := hcell i cs[i] (Array.getElem?_eq_getElem (by omega))
    rw [Nat.mod_eq_of_lt (by simpa using hi)] at hu
    obtain rfl : u = 9 := Option.some.inj (hu.symm.trans h3)
    obtain ⟨s, e⟩ := cell_string (by kernel_rfl) hc
    exact ⟨s, by rw [Array.getElem?_eq_getElem (by omega), e]⟩
  obtain ⟨y0, f0, o0⟩ := gi 3 0 (by kernel_rfl) (by omega) rfl
  obtain ⟨y1, f1, o1⟩ := gi 3 1 (by kernel_rfl) (by omega) rfl
  obtain ⟨y2, f2, o2⟩ := gi 2 2 (by kernel_rfl) (by omega) rfl
  obtain ⟨y3, f3⟩ := gs 3 (by omega) rfl
  obtain ⟨y4, f4, o4⟩ := gi 3 4 (by kernel_rfl) (by omega) rfl
  obtain ⟨y5, f5, o5⟩ := gi 3 5 (by kernel_rfl) (by omega) rfl
  obtain ⟨y6, f6, o6⟩ := gi 2 6 (by kernel_rfl) (by omega) rfl
  obtain ⟨y7, f7⟩ := gs 7 (by omega) rfl
  clear gi gs hcell
  obtain rfl : cs = #[.int .i64 y0, .int .i64 y1, .int .i64 y2, .string y3, .int .i64 y4, .int .i64 y5, .int .i64 y6, .string y7] := by
    refine Array.ext (by simpa using hcs2') fun i hi hj => ?_
    have hi' : i < 8 := by omega
    apply Option.some.inj
    rw [← Array.getElem?_eq_getElem, ← Array.getElem?_eq_getElem]
    match i, hi' with
    | 0, _ => exact f0
    | 1, _ => exact f1
    | 2, _ => exact f2
    | 3, _ => exact f3
    | 4, _ => exact f4
    | 5, _ => exact f5
    | 6, _ => exact f6
    | 7, _ => exact f7
  -- the rows
  obtain ⟨fuel, hf⟩ := h2
  obtain ⟨l2, ⟨A2, c2, hcc, hl2, hC2⟩, _⟩ := opens_slice Try.underlying30 (by kernel_rfl) (opens_slice Try.underlying43 (by kernel_rfl) opens26) _ _ _ hf
  obtain ⟨a, len, cap, rfl⟩ := okWide_slice Try.underlying30 (hval 2 30 v2 rfl rfl)
  have hcc' : Value.slice a len cap = .slice A2 l2.length c2 := (List.cons.inj hcc).1
  rw [hcc'] at k2 hW' ⊢
  clear hA0 hval0 hsz0 hval hargs
  refine (FilterSides.works x0 x1 x2 x3 x4 x5 x6 x7 x8 x9 x10 x11 ⟨y0, y1, ⟨y2, y3⟩⟩ ⟨y4, y5, ⟨y6, y7⟩⟩ A2 c2 l2 W (by simp [b0, b1, b2, b3, b4, b5, b6, b7, b8, b9, b10, b11]) (by simp [o0, o1, o4, o5]) hC2 hl2).mono fun e W' ⟨he, bel⟩ => ?_
  subst he
  exact ⟨_, rfl, _, _, _, [], _, [], hW', trodAll_mk1 (shut_bool Try.underlying4 _), (trodAll_cons_mk (Below.trod laidOut (by kernel_rfl) (of_decide_eq_true (by kernel_rfl)) k0 bel lt0) (trodAll_cons_mk (Below.trod laidOut (by kernel_rfl) (of_decide_eq_true (by kernel_rfl)) k1 bel lt1) (trodAll_cons_mk (Below.trod laidOut (by kernel_rfl) (of_decide_eq_true (by kernel_rfl)) k2 bel lt2) trodAll_mk0))), rfl, bel.frame _, fun h => by cases h⟩
theorem over : Rows.filterSidesRow.holds Try.pinned (OpenSpec.ofChange Rows.filterSidesSpec) :=
  OpenClaim.holds_of_wide 3 Try.f3 rfl rfl rfl rfl rfl rfl rfl ⟨rfl, rfl, rfl, rfl, rfl⟩ rfl rfl rfl rfl rfl (by kernel_rfl) Try.func3 (by kernel_rfl)
    (of_decide_eq_true (by kernel_rfl)) (by unfold Func.isWrapper; first | (rw [if_pos (by decide +kernel)]; kernel_rfl) | (rw [if_neg (by decide +kernel)]; exact ⟨rfl, rfl⟩))
    (fun os started H enc _ => lifted os started H enc)
theorem proved : Rows.FilterSidesSaid := over
#print axioms proved
end Go.Proofs.Ytohbpgdhpfmlgaa.filterSides
namespace Go.Proofs.Ytohbpgdhpfmlgaa
/-- The row, under a short name, for the claim. -/
theorem filterSides_holds : Rows.FilterSidesSaid := filterSides.proved
end Go.Proofs.Ytohbpgdhpfmlgaa
