/- The arguments of the laws of values: what they read as; the table of the powers of ten out of what is listed. -/
import Derived.Test.YtohbpgdhpfmlgaaDoorG1
import Derived.Test.YtohbpgdhpfmlgaaDoorRows
import Derived.WideShapes
import Derived.LaidMore
import Derived.Lay
import Derived.Lib.LaidTab
import Derived.Stop.LaidErr
namespace Go.Proofs.YtohbpgdhpfmlgaaDoor.PA
set_option linter.unusedVariables false
open Go.RowKit Go.ChangeShapes Go.WideShapes
theorem cell_int {w : World} {r : Reach} {base : Nat} {t : TypeId} {k : IntKind} {v : Value} (ht : Tryd.prog.underlying t = some (.int k)) (h : Cell.okWide Tryd.prog w r base t v) : ∃ n, v = .int k n ∧ k.has n := by
  unfold Cell.okWide Cell.ok at h
  rw [ht] at h
  cases v <;> simp_all
theorem cell_str {w : World} {r : Reach} {base : Nat} {t : TypeId} {v : Value} (ht : Tryd.prog.underlying t = some .string) (h : Cell.okWide Tryd.prog w r base t v) : ∃ s, v = .string s := by
  unfold Cell.okWide Cell.ok at h
  rw [ht] at h
  cases v <;> simp_all
theorem cells24 : Tryd.prog.cellTypes Tryd.prog.depth 24 = some [2, 9, 2, 9, 2, 9] := by kernel_rfl
set_option maxRecDepth 100000 in
theorem open24 {W : World} {base : Nat} {v0 : Value} (h : Value.okWide Tryd.prog W .any base 24 v0) : ∃ (x0 : Int) (x1 : ByteArray) (x2 : Int) (x3 : ByteArray) (x4 : Int) (x5 : ByteArray), v0 = .agg #[.int .i64 x0, .string x1, .int .i64 x2, .string x3, .int .i64 x4, .string x5] ∧ IntKind.i64.has x0 ∧ IntKind.i64.has x2 ∧ IntKind.i64.has x4 := by
  obtain ⟨cs, rfl, hcs, ts, hts, _, hcell⟩ : ∃ cs, v0 = .agg cs ∧ cs.size = Tryd.prog.cellsOf 24 ∧ Row.okWide Tryd.prog W .any base 24 cs := by
    have h' := h
    unfold Value.okWide at h'
    rw [Tryd.underlying24] at h'
    exact h'
  rw [cells24] at hts
  obtain rfl := Option.some.inj hts
  have hcs' : cs.size = 6 := hcs.trans (by kernel_rfl)
  obtain ⟨u0, hu0, hc0⟩ := hcell 0 cs[0] (Array.getElem?_eq_getElem (by omega))
  obtain rfl : u0 = 2 := (Option.some.inj ((show ([2, 9, 2, 9, 2, 9] : List TypeId)[0 % 6]? = some 2 from rfl).symm.trans hu0)).symm
  obtain ⟨x0, e0, b0⟩ := cell_int (k := .i64) (by kernel_rfl) hc0
  obtain ⟨u1, hu1, hc1⟩ := hcell 1 cs[1] (Array.getElem?_eq_getElem (by omega))
  obtain rfl : u1 = 9 := (Option.some.inj ((show ([2, 9, 2, 9, 2, 9] : List TypeId)[1 % 6]? = some 9 from rfl).symm.trans hu1)).symm
  obtain ⟨x1, e1⟩ := cell_str (by kernel_rfl) hc1
  obtain ⟨u2, hu2, hc2⟩ := hcell 2 cs[2] (Array.getElem?_eq_getElem (by omega))
  obtain rfl : u2 = 2 := (Option.some.inj ((show ([2, 9, 2, 9, 2, 9] : List TypeId)[2 % 6]? = some 2 from rfl).symm.trans hu2)).symm
  obtain ⟨x2, e2, b2⟩ := cell_int (k := .i64) (by kernel_rfl) hc2
  obtain ⟨u3, hu3, hc3⟩ := hcell 3 cs[3] (Array.getElem?_eq_getElem (by omega))
  obtain rfl : u3 = 9 := (Option.some.inj ((show ([2, 9, 2, 9, 2, 9] : List TypeId)[3 % 6]? = some 9 from rfl).symm.trans hu3)).symm
  obtain ⟨x3, e3⟩ := cell_str (by kernel_rfl) hc3
  obtain ⟨u4, hu4, hc4⟩ := hcell 4 cs[4] (Array.getElem?_eq_getElem (by omega))
  obtain rfl : u4 = 2 := (Option.some.inj ((show ([2, 9, 2, 9, 2, 9] : List TypeId)[4 % 6]? = some 2 from rfl).symm.trans hu4)).symm
  obtain ⟨x4, e4, b4⟩ := cell_int (k := .i64) (by kernel_rfl) hc4
  obtain ⟨u5, hu5, hc5⟩ := hcell 5 cs[5] (Array.getElem?_eq_getElem (by omega))
  obtain rfl : u5 = 9 := (Option.some.inj ((show ([2, 9, 2, 9, 2, 9] : List TypeId)[5 % 6]? = some 9 from rfl).symm.trans hu5)).symm
  obtain ⟨x5, e5⟩ := cell_str (by kernel_rfl) hc5
  refine ⟨x0, x1, x2, x3, x4, x5, ?_, b0, b2, b4⟩
  congr 1
  refine Array.ext (by simpa using hcs') fun i hi hj => ?_
  have hi' : i < 6 := by omega
  match i, hi' with
  | 0, _ => exact e0
  | 1, _ => exact e1
  | 2, _ => exact e2
  | 3, _ => exact e3
  | 4, _ => exact e4
  | 5, _ => exact e5
theorem cells35 : Tryd.prog.cellTypes Tryd.prog.depth 35 = some [2, 9, 2, 9] := by kernel_rfl
set_option maxRecDepth 100000 in
theorem open35 {W : World} {base : Nat} {v0 : Value} (h : Value.okWide Tryd.prog W .any base 35 v0) : ∃ (x0 : Int) (x1 : ByteArray) (x2 : Int) (x3 : ByteArray), v0 = .agg #[.int .i64 x0, .string x1, .int .i64 x2, .string x3] ∧ IntKind.i64.has x0 ∧ IntKind.i64.has x2 := by
  obtain ⟨cs, rfl, hcs, ts, hts, _, hcell⟩ : ∃ cs, v0 = .agg cs ∧ cs.size = Tryd.prog.cellsOf 35 ∧ Row.okWide Tryd.prog W .any base 35 cs := by
    have h' := h
    unfold Value.okWide at h'
    rw [Tryd.underlying35] at h'
    exact h'
  rw [cells35] at hts
  obtain rfl := Option.some.inj hts
  have hcs' : cs.size = 4 := hcs.trans (by kernel_rfl)
  obtain ⟨u0, hu0, hc0⟩ := hcell 0 cs[0] (Array.getElem?_eq_getElem (by omega))
  obtain rfl : u0 = 2 := (Option.some.inj ((show ([2, 9, 2, 9] : List TypeId)[0 % 4]? = some 2 from rfl).symm.trans hu0)).symm
  obtain ⟨x0, e0, b0⟩ := cell_int (k := .i64) (by kernel_rfl) hc0
  obtain ⟨u1, hu1, hc1⟩ := hcell 1 cs[1] (Array.getElem?_eq_getElem (by omega))
  obtain rfl : u1 = 9 := (Option.some.inj ((show ([2, 9, 2, 9] : List TypeId)[1 % 4]? = some 9 from rfl).symm.trans hu1)).symm
  obtain ⟨x1, e1⟩ := cell_str (by kernel_rfl) hc1
  obtain ⟨u2, hu2, hc2⟩ := hcell 2 cs[2] (Array.getElem?_eq_getElem (by omega))
  obtain rfl : u2 = 2 := (Option.some.inj ((show ([2, 9, 2, 9] : List TypeId)[2 % 4]? = some 2 from rfl).symm.trans hu2)).symm
  obtain ⟨x2, e2, b2⟩ := cell_int (k := .i64) (by kernel_rfl) hc2
  obtain ⟨u3, hu3, hc3⟩ := hcell 3 cs[3] (Array.getElem?_eq_getElem (by omega))
  obtain rfl : u3 = 9 := (Option.some.inj ((show ([2, 9, 2, 9] : List TypeId)[3 % 4]? = some 9 from rfl).symm.trans hu3)).symm
  obtain ⟨x3, e3⟩ := cell_str (by kernel_rfl) hc3
  refine ⟨x0, x1, x2, x3, ?_, b0, b2⟩
  congr 1
  refine Array.ext (by simpa using hcs') fun i hi hj => ?_
  have hi' : i < 4 := by omega
  match i, hi' with
  | 0, _ => exact e0
  | 1, _ => exact e1
  | 2, _ => exact e2
  | 3, _ => exact e3
theorem cells23 : Tryd.prog.cellTypes Tryd.prog.depth 23 = some [2, 9] := by kernel_rfl
set_option maxRecDepth 100000 in
theorem open23 {W : World} {base : Nat} {v0 : Value} (h : Value.okWide Tryd.prog W .any base 23 v0) : ∃ (x0 : Int) (x1 : ByteArray), v0 = .agg #[.int .i64 x0, .string x1] ∧ IntKind.i64.has x0 := by
  obtain ⟨cs, rfl, hcs, ts, hts, _, hcell⟩ : ∃ cs, v0 = .agg cs ∧ cs.size = Tryd.prog.cellsOf 23 ∧ Row.okWide Tryd.prog W .any base 23 cs := by
    have h' := h
    unfold Value.okWide at h'
    rw [Tryd.underlying23] at h'
    exact h'
  rw [cells23] at hts
  obtain rfl := Option.some.inj hts
  have hcs' : cs.size = 2 := hcs.trans (by kernel_rfl)
  obtain ⟨u0, hu0, hc0⟩ := hcell 0 cs[0] (Array.getElem?_eq_getElem (by omega))
  obtain rfl : u0 = 2 := (Option.some.inj ((show ([2, 9] : List TypeId)[0 % 2]? = some 2 from rfl).symm.trans hu0)).symm
  obtain ⟨x0, e0, b0⟩ := cell_int (k := .i64) (by kernel_rfl) hc0
  obtain ⟨u1, hu1, hc1⟩ := hcell 1 cs[1] (Array.getElem?_eq_getElem (by omega))
  obtain rfl : u1 = 9 := (Option.some.inj ((show ([2, 9] : List TypeId)[1 % 2]? = some 9 from rfl).symm.trans hu1)).symm
  obtain ⟨x1, e1⟩ := cell_str (by kernel_rfl) hc1
  refine ⟨x0, x1, ?_, b0⟩
  congr 1
  refine Array.ext (by simpa using hcs') fun i hi hj => ?_
  have hi' : i < 2 := by omega
  match i, hi' with
  | 0, _ => exact e0
  | 1, _ => exact e1
theorem cells30 : Tryd.prog.cellTypes Tryd.prog.depth 30 = some [2, 2] := by kernel_rfl
set_option maxRecDepth 100000 in
theorem open30 {W : World} {base : Nat} {v0 : Value} (h : Value.okWide Tryd.prog W .any base 30 v0) : ∃ (x0 : Int) (x1 : Int), v0 = .agg #[.int .i64 x0, .int .i64 x1] ∧ IntKind.i64.has x0 ∧ IntKind.i64.has x1 := by
  obtain ⟨cs, rfl, hcs, ts, hts, _, hcell⟩ : ∃ cs, v0 = .agg cs ∧ cs.size = Tryd.prog.cellsOf 30 ∧ Row.okWide Tryd.prog W .any base 30 cs := by
    have h' := h
    unfold Value.okWide at h'
    rw [Tryd.underlying30] at h'
    exact h'
  rw [cells30] at hts
  obtain rfl := Option.some.inj hts
  have hcs' : cs.size = 2 := hcs.trans (by kernel_rfl)
  obtain ⟨u0, hu0, hc0⟩ := hcell 0 cs[0] (Array.getElem?_eq_getElem (by omega))
  obtain rfl : u0 = 2 := (Option.some.inj ((show ([2, 2] : List TypeId)[0 % 2]? = some 2 from rfl).symm.trans hu0)).symm
  obtain ⟨x0, e0, b0⟩ := cell_int (k := .i64) (by kernel_rfl) hc0
  obtain ⟨u1, hu1, hc1⟩ := hcell 1 cs[1] (Array.getElem?_eq_getElem (by omega))
  obtain rfl : u1 = 2 := (Option.some.inj ((show ([2, 2] : List TypeId)[1 % 2]? = some 2 from rfl).symm.trans hu1)).symm
  obtain ⟨x1, e1, b1⟩ := cell_int (k := .i64) (by kernel_rfl) hc1
  refine ⟨x0, x1, ?_, b0, b1⟩
  congr 1
  refine Array.ext (by simpa using hcs') fun i hi hj => ?_
  have hi' : i < 2 := by omega
  match i, hi' with
  | 0, _ => exact e0
  | 1, _ => exact e1
theorem i64_rng {n : Int} (h : IntKind.i64.has n) : -9223372036854775808 ≤ n ∧ n < 9223372036854775808 := by
  have h1 : -9223372036854775808 ≤ n := h.1
  have h2 : n ≤ 9223372036854775807 := h.2
  omega
/-- What is listed tells that the table lies as it was laid. -/
theorem lt_of_laid {W : World} (h : laidMetH Tryd.prog Rows.valueOrderRow.laid W) : LT W := by
  rw [MakeChecks.laidMetH_plain _ _ _ (by kernel_rfl)] at h
  have h2 := Go.laidMet.tail (Go.laidMet.tail h)
  exact Lib.tabIs_of_head (g := 1) (t := 88) (e := 45) (n := 20) (rest := []) (by kernel_rfl) (by kernel_rfl) Tryd.underlying88 Tryd.underlying45 (by kernel_rfl) (by kernel_rfl) h2
end Go.Proofs.YtohbpgdhpfmlgaaDoor.PA
