/- The table and the two errors out of what is listed. -/
import Derived.Test.YtohbpgdhpfmlgaaDoorG6
import Derived.Test.YtohbpgdhpfmlgaaDoorG11
import Derived.Stop.LaidErr
namespace Go.Proofs.YtohbpgdhpfmlgaaDoor.PA
set_option linter.unusedVariables false
open Go.RowKit Go.ChangeShapes Go.WideShapes
theorem star : "*" ++ "errors.errorString" = "*errors.errorString" := by decide
theorem row100 (u : TypeId) (h : Tryd.prog.typeName? 3 u = some "*errors.errorString") : u = 100 :=
  typeName_ptr_named (nm := "errors.errorString") (by rw [star]; kernel_rfl) (by kernel_rfl) (by decide) u (by rw [star]; exact h)
theorem le_of_laid {W : World} (h : laidMetH Tryd.prog Rows.valueBackRow.laid W) : LE W := by
  rw [MakeChecks.laidMetH_plain _ _ _ (by kernel_rfl)] at h
  have h2 := Go.laidMet.tail (Go.laidMet.tail h)
  have h3 := Go.laidMet.tail h2
  have h4 := Go.laidMet.tail h3
  obtain ⟨a3, s3, v3, _⟩ := Go.laid_sentinel (g := 3) (ti := 50) (tp := 100) (te := 102) (ts := 9) h3 (by kernel_rfl) (by kernel_rfl) Tryd.underlying50 row100 Tryd.underlying100 Tryd.underlying102 rfl rfl Tryd.underlying9 (by kernel_rfl) (by kernel_rfl)
  obtain ⟨a2, s2, v2, _⟩ := Go.laid_sentinel (g := 2) (ti := 50) (tp := 100) (te := 102) (ts := 9) h4 (by kernel_rfl) (by kernel_rfl) Tryd.underlying50 row100 Tryd.underlying100 Tryd.underlying102 rfl rfl Tryd.underlying9 (by kernel_rfl) (by kernel_rfl)
  refine ⟨?_, ⟨_, (World.var?_cell (by kernel_rfl) v2 0).trans rfl, Or.inr ⟨_, _, rfl⟩⟩, ⟨_, (World.var?_cell (by kernel_rfl) v3 0).trans rfl, Or.inr ⟨_, _, rfl⟩⟩⟩
  exact Lib.tabIs_of_head (g := 1) (t := 88) (e := 45) (n := 20) (by kernel_rfl) (by kernel_rfl) Tryd.underlying88 Tryd.underlying45 (by kernel_rfl) (by kernel_rfl) h2
end Go.Proofs.YtohbpgdhpfmlgaaDoor.PA
