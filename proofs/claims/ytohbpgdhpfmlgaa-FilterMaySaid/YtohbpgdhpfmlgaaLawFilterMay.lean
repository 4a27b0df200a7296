/- For every input thresherlaw19.FilterMay answers true, and each argument reads afterwards as it read before. No conditions. -/
import Derived.Test.YtohbpgdhpfmlgaaRows
import Derived.Test.YtohbpgdhpfmlgaaG10
import Derived.Test.YtohbpgdhpfmlgaaG11
import Derived.WalkKit
import Derived.ProofKit
import Derived.OpenShut
import Derived.ShutString
import Derived.ChangeOld
import Derived.Below
import Derived.SizedLaws
namespace Go.Proofs.Ytohbpgdhpfmlgaa.filterMay
open Go.ChangeShapes Go.WideShapes Go.ChangeAt Go.RowKit Go.Proofs.Ytohbpgdhpfmlgaa.PA
set_option linter.unusedVariables false
theorem own : ownKnob Try.prog.godebug = none := by kernel_rfl
theorem laidOut : laidOutB Try.prog = true := by kernel_rfl
set_option maxRecDepth 100000 in
theorem lifted (os : Os) (started : os.Started) (H : Type) (enc : TypeId × Value → H) :
    ReturnsInHanded {} Try.checked os 4 .any (Rows.filterMaySpec.pre6 enc Try.prog Try.f4 Rows.filterMayRow.domain false) (Rows.filterMaySpec.post enc Try.prog Try.f4 false true false false) := by
  refine returnsInHanded_of_change_sized (C := Try.checked) own started (by kernel_rfl) Try.func4
    (ChangeSpec.witness6 (enc := enc) (C := Try.checked) false ⟨#[], #[.agg #[.int .u8 0, .int .u8 0, .int .u8 0, .int .u8 0, .int .u8 0, .int .u8 0, .int .u8 0, .int .u8 0, .int .u8 0, .int .u8 0, .int .u8 0, .int .u8 0], .slice none 0 0, .int .i64 0], []⟩ 8 (by kernel_rfl) (by kernel_rfl) (by kernel_rfl) (by kernel_rfl)) ?_
  intro W base args ds gs before hval0 hW hcnd hsz0 _
  have hval : ∀ (j : Nat) t v, Try.f4.params[j]? = some t → args[j]? = some v → Value.okWide Try.prog W .any base t v := hval0
  have hW' := hW
  obtain ⟨p, q, hA0, hV, rfl, hfz, hnd⟩ := hW
  have hA : DataW.TrodAll enc Try.prog W 0 (fun _ => true) true Try.f4.params.toList args.toList ds p := hA0
  rw [Try.params4] at hA hval
  obtain ⟨v0, vs0, d0, ds0, p0, q0, hargs, rfl, rfl, h0, r0⟩ := trodAll_cons hA
  obtain ⟨v1, vs1, d1, ds1, p1, q1, rfl, rfl, rfl, h1, r1⟩ := trodAll_cons r0
  obtain ⟨v2, vs2, d2, ds2, p2, q2, rfl, rfl, rfl, h2, r2⟩ := trodAll_cons r1
  obtain ⟨rfl, rfl, rfl⟩ := trodAll_nil r2
  obtain rfl : args = #[v0, v1, v2] := by cases args; simp_all
  obtain ⟨rfl, rfl⟩ := trodVars_none hV
  have k0 := h0
  have lt0 : ∀ x ∈ p0, x.block < W.heap.size := by obtain ⟨m, hm⟩ := k0; exact DataW.trod_lt m _ _ _ hm
  have k1 := h1
  have lt1 : ∀ x ∈ p1, x.block < W.heap.size := by obtain ⟨m, hm⟩ := k1; exact DataW.trod_lt m _ _ _ hm
  have k2 := h2
  have lt2 : ∀ x ∈ p2, x.block < W.heap.size := by obtain ⟨m, hm⟩ := k2; exact DataW.trod_lt m _ _ _ hm
  obtain ⟨x0, x1, x2, x3, x4, x5, x6, x7, x8, x9, x10, x11, rfl, hb⟩ := open24 (hval 0 24 v0 rfl rfl)
  obtain ⟨fuel, hf⟩ := h1
  obtain ⟨l1, ⟨A1, c1, hcc, hl1, hC1⟩, hG⟩ := opens_slice Try.underlying37 (by kernel_rfl) opens28 _ _ _ hf
  obtain ⟨a, len, cap, rfl⟩ := okWide_slice Try.underlying37 (hval 1 37 v1 rfl rfl)
  have hcc' : Value.slice a len cap = .slice A1 l1.length c1 := (List.cons.inj hcc).1
  rw [hcc'] at k1 hW' ⊢
  obtain ⟨col, rfl, rfl, rfl, wcol⟩ := open_int (k := .i64) (by kernel_rfl) (hval 2 3 v2 rfl rfl) h2
  clear hA0 hval0 hsz0 hval hargs
  refine (FilterMay.works x0 x1 x2 x3 x4 x5 x6 x7 x8 x9 x10 x11 A1 c1 l1 col W hb (by rw [List.all_eq_true]; intro f hf; have := hG f hf; simp [this.1, this.2]) hC1 hl1).mono fun e W' ⟨he, bel⟩ => ?_
  subst he
  exact ⟨_, rfl, _, _, _, [], _, [], hW', trodAll_mk1 (shut_bool Try.underlying4 _), (trodAll_cons_mk (Below.trod laidOut (by kernel_rfl) (of_decide_eq_true (by kernel_rfl)) k0 bel lt0) (trodAll_cons_mk (Below.trod laidOut (by kernel_rfl) (of_decide_eq_true (by kernel_rfl)) k1 bel lt1) (trodAll_cons_mk (Below.trod laidOut (by kernel_rfl) (of_decide_eq_true (by kernel_rfl)) k2 bel lt2) trodAll_mk0))), rfl, bel.frame _, fun h => by cases h⟩
theorem over : Rows.filterMayRow.holds Try.pinned (OpenSpec.ofChange Rows.filterMaySpec) :=
  OpenClaim.holds_of_wide 4 Try.f4 rfl rfl rfl rfl rfl rfl rfl ⟨rfl, rfl, rfl, rfl, rfl⟩ rfl rfl rfl rfl rfl (by kernel_rfl) Try.func4 (by kernel_rfl)
    (of_decide_eq_true (by kernel_rfl)) (by unfold Func.isWrapper; first | (rw [if_pos (by decide +kernel)]; kernel_rfl) | (rw [if_neg (by decide +kernel)]; exact ⟨rfl, rfl⟩))
    (fun os started H enc _ => lifted os started H enc)
theorem proved : Rows.FilterMaySaid := over
#print axioms proved
end Go.Proofs.Ytohbpgdhpfmlgaa.filterMay
namespace Go.Proofs.Ytohbpgdhpfmlgaa
/-- The row, under a short name, for the claim. -/
theorem filterMay_holds : Rows.FilterMaySaid := filterMay.proved
end Go.Proofs.Ytohbpgdhpfmlgaa
