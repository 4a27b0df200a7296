/- For every input thresherlaw03.ValueAll answers true, and each argument reads afterwards as it read before. The table of the powers of ten and two errors read as the program's text lays them (the card's tie). -/
import Derived.Test.YtohbpgdhpfmlgaaDoorCards
import Derived.Test.YtohbpgdhpfmlgaaDoorTie
import Derived.Test.YtohbpgdhpfmlgaaDoorG17
import Derived.Test.YtohbpgdhpfmlgaaDoorG11
import Derived.Stop.LaidErr
import Derived.Test.YtohbpgdhpfmlgaaDoorG6
import Derived.WalkKit
import Derived.ProofKit
import Derived.OpenShut
import Derived.ChangeOld
import Derived.Below
import Derived.LaidMore
import Derived.Lay
import Derived.SevenTiedAt
import Derived.Stop.Joined
namespace Go.Proofs.YtohbpgdhpfmlgaaDoor.PA
set_option linter.unusedVariables false
open Go.RowKit Go.ChangeShapes Go.WideShapes
theorem star : "*" ++ "errors.errorString" = "*errors.errorString" := by decide
theorem row100 (u : TypeId) (h : Tryd.prog.typeName? 3 u = some "*errors.errorString") : u = 100 :=
  typeName_ptr_named (nm := "errors.errorString") (by rw [star]; kernel_rfl) (by kernel_rfl) (by decide) u (by rw [star]; exact h)
theorem le_of_laid {W : World} (h : laidMetH Tryd.prog Rows.valueBackRow.laid W) : LE W := by
  rw [MakeChecks.laidMetH_plain _ _ _ (by kernel_rfl)] at h
  have h2 := Go.laidMet.tail (Go.laidMet.tail h)
  have h3 := Go.laidMet.tail h2
  have h4 := Go.laidMet.tail h3
  obtain ⟨a3, s3, v3, _⟩ := Go.laid_sentinel (g := 3) (ti := 50) (tp := 100) (te := 102) (ts := 9) h3 (by kernel_rfl) (by kernel_rfl) Tryd.underlying50 row100 Tryd.underlying100 Tryd.underlying102 rfl rfl Tryd.underlying9 (by kernel_rfl) (by kernel_rfl)
  obtain ⟨a2, s2, v2, _⟩ := Go.laid_sentinel (g := 2) (ti := 50) (tp := 100) (te := 102) (ts := 9) h4 (by kernel_rfl) (by kernel_rfl) Tryd.underlying50 row100 Tryd.underlying100 Tryd.underlying102 rfl rfl Tryd.underlying9 (by kernel_rfl) (by kernel_rfl)
  refine ⟨?_, ⟨_, (World.var?_cell (by kernel_rfl) v2 0).trans rfl, Or.inr ⟨_, _, rfl⟩⟩, ⟨_, (World.var?_cell (by kernel_rfl) v3 0).trans rfl, Or.inr ⟨_, _, rfl⟩⟩⟩
  exact Lib.tabIs_of_head (g := 1) (t := 88) (e := 45) (n := 20) (by kernel_rfl) (by kernel_rfl) Tryd.underlying88 Tryd.underlying45 (by kernel_rfl) (by kernel_rfl) h2
end Go.Proofs.YtohbpgdhpfmlgaaDoor.PA
namespace Go.Proofs.YtohbpgdhpfmlgaaDoor.valueAll
open Go.ChangeShapes Go.WideShapes Go.ChangeAt Go.RowKit Go.Proofs.YtohbpgdhpfmlgaaDoor.PA
set_option linter.unusedVariables false
theorem own : ownKnob Tryd.prog.godebug = none := by kernel_rfl
theorem laidOut : laidOutB Tryd.prog = true := by kernel_rfl
set_option maxRecDepth 100000 in
theorem lifted (os : Os) (started : os.Started) (H : Type) (enc : TypeId × Value → H) :
    ReturnsInHanded {} Tryd.checked os 8 .any (fun w args => (Rows.valueAllSpec.pre enc Tryd.prog Tryd.f8 Rows.valueAllRow.domain false w args ∧ laidMetH Tryd.prog Rows.valueAllRow.laid w) ∧ sizedMet enc Tryd.prog Tryd.f8 (OpenSpec.ofChange Rows.valueAllSpec) false w args)
      (Rows.valueAllSpec.post enc Tryd.prog Tryd.f8 false true false false) := by
  refine returnsInHanded_of_change_and (C := Tryd.checked) (X := fun w _ => laidMetH Tryd.prog Rows.valueAllRow.laid w) (fun _ _ _ hh h => h.of_heap hh) own started (by kernel_rfl) Tryd.func8
    (ChangeSpec.witness_shaped (enc := enc) (C := Tryd.checked) (os := os) (X := fun w _ => laidMetH Tryd.prog Rows.valueAllRow.laid w) false (World.laidAll Tryd.prog os Rows.valueAllRow.laid) #[.int .i64 0, .agg #[.int .i64 0, .string ⟨#[]⟩, .int .i64 0, .string ⟨#[]⟩], .string ⟨#[]⟩] 8 (World.laidAll_os _ _ _)
      (World.shaped_of_ZipB (by kernel_rfl) (by kernel_rfl)) (by kernel_rfl) (by kernel_rfl) (by kernel_rfl)
      (by rw [MakeChecks.laidMetH_plain _ _ _ (by kernel_rfl)]; exact laidMet_laidAll _ (by kernel_rfl) (by kernel_rfl))) ?_
  intro W base args ds gs before hval0 hW hc _ hL _
  have hval : ∀ (j : Nat) t v, Tryd.f8.params[j]? = some t → args[j]? = some v → Value.okWide Tryd.prog W .any base t v := hval0
  have hW' := hW
  obtain ⟨p, q, hA0, hV, rfl, _, _⟩ := hW
  have hA : DataW.TrodAll enc Tryd.prog W 0 (fun _ => true) true Tryd.f8.params.toList args.toList ds p := hA0
  rw [Tryd.params8] at hA hval
  obtain ⟨v0, vs0, d0, ds0, p0, q0, hargs, rfl, rfl, h0, r0⟩ := trodAll_cons hA
  obtain ⟨v1, vs1, d1, ds1, p1, q1, rfl, rfl, rfl, h1, r1⟩ := trodAll_cons r0
  obtain ⟨v2, vs2, d2, ds2, p2, q2, rfl, rfl, rfl, h2, r2⟩ := trodAll_cons r1
  obtain ⟨rfl, rfl, rfl⟩ := trodAll_nil r2
  obtain rfl : args = #[v0, v1, v2] := by cases args; simp_all
  obtain ⟨rfl, rfl⟩ := trodVars_none hV
  have k0 := h0
  have lt0 : ∀ x ∈ p0, x.block < W.heap.size := by obtain ⟨m, hm⟩ := k0; exact DataW.trod_lt m _ _ _ hm
  have k1 := h1
  have lt1 : ∀ x ∈ p1, x.block < W.heap.size := by obtain ⟨m, hm⟩ := k1; exact DataW.trod_lt m _ _ _ hm
  have k2 := h2
  have lt2 : ∀ x ∈ p2, x.block < W.heap.size := by obtain ⟨m, hm⟩ := k2; exact DataW.trod_lt m _ _ _ hm
  obtain ⟨t, rfl, rfl, rfl, wt⟩ := open_int (k := .i64) (by kernel_rfl) (hval 0 3 v0 rfl rfl) h0
  obtain ⟨x0, x1, x2, x3, rfl, b0, b2⟩ := open35 (hval 1 35 v1 rfl rfl)
  obtain ⟨s, rfl⟩ := okWide_string Tryd.underlying9 (hval 2 9 v2 rfl rfl)
  obtain ⟨l0, u0⟩ := i64_rng b0
  obtain ⟨l2, u2⟩ := i64_rng b2
  have hT := le_of_laid (show laidMetH Tryd.prog Rows.valueBackRow.laid W from hL)
  clear hA0 hval0 hval hargs
  refine (ValueAll.works t x0 x2 x1 x3 s W ⟨hT⟩ l0 u0 l2 u2).mono fun e W' ⟨he, bel⟩ => ?_
  subst he
  exact ⟨_, rfl, _, _, _, [], _, [], hW', trodAll_mk1 (shut_bool Tryd.underlying4 _), (trodAll_cons_mk (Below.trod laidOut (by kernel_rfl) (of_decide_eq_true (by kernel_rfl)) k0 bel lt0) (trodAll_cons_mk (Below.trod laidOut (by kernel_rfl) (of_decide_eq_true (by kernel_rfl)) k1 bel lt1) (trodAll_cons_mk (Below.trod laidOut (by kernel_rfl) (of_decide_eq_true (by kernel_rfl)) k2 bel lt2) trodAll_mk0))), rfl, bel.frame _, fun h => by cases h⟩
theorem over : Rows.valueAllRow.holds Tryd.pinned (OpenSpec.ofChange Rows.valueAllSpec) :=
  OpenClaim.holds_of_wide 8 Tryd.f8 rfl rfl rfl rfl rfl rfl rfl ⟨rfl, rfl, rfl, rfl, rfl⟩ rfl rfl rfl rfl rfl (by kernel_rfl) Tryd.func8 (by kernel_rfl)
    (of_decide_eq_true (by kernel_rfl)) (by unfold Func.isWrapper; first | (rw [if_pos (by decide +kernel)]; kernel_rfl) | (rw [if_neg (by decide +kernel)]; exact ⟨rfl, rfl⟩))
    (fun os started H enc _ => lifted os started H enc)
theorem card_holds : Rows.ValueAllCardSaid :=
  Claim7.holds_tied_plain_at .later [] [.data, .data, .data, .sentinel, .sentinel] true (true, "bb69a14ecfbc10d91511e1de1cac401641993d3163807c3ed32958c36fab5aed") true over (fun _ h => by cases h) (by kernel_rfl) (fun _ h => by cases h) valueAll_row_tie rfl ⟨rfl, rfl⟩ (by kernel_rfl) rfl
    (fun f fn hf hfn => by
      obtain rfl : f = 8 := Option.some.inj ((show Tryd.prog.funcNamed "thresher/thresherlaw03.ValueAll" = some 8 by kernel_rfl).symm.trans hf) |>.symm
      obtain rfl : fn = Tryd.f8 := (Option.some.inj (Tryd.func8.symm.trans hfn)).symm
      exact ⟨by kernel_rfl, fun j t ht => by
        rw [Tryd.params8] at ht
        have hm : t ∈ [3, 35, 9] := by simpa using Array.mem_of_getElem? ht
        have hall : ([3, 35, 9].all fun u => !Tryd.prog.wantsStandIn u) = true := by kernel_rfl
        exact (show Tryd.prog.wantsStandIn t = false by simpa using List.all_eq_true.1 hall t hm)⟩)
    (by kernel_rfl)
#print axioms card_holds
end Go.Proofs.YtohbpgdhpfmlgaaDoor.valueAll
namespace Go.Proofs.YtohbpgdhpfmlgaaDoor
/-- The card, under a short name, for the claim. -/
theorem valueAll_holds : Rows.ValueAllCardSaid := valueAll.card_holds
end Go.Proofs.YtohbpgdhpfmlgaaDoor
