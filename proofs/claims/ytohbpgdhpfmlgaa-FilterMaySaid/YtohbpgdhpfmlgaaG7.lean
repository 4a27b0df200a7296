/- FilterSides: for every input its walk answers true. -/
import Derived.Test.YtohbpgdhpfmlgaaG3
import Derived.Test.YtohbpgdhpfmlgaaG6
namespace Go.Proofs.Ytohbpgdhpfmlgaa.PA
set_option linter.unusedVariables false
set_option linter.unusedSimpArgs false
open Go.RowKit Go.Proofs.YtohbpgdhpfmlgaaW.PrintWords Go.Proofs.YtohbpgdhpfmlgaaW.PrintLast

theorem fitOne_f0 (types : List Int) (f : S28) : (fitOne types f).f0 = f.f0 % (types.length : Int) := by
  unfold fitOne
  split <;> rfl
/-- Whether a filter holds of a row. -/
noncomputable def Hr (types : List Int) (r : List S26) (f : S28) : Bool := Classical.choose (holds_tot 999 (rd types f.f0) f.f0 f.f1 f.f2.f0 f.f2.f1 (rd_T26 r f.f0).f0 (rd_T26 r f.f0).f1)
theorem Hr_spec (types : List Int) (r : List S26) (f : S28) : filter_holds.f 1000 (rd types f.f0) f.f0 f.f1 f.f2.f0 f.f2.f1 (rd_T26 r f.f0).f0 (rd_T26 r f.f0).f1 = some (Hr types r f) :=
  Classical.choose_spec (holds_tot 999 (rd types f.f0) f.f0 f.f1 f.f2.f0 f.f2.f1 (rd_T26 r f.f0).f0 (rd_T26 r f.f0).f1)
theorem Hr_op (types : List Int) (r : List S26) (col : Int) (v : S26) : ∃ c : Int, ∀ op, op ∈ [1, 2, 3, 4, 5, 6] → Hr types r ⟨col, op, v⟩ = opOf op c := by
  obtain ⟨c, h⟩ := holds_op 999 (rd types col) col v.f0 v.f1 (rd_T26 r col).f0 (rd_T26 r col).f1
  refine ⟨c, fun op ho => ?_⟩
  have h1 := Hr_spec types r ⟨col, op, v⟩
  have h2 := h op ho
  exact Option.some.inj (h1.symm.trans h2)
theorem keep_tot (types : List Int) (q1 q2 q3 : Int) (fs : List S28) (L : List (List S26)) (hL : L.length ≤ 60) (hr : ∀ r ∈ L, r.length = types.length) (hf : ∀ f ∈ fs, 0 ≤ f.f0 ∧ f.f0 < (types.length : Int)) :
    filter_Keep.f 1000 types q1 q2 q3 fs L = some (L.filter fun r => fs.all (Hr types r)) := by
  unfold filter_Keep.f
  rw [if_pos (by omega)]
  refine keepRows_filter 1000 types fs _ L fun r h => ?_
  refine keepRow_all 1000 types r (Hr types r) fs fun f hm => ?_
  obtain ⟨h0, h1⟩ := hf f hm
  exact ⟨h0, h1, by rw [hr r h]; exact h1, Hr_spec types r f⟩
theorem op_three (c : Int) : (opOf 1 c = false ∧ opOf 2 c = true ∧ opOf 3 c = true ∧ opOf 4 c = true ∧ opOf 5 c = false ∧ opOf 6 c = false) ∨
    (opOf 1 c = true ∧ opOf 2 c = false ∧ opOf 3 c = false ∧ opOf 4 c = true ∧ opOf 5 c = false ∧ opOf 6 c = true) ∨
    (opOf 1 c = false ∧ opOf 2 c = true ∧ opOf 3 c = false ∧ opOf 4 c = false ∧ opOf 5 c = true ∧ opOf 6 c = true) := by
  rcases Int.lt_trichotomy c 0 with h | h | h
  · have h1 : ¬ 0 < c := by omega
    have h2 : c ≠ 0 := by omega
    have h3 : ¬ 0 ≤ c := by omega
    left
    simp [opOf, h, h1, h2, h3]
  · subst h
    right; left
    decide
  · have h1 : ¬ c < 0 := by omega
    have h2 : c ≠ 0 := by omega
    have h3 : 0 ≤ c := by omega
    right; right
    simp [opOf, h, h1, h2, h3]
theorem FilterSides.works (x0 x1 x2 x3 x4 x5 x6 x7 x8 x9 x10 x11 : Int) (p0 p1 : S28) (A2 : Option Addr) (c2 : Nat) (l2 : List (List S26)) (w : World) (hb : [x0, x1, x2, x3, x4, x5, x6, x7, x8, x9, x10, x11].all byteOk = true)
    (hp : ([p0, p1].all fun f => okInt f.f0 && okInt f.f1) = true) (hr2 : Kd.C (Kd.slice 26 k26) w A2 l2.length l2) (hc2 : l2.length ≤ c2) :
    Calls Try.prog 3 #[.agg #[.int .u8 x0, .int .u8 x1, .int .u8 x2, .int .u8 x3, .int .u8 x4, .int .u8 x5, .int .u8 x6, .int .u8 x7, .int .u8 x8, .int .u8 x9, .int .u8 x10, .int .u8 x11],
      .agg #[.int .i64 p0.f0, .int .i64 p0.f1, .int .i64 p0.f2.f0, .string p0.f2.f1, .int .i64 p1.f0, .int .i64 p1.f1, .int .i64 p1.f2.f0, .string p1.f2.f1], .slice A2 l2.length c2] w fun e w' => e = .returned (.bool true) ∧ Below w.heap.size w w' := by
  have hmade : thresherlaw19_made.f x0 x1 x2 x3 x4 x5 x6 x7 x8 x9 x10 x11 = some (madeTypes [x0, x1, x2, x3, x4, x5, x6, x7] (1 + x8 % 8).toNat, 1 + x9 % (1 + x8 % 8), 1 + x10 % 3, 1 + x11 % 8) := by
    simp only [thresherlaw19_made.f, thresherref04_Made.f, hb, if_true, Option.bind_some]
  have hlen : (madeTypes [x0, x1, x2, x3, x4, x5, x6, x7] (1 + x8 % 8).toNat).length ≤ 8 ∧ 0 < (madeTypes [x0, x1, x2, x3, x4, x5, x6, x7] (1 + x8 % 8).toNat).length := by
    simp only [madeTypes, List.length_map, List.length_take, List.length_cons, List.length_nil]
    omega
  generalize madeTypes [x0, x1, x2, x3, x4, x5, x6, x7] (1 + x8 % 8).toNat = types at hmade hlen
  generalize 1 + x9 % (1 + x8 % 8) = q1 at hmade
  generalize 1 + x10 % 3 = q2 at hmade
  generalize 1 + x11 % 8 = q3 at hmade
  obtain ⟨hl8, hl0⟩ := hlen
  obtain ⟨rows, hrows, hr60, hrl⟩ := fits_l0 types q1 q2 q3 l2 (by omega) 60 1000 0 [] rfl (Nat.le_refl _) (by simp) (by omega)
  have hfit : thresherref19_Fit.f types q1 q2 q3 [p0, p1] 2 = some [fitOne types p0, fitOne types p1] := by
    unfold thresherref19_Fit.f
    rw [if_pos ⟨hl0, by omega, by omega, by omega, hp⟩]
    rfl
  have ha : 0 ≤ (fitOne types p0).f0 ∧ (fitOne types p0).f0 < (types.length : Int) := by
    rw [fitOne_f0]
    exact ⟨Int.emod_nonneg _ (by omega), Int.emod_lt_of_pos _ (by omega)⟩
  have hbb : 0 ≤ (fitOne types p1).f0 ∧ (fitOne types p1).f0 < (types.length : Int) := by
    rw [fitOne_f0]
    exact ⟨Int.emod_nonneg _ (by omega), Int.emod_lt_of_pos _ (by omega)⟩
  generalize fitOne types p0 = a at hfit ha
  generalize fitOne types p1 = b at hfit hbb
  have h1 : ∀ op, filter_Keep.f 1000 types q1 q2 q3 [⟨a.f0, op, a.f2⟩] rows = some (rows.filter fun r => [(⟨a.f0, op, a.f2⟩ : S28)].all (Hr types r)) := fun op =>
    keep_tot types q1 q2 q3 _ rows hr60 hrl (by intro f hf; rw [List.mem_singleton.1 hf]; exact ha)
  obtain ⟨cA, hcA⟩ : ∃ cA : List S26 → Int, ∀ r op, op ∈ [1, 2, 3, 4, 5, 6] → Hr types r ⟨a.f0, op, a.f2⟩ = opOf op (cA r) :=
    ⟨fun r => Classical.choose (Hr_op types r a.f0 a.f2), fun r => Classical.choose_spec (Hr_op types r a.f0 a.f2)⟩
  have h2 : ∀ op, op ∈ [1, 2, 3, 4, 5, 6] → filter_Keep.f 1000 types q1 q2 q3 [⟨a.f0, op, a.f2⟩] rows = some (rows.filter fun r => opOf op (cA r)) := by
    intro op ho
    rw [h1 op]
    congr 2
    funext r
    simp [hcA r op ho]
  have hsub : ∀ Q : List S26 → Bool, (rows.filter Q).length ≤ 60 ∧ ∀ r ∈ rows.filter Q, r.length = types.length := fun Q =>
    ⟨Nat.le_trans (List.length_filter_le _ _) hr60, fun r hr => hrl r ((List.mem_filter.1 hr).1)⟩
  have hone : filter_Keep.f 1000 types q1 q2 q3 [⟨a.f0, 6, a.f2⟩, b] rows = some (rows.filter fun r => opOf 6 (cA r) && Hr types r b) := by
    rw [keep_tot types q1 q2 q3 _ rows hr60 hrl (by intro f hf; rcases List.mem_cons.1 hf with rfl | hf; exact ha; rw [List.mem_singleton.1 hf]; exact hbb)]
    congr 2
    funext r
    simp [hcA r 6]
  have htwo : filter_Keep.f 1000 types q1 q2 q3 [b, ⟨a.f0, 6, a.f2⟩, b] rows = some (rows.filter fun r => opOf 6 (cA r) && Hr types r b) := by
    rw [keep_tot types q1 q2 q3 _ rows hr60 hrl (by intro f hf; rcases List.mem_cons.1 hf with rfl | hf; exact hbb; rcases List.mem_cons.1 hf with rfl | hf; exact ha; rw [List.mem_singleton.1 hf]; exact hbb)]
    congr 2
    funext r
    simp only [List.all_cons, List.all_nil, hcA r 6 (by simp)]
    cases Hr types r b <;> cases opOf 6 (cA r) <;> rfl
  have htw : filter_Keep.f 1000 types q1 q2 q3 [b] (rows.filter fun r => opOf 6 (cA r)) = some (rows.filter fun r => opOf 6 (cA r) && Hr types r b) := by
    rw [keep_tot types q1 q2 q3 _ _ (hsub _).1 (hsub _).2 (by intro f hf; rw [List.mem_singleton.1 hf]; exact hbb), List.filter_filter]
    congr 2
    funext r
    simp [Bool.and_comm]
  have hnon : filter_Keep.f 1000 types q1 q2 q3 [] rows = some rows := by
    rw [keep_tot types q1 q2 q3 _ rows hr60 hrl (by simp)]
    congr 1
    simp
  refine FilterSides.walk 1000 x0 x1 x2 x3 x4 x5 x6 x7 x8 x9 x10 x11 p0 p1 A2 c2 l2 types q1 q2 q3 rows a b _ _ _ _ _ _ _ _ _ _ w hr2 hc2 shown_ok hmade hrows hfit (h2 3 (by simp)) (h2 5 (by simp)) (h2 1 (by simp)) (h2 2 (by simp)) (h2 4 (by simp)) (h2 6 (by simp)) hone htwo htw hnon
    (rows_refl _ (fun r hr => by rw [(hsub _).2 r hr]; omega) (Nat.le_trans (hsub _).1 (by omega)) 1000 (by omega)) (rows_refl _ (fun r hr => by rw [(hsub _).2 r hr]; omega) (Nat.le_trans (hsub _).1 (by omega)) 1000 (by omega))
    (rows_refl _ (fun r hr => by rw [hrl r hr]; omega) (by omega) 1000 (by omega)) ?_ ?_ ?_ ?_
  · exact fl_count rows _ _ _ (fun r => by rcases op_three (cA r) with ⟨a1, a2, a3, a4, a5, a6⟩ | ⟨a1, a2, a3, a4, a5, a6⟩ | ⟨a1, a2, a3, a4, a5, a6⟩ <;> simp only [a1, a2, a3, a4, a5, a6] <;> rfl)
  · have h := fl_count2 rows (fun r => opOf 1 (cA r)) (fun r => opOf 2 (cA r)) (fun _ => false) (fun r => by rcases op_three (cA r) with ⟨a1, a2, a3, a4, a5, a6⟩ | ⟨a1, a2, a3, a4, a5, a6⟩ | ⟨a1, a2, a3, a4, a5, a6⟩ <;> simp only [a1, a2, a3, a4, a5, a6] <;> rfl)
    rwa [show (rows.filter fun _ => false) = [] from List.filter_eq_nil_iff.2 (by simp)] at h
  · exact fl_count2 rows _ _ _ (fun r => by rcases op_three (cA r) with ⟨a1, a2, a3, a4, a5, a6⟩ | ⟨a1, a2, a3, a4, a5, a6⟩ | ⟨a1, a2, a3, a4, a5, a6⟩ <;> simp only [a1, a2, a3, a4, a5, a6] <;> rfl)
  · have h := List.length_filter_le (fun r => Hr types r b) (rows.filter fun r => opOf 6 (cA r))
    rw [List.filter_filter] at h
    simpa [Bool.and_comm] using h
end Go.Proofs.Ytohbpgdhpfmlgaa.PA
