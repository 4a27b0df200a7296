/- ValueOrder's walk. -/
import Derived.Test.YtohbpgdhpfmlgaaDoorG4
import Derived.Outline
namespace Go.Proofs.YtohbpgdhpfmlgaaDoor.PA
set_option linter.unusedVariables false
set_option linter.unusedSimpArgs false
open Go.RowKit Go.Proofs.YtohbpgdhpfmlgaaDoorW.PrintWords Go.Proofs.YtohbpgdhpfmlgaaDoorW.PrintLast Go.Proofs.YtohbpgdhpfmlgaaDoorW.PrintMore
theorem cV_all (k n : Int) (s : ByteArray) (n' : Int) (s' : ByteArray) (n'' : Int) (s'' : ByteArray) :
    (cV k n s n' s' ≤ 0 → cV k n' s' n'' s'' ≤ 0 → cV k n s n'' s'' ≤ 0 ∧ (cV k n s n' s' < 0 ∨ cV k n' s' n'' s'' < 0 → cV k n s n'' s'' < 0)) ∧
    (cV k n s n' s' ≥ 0 → cV k n' s' n'' s'' ≥ 0 → cV k n s n'' s'' ≥ 0 ∧ (cV k n s n' s' > 0 ∨ cV k n' s' n'' s'' > 0 → cV k n s n'' s'' > 0)) := by
  refine ⟨cV_le k n s n' s' n'' s'', fun h1 h2 => ?_⟩
  have a := cV_swap k n s n' s'
  have b := cV_swap k n' s' n'' s''
  have c := cV_swap k n s n'' s''
  have d := cV_le k n'' s'' n' s' n s (by omega) (by omega)
  omega
theorem cmp_of' {k n n' : Int} {s s' : ByteArray} (h : FitP k n s) (h' : FitP k n' s') (w : World) : Calls Tryd.prog 12 #[.int .i64 k, .agg #[.int .i64 n, .string s], .agg #[.int .i64 n', .string s']] w fun e w' => e = .returned (.int .i64 (cV k n s n' s')) ∧ Below w.heap.size w w' :=
  value_Compare.calls 1 k n s n' s' _ w (cmp_of h h' 0)
theorem eqA23 (d : Nat) (w : World) (x0 : Int) (x1 : ByteArray) (y0 : Int) (y1 : ByteArray) :
    (Op.equalIn (d + 2) 23 (.agg #[.int .i64 x0, .string x1]) (.agg #[.int .i64 y0, .string y1])).run Tryd.prog w = .ok (x0 == y0 && (x1.toList == y1.toList)) w := by
  refine eqA_of Tryd.underlying23 (by kernel_rfl) ?_
  refine eqf_cons (by rfl) (by go_simp; rfl) (by go_simp; rfl) (by go_simp) ?_
  exact eqf_last (by rfl) (by go_simp; rfl) (by go_simp; rfl) (by go_simp)
attribute [local go_sem high] eqA23
theorem eqBV (a0 : Int) (a1 : ByteArray) (b0 : Int) (b1 : ByteArray) : (a0 == b0 && (a1.toList == b1.toList)) = decide (a0 = b0 ∧ a1 = b1) := by
  rw [toList_eq, toList_eq]
  by_cases h1 : a0 = b0
  · by_cases h2 : a1 = b1
    · simp [h1, h2]
    · have h3 : a1.data.toList ≠ b1.data.toList := fun e => h2 (toList_inj e)
      have h4 : (a1.data.toList == b1.data.toList) = false := beq_eq_false_iff_ne.2 h3
      rw [h4]; simp [h2]
  · simp [h1]
/-- What the walk has made: blocks that stay. -/
structure ST (w W : World) (l : List (Nat × Array Value × TypeId)) : Prop where
  b : Below w.heap.size w W
  m : ∀ (j : Nat) x, l[j]? = some x → W.heap[x.1]? = some (.cells x.2.1 x.2.2 (0, 0))
theorem ST.step {w W W' : World} {l : List (Nat × Array Value × TypeId)} (h : ST w W l) (hb : Below W.heap.size W W') : ST w W' l := ⟨below_step h.b hb, fun j x hx => blk_below (h.m j x hx) hb⟩
theorem ST.start (w : World) : ST w w [] := ⟨Below.refl _ _, fun j x hx => by simp at hx⟩
theorem ST.alloc {w W : World} {l : List (Nat × Array Value × TypeId)} (h : ST w W l) (o : Obj) : ST w (W.alloc o) l := h.step (below_alloc (Below.refl _ _) _)
theorem ST.drew {w W : World} {l : List (Nat × Array Value × TypeId)} (h : ST w W l) : ST w W.drew l := h.step (below_drew (Below.refl _ _))
theorem ST.new {w W : World} {l : List (Nat × Array Value × TypeId)} (h : ST w W l) (cs : Array Value) (t : TypeId) : ST w (W.alloc (.cells cs t)) (l ++ [(W.heap.size, cs, t)]) := by
  refine ⟨(h.alloc _).b, fun j x hx => ?_⟩
  rcases Nat.lt_or_ge j l.length with h1 | h1
  · rw [List.getElem?_append_left h1] at hx
    exact (h.alloc _).m j x hx
  · rw [List.getElem?_append_right h1] at hx
    have : x = (W.heap.size, cs, t) := by
      rcases hj : j - l.length with _ | q
      · rw [hj] at hx; simpa using hx.symm
      · rw [hj] at hx; simp at hx
    subst this
    exact blk_new W _
theorem ST.cell {w W : World} {l : List (Nat × Array Value × TypeId)} (h : ST w W l) {j : Nat} {g : Nat} {cs : Array Value} {t : TypeId} (hj : l[j]? = some (g, cs, t)) (i : Nat) : W.cell? ⟨g, i, none⟩ = cs[i]? := blk_cell (h.m j _ hj) i
theorem Calls.below {P : Program} {f : FuncId} {a : Array Value} {w : World} {r : Ending} (h : Calls P f a w fun e w' => e = r ∧ Drawn0 w w') : Calls P f a w fun e w' => e = r ∧ Below w.heap.size w w' := by
  refine h.mono ?_
  rintro e w' ⟨rfl, ⟨nd, rfl⟩⟩
  exact ⟨rfl, pw_below_drewN (Below.refl _ _) nd⟩
set_option maxHeartbeats 4000000 in
set_option maxRecDepth 100000 in
theorem ValueOrder.works (t n0 n1 n2 : Int) (s0 s1 s2 : ByteArray) (w : World) (HT : Aside0 (LT w)) (ht0 : 0 ≤ t) (ht1 : t < 256)
    (hl0 : -9223372036854775808 ≤ n0) (hu0 : n0 < 9223372036854775808) (hl1 : -9223372036854775808 ≤ n1) (hu1 : n1 < 9223372036854775808) (hl2 : -9223372036854775808 ≤ n2) (hu2 : n2 < 9223372036854775808) :
    Calls Tryd.prog 3 #[.int .u8 t, .agg #[.int .i64 n0, .string s0, .int .i64 n1, .string s1, .int .i64 n2, .string s2]] w fun e w' => e = .returned (.bool true) ∧ Below w.heap.size w w' := by
  obtain ⟨hk, hkk⟩ := kind_of t ht0 ht1
  obtain ⟨f0, p0⟩ := fit_of (kindOf t) n0 s0 hkk hl0 hu0
  obtain ⟨f1, p1⟩ := fit_of (kindOf t) n1 s1 hkk hl1 hu1
  obtain ⟨f2, p2⟩ := fit_of (kindOf t) n2 s2 hkk hl2 hu2
  have KK := Aside0.mk hk
  have F0 := Aside0.mk f0
  have F1 := Aside0.mk f1
  have F2 := Aside0.mk f2
  have P0 := Aside0.mk p0
  have P1 := Aside0.mk p1
  have P2 := Aside0.mk p2
  have HK3 := Aside0.mk hkk
  clear hk hkk f0 f1 f2 p0 p1 p2
  generalize kindOf t = k at *
  generalize fitN k n0 = a0 at *
  generalize fitN k n1 = b0 at *
  generalize fitN k n2 = c0 at *
  generalize fitS k s0 = a1 at *
  generalize fitS k s1 = b1 at *
  generalize fitS k s2 = c1 at *
  have S := Aside0.mk ((ST.start w).new #[.int .i64 n0, .string s0, .int .i64 n1, .string s1, .int .i64 n2, .string s2] 24)
  go_enter Tryd.func3, Tryd.ntmps3
  go_wp2_with fail
  refine (thresherlaw03_shown.calls 1 true _ ⟨LT.step HT.out S.out.b⟩ (shown_true 0)).mono ?_
  rintro e w1 ⟨rfl, hb⟩
  replace S := Aside0.mk ((S.out).step hb)
  clear hb
  go_wp2_with fail
  refine (Calls.below (thresherlaw03_kind.calls t k _ KK.out)).mono ?_
  rintro e w2 ⟨rfl, hb⟩
  replace S := Aside0.mk ((S.out).step hb)
  clear hb
  have cx0 : (w2).cell? ⟨w.heap.size, 0, none⟩ = some (.int .i64 n0) := ST.cell (j := 0) S.out rfl 0
  have cx1 : (w2).cell? ⟨w.heap.size, 1, none⟩ = some (.string s0) := ST.cell (j := 0) S.out rfl 1
  go_wp2_with fail
  refine (thresherlaw03_fit.calls k n0 s0 a0 a1 _ F0.out).mono ?_
  rintro e w3 ⟨rfl, hb⟩
  replace S := Aside0.mk ((S.out).step hb)
  clear hb
  clear cx0 cx1
  have cx0 : ((w3.alloc (.cells #[.int .i64 a0, .string a1] 23))).cell? ⟨w.heap.size, 2, none⟩ = some (.int .i64 n1) := ST.cell (j := 0) (S.out.alloc _) rfl 2
  have cx1 : ((w3.alloc (.cells #[.int .i64 a0, .string a1] 23))).cell? ⟨w.heap.size, 3, none⟩ = some (.string s1) := ST.cell (j := 0) (S.out.alloc _) rfl 3
  go_wp2_with fail
  refine (thresherlaw03_fit.calls k n1 s1 b0 b1 _ F1.out).mono ?_
  rintro e w4 ⟨rfl, hb⟩
  replace S := Aside0.mk ((S.out.new #[.int .i64 a0, .string a1] 23).step hb)
  clear hb
  clear cx0 cx1
  have cx0 : ((w4.alloc (.cells #[.int .i64 b0, .string b1] 23))).cell? ⟨w.heap.size, 4, none⟩ = some (.int .i64 n2) := ST.cell (j := 0) (S.out.alloc _) rfl 4
  have cx1 : ((w4.alloc (.cells #[.int .i64 b0, .string b1] 23))).cell? ⟨w.heap.size, 5, none⟩ = some (.string s2) := ST.cell (j := 0) (S.out.alloc _) rfl 5
  go_wp2_with fail
  refine (thresherlaw03_fit.calls k n2 s2 c0 c1 _ F2.out).mono ?_
  rintro e w5 ⟨rfl, hb⟩
  replace S := Aside0.mk ((S.out.new #[.int .i64 b0, .string b1] 23).step hb)
  clear hb
  clear cx0 cx1
  have S1 := Aside0.mk (S.out.new #[.int .i64 c0, .string c1] 23)
  have ca0 : ((w5.alloc (.cells #[.int .i64 c0, .string c1] 23))).cell? ⟨w3.heap.size, 0, none⟩ = some (.int .i64 a0) := ST.cell (j := 1) S1.out rfl 0
  have ca1 : ((w5.alloc (.cells #[.int .i64 c0, .string c1] 23))).cell? ⟨w3.heap.size, 1, none⟩ = some (.string a1) := ST.cell (j := 1) S1.out rfl 1
  have cb0 : ((w5.alloc (.cells #[.int .i64 c0, .string c1] 23))).cell? ⟨w4.heap.size, 0, none⟩ = some (.int .i64 b0) := ST.cell (j := 2) S1.out rfl 0
  have cb1 : ((w5.alloc (.cells #[.int .i64 c0, .string c1] 23))).cell? ⟨w4.heap.size, 1, none⟩ = some (.string b1) := ST.cell (j := 2) S1.out rfl 1
  go_wp2_with fail
  refine (cmp_of' P0.out P1.out _).mono ?_
  rintro e w6 ⟨rfl, hb⟩
  replace S := Aside0.mk ((S1.out).step hb)
  clear hb
  clear ca0 ca1 cb0 cb1 S1
  have cb0 : (w6).cell? ⟨w4.heap.size, 0, none⟩ = some (.int .i64 b0) := ST.cell (j := 2) S.out rfl 0
  have cb1 : (w6).cell? ⟨w4.heap.size, 1, none⟩ = some (.string b1) := ST.cell (j := 2) S.out rfl 1
  have cc0 : (w6).cell? ⟨w5.heap.size, 0, none⟩ = some (.int .i64 c0) := ST.cell (j := 3) S.out rfl 0
  have cc1 : (w6).cell? ⟨w5.heap.size, 1, none⟩ = some (.string c1) := ST.cell (j := 3) S.out rfl 1
  go_wp2_with fail
  refine (cmp_of' P1.out P2.out _).mono ?_
  rintro e w7 ⟨rfl, hb⟩
  replace S := Aside0.mk ((S.out).step hb)
  clear hb
  clear cb0 cb1 cc0 cc1
  have ca0 : (w7).cell? ⟨w3.heap.size, 0, none⟩ = some (.int .i64 a0) := ST.cell (j := 1) S.out rfl 0
  have ca1 : (w7).cell? ⟨w3.heap.size, 1, none⟩ = some (.string a1) := ST.cell (j := 1) S.out rfl 1
  have cc0 : (w7).cell? ⟨w5.heap.size, 0, none⟩ = some (.int .i64 c0) := ST.cell (j := 3) S.out rfl 0
  have cc1 : (w7).cell? ⟨w5.heap.size, 1, none⟩ = some (.string c1) := ST.cell (j := 3) S.out rfl 1
  go_wp2_with fail
  refine (cmp_of' P0.out P2.out _).mono ?_
  rintro e w8 ⟨rfl, hb⟩
  replace S := Aside0.mk ((S.out).step hb)
  clear hb
  clear ca0 ca1 cc0 cc1
  have hx := cV_rng k a0 a1 b0 b1
  have hy := cV_rng k b0 b1 c0 c1
  have hz := cV_rng k a0 a1 c0 c1
  have HL1 := Aside0.mk (cV_all k a0 a1 b0 b1 c0 c1)
  have HE := Aside0.mk (cV_eq P0.out P1.out)
  have HSW := Aside0.mk (cV_swap k a0 a1 b0 b1)
  have HBA := Aside0.mk (fun W => cmp_of' P1.out P0.out W)
  rw [HSW.out] at HBA
  generalize cV k a0 a1 b0 b1 = x at *
  generalize cV k b0 b1 c0 c1 = y at *
  generalize cV k a0 a1 c0 c1 = z at *
  have hqq := eqBV a0 a1 b0 b1
  have HQ := Aside0.mk (show (a0 == b0 && (a1.toList == b1.toList)) = decide (x = 0) from hqq.trans (decide_eq_decide.2 HE.out.symm))
  clear hqq
  have ca0 : (w8).cell? ⟨w3.heap.size, 0, none⟩ = some (.int .i64 a0) := ST.cell (j := 1) S.out rfl 0
  have ca1 : (w8).cell? ⟨w3.heap.size, 1, none⟩ = some (.string a1) := ST.cell (j := 1) S.out rfl 1
  have cb0 : (w8).cell? ⟨w4.heap.size, 0, none⟩ = some (.int .i64 b0) := ST.cell (j := 2) S.out rfl 0
  have cb1 : (w8).cell? ⟨w4.heap.size, 1, none⟩ = some (.string b1) := ST.cell (j := 2) S.out rfl 1
  have hxn : (x = -1 ∧ -x = 1) ∨ (x = 0 ∧ -x = 0) ∨ (x = 1 ∧ -x = -1) := by omega
  generalize -x = nx at HBA hxn
  clear hx HE HSW
  rcases hxn with ⟨hx, hn⟩ | ⟨hx, hn⟩ | ⟨hx, hn⟩ <;> rcases hy with hy | hy | hy <;> rcases hz with hz | hz | hz
  all_goals first
  | (exfalso; have := HL1.out; omega)
  | (subst hx hn hy hz
     have hqv := HQ.out
     simp only [Int.reduceNeg, Int.reduceEq, decide_true, decide_false] at hqv
     clear HQ HL1
     go_wp2_with fail
     refine (HBA.out _).mono ?_
     rintro e w9 ⟨rfl, hb⟩
     replace S := Aside0.mk (S.out.step hb)
     clear hb hqv ca0 ca1 cb0 cb1
     go_wp2
     go_ret
     exact ⟨rfl, S.out.b⟩)
end Go.Proofs.YtohbpgdhpfmlgaaDoor.PA
