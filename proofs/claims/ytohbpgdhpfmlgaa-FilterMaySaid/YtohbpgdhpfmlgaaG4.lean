/- What FilterMay's closure makes: the filters that it holds, and one more. -/
import Derived.Test.YtohbpgdhpfmlgaaPAx0
import Derived.Outline
import Derived.Deep.RegionHeld3
namespace Go.Proofs.Ytohbpgdhpfmlgaa.PA
set_option linter.unusedVariables false
set_option linter.unusedSimpArgs false
open Go.RowKit Go.Proofs.YtohbpgdhpfmlgaaW.PrintWords Go.Proofs.YtohbpgdhpfmlgaaW.PrintLast

/-- A block whose cells are the elements' is read as a slice. -/
theorem C_blk {α : Type} {d : Kd α} {W : World} {g : Nat} {t : TypeId} {inner : List Value} {xs : List α} (hb : W.heap[g]? = some (.cells inner.toArray t (0, 0))) (hrep : Reps (d.K W) d.sz xs inner) (hl : xs.length ≤ 9223372036854775807) :
    d.C W (some ⟨g, 0, none⟩) xs.length xs := by
  refine ⟨rfl, hl, fun _ => ⟨_, rfl, fun j p hj => ⟨(inner.drop (j * d.sz)).take d.sz, ?_, hrep.2 j p hj, fun i u hu => ?_⟩⟩⟩
  · have hjl := (List.getElem?_eq_some_iff.1 hj).1
    have h1 : j * d.sz + d.sz ≤ inner.length := by rw [hrep.1, ← Nat.succ_mul]; exact Nat.mul_le_mul_right _ hjl
    rw [List.length_take, List.length_drop]
    omega
  · rw [add_plain, blk_cell hb]
    rw [List.getElem?_take] at hu
    split at hu
    · rw [List.getElem?_drop] at hu
      simpa using hu
    · cases hu
def cells28 (a : S28) : List Value := [.int .i64 a.f0, .int .i64 a.f1, .int .i64 a.f2.f0, .string a.f2.f1]
theorem k28_cells (W : World) (a : S28) : k28.K W a (cells28 a) := k28_mk W a
theorem k28_made {W : World} {base : Nat} {ok : Nat → Prop} {x : S28} {cs : List Value} (h : k28.K W x cs) : k28.M W base ok x cs := by
  obtain rfl := k28_open h
  exact k28_mkM W base ok x
theorem reps1 (W : World) (a : S28) : Reps (k28.K W) k28.sz [a] (cells28 a) := by
  have h := (Reps.none (k28.K W) k28.sz).snoc (k28_cells W a) rfl
  simpa using h
theorem reps2 (W : World) (a b : S28) : Reps (k28.K W) k28.sz [a, b] (cells28 a ++ cells28 b) := (reps1 W a).snoc (k28_cells W b) rfl
theorem reps3 (W : World) (a b c : S28) : Reps (k28.K W) k28.sz [a, b, c] (cells28 a ++ cells28 b ++ cells28 c) := (reps2 W a b).snoc (k28_cells W c) rfl

/-- What the closure holds: the captured list's box, and its argument's. -/
structure WS (w W : World) (g9 gf : Nat) (A : Option Addr) (c : Nat) (fit : List S28) (f : S28) : Prop where
  b9 : W.heap[g9]? = some (.cells #[.slice A fit.length c] 37 (0, 0))
  bf : W.heap[gf]? = some (.cells (cells28 f).toArray 28 (0, 0))
  hb : Below w.heap.size w W
section
variable {w W W' : World} {g9 gf : Nat} {A : Option Addr} {c : Nat} {fit : List S28} {f : S28}
theorem WS.alloc (h : WS w W g9 gf A c fit f) (o : Obj) : WS w (W.alloc o) g9 gf A c fit f := ⟨blk_alloc h.b9 o, blk_alloc h.bf o, below_alloc h.hb o⟩
theorem WS.drew (h : WS w W g9 gf A c fit f) : WS w W.drew g9 gf A c fit f := ⟨blk_drew h.b9, blk_drew h.bf, below_drew h.hb⟩
theorem WS.grown (h : WS w W g9 gf A c fit f) {row : Option Nat} (hg : W.grownBy W' row) (h9 : some g9 ≠ row) (hf : some gf ≠ row) (hb : Below w.heap.size w W') : WS w W' g9 gf A c fit f := ⟨blk_grown h.b9 hg h9, blk_grown h.bf hg hf, hb⟩
theorem WS.s (h : WS w W g9 gf A c fit f) : W.cell? ⟨g9, 0, none⟩ = some (.slice A fit.length c) ∧ W.cell? ⟨gf, 0, none⟩ = some (.int .i64 f.f0) ∧ W.cell? ⟨gf, 1, none⟩ = some (.int .i64 f.f1) ∧ W.cell? ⟨gf, 2, none⟩ = some (.int .i64 f.f2.f0) ∧ W.cell? ⟨gf, 3, none⟩ = some (.string f.f2.f1) :=
  ⟨(blk_cell h.b9 0).trans rfl, (blk_cell h.bf 0).trans rfl, (blk_cell h.bf 1).trans rfl, (blk_cell h.bf 2).trans rfl, (blk_cell h.bf 3).trans rfl⟩
end
theorem ne_new {W : World} {g : Nat} {o : Obj} {v : Value} (h : W.heap[g]? = some o) (hn : ∃ b, v.ownBlock = some b ∧ W.heap.size ≤ b) : some g ≠ v.ownBlock := by
  obtain ⟨b, hb, hl⟩ := hn
  rw [hb]
  intro e
  injection e with e
  have := blk_lt h
  omega
def with1.T1 : Bool × List (List Nat × List Nat) := (true, [([], []), ([], []), ([0, 1], [0, 1]), ([], []), ([3], [3]), ([2, 4, 2], [2, 4]), ([5, 5, 0, 1, 2, 3, 4, 5], [5])])
def with1.B1 : List Nat := [0, 0, 3, 0, 8, 31, 63]
theorem with1.tab1 : rtab .any (opsOf Try.f17 1) = with1.T1 := by kernel_rfl
theorem with1.bits1 : waitsOk with1.T1.2 with1.B1 = true := by kernel_rfl
set_option maxHeartbeats 4000000 in
set_option maxRecDepth 100000 in
theorem with1.calls (g9 : Nat) (A : Option Addr) (c : Nat) (fit : List S28) (f : S28) (w : World) (hb9 : w.heap[g9]? = some (.cells #[.slice A fit.length c] 37 (0, 0))) (hfit : Kd.C k28 w A fit.length fit) (hl : fit.length ≤ 1000) :
    Calls Try.prog 17 #[.agg #[.int .i64 f.f0, .int .i64 f.f1, .int .i64 f.f2.f0, .string f.f2.f1], .pointer (some ⟨g9, 0, none⟩)] w fun e w' => ∃ v, e = .returned v ∧ Kd.R k28 28 w' w.heap.size (fun _ => True) v (fit ++ [f]) ∧ Below w.heap.size w w' := by
  have HFIT := Aside0.mk hfit
  have HL := Aside0.mk hl
  have HWS := Aside0.mk (show WS w (w.alloc (.cells (cells28 f).toArray 28)) g9 w.heap.size A c fit f from ⟨blk_alloc hb9 _, blk_new w _, below_alloc (Below.refl w.heap.size w) _⟩)
  clear hb9 hfit hl
  go_enter Try.func17, Try.ntmps17
  go_wp2
  obtain ⟨W1, hW1⟩ : ∃ W1 : World, W1 = w.alloc (.cells #[.int .i64 f.f0, .int .i64 f.f1, .int .i64 f.f2.f0, .string f.f2.f1] 28) := ⟨_, rfl⟩
  rw [← hW1]
  replace HWS := Aside0.mk (show WS w W1 g9 w.heap.size A c fit f by subst hW1; exact HWS.out)
  clear hW1
  refine start_ (n := 7) (S := fun w' => w'.cell? ⟨g9, 0, none⟩ = some (.slice A fit.length c) ∧ w'.cell? ⟨w.heap.size, 0, none⟩ = some (.int .i64 f.f0) ∧ w'.cell? ⟨w.heap.size, 1, none⟩ = some (.int .i64 f.f1) ∧ w'.cell? ⟨w.heap.size, 2, none⟩ = some (.int .i64 f.f2.f0) ∧ w'.cell? ⟨w.heap.size, 3, none⟩ = some (.string f.f2.f1)) (ds := [5]) #[false, false, false, false, false, false, false] (by kernel_rfl) rfl rfl HWS.out.s (fun hHeld => ?_); refine with_tabW with1.tab1 with1.bits1 (fun HT_ HW_ => ?_)
  refine take_ (i := 1) (N := (some 5)) (v := ?_) (a' := ?_) #[false, true, false, false, false, false, false] rfl rfl (take_ofW HT_.out HW_.out (by kernel_rfl)) (fun _ _ _ h => h) (Or.inl ⟨by rfl, ?_⟩) hHeld ?_ ?_
  rotate_left
  · rintro w' ⟨s0, s1, s2, s3, s4⟩
    go_simp
    with_reducible rfl
  rotate_left
  · simp only [Act.put, List.setIfInBounds_toArray, List.set_cons_zero, List.set_cons_succ, i64_w, i32_w]
    rfl
  refine take_ (i := 3) (N := (some 7)) (v := ?_) (a' := ?_) #[false, true, false, true, false, false, false] rfl rfl (take_ofW HT_.out HW_.out (by kernel_rfl)) (fun _ _ _ h => h) (Or.inl ⟨by rfl, ?_⟩) hHeld ?_ ?_
  rotate_left
  · rintro w' ⟨s0, s1, s2, s3, s4⟩
    go_simp
    with_reducible rfl
  rotate_left
  · simp only [Act.put, List.setIfInBounds_toArray, List.set_cons_zero, List.set_cons_succ, i64_w, i32_w]
    rfl
  refine two_ (i := 0) (j := 4) (Ni := (some 4)) (Nj := (some 8)) #[true, true, false, true, false, false, false] #[false, true, false, true, true, false, false] rfl rfl rfl rfl (two_of HT_.out (by kernel_rfl)) (by decide) (by decide) (fun K hK => ?_) (fun K hK => ?_)
  · skip
    refine Kd.R_lit_step k28 (w0 := w) w.heap.size 28 (by rfl) (N := 4) (by rfl) (xs := ([] : List S28)) (inner := []) (ok := fun _ => True) (okp := fun _ => True) ?hr (Reps.none _ _) (fun _ _ => trivial) trivial (HWS.out.drew).hb (HWS.out.drew).hb.size (by simp) ?_
    (case hr => first | (go_simp; done) | (go_simp; rfl))
    intro v0 wa ho hb hg hnew
    have HWa := Aside0.mk (WS.grown (HWS.out.drew) hg (by simp) (by simp) hb)
    have HO := Aside0.mk ho
    have NF := Aside0.mk (ne_new (HWS.out.drew).bf hnew)
    clear ho hb hg hnew
    refine hK.out _ _ HWa.out.s (fun hHeld => ?_)
    clear hK K
    refine norm_ (a' := ?_) ?_ ?_
    rotate_left
    · show Act.put _ (some 4) _ = _
      simp only [Act.put, List.setIfInBounds_toArray, List.set_cons_zero, List.set_cons_succ, i64_w, i32_w]
      rfl
    refine two_ (i := 2) (j := 4) (Ni := (some 6)) (Nj := (some 8)) #[true, true, true, true, false, false, false] #[true, true, false, true, true, false, false] rfl rfl rfl rfl (two_of HT_.out (by kernel_rfl)) (by decide) (by decide) (fun K hK => ?_) (fun K hK => ?_)
    · skip
      refine Kd.R_append_rows_step k28 (w0 := w) w.heap.size (by rfl) (.tmp 4) (.tmp 5) 37 28 (.agg #[.int .i64 0, .int .i64 0, .int .i64 0, .string ⟨#[]⟩]) 40 (by rfl) Try.underlying37 info28 rfl (by decide) (by decide) v0 [] fit A fit.length c (fun _ => True) (fun k => some k ≠ v0.ownBlock) (by rfl) (by rfl) (HO.out) (Kd.C_below HFIT.out (HWa.out).hb) (fun x cs h => k28_made h) (fun _ hk => ⟨trivial, hk⟩) (fun _ _ => trivial) (HWa.out).hb (HWa.out).hb.size (by have := HL.out; simp; omega) ?_
      intro v2 wb ho hb hg hat
      have HWb := Aside0.mk (WS.grown (HWa.out) hg (Kd.R_ne (HO.out) (HWa.out).b9 (by decide)) NF.out hb)
      have HO2 := Aside0.mk ho
      clear ho hb hg hat
      refine hK.out _ _ HWb.out.s (fun hHeld => ?_)
      clear hK K
      refine norm_ (a' := ?_) ?_ ?_
      rotate_left
      · show Act.put _ (some 6) _ = _
        simp only [Act.put, List.setIfInBounds_toArray, List.set_cons_zero, List.set_cons_succ, i64_w, i32_w]
        rfl
      refine one_ (i := 4) (N := (some 8)) #[true, true, true, true, true, false, false] rfl rfl (one_of HT_.out (by kernel_rfl)) (by decide) (fun K hK => ?_)
      refine value_ (w1 := ?_) (v := ?_) (by rfl) rfl ?_ ?_
      rotate_left 2
      · go_simp
        constructor
        · rfl
        · rfl
      refine hK.out _ _ (HWb.out.alloc _).s (fun hHeld => ?_)
      clear hK K
      refine norm_ (a' := ?_) ?_ ?_
      rotate_left
      · show Act.put _ (some 8) _ = _
        simp only [Act.put, List.setIfInBounds_toArray, List.set_cons_zero, List.set_cons_succ, i64_w, i32_w]
        rfl
      refine last_ (i := 5) (N := (some 9)) #[true, true, true, true, true, true, false] rfl rfl (one_of HT_.out (by kernel_rfl)) (by decide) (fun K hK => ?_)
      refine Kd.R_append_rows_step k28 (w0 := w) w.heap.size (by rfl) (.tmp 6) (.tmp 8) 37 28 (.agg #[.int .i64 0, .int .i64 0, .int .i64 0, .string ⟨#[]⟩]) 40 (by rfl) Try.underlying37 info28 rfl (by decide) (by decide) v2 ([] ++ fit) [f] _ 1 1 (fun _ => True) (fun k => some k ≠ v2.ownBlock) (by rfl) (by rfl) (Kd.R_alloc HO2.out (.cells (cells28 f).toArray 28)) (C_blk (blk_new wb (.cells (cells28 f).toArray 28)) (reps1 _ f) (by simp)) (fun x cs h => k28_made h) (fun _ hk => ⟨trivial, hk⟩) (fun _ _ => trivial) (HWb.out.alloc (.cells (cells28 f).toArray 28)).hb (HWb.out.alloc (.cells (cells28 f).toArray 28)).hb.size (by have := HL.out; simp; omega) ?_
      intro v5 wc ho hb hg hat
      have HO5 := Aside0.mk ho
      have HB5 := Aside0.mk hb
      clear ho hb hg hat
      refine hK.out _ _ ?_
      clear hK K
      refine norm_ (a' := ?_) ?_ ?_
      rotate_left
      · show Act.put _ (some 9) _ = _
        simp only [Act.put, List.setIfInBounds_toArray, List.set_cons_zero, List.set_cons_succ, i64_w, i32_w]
        rfl
      refine pure_ (i := 6) (N := (some 3)) (v := ?_) (a' := ?_) #[true, true, true, true, true, true, true] rfl rfl (any_of HT_.out (by kernel_rfl)) (fun _ _ _ h => h) (Or.inl ⟨by rfl, ?_⟩) ?_ ?_
      rotate_left
      · intro w'
        go_simp
        with_reducible rfl
      rotate_left
      · simp only [Act.put, List.setIfInBounds_toArray, List.set_cons_zero, List.set_cons_succ, i64_w, i32_w]
        rfl
      refine done_ (done_of HT_.out (by kernel_rfl)) ?_
      go_wp2
      go_ret
      exact ⟨_, rfl, HO5.out, HB5.out⟩
    · skip
      refine value_ (w1 := ?_) (v := ?_) (by rfl) rfl ?_ ?_
      rotate_left 2
      · go_simp
        constructor
        · rfl
        · rfl
      refine hK.out _ _ (HWa.out.alloc _).s (fun hHeld => ?_)
      clear hK K
      refine norm_ (a' := ?_) ?_ ?_
      rotate_left
      · show Act.put _ (some 8) _ = _
        simp only [Act.put, List.setIfInBounds_toArray, List.set_cons_zero, List.set_cons_succ, i64_w, i32_w]
        rfl
      refine one_ (i := 2) (N := (some 6)) #[true, true, true, true, true, false, false] rfl rfl (one_of HT_.out (by kernel_rfl)) (by decide) (fun K hK => ?_)
      refine Kd.R_append_rows_step k28 (w0 := w) w.heap.size (by rfl) (.tmp 4) (.tmp 5) 37 28 (.agg #[.int .i64 0, .int .i64 0, .int .i64 0, .string ⟨#[]⟩]) 40 (by rfl) Try.underlying37 info28 rfl (by decide) (by decide) v0 [] fit A fit.length c (fun _ => True) (fun k => some k ≠ v0.ownBlock) (by rfl) (by rfl) (Kd.R_alloc HO.out (.cells (cells28 f).toArray 28)) (Kd.C_below HFIT.out (HWa.out.alloc (.cells (cells28 f).toArray 28)).hb) (fun x cs h => k28_made h) (fun _ hk => ⟨trivial, hk⟩) (fun _ _ => trivial) (HWa.out.alloc (.cells (cells28 f).toArray 28)).hb (HWa.out.alloc (.cells (cells28 f).toArray 28)).hb.size (by have := HL.out; simp; omega) ?_
      intro v2 wb ho hb hg hat
      have HWb := Aside0.mk (WS.grown (HWa.out.alloc (.cells (cells28 f).toArray 28)) hg (Kd.R_ne (Kd.R_alloc HO.out (.cells (cells28 f).toArray 28)) (HWa.out.alloc (.cells (cells28 f).toArray 28)).b9 (by decide)) NF.out hb)
      have HO2 := Aside0.mk ho
      have B4 := Aside0.mk (blk_grown (blk_new wa (.cells (cells28 f).toArray 28)) hg (fun e => by have := Kd.R_lt HO.out _ e.symm; omega))
      clear ho hb hg hat
      refine hK.out _ _ HWb.out.s (fun hHeld => ?_)
      clear hK K
      refine norm_ (a' := ?_) ?_ ?_
      rotate_left
      · show Act.put _ (some 6) _ = _
        simp only [Act.put, List.setIfInBounds_toArray, List.set_cons_zero, List.set_cons_succ, i64_w, i32_w]
        rfl
      refine last_ (i := 5) (N := (some 9)) #[true, true, true, true, true, true, false] rfl rfl (one_of HT_.out (by kernel_rfl)) (by decide) (fun K hK => ?_)
      refine Kd.R_append_rows_step k28 (w0 := w) w.heap.size (by rfl) (.tmp 6) (.tmp 8) 37 28 (.agg #[.int .i64 0, .int .i64 0, .int .i64 0, .string ⟨#[]⟩]) 40 (by rfl) Try.underlying37 info28 rfl (by decide) (by decide) v2 ([] ++ fit) [f] _ 1 1 (fun _ => True) (fun k => some k ≠ v2.ownBlock) (by rfl) (by rfl) (HO2.out) (C_blk (B4.out) (reps1 _ f) (by simp)) (fun x cs h => k28_made h) (fun _ hk => ⟨trivial, hk⟩) (fun _ _ => trivial) (HWb.out).hb (HWb.out).hb.size (by have := HL.out; simp; omega) ?_
      intro v5 wc ho hb hg hat
      have HO5 := Aside0.mk ho
      have HB5 := Aside0.mk hb
      clear ho hb hg hat
      refine hK.out _ _ ?_
      clear hK K
      refine norm_ (a' := ?_) ?_ ?_
      rotate_left
      · show Act.put _ (some 9) _ = _
        simp only [Act.put, List.setIfInBounds_toArray, List.set_cons_zero, List.set_cons_succ, i64_w, i32_w]
        rfl
      refine pure_ (i := 6) (N := (some 3)) (v := ?_) (a' := ?_) #[true, true, true, true, true, true, true] rfl rfl (any_of HT_.out (by kernel_rfl)) (fun _ _ _ h => h) (Or.inl ⟨by rfl, ?_⟩) ?_ ?_
      rotate_left
      · intro w'
        go_simp
        with_reducible rfl
      rotate_left
      · simp only [Act.put, List.setIfInBounds_toArray, List.set_cons_zero, List.set_cons_succ, i64_w, i32_w]
        rfl
      refine done_ (done_of HT_.out (by kernel_rfl)) ?_
      go_wp2
      go_ret
      exact ⟨_, rfl, HO5.out, HB5.out⟩
  · skip
    refine value_ (w1 := ?_) (v := ?_) (by rfl) rfl ?_ ?_
    rotate_left 2
    · go_simp
      constructor
      · rfl
      · rfl
    refine hK.out _ _ (HWS.out.drew.alloc _).s (fun hHeld => ?_)
    clear hK K
    refine norm_ (a' := ?_) ?_ ?_
    rotate_left
    · show Act.put _ (some 8) _ = _
      simp only [Act.put, List.setIfInBounds_toArray, List.set_cons_zero, List.set_cons_succ, i64_w, i32_w]
      rfl
    refine one_ (i := 0) (N := (some 4)) #[true, true, false, true, true, false, false] rfl rfl (one_of HT_.out (by kernel_rfl)) (by decide) (fun K hK => ?_)
    refine Kd.R_lit_step k28 (w0 := w) w.heap.size 28 (by rfl) (N := 4) (by rfl) (xs := ([] : List S28)) (inner := []) (ok := fun _ => True) (okp := fun _ => True) ?hr (Reps.none _ _) (fun _ _ => trivial) trivial (HWS.out.drew.alloc (.cells (cells28 f).toArray 28)).hb (HWS.out.drew.alloc (.cells (cells28 f).toArray 28)).hb.size (by simp) ?_
    (case hr => first | (go_simp; done) | (go_simp; rfl))
    intro v0 wa ho hb hg hnew
    have HWa := Aside0.mk (WS.grown (HWS.out.drew.alloc (.cells (cells28 f).toArray 28)) hg (by simp) (by simp) hb)
    have HO := Aside0.mk ho
    have NF := Aside0.mk (ne_new (HWS.out.drew.alloc (.cells (cells28 f).toArray 28)).bf hnew)
    have N4 := Aside0.mk (ne_new (blk_new W1.drew (.cells (cells28 f).toArray 28)) hnew)
    have B4 := Aside0.mk (blk_grown (blk_new W1.drew (.cells (cells28 f).toArray 28)) hg (by simp))
    clear ho hb hg hnew
    refine hK.out _ _ HWa.out.s (fun hHeld => ?_)
    clear hK K
    refine norm_ (a' := ?_) ?_ ?_
    rotate_left
    · show Act.put _ (some 4) _ = _
      simp only [Act.put, List.setIfInBounds_toArray, List.set_cons_zero, List.set_cons_succ, i64_w, i32_w]
      rfl
    refine one_ (i := 2) (N := (some 6)) #[true, true, true, true, true, false, false] rfl rfl (one_of HT_.out (by kernel_rfl)) (by decide) (fun K hK => ?_)
    refine Kd.R_append_rows_step k28 (w0 := w) w.heap.size (by rfl) (.tmp 4) (.tmp 5) 37 28 (.agg #[.int .i64 0, .int .i64 0, .int .i64 0, .string ⟨#[]⟩]) 40 (by rfl) Try.underlying37 info28 rfl (by decide) (by decide) v0 [] fit A fit.length c (fun _ => True) (fun k => some k ≠ v0.ownBlock) (by rfl) (by rfl) (HO.out) (Kd.C_below HFIT.out (HWa.out).hb) (fun x cs h => k28_made h) (fun _ hk => ⟨trivial, hk⟩) (fun _ _ => trivial) (HWa.out).hb (HWa.out).hb.size (by have := HL.out; simp; omega) ?_
    intro v2 wb ho hb hg hat
    have HWb := Aside0.mk (WS.grown (HWa.out) hg (Kd.R_ne (HO.out) (HWa.out).b9 (by decide)) NF.out hb)
    have HO2 := Aside0.mk ho
    replace B4 := Aside0.mk (blk_grown B4.out hg N4.out)
    clear ho hb hg hat
    refine hK.out _ _ HWb.out.s (fun hHeld => ?_)
    clear hK K
    refine norm_ (a' := ?_) ?_ ?_
    rotate_left
    · show Act.put _ (some 6) _ = _
      simp only [Act.put, List.setIfInBounds_toArray, List.set_cons_zero, List.set_cons_succ, i64_w, i32_w]
      rfl
    refine last_ (i := 5) (N := (some 9)) #[true, true, true, true, true, true, false] rfl rfl (one_of HT_.out (by kernel_rfl)) (by decide) (fun K hK => ?_)
    refine Kd.R_append_rows_step k28 (w0 := w) w.heap.size (by rfl) (.tmp 6) (.tmp 8) 37 28 (.agg #[.int .i64 0, .int .i64 0, .int .i64 0, .string ⟨#[]⟩]) 40 (by rfl) Try.underlying37 info28 rfl (by decide) (by decide) v2 ([] ++ fit) [f] _ 1 1 (fun _ => True) (fun k => some k ≠ v2.ownBlock) (by rfl) (by rfl) (HO2.out) (C_blk (B4.out) (reps1 _ f) (by simp)) (fun x cs h => k28_made h) (fun _ hk => ⟨trivial, hk⟩) (fun _ _ => trivial) (HWb.out).hb (HWb.out).hb.size (by have := HL.out; simp; omega) ?_
    intro v5 wc ho hb hg hat
    have HO5 := Aside0.mk ho
    have HB5 := Aside0.mk hb
    clear ho hb hg hat
    refine hK.out _ _ ?_
    clear hK K
    refine norm_ (a' := ?_) ?_ ?_
    rotate_left
    · show Act.put _ (some 9) _ = _
      simp only [Act.put, List.setIfInBounds_toArray, List.set_cons_zero, List.set_cons_succ, i64_w, i32_w]
      rfl
    refine pure_ (i := 6) (N := (some 3)) (v := ?_) (a' := ?_) #[true, true, true, true, true, true, true] rfl rfl (any_of HT_.out (by kernel_rfl)) (fun _ _ _ h => h) (Or.inl ⟨by rfl, ?_⟩) ?_ ?_
    rotate_left
    · intro w'
      go_simp
      with_reducible rfl
    rotate_left
    · simp only [Act.put, List.setIfInBounds_toArray, List.set_cons_zero, List.set_cons_succ, i64_w, i32_w]
      rfl
    refine done_ (done_of HT_.out (by kernel_rfl)) ?_
    go_wp2
    go_ret
    exact ⟨_, rfl, HO5.out, HB5.out⟩
end Go.Proofs.Ytohbpgdhpfmlgaa.PA
