/- FilterSides: what its parts come to is what the walk of the law comes to. -/
import Derived.Test.YtohbpgdhpfmlgaaG2
import Derived.Test.YtohbpgdhpfmlgaaG4
import Derived.Test.YtohbpgdhpfmlgaaG5
import Derived.Test.YtohbpgdhpfmlgaaPAx5
import Derived.Test.YtohbpgdhpfmlgaaPAx5
import Derived.Test.YtohbpgdhpfmlgaaPAx6
import Derived.Test.YtohbpgdhpfmlgaaPAx8
import Derived.Outline
import Derived.Deep.RegionHeld3
namespace Go.Proofs.Ytohbpgdhpfmlgaa.PA
set_option linter.unusedVariables false
set_option linter.unusedSimpArgs false
open Go.RowKit Go.Proofs.YtohbpgdhpfmlgaaW.PrintWords Go.Proofs.YtohbpgdhpfmlgaaW.PrintLast

theorem blk_new1 (w : World) (o : Obj) (cs : Array Value) (t : TypeId) : ((w.alloc o).alloc (.cells cs t)).heap[w.heap.size + 1]? = some (.cells cs t (0, 0)) := by
  have h := blk_new (w.alloc o) (.cells cs t)
  have e : (w.alloc o).heap.size = w.heap.size + 1 := by simp only [World.alloc]; exact Array.size_push ..
  rw [e] at h
  exact h
/-- What the law holds: the schema's box, the two filters', the types and the rows. -/
structure FSt (w0 W : World) (g8 g11 g12 : Nat) (At : Option Addr) (ct : Nat) (types : List Int) (q1 q2 q3 : Int) (a b : S28) (Ar : Option Addr) (cr : Nat) (rows : List (List S26)) : Prop where
  b8 : W.heap[g8]? = some (.cells #[.slice At types.length ct, .int .i64 q1, .int .i64 q2, .int .i64 q3] 34 (0, 0))
  b11 : W.heap[g11]? = some (.cells (cells28 a).toArray 28 (0, 0))
  b12 : W.heap[g12]? = some (.cells (cells28 b).toArray 28 (0, 0))
  n11 : w0.heap.size ≤ g11
  ne : g11 ≠ g12
  ht : Kd.R (Kd.int .i64) 3 W w0.heap.size (fun _ => True) (.slice At types.length ct) types
  hr : Kd.S (Kd.slice 26 k26) 43 W w0.heap.size (fun _ => True) (.slice Ar rows.length cr) rows
  hb : Below w0.heap.size w0 W
section
variable {w0 W W' : World} {g8 g11 g12 : Nat} {At : Option Addr} {ct : Nat} {types : List Int} {q1 q2 q3 : Int} {a b : S28} {Ar : Option Addr} {cr : Nat} {rows : List (List S26)}
theorem FSt.step (h : FSt w0 W g8 g11 g12 At ct types q1 q2 q3 a b Ar cr rows) (hb : Below W.heap.size W W') : FSt w0 W' g8 g11 g12 At ct types q1 q2 q3 a b Ar cr rows :=
  ⟨blk_below h.b8 hb, blk_below h.b11 hb, blk_below h.b12 hb, h.n11, h.ne, Kd.R_below h.ht hb, Kd.S_below h.hr hb, below_step h.hb hb⟩
theorem FSt.alloc (h : FSt w0 W g8 g11 g12 At ct types q1 q2 q3 a b Ar cr rows) (o : Obj) : FSt w0 (W.alloc o) g8 g11 g12 At ct types q1 q2 q3 a b Ar cr rows := h.step (below_alloc (Below.refl _ _) _)
theorem FSt.drew (h : FSt w0 W g8 g11 g12 At ct types q1 q2 q3 a b Ar cr rows) : FSt w0 W.drew g8 g11 g12 At ct types q1 q2 q3 a b Ar cr rows := h.step (below_drew (Below.refl _ _))
/-- The filter's op is set: rows and types lie in blocks of other types. -/
theorem FSt.set (h : FSt w0 W g8 g11 g12 At ct types q1 q2 q3 a b Ar cr rows) (op : Int) :
    FSt w0 (W.setCell ⟨g11, 1, none⟩ (.int .i64 op)) g8 g11 g12 At ct types q1 q2 q3 ⟨a.f0, op, a.f2⟩ b Ar cr rows :=
  ⟨blk_far h.b8 (blk_ne h.b8 h.b11 (by decide)) _, blk_put h.b11 1 _ rfl, blk_far h.b12 (Ne.symm h.ne) _, h.n11, h.ne, Kd.R_set h.ht h.b11 (by decide) 1 _, Kd.S_set h.hr h.b11 (by decide) 1 _, below_set h.hb h.n11⟩
theorem FSt.c8 (h : FSt w0 W g8 g11 g12 At ct types q1 q2 q3 a b Ar cr rows) : W.cell? ⟨g8, 0, none⟩ = some (.slice At types.length ct) ∧ W.cell? ⟨g8, 1, none⟩ = some (.int .i64 q1) ∧ W.cell? ⟨g8, 2, none⟩ = some (.int .i64 q2) ∧ W.cell? ⟨g8, 3, none⟩ = some (.int .i64 q3) :=
  ⟨(blk_cell h.b8 0).trans rfl, (blk_cell h.b8 1).trans rfl, (blk_cell h.b8 2).trans rfl, (blk_cell h.b8 3).trans rfl⟩
theorem FSt.c11 (h : FSt w0 W g8 g11 g12 At ct types q1 q2 q3 a b Ar cr rows) : W.cell? ⟨g11, 0, none⟩ = some (.int .i64 a.f0) ∧ W.cell? ⟨g11, 1, none⟩ = some (.int .i64 a.f1) ∧ W.cell? ⟨g11, 2, none⟩ = some (.int .i64 a.f2.f0) ∧ W.cell? ⟨g11, 3, none⟩ = some (.string a.f2.f1) :=
  ⟨(blk_cell h.b11 0).trans rfl, (blk_cell h.b11 1).trans rfl, (blk_cell h.b11 2).trans rfl, (blk_cell h.b11 3).trans rfl⟩
theorem FSt.c12 (h : FSt w0 W g8 g11 g12 At ct types q1 q2 q3 a b Ar cr rows) : W.cell? ⟨g12, 0, none⟩ = some (.int .i64 b.f0) ∧ W.cell? ⟨g12, 1, none⟩ = some (.int .i64 b.f1) ∧ W.cell? ⟨g12, 2, none⟩ = some (.int .i64 b.f2.f0) ∧ W.cell? ⟨g12, 3, none⟩ = some (.string b.f2.f1) :=
  ⟨(blk_cell h.b12 0).trans rfl, (blk_cell h.b12 1).trans rfl, (blk_cell h.b12 2).trans rfl, (blk_cell h.b12 3).trans rfl⟩
theorem FSt.f11 (h : FSt w0 W g8 g11 g12 At ct types q1 q2 q3 a b Ar cr rows) : W.frozen? ⟨g11, 1, none⟩ = false := blk_frozen h.b11 1
theorem FSt.rt (h : FSt w0 W g8 g11 g12 At ct types q1 q2 q3 a b Ar cr rows) : types.length ≤ ct ∧ Kd.C (Kd.int .i64) W At types.length types := ⟨(Kd.R_reads' h.ht).2.1, (Kd.R_reads' h.ht).2.2⟩
theorem FSt.rr (h : FSt w0 W g8 g11 g12 At ct types q1 q2 q3 a b Ar cr rows) : rows.length ≤ cr ∧ Kd.C (Kd.slice 26 k26) W Ar rows.length rows := ⟨(Kd.S_reads' h.hr).2.1, (Kd.S_reads' h.hr).2.2⟩
/-- A filter's list is made, and rows are kept by it. -/
theorem keep_call (k : Nat) {fs : List S28} {inner : List Value} {l2 : List (List S26)} {r : List (List S26)} {A2 : Option Addr} {c2 : Nat} (g n : Nat) (cs : Array Value) (h : FSt w0 W g8 g11 g12 At ct types q1 q2 q3 a b Ar cr rows) (hg : g = W.heap.size) (hn : n = fs.length) (hcs : cs = inner.toArray) (hrep : ∀ W, Reps (k28.K W) k28.sz fs inner) (hl : fs.length ≤ 3)
    (h2 : Kd.C (Kd.slice 26 k26) W A2 l2.length l2) (hc2 : l2.length ≤ c2) (hf : filter_Keep.f k types q1 q2 q3 fs l2 = some r) :
    Calls Try.prog 14 #[.agg #[.slice At types.length ct, .int .i64 q1, .int .i64 q2, .int .i64 q3], .slice (some ⟨g, 0, none⟩) n n, .slice A2 l2.length c2] (W.alloc (.cells cs 28)) fun e w' =>
      ∃ (A : Option Addr) (c : Nat), e = .returned (.slice A r.length c) ∧ r.length ≤ c ∧ Kd.C (Kd.slice 26 k26) w' A r.length r ∧ Below W.heap.size W w' := by
  subst hg hn hcs
  refine (filter_Keep.calls k At ct types q1 q2 q3 _ fs.length fs A2 c2 l2 r _ (Kd.C_alloc h.rt.2 _) h.rt.1 (C_blk (blk_new W _) (hrep _) (by omega)) (Nat.le_refl _) (Kd.C_alloc h2 _) hc2 hf).mono ?_
  rintro e w' ⟨A, c, rfl, h1, h3, h4⟩
  exact ⟨A, c, rfl, h1, h3, below_step (below_alloc (Below.refl _ _) _) h4⟩
theorem keep_at (k : Nat) {fs : List S28} {inner : List Value} {l2 : List (List S26)} {r : List (List S26)} {A2 : Option Addr} {c2 : Nat} (g n : Nat) (h : FSt w0 W g8 g11 g12 At ct types q1 q2 q3 a b Ar cr rows) (hb : W.heap[g]? = some (.cells inner.toArray 28 (0, 0))) (hn : n = fs.length) (hrep : ∀ W, Reps (k28.K W) k28.sz fs inner) (hl : fs.length ≤ 3)
    (h2 : Kd.C (Kd.slice 26 k26) W A2 l2.length l2) (hc2 : l2.length ≤ c2) (hf : filter_Keep.f k types q1 q2 q3 fs l2 = some r) :
    Calls Try.prog 14 #[.agg #[.slice At types.length ct, .int .i64 q1, .int .i64 q2, .int .i64 q3], .slice (some ⟨g, 0, none⟩) n n, .slice A2 l2.length c2] W fun e w' =>
      ∃ (A : Option Addr) (c : Nat), e = .returned (.slice A r.length c) ∧ r.length ≤ c ∧ Kd.C (Kd.slice 26 k26) w' A r.length r ∧ Below W.heap.size W w' := by
  subst hn
  exact filter_Keep.calls k At ct types q1 q2 q3 _ fs.length fs A2 c2 l2 r _ h.rt.2 h.rt.1 (C_blk hb (hrep _) (by omega)) (Nat.le_refl _) h2 hc2 hf
theorem FSt.k12 (h : FSt w0 W g8 g11 g12 At ct types q1 q2 q3 a b Ar cr rows) : W.cell? ⟨g8, 0, none⟩ = some (.slice At types.length ct) ∧ W.cell? ⟨g8, 1, none⟩ = some (.int .i64 q1) ∧ W.cell? ⟨g8, 2, none⟩ = some (.int .i64 q2) ∧ W.cell? ⟨g8, 3, none⟩ = some (.int .i64 q3) ∧
    W.cell? ⟨g11, 0, none⟩ = some (.int .i64 a.f0) ∧ W.cell? ⟨g11, 1, none⟩ = some (.int .i64 a.f1) ∧ W.cell? ⟨g11, 2, none⟩ = some (.int .i64 a.f2.f0) ∧ W.cell? ⟨g11, 3, none⟩ = some (.string a.f2.f1) ∧
    W.cell? ⟨g12, 0, none⟩ = some (.int .i64 b.f0) ∧ W.cell? ⟨g12, 1, none⟩ = some (.int .i64 b.f1) ∧ W.cell? ⟨g12, 2, none⟩ = some (.int .i64 b.f2.f0) ∧ W.cell? ⟨g12, 3, none⟩ = some (.string b.f2.f1) :=
  ⟨h.c8.1, h.c8.2.1, h.c8.2.2.1, h.c8.2.2.2, h.c11.1, h.c11.2.1, h.c11.2.2.1, h.c11.2.2.2, h.c12.1, h.c12.2.1, h.c12.2.2.1, h.c12.2.2.2⟩
end
theorem filter_Keep.dom {k : Nat} {t : List Int} {x y z : Int} {fs : List S28} {l r : List (List S26)} (h : filter_Keep.f k t x y z fs l = some r) : l.length < 5864062014805 := by
  unfold filter_Keep.f at h
  split at h
  · assumption
  · cases h
theorem filter_Keep.len {k : Nat} {t : List Int} {x y z : Int} {fs : List S28} {l r : List (List S26)} (h : filter_Keep.f k t x y z fs l = some r) : r.length < 5864062014805 := by
  unfold filter_Keep.f at h
  split at h
  · rename_i hl
    refine Nat.lt_of_le_of_lt ?_ hl
    clear hl
    induction l generalizing r with
    | nil => simp only [keepRows, Option.some.injEq] at h; subst h; exact Nat.le_refl _
    | cons p ps ih =>
      simp only [keepRows] at h
      obtain ⟨b, _, h⟩ := Option.bind_eq_some_iff.1 h
      obtain ⟨rest, h2, h⟩ := Option.bind_eq_some_iff.1 h
      have h3 := ih h2
      have h4 := Option.some.inj h
      subst h4
      simp only [List.length_cons]
      split <;> simp <;> omega
  · cases h

def FilterSides.T4 : Bool × List (List Nat × List Nat) := (true, [([], []), ([], []), ([0, 1], [0, 1]), ([2, 2, 0, 1, 2], [2])])
def FilterSides.B4 : List Nat := [0, 0, 3, 7]
theorem FilterSides.tab4 : rtab .any (opsOf Try.f3 4) = FilterSides.T4 := by kernel_rfl
theorem FilterSides.bits4 : waitsOk FilterSides.T4.2 FilterSides.B4 = true := by kernel_rfl
def FilterSides.T24 : Bool × List (List Nat × List Nat) := (true, [([], []), ([], []), ([1], [1]), ([], []), ([], []), ([4], [4]), ([], []), ([3, 5, 6], [3, 5, 6]), ([0, 2, 7, 7], [0, 2, 7]), ([], []), ([8, 9, 8], [8, 9]), ([10, 10, 0, 1, 2, 3, 4, 5, 6, 7, 8, 9, 10], [10])])
def FilterSides.B24 : List Nat := [0, 0, 2, 0, 0, 16, 0, 120, 255, 0, 1023, 2047]
theorem FilterSides.tab24 : rtab .any (opsOf Try.f3 24) = FilterSides.T24 := by kernel_rfl
theorem FilterSides.bits24 : waitsOk FilterSides.T24.2 FilterSides.B24 = true := by kernel_rfl
set_option maxHeartbeats 8000000 in
set_option maxRecDepth 100000 in
theorem FilterSides.walk (k : Nat) (x0 x1 x2 x3 x4 x5 x6 x7 x8 x9 x10 x11 : Int) (p0 p1 : S28) (A2 : Option Addr) (c2 : Nat) (l2 : List (List S26)) (types : List Int) (q1 q2 q3 : Int) (rows : List (List S26)) (a b : S28)
    (lt gt eq ne le ge one two tw non : List (List S26)) (w : World) (hr2 : Kd.C (Kd.slice 26 k26) w A2 l2.length l2) (hc2 : l2.length ≤ c2)
    (hsh : thresherlaw19_shown.f k = some true) (hmade : thresherlaw19_made.f x0 x1 x2 x3 x4 x5 x6 x7 x8 x9 x10 x11 = some (types, q1, q2, q3))
    (hrows : thresherref04_Fits.f k types q1 q2 q3 l2 60 = some rows) (hfit : thresherref19_Fit.f types q1 q2 q3 [p0, p1] 2 = some [a, b])
    (hlt : filter_Keep.f k types q1 q2 q3 [⟨a.f0, 3, a.f2⟩] rows = some lt) (hgt : filter_Keep.f k types q1 q2 q3 [⟨a.f0, 5, a.f2⟩] rows = some gt)
    (heq : filter_Keep.f k types q1 q2 q3 [⟨a.f0, 1, a.f2⟩] rows = some eq) (hne : filter_Keep.f k types q1 q2 q3 [⟨a.f0, 2, a.f2⟩] rows = some ne)
    (hle : filter_Keep.f k types q1 q2 q3 [⟨a.f0, 4, a.f2⟩] rows = some le) (hge : filter_Keep.f k types q1 q2 q3 [⟨a.f0, 6, a.f2⟩] rows = some ge)
    (hone : filter_Keep.f k types q1 q2 q3 [⟨a.f0, 6, a.f2⟩, b] rows = some one) (htwo : filter_Keep.f k types q1 q2 q3 [b, ⟨a.f0, 6, a.f2⟩, b] rows = some two)
    (htw : filter_Keep.f k types q1 q2 q3 [b] ge = some tw) (hnon : filter_Keep.f k types q1 q2 q3 [] rows = some non)
    (hs1 : thresherref04_Rows.f k one two = some true) (hs2 : thresherref04_Rows.f k tw one = some true) (hs3 : thresherref04_Rows.f k non rows = some true)
    (e1 : lt.length + gt.length = ne.length) (e2 : eq.length + ne.length = rows.length) (e3 : le.length + ge.length = rows.length + eq.length) (e4 : one.length ≤ ge.length) :
    Calls Try.prog 3 #[.agg #[.int .u8 x0, .int .u8 x1, .int .u8 x2, .int .u8 x3, .int .u8 x4, .int .u8 x5, .int .u8 x6, .int .u8 x7, .int .u8 x8, .int .u8 x9, .int .u8 x10, .int .u8 x11],
      .agg #[.int .i64 p0.f0, .int .i64 p0.f1, .int .i64 p0.f2.f0, .string p0.f2.f1, .int .i64 p1.f0, .int .i64 p1.f1, .int .i64 p1.f2.f0, .string p1.f2.f1], .slice A2 l2.length c2] w fun e w' => e = .returned (.bool true) ∧ Below w.heap.size w w' := by
  have HR2 := Aside0.mk hr2
  have E1 := Aside0.mk e1
  have E2 := Aside0.mk e2
  have E3 := Aside0.mk e3
  have E4 := Aside0.mk e4
  have HSH := Aside0.mk hsh
  have HMADE := Aside0.mk hmade
  have HROWS := Aside0.mk hrows
  have HFIT := Aside0.mk hfit
  have HLT := Aside0.mk hlt
  have HGT := Aside0.mk hgt
  have HEQ := Aside0.mk heq
  have HNE := Aside0.mk hne
  have HLE := Aside0.mk hle
  have HGE := Aside0.mk hge
  have HONE := Aside0.mk hone
  have HTWO := Aside0.mk htwo
  have HTW := Aside0.mk htw
  have HNON := Aside0.mk hnon
  have bd_lt := filter_Keep.len hlt
  have bd_gt := filter_Keep.len hgt
  have bd_eq := filter_Keep.len heq
  have bd_ne := filter_Keep.len hne
  have bd_le := filter_Keep.len hle
  have bd_ge := filter_Keep.len hge
  have bd_one := filter_Keep.len hone
  have bd_rows := filter_Keep.dom hlt
  have HS1 := Aside0.mk hs1
  have HS2 := Aside0.mk hs2
  have HS3 := Aside0.mk hs3
  clear hr2 e1 e2 e3 e4 hsh hmade hrows hfit hlt hgt heq hne hle hge hone htwo htw hnon hs1 hs2 hs3
  go_enter Try.func3, Try.ntmps3
  go_wp2_with fail
  refine (thresherlaw19_shown.calls k true _ HSH.out).mono ?_
  rintro e w1 ⟨rfl, hb1⟩
  have B4 := Aside0.mk (show w1.heap[w.heap.size + 1]? = some (.cells (cells28 p0 ++ cells28 p1).toArray 29 (0, 0)) from blk_below (blk_new1 w _ _ _) hb1)
  have B3 := Aside0.mk (show w1.heap[w.heap.size]? = some (.cells #[.int .u8 x0, .int .u8 x1, .int .u8 x2, .int .u8 x3, .int .u8 x4, .int .u8 x5, .int .u8 x6, .int .u8 x7, .int .u8 x8, .int .u8 x9, .int .u8 x10, .int .u8 x11] 24 (0, 0)) from blk_below (blk_alloc (blk_new w _) _) hb1)
  have HB1 := Aside0.mk (show Below w.heap.size w w1 from below_step (below_alloc (below_alloc (Below.refl _ _) _) _) hb1)
  clear hb1
  have k0 : w1.cell? ⟨w.heap.size, 0, none⟩ = some (.int .u8 x0) := (blk_cell B3.out 0).trans rfl
  have k1 : w1.cell? ⟨w.heap.size, 1, none⟩ = some (.int .u8 x1) := (blk_cell B3.out 1).trans rfl
  have k2 : w1.cell? ⟨w.heap.size, 2, none⟩ = some (.int .u8 x2) := (blk_cell B3.out 2).trans rfl
  have k3 : w1.cell? ⟨w.heap.size, 3, none⟩ = some (.int .u8 x3) := (blk_cell B3.out 3).trans rfl
  have k4 : w1.cell? ⟨w.heap.size, 4, none⟩ = some (.int .u8 x4) := (blk_cell B3.out 4).trans rfl
  have k5 : w1.cell? ⟨w.heap.size, 5, none⟩ = some (.int .u8 x5) := (blk_cell B3.out 5).trans rfl
  have k6 : w1.cell? ⟨w.heap.size, 6, none⟩ = some (.int .u8 x6) := (blk_cell B3.out 6).trans rfl
  have k7 : w1.cell? ⟨w.heap.size, 7, none⟩ = some (.int .u8 x7) := (blk_cell B3.out 7).trans rfl
  have k8 : w1.cell? ⟨w.heap.size, 8, none⟩ = some (.int .u8 x8) := (blk_cell B3.out 8).trans rfl
  have k9 : w1.cell? ⟨w.heap.size, 9, none⟩ = some (.int .u8 x9) := (blk_cell B3.out 9).trans rfl
  have k10 : w1.cell? ⟨w.heap.size, 10, none⟩ = some (.int .u8 x10) := (blk_cell B3.out 10).trans rfl
  have k11 : w1.cell? ⟨w.heap.size, 11, none⟩ = some (.int .u8 x11) := (blk_cell B3.out 11).trans rfl
  go_wp2_with fail
  refine (thresherlaw19_made.calls x0 x1 x2 x3 x4 x5 x6 x7 x8 x9 x10 x11 types q1 q2 q3 _ HMADE.out).mono ?_
  rintro e w2 ⟨v2, rfl, h1, h2⟩
  obtain ⟨At, ct, rfl⟩ := Kd.R_slice h1
  have B4 := Aside0.mk (blk_below B4.out h2)
  have HT := Aside0.mk (Kd.R_lower h1 HB1.out.size)
  have HB2 := Aside0.mk (below_step HB1.out h2)
  clear h1 h2
  go_wp2_with fail
  refine (thresherref04_Fits.calls k At ct types q1 q2 q3 A2 c2 l2 60 rows _ (Kd.C_alloc (Kd.R_reads' HT.out).2.2 _) (Kd.R_reads' HT.out).2.1 (Kd.C_below HR2.out (below_alloc HB2.out _)) hc2 HROWS.out).mono ?_
  rintro e w3 ⟨v3, rfl, h1, h2⟩
  obtain ⟨Ar, cr, rfl⟩ := Kd.R_slice (Kd.S_R h1)
  have HROW := Aside0.mk (Kd.S_lower h1 (below_alloc HB2.out (.cells #[.slice At types.length ct, .int .i64 q1, .int .i64 q2, .int .i64 q3] 34)).size)
  have B4 := Aside0.mk (blk_below (blk_alloc B4.out _) h2)
  have B8 := Aside0.mk (blk_below (blk_new w2 _) h2)
  have HT := Aside0.mk (Kd.R_below (Kd.R_alloc HT.out _) h2)
  have HB3 := Aside0.mk (below_step (below_alloc HB2.out _) h2)
  have NB8 : w.heap.size ≤ w2.heap.size := HB2.out.size
  clear h1 h2 HB1 HB2
  go_wp2_with fail
  refine start_ (n := 4) (S := fun w' => w'.cell? ⟨w2.heap.size, 0, none⟩ = some (.slice At types.length ct) ∧ w'.cell? ⟨w2.heap.size, 1, none⟩ = some (.int .i64 q1) ∧ w'.cell? ⟨w2.heap.size, 2, none⟩ = some (.int .i64 q2) ∧ w'.cell? ⟨w2.heap.size, 3, none⟩ = some (.int .i64 q3)) (ds := []) #[false, false, false, false] (by kernel_rfl) rfl rfl ⟨(blk_cell B8.out 0).trans rfl, (blk_cell B8.out 1).trans rfl, (blk_cell B8.out 2).trans rfl, (blk_cell B8.out 3).trans rfl⟩ (fun hHeld => ?_); refine with_tabW FilterSides.tab4 FilterSides.bits4 (fun HT_ HW_ => ?_)
  refine take_ (i := 0) (N := (some 30)) (v := ?_) (a' := ?_) #[true, false, false, false] rfl rfl (take_ofW HT_.out HW_.out (by kernel_rfl)) (fun _ _ _ h => h) (Or.inl ⟨by rfl, ?_⟩) hHeld ?_ ?_
  rotate_left
  · rintro w' ⟨s0, s1, s2, s3⟩
    go_simp
    with_reducible rfl
  rotate_left
  · simp only [Act.put, List.setIfInBounds_toArray, List.set_cons_zero, List.set_cons_succ, i64_w, i32_w]
    rfl
  refine pure_ (i := 1) (N := (some 31)) (v := ?_) (a' := ?_) #[true, true, false, false] rfl rfl (any_of HT_.out (by kernel_rfl)) (fun _ _ _ h => h) (Or.inl ⟨by rfl, ?_⟩) ?_ ?_
  rotate_left
  · intro w'
    go_simp
    with_reducible rfl
  rotate_left
  · simp only [Act.put, List.setIfInBounds_toArray, List.set_cons_zero, List.set_cons_succ, i64_w, i32_w]
    rfl
  refine one_ (i := 2) (N := (some 32)) #[true, true, true, false] rfl rfl (one_of HT_.out (by kernel_rfl)) (by decide) (fun K hK => ?_)
  refine goes_ Try.func13 (by kernel_rfl) rfl #[.agg #[.slice At types.length ct, .int .i64 q1, .int .i64 q2, .int .i64 q3], .slice (some ⟨w.heap.size + 1, 0, none⟩) 2 2, .int .i64 2] (by rfl) rfl rfl (by (try simp only [List.map_toArray, List.map_cons, List.map_nil]); first | done | rfl) ?_
  refine (thresherref19_Fit.calls At ct types q1 q2 q3 _ 2 [p0, p1] 2 [a, b] _ (Kd.C_drew (Kd.R_reads' HT.out).2.2) (Kd.R_reads' HT.out).2.1 (C_blk (d := k28) (blk_drew B4.out) (reps2 _ p0 p1) (by simp)) (by simp) HFIT.out).mono ?_
  rintro e w4 ⟨v4, rfl, h1, h2⟩
  obtain ⟨Af, cf, rfl⟩ := Kd.R_slice h1
  refine ⟨_, rfl, ?_⟩
  have HF := Aside0.mk (Kd.R_reads' h1).2.2
  have B8 := Aside0.mk (blk_below (blk_drew B8.out) h2)
  have HT := Aside0.mk (Kd.R_below (Kd.R_drew HT.out) h2)
  have HROW := Aside0.mk (Kd.S_below (Kd.S_drew HROW.out) h2)
  have HB4 := Aside0.mk (below_step (below_drew HB3.out) h2)
  clear h1 h2 HB3
  refine hK.out _ _ ⟨(blk_cell B8.out 0).trans rfl, (blk_cell B8.out 1).trans rfl, (blk_cell B8.out 2).trans rfl, (blk_cell B8.out 3).trans rfl⟩ (fun hHeld => ?_)
  clear hK K
  refine norm_ (a' := ?_) ?_ ?_
  rotate_left
  · show Act.put _ (some 32) _ = _
    simp only [Act.put, List.setIfInBounds_toArray, List.set_cons_zero, List.set_cons_succ, i64_w, i32_w]
    rfl
  refine pure_ (i := 3) (N := (some 10)) (v := ?_) (a' := ?_) #[true, true, true, true] rfl rfl (any_of HT_.out (by kernel_rfl)) (fun _ _ _ h => h) (Or.inl ⟨by rfl, ?_⟩) ?_ ?_
  rotate_left
  · intro w'
    go_simp
    with_reducible rfl
  rotate_left
  · simp only [Act.put, List.setIfInBounds_toArray, List.set_cons_zero, List.set_cons_succ, i64_w, i32_w]
    rfl
  refine done_ (done_of HT_.out (by kernel_rfl)) ?_
  obtain ⟨ad, ef, hf0, hf1, hf2, hf3⟩ := at_T28 HF.out (0 : Int) (by omega) (by simp)
  cases ef
  obtain ⟨ad', ef, hg0, hg1, hg2, hg3⟩ := at_T28 HF.out (1 : Int) (by omega) (by simp)
  cases ef
  replace hg0 := fun o => (World.cell?_alloc_lt _ o _ (World.block_lt_of_cell? _ _ hg0)).trans hg0
  replace hg1 := fun o => (World.cell?_alloc_lt _ o _ (World.block_lt_of_cell? _ _ hg1)).trans hg1
  replace hg2 := fun o => (World.cell?_alloc_lt _ o _ (World.block_lt_of_cell? _ _ hg2)).trans hg2
  replace hg3 := fun o => (World.cell?_alloc_lt _ o _ (World.block_lt_of_cell? _ _ hg3)).trans hg3
  simp only [rd_T28, Int.toNat_zero, show (1 : Int).toNat = 1 from rfl, List.getD_cons_zero, List.getD_cons_succ] at hf0 hf1 hf2 hf3 hg0 hg1 hg2 hg3
  replace hf0 : w4.cell? ad = some (.int .i64 a.f0) := hf0
  replace hf1 : w4.cell? ⟨ad.block, ad.off + 1, none⟩ = some (.int .i64 a.f1) := hf1
  replace hf2 : w4.cell? ⟨ad.block, ad.off + 2, none⟩ = some (.int .i64 a.f2.f0) := hf2
  replace hf3 : w4.cell? ⟨ad.block, ad.off + 3, none⟩ = some (.string a.f2.f1) := hf3
  replace hg0 : ∀ o, (w4.alloc o).cell? ⟨ad.block, ad.off + 4, none⟩ = some (.int .i64 b.f0) := hg0
  replace hg1 : ∀ o, (w4.alloc o).cell? ⟨ad.block, ad.off + 4 + 1, none⟩ = some (.int .i64 b.f1) := hg1
  replace hg2 : ∀ o, (w4.alloc o).cell? ⟨ad.block, ad.off + 4 + 2, none⟩ = some (.int .i64 b.f2.f0) := hg2
  replace hg3 : ∀ o, (w4.alloc o).cell? ⟨ad.block, ad.off + 4 + 3, none⟩ = some (.string b.f2.f1) := hg3
  go_wp2
  go_loopg [13, 14] 2 (fun kq v13 v14 wl => Aside0 (∃ op, ((v14 = .int .i64 3 ∧ v13 = .int .i64 0 ∧ kq = 2) ∨ (v14 = .int .i64 5 ∧ v13 = .int .i64 lt.length ∧ kq = 1) ∨ (v14 = .int .i64 7 ∧ v13 = .int .i64 (lt.length + gt.length : Int) ∧ kq = 0)) ∧
    FSt w wl w2.heap.size w4.heap.size (w4.heap.size + 1) At ct types q1 q2 q3 ⟨a.f0, op, a.f2⟩ b Ar cr rows))
  case atStart =>
    refine ⟨a.f1, Or.inl ⟨rfl, rfl, rfl⟩, ⟨blk_alloc (blk_alloc B8.out _) _, blk_alloc (blk_new w4 _) _, blk_new1 w4 _ _ _, HB4.out.size, by omega, Kd.R_alloc (Kd.R_alloc HT.out _) _, Kd.S_alloc (Kd.S_alloc HROW.out _) _, below_alloc (below_alloc HB4.out _) _⟩⟩
  case round =>
    obtain ⟨op, hrel, hF⟩ := hrel.out
    have F := Aside0.mk hF
    clear hF
    rcases hrel with ⟨rfl, rfl, rfl⟩ | ⟨rfl, rfl, rfl⟩ | ⟨rfl, rfl, rfl⟩
    · have hlt3 : decide ((3 : Int) ≤ 5) = true := rfl
      have F1 := Aside0.mk (F.out.set 3)
      obtain ⟨k80, k81, k82, k83⟩ := F1.out.c8
      obtain ⟨k0, k1, k2, k3⟩ := F1.out.c11
      have kf := F.out.f11
      have kc := F.out.c11.2.1
      clear F
      dsimp only at k0 k1 k2 k3
      go_wp2_with fail
      refine (keep_call k (fs := [⟨a.f0, 3, a.f2⟩]) _ _ _ F1.out (by simp) rfl rfl (fun W => reps1 W _) (by simp) F1.out.rr.2 F1.out.rr.1 HLT.out).mono ?_
      rintro e w5 ⟨A5, c5, rfl, h1, h2, h3⟩
      have F := Aside0.mk (F1.out.step h3)
      clear F1 k80 k81 k82 k83 k0 k1 k2 k3 kf kc h2 h3
      go_wp2
      go_roundg 1
      case measure => omega
      case rel => exact ⟨3, Or.inr (Or.inl ⟨by go_num, by go_num, rfl⟩), F.out⟩
    · have hlt3 : decide ((5 : Int) ≤ 5) = true := rfl
      have F1 := Aside0.mk (F.out.set 5)
      obtain ⟨k80, k81, k82, k83⟩ := F1.out.c8
      obtain ⟨k0, k1, k2, k3⟩ := F1.out.c11
      have kf := F.out.f11
      have kc := F.out.c11.2.1
      clear F
      dsimp only at k0 k1 k2 k3
      go_wp2_with fail
      refine (keep_call k (fs := [⟨a.f0, 5, a.f2⟩]) _ _ _ F1.out (by simp) rfl rfl (fun W => reps1 W _) (by simp) F1.out.rr.2 F1.out.rr.1 HGT.out).mono ?_
      rintro e w5 ⟨A5, c5, rfl, h1, h2, h3⟩
      have F := Aside0.mk (F1.out.step h3)
      clear F1 k80 k81 k82 k83 k0 k1 k2 k3 kf kc h2 h3
      go_wp2
      go_roundg 0
      case measure => omega
      case rel => exact ⟨5, Or.inr (Or.inr ⟨by go_num, by go_num, rfl⟩), F.out⟩
    · have hlt3 : decide ((7 : Int) ≤ 5) = false := rfl
      have F1 := Aside0.mk (F.out.set 1)
      obtain ⟨k80, k81, k82, k83⟩ := F1.out.c8
      obtain ⟨k0, k1, k2, k3⟩ := F1.out.c11
      have kf := F.out.f11
      have kc := F.out.c11.2.1
      clear F
      dsimp only at k0 k1 k2 k3
      go_wp2_with fail
      refine (keep_call k (fs := [⟨a.f0, 1, a.f2⟩]) _ _ _ F1.out (by simp) rfl rfl (fun W => reps1 W _) (by simp) F1.out.rr.2 F1.out.rr.1 HEQ.out).mono ?_
      rintro e w5 ⟨A5, c5, rfl, h1, h2, h3⟩
      have F := Aside0.mk (F1.out.step h3)
      clear F1 k80 k81 k82 k83 k0 k1 k2 k3 kf kc h2 h3
      have F1 := Aside0.mk (F.out.set 2)
      obtain ⟨k80, k81, k82, k83⟩ := F1.out.c8
      obtain ⟨k0, k1, k2, k3⟩ := F1.out.c11
      have kf := F.out.f11
      have kc := F.out.c11.2.1
      clear F
      dsimp only at k0 k1 k2 k3
      go_wp2_with fail
      refine (keep_call k (fs := [⟨a.f0, 2, a.f2⟩]) _ _ _ F1.out (by simp) rfl rfl (fun W => reps1 W _) (by simp) F1.out.rr.2 F1.out.rr.1 HNE.out).mono ?_
      rintro e w5 ⟨A5, c5, rfl, h1, h2, h3⟩
      have F := Aside0.mk (F1.out.step h3)
      clear F1 k80 k81 k82 k83 k0 k1 k2 k3 kf kc h2 h3
      have F1 := Aside0.mk (F.out.set 4)
      obtain ⟨k80, k81, k82, k83⟩ := F1.out.c8
      obtain ⟨k0, k1, k2, k3⟩ := F1.out.c11
      have kf := F.out.f11
      have kc := F.out.c11.2.1
      clear F
      dsimp only at k0 k1 k2 k3
      go_wp2_with fail
      refine (keep_call k (fs := [⟨a.f0, 4, a.f2⟩]) _ _ _ F1.out (by simp) rfl rfl (fun W => reps1 W _) (by simp) F1.out.rr.2 F1.out.rr.1 HLE.out).mono ?_
      rintro e w5 ⟨A5, c5, rfl, h1, h2, h3⟩
      have F := Aside0.mk (F1.out.step h3)
      clear F1 k80 k81 k82 k83 k0 k1 k2 k3 kf kc h2 h3
      have F1 := Aside0.mk (F.out.set 6)
      obtain ⟨k80, k81, k82, k83⟩ := F1.out.c8
      obtain ⟨k0, k1, k2, k3⟩ := F1.out.c11
      have kf := F.out.f11
      have kc := F.out.c11.2.1
      clear F
      dsimp only at k0 k1 k2 k3
      go_wp2_with fail
      refine (keep_call k (fs := [⟨a.f0, 6, a.f2⟩]) _ _ _ F1.out (by simp) rfl rfl (fun W => reps1 W _) (by simp) F1.out.rr.2 F1.out.rr.1 HGE.out).mono ?_
      rintro e w5 ⟨A5, c5, rfl, h1, h2, h3⟩
      have F := Aside0.mk (F1.out.step h3)
      clear F1 k80 k81 k82 k83 k0 k1 k2 k3 kf kc h2 h3
      obtain ⟨k80, k81, k82, k83⟩ := F.out.c8
      obtain ⟨k0, k1, k2, k3⟩ := F.out.c11
      obtain ⟨k20, k21, k22, k23⟩ := F.out.c12
      dsimp only at k0 k1 k2 k3
      go_wp2_with fail
      refine (keep_call k (fs := [⟨a.f0, 6, a.f2⟩, b]) _ _ _ F.out rfl rfl rfl (fun W => reps2 W _ _) (by simp) F.out.rr.2 F.out.rr.1 HONE.out).mono ?_
      rintro e w5 ⟨A6, c6, rfl, h1, h2, h3⟩
      replace F := Aside0.mk (F.out.step h3)
      clear k80 k81 k82 k83 k0 k1 k2 k3 k20 k21 k22 k23
      have HC6 := Aside0.mk h1
      have HO := Aside0.mk h2
      clear h1 h2 h3
      obtain ⟨k80, k81, k82, k83⟩ := F.out.c8
      obtain ⟨k0, k1, k2, k3⟩ := F.out.c11
      obtain ⟨k20, k21, k22, k23⟩ := F.out.c12
      dsimp only at k0 k1 k2 k3
      go_wp2_with fail
      refine (keep_call k (fs := [b, ⟨a.f0, 6, a.f2⟩, b]) _ _ _ F.out rfl rfl rfl (fun W => reps3 W _ _ _) (by simp) F.out.rr.2 F.out.rr.1 HTWO.out).mono ?_
      rintro e w5 ⟨A5, c5, rfl, h1, h2, h3⟩
      replace F := Aside0.mk (F.out.step h3)
      clear k80 k81 k82 k83 k0 k1 k2 k3 k20 k21 k22 k23
      replace HO := Aside0.mk (Kd.C_below HO.out h3)
      have HT2 := Aside0.mk h2
      have HCT2 := Aside0.mk h1
      clear h1 h2 h3
      go_wp2_with fail
      refine (thresherref04_Rows.calls k A6 c6 one A5 c5 two true _ HO.out HC6.out HT2.out HCT2.out HS1.out).mono ?_
      rintro e w6 ⟨rfl, h3⟩
      replace HO := Aside0.mk (Kd.C_below HO.out h3.below)
      replace F := Aside0.mk (F.out.step h3.below)
      clear h3 HT2 HCT2
      go_wp2_with fail
      refine start_ (n := 12) (S := fun w' => w'.cell? ⟨w2.heap.size, 0, none⟩ = some (.slice At types.length ct) ∧ w'.cell? ⟨w2.heap.size, 1, none⟩ = some (.int .i64 q1) ∧ w'.cell? ⟨w2.heap.size, 2, none⟩ = some (.int .i64 q2) ∧ w'.cell? ⟨w2.heap.size, 3, none⟩ = some (.int .i64 q3) ∧ w'.cell? ⟨w4.heap.size, 0, none⟩ = some (.int .i64 a.f0) ∧ w'.cell? ⟨w4.heap.size, 1, none⟩ = some (.int .i64 6) ∧ w'.cell? ⟨w4.heap.size, 2, none⟩ = some (.int .i64 a.f2.f0) ∧ w'.cell? ⟨w4.heap.size, 3, none⟩ = some (.string a.f2.f1) ∧ w'.cell? ⟨w4.heap.size + 1, 0, none⟩ = some (.int .i64 b.f0) ∧ w'.cell? ⟨w4.heap.size + 1, 1, none⟩ = some (.int .i64 b.f1) ∧ w'.cell? ⟨w4.heap.size + 1, 2, none⟩ = some (.int .i64 b.f2.f0) ∧ w'.cell? ⟨w4.heap.size + 1, 3, none⟩ = some (.string b.f2.f1)) (ds := []) #[false, false, false, false, false, false, false, false, false, false, false, false] (by kernel_rfl) rfl rfl F.out.k12 (fun hHeld => ?_); refine with_tabW FilterSides.tab24 FilterSides.bits24 (fun HT_ HW_ => ?_)
      refine take_ (i := 0) (N := (some 97)) (v := ?_) (a' := ?_) #[true, false, false, false, false, false, false, false, false, false, false, false] rfl rfl (take_ofW HT_.out HW_.out (by kernel_rfl)) (fun _ _ _ h => h) (Or.inl ⟨by rfl, ?_⟩) hHeld ?_ ?_
      rotate_left
      · rintro w' ⟨s0, s1, s2, s3, s4, s5, s6, s7, s8, s9, s10, s11⟩
        go_simp
        with_reducible rfl
      rotate_left
      · simp only [Act.put, List.setIfInBounds_toArray, List.set_cons_zero, List.set_cons_succ, i64_w, i32_w]
        rfl
      refine take_ (i := 1) (N := (some 98)) (v := ?_) (a' := ?_) #[true, true, false, false, false, false, false, false, false, false, false, false] rfl rfl (take_ofW HT_.out HW_.out (by kernel_rfl)) (fun _ _ _ h => h) (Or.inl ⟨by rfl, ?_⟩) hHeld ?_ ?_
      rotate_left
      · rintro w' ⟨s0, s1, s2, s3, s4, s5, s6, s7, s8, s9, s10, s11⟩
        go_simp
        with_reducible rfl
      rotate_left
      · simp only [Act.put, List.setIfInBounds_toArray, List.set_cons_zero, List.set_cons_succ, i64_w, i32_w]
        rfl
      refine take_ (i := 3) (N := (some 100)) (v := ?_) (a' := ?_) #[true, true, false, true, false, false, false, false, false, false, false, false] rfl rfl (take_ofW HT_.out HW_.out (by kernel_rfl)) (fun _ _ _ h => h) (Or.inl ⟨by rfl, ?_⟩) hHeld ?_ ?_
      rotate_left
      · rintro w' ⟨s0, s1, s2, s3, s4, s5, s6, s7, s8, s9, s10, s11⟩
        go_simp
        with_reducible rfl
      rotate_left
      · simp only [Act.put, List.setIfInBounds_toArray, List.set_cons_zero, List.set_cons_succ, i64_w, i32_w]
        rfl
      refine take_ (i := 4) (N := (some 101)) (v := ?_) (a' := ?_) #[true, true, false, true, true, false, false, false, false, false, false, false] rfl rfl (take_ofW HT_.out HW_.out (by kernel_rfl)) (fun _ _ _ h => h) (Or.inl ⟨by rfl, ?_⟩) hHeld ?_ ?_
      rotate_left
      · rintro w' ⟨s0, s1, s2, s3, s4, s5, s6, s7, s8, s9, s10, s11⟩
        go_simp
        with_reducible rfl
      rotate_left
      · simp only [Act.put, List.setIfInBounds_toArray, List.set_cons_zero, List.set_cons_succ, i64_w, i32_w]
        rfl
      refine pure_ (i := 6) (N := (some 103)) (v := ?_) (a' := ?_) #[true, true, false, true, true, false, true, false, false, false, false, false] rfl rfl (any_of HT_.out (by kernel_rfl)) (fun _ _ _ h => h) (Or.inl ⟨by rfl, ?_⟩) ?_ ?_
      rotate_left
      · intro w'
        go_simp
        with_reducible rfl
      rotate_left
      · simp only [Act.put, List.setIfInBounds_toArray, List.set_cons_zero, List.set_cons_succ, i64_w, i32_w]
        rfl
      refine pure_ (i := 9) (N := (some 106)) (v := ?_) (a' := ?_) #[true, true, false, true, true, false, true, false, false, true, false, false] rfl rfl (any_of HT_.out (by kernel_rfl)) (fun _ _ _ h => h) (Or.inl ⟨by rfl, ?_⟩) ?_ ?_
      rotate_left
      · intro w'
        go_simp
        with_reducible rfl
      rotate_left
      · simp only [Act.put, List.setIfInBounds_toArray, List.set_cons_zero, List.set_cons_succ, i64_w, i32_w]
        rfl
      refine two_ (i := 2) (j := 5) (Ni := (some 99)) (Nj := (some 102)) #[true, true, true, true, true, false, true, false, false, true, false, false] #[true, true, false, true, true, true, true, false, false, true, false, false] rfl rfl rfl rfl (two_of HT_.out (by kernel_rfl)) (by decide) (by decide) (fun K hK => ?_) (fun K hK => ?_)
      · skip
        refine value_ (w1 := ?_) (v := ?_) (by rfl) rfl ?_ ?_
        rotate_left 2
        · go_simp
          constructor
          · rfl
          · rfl
        refine hK.out _ _ (F.out.drew.alloc _).k12 (fun hHeld => ?_)
        clear hK K
        refine norm_ (a' := ?_) ?_ ?_
        rotate_left
        · show Act.put _ (some 99) _ = _
          simp only [Act.put, List.setIfInBounds_toArray, List.set_cons_zero, List.set_cons_succ, i64_w, i32_w]
          rfl
        refine one_ (i := 5) (N := (some 102)) #[true, true, true, true, true, true, true, false, false, true, false, false] rfl rfl (one_of HT_.out (by kernel_rfl)) (by decide) (fun K hK => ?_)
        refine value_ (w1 := ?_) (v := ?_) (by rfl) rfl ?_ ?_
        rotate_left 2
        · go_simp
          constructor
          · rfl
          · rfl
        refine hK.out _ _ ((F.out.drew.alloc _).alloc _).k12 (fun hHeld => ?_)
        clear hK K
        refine norm_ (a' := ?_) ?_ ?_
        rotate_left
        · show Act.put _ (some 102) _ = _
          simp only [Act.put, List.setIfInBounds_toArray, List.set_cons_zero, List.set_cons_succ, i64_w, i32_w]
          rfl
        refine one_ (i := 7) (N := (some 104)) #[true, true, true, true, true, true, true, true, false, true, false, false] rfl rfl (one_of HT_.out (by kernel_rfl)) (by decide) (fun K hK => ?_)
        refine goes_ Try.func14 (by kernel_rfl) rfl #[.agg #[.slice At types.length ct, .int .i64 q1, .int .i64 q2, .int .i64 q3], .slice (some ⟨_, 0, none⟩) 1 1, .slice Ar rows.length cr] (by rfl) rfl rfl (by (try simp only [List.map_toArray, List.map_cons, List.map_nil]); first | done | rfl) ?_
        refine (keep_at k (fs := [⟨a.f0, 6, a.f2⟩]) _ 1 (((F.out.drew.alloc (.cells (cells28 b).toArray 28)).alloc (.cells (cells28 (S28.mk a.f0 6 a.f2)).toArray 28))) (blk_new1 w6.drew (.cells (cells28 b).toArray 28) _ _) rfl (fun W => reps1 W _) (by simp) (((F.out.drew.alloc (.cells (cells28 b).toArray 28)).alloc (.cells (cells28 (S28.mk a.f0 6 a.f2)).toArray 28))).rr.2 (((F.out.drew.alloc (.cells (cells28 b).toArray 28)).alloc (.cells (cells28 (S28.mk a.f0 6 a.f2)).toArray 28))).rr.1 HGE.out).mono ?_
        rintro e w7 ⟨A7, c7, rfl, h1, h2, h3⟩
        refine ⟨_, rfl, ?_⟩
        have HC7 := Aside0.mk h2
        have HG7 := Aside0.mk h1
        have F7 := Aside0.mk (FSt.step (((F.out.drew.alloc (.cells (cells28 b).toArray 28)).alloc (.cells (cells28 (S28.mk a.f0 6 a.f2)).toArray 28))) h3)
        have HO7 := Aside0.mk (Kd.C_below (Kd.C_alloc (Kd.C_alloc (Kd.C_drew HO.out) (.cells (cells28 b).toArray 28)) (.cells (cells28 (S28.mk a.f0 6 a.f2)).toArray 28)) h3)
        have BB7 := Aside0.mk (blk_below (blk_alloc (blk_new w6.drew (.cells (cells28 b).toArray 28)) (.cells (cells28 (S28.mk a.f0 6 a.f2)).toArray 28)) h3)
        clear h1 h2 h3
        refine hK.out _ _ F7.out.k12 (fun hHeld => ?_)
        clear hK K
        refine norm_ (a' := ?_) ?_ ?_
        rotate_left
        · show Act.put _ (some 104) _ = _
          simp only [Act.put, List.setIfInBounds_toArray, List.set_cons_zero, List.set_cons_succ, i64_w, i32_w]
          rfl
        refine one_ (i := 8) (N := (some 105)) #[true, true, true, true, true, true, true, true, true, true, false, false] rfl rfl (one_of HT_.out (by kernel_rfl)) (by decide) (fun K hK => ?_)
        refine goes_ Try.func14 (by kernel_rfl) rfl #[.agg #[.slice At types.length ct, .int .i64 q1, .int .i64 q2, .int .i64 q3], .slice (some ⟨_, 0, none⟩) 1 1, .slice A7 ge.length c7] (by rfl) rfl rfl (by (try simp only [List.map_toArray, List.map_cons, List.map_nil]); first | done | rfl) ?_
        refine (keep_at k (fs := [b]) _ 1 (F7.out) (BB7.out) rfl (fun W => reps1 W _) (by simp) (HC7.out) HG7.out HTW.out).mono ?_
        rintro e w8 ⟨A8, c8, rfl, h1, h2, h3⟩
        refine ⟨_, rfl, ?_⟩
        have HC8 := Aside0.mk h1
        have HG8 := Aside0.mk h2
        have F8 := Aside0.mk (FSt.step (F7.out) h3)
        have HO8 := Aside0.mk (Kd.C_below (HO7.out) h3)
        clear h1 h2 h3
        refine hK.out _ _ F8.out.k12 (fun hHeld => ?_)
        clear hK K
        refine norm_ (a' := ?_) ?_ ?_
        rotate_left
        · show Act.put _ (some 105) _ = _
          simp only [Act.put, List.setIfInBounds_toArray, List.set_cons_zero, List.set_cons_succ, i64_w, i32_w]
          rfl
        refine one_ (i := 10) (N := (some 107)) #[true, true, true, true, true, true, true, true, true, true, true, false] rfl rfl (one_of HT_.out (by kernel_rfl)) (by decide) (fun K hK => ?_)
        refine goes_ Try.func15 (by kernel_rfl) rfl #[.slice A8 tw.length c8, .slice A6 one.length c6] (by rfl) rfl rfl (by (try simp only [List.map_toArray, List.map_cons, List.map_nil]); first | done | rfl) ?_
        refine (thresherref04_Rows.calls k A8 c8 tw A6 c6 one true _ HG8.out HC8.out HO8.out HC6.out HS2.out).mono ?_
        rintro e w9 ⟨rfl, h3⟩
        refine ⟨_, rfl, ?_⟩
        have F9 := Aside0.mk (FSt.step F8.out h3.below)
        clear h3
        refine hK.out _ _ F9.out.k12 (fun hHeld => ?_)
        clear hK K
        refine norm_ (a' := ?_) ?_ ?_
        rotate_left
        · show Act.put _ (some 107) _ = _
          simp only [Act.put, List.setIfInBounds_toArray, List.set_cons_zero, List.set_cons_succ, i64_w, i32_w]
          rfl
        refine pure_ (i := 11) (N := (some 22)) (v := ?_) (a' := ?_) #[true, true, true, true, true, true, true, true, true, true, true, true] rfl rfl (any_of HT_.out (by kernel_rfl)) (fun _ _ _ h => h) (Or.inl ⟨by rfl, ?_⟩) ?_ ?_
        rotate_left
        · intro w'
          go_simp
          with_reducible rfl
        rotate_left
        · simp only [Act.put, List.setIfInBounds_toArray, List.set_cons_zero, List.set_cons_succ, i64_w, i32_w]
          rfl
        refine done_ (done_of HT_.out (by kernel_rfl)) ?_
        obtain ⟨k80, k81, k82, k83⟩ := F9.out.c8
        go_wp2_with fail
        refine (filter_Keep.calls k At ct types q1 q2 q3 none 0 [] Ar cr rows non _ F9.out.rt.2 F9.out.rt.1 (Kd.C_nil k28 _) (Nat.le_refl _) F9.out.rr.2 F9.out.rr.1 HNON.out).mono ?_
        rintro e w10 ⟨A10, c10, rfl, h1, h2, h3⟩
        have F10 := Aside0.mk (F9.out.step h3)
        have HC10 := Aside0.mk h1
        have HN10 := Aside0.mk h2
        clear h1 h2 h3
        go_wp2_with fail
        refine (thresherref04_Rows.calls k A10 c10 non Ar cr rows true _ HN10.out HC10.out F10.out.rr.2 F10.out.rr.1 HS3.out).mono ?_
        rintro e w11 ⟨rfl, h3⟩
        have F11 := Aside0.mk (F10.out.step h3.below)
        clear h3
        have e1' : ((lt.length : Int) + (gt.length : Int) == (ne.length : Int)) = true := by have := E1.out; rw [beq_iff_eq]; omega
        have e2' : ((eq.length : Int) + (ne.length : Int) == (rows.length : Int)) = true := by have := E2.out; rw [beq_iff_eq]; omega
        have e3' : ((le.length : Int) + (ge.length : Int) == (rows.length : Int) + (eq.length : Int)) = true := by have := E3.out; rw [beq_iff_eq]; omega
        have e4' : decide ((one.length : Int) ≤ (ge.length : Int)) = true := by have := E4.out; rw [decide_eq_true_eq]; omega
        go_wp2
        exact bodyPost_ret (v := .bool true) (by simp [results, Try.results3, go_sem, E4.out]) rfl ⟨rfl, F11.out.hb⟩
      · skip
        refine value_ (w1 := ?_) (v := ?_) (by rfl) rfl ?_ ?_
        rotate_left 2
        · go_simp
          constructor
          · rfl
          · rfl
        refine hK.out _ _ (F.out.drew.alloc _).k12 (fun hHeld => ?_)
        clear hK K
        refine norm_ (a' := ?_) ?_ ?_
        rotate_left
        · show Act.put _ (some 102) _ = _
          simp only [Act.put, List.setIfInBounds_toArray, List.set_cons_zero, List.set_cons_succ, i64_w, i32_w]
          rfl
        refine two_ (i := 2) (j := 7) (Ni := (some 99)) (Nj := (some 104)) #[true, true, true, true, true, true, true, false, false, true, false, false] #[true, true, false, true, true, true, true, true, false, true, false, false] rfl rfl rfl rfl (two_of HT_.out (by kernel_rfl)) (by decide) (by decide) (fun K hK => ?_) (fun K hK => ?_)
        · skip
          refine value_ (w1 := ?_) (v := ?_) (by rfl) rfl ?_ ?_
          rotate_left 2
          · go_simp
            constructor
            · rfl
            · rfl
          refine hK.out _ _ ((F.out.drew.alloc _).alloc _).k12 (fun hHeld => ?_)
          clear hK K
          refine norm_ (a' := ?_) ?_ ?_
          rotate_left
          · show Act.put _ (some 99) _ = _
            simp only [Act.put, List.setIfInBounds_toArray, List.set_cons_zero, List.set_cons_succ, i64_w, i32_w]
            rfl
          refine one_ (i := 7) (N := (some 104)) #[true, true, true, true, true, true, true, true, false, true, false, false] rfl rfl (one_of HT_.out (by kernel_rfl)) (by decide) (fun K hK => ?_)
          refine goes_ Try.func14 (by kernel_rfl) rfl #[.agg #[.slice At types.length ct, .int .i64 q1, .int .i64 q2, .int .i64 q3], .slice (some ⟨_, 0, none⟩) 1 1, .slice Ar rows.length cr] (by rfl) rfl rfl (by (try simp only [List.map_toArray, List.map_cons, List.map_nil]); first | done | rfl) ?_
          refine (keep_at k (fs := [⟨a.f0, 6, a.f2⟩]) _ 1 (((F.out.drew.alloc (.cells (cells28 (S28.mk a.f0 6 a.f2)).toArray 28)).alloc (.cells (cells28 b).toArray 28))) (blk_alloc (blk_new w6.drew (.cells (cells28 (S28.mk a.f0 6 a.f2)).toArray 28)) (.cells (cells28 b).toArray 28)) rfl (fun W => reps1 W _) (by simp) (((F.out.drew.alloc (.cells (cells28 (S28.mk a.f0 6 a.f2)).toArray 28)).alloc (.cells (cells28 b).toArray 28))).rr.2 (((F.out.drew.alloc (.cells (cells28 (S28.mk a.f0 6 a.f2)).toArray 28)).alloc (.cells (cells28 b).toArray 28))).rr.1 HGE.out).mono ?_
          rintro e w7 ⟨A7, c7, rfl, h1, h2, h3⟩
          refine ⟨_, rfl, ?_⟩
          have HC7 := Aside0.mk h2
          have HG7 := Aside0.mk h1
          have F7 := Aside0.mk (FSt.step (((F.out.drew.alloc (.cells (cells28 (S28.mk a.f0 6 a.f2)).toArray 28)).alloc (.cells (cells28 b).toArray 28))) h3)
          have HO7 := Aside0.mk (Kd.C_below (Kd.C_alloc (Kd.C_alloc (Kd.C_drew HO.out) (.cells (cells28 (S28.mk a.f0 6 a.f2)).toArray 28)) (.cells (cells28 b).toArray 28)) h3)
          have BB7 := Aside0.mk (blk_below (blk_new1 w6.drew (.cells (cells28 (S28.mk a.f0 6 a.f2)).toArray 28) _ _) h3)
          clear h1 h2 h3
          refine hK.out _ _ F7.out.k12 (fun hHeld => ?_)
          clear hK K
          refine norm_ (a' := ?_) ?_ ?_
          rotate_left
          · show Act.put _ (some 104) _ = _
            simp only [Act.put, List.setIfInBounds_toArray, List.set_cons_zero, List.set_cons_succ, i64_w, i32_w]
            rfl
          refine one_ (i := 8) (N := (some 105)) #[true, true, true, true, true, true, true, true, true, true, false, false] rfl rfl (one_of HT_.out (by kernel_rfl)) (by decide) (fun K hK => ?_)
          refine goes_ Try.func14 (by kernel_rfl) rfl #[.agg #[.slice At types.length ct, .int .i64 q1, .int .i64 q2, .int .i64 q3], .slice (some ⟨_, 0, none⟩) 1 1, .slice A7 ge.length c7] (by rfl) rfl rfl (by (try simp only [List.map_toArray, List.map_cons, List.map_nil]); first | done | rfl) ?_
          refine (keep_at k (fs := [b]) _ 1 (F7.out) (BB7.out) rfl (fun W => reps1 W _) (by simp) (HC7.out) HG7.out HTW.out).mono ?_
          rintro e w8 ⟨A8, c8, rfl, h1, h2, h3⟩
          refine ⟨_, rfl, ?_⟩
          have HC8 := Aside0.mk h1
          have HG8 := Aside0.mk h2
          have F8 := Aside0.mk (FSt.step (F7.out) h3)
          have HO8 := Aside0.mk (Kd.C_below (HO7.out) h3)
          clear h1 h2 h3
          refine hK.out _ _ F8.out.k12 (fun hHeld => ?_)
          clear hK K
          refine norm_ (a' := ?_) ?_ ?_
          rotate_left
          · show Act.put _ (some 105) _ = _
            simp only [Act.put, List.setIfInBounds_toArray, List.set_cons_zero, List.set_cons_succ, i64_w, i32_w]
            rfl
          refine one_ (i := 10) (N := (some 107)) #[true, true, true, true, true, true, true, true, true, true, true, false] rfl rfl (one_of HT_.out (by kernel_rfl)) (by decide) (fun K hK => ?_)
          refine goes_ Try.func15 (by kernel_rfl) rfl #[.slice A8 tw.length c8, .slice A6 one.length c6] (by rfl) rfl rfl (by (try simp only [List.map_toArray, List.map_cons, List.map_nil]); first | done | rfl) ?_
          refine (thresherref04_Rows.calls k A8 c8 tw A6 c6 one true _ HG8.out HC8.out HO8.out HC6.out HS2.out).mono ?_
          rintro e w9 ⟨rfl, h3⟩
          refine ⟨_, rfl, ?_⟩
          have F9 := Aside0.mk (FSt.step F8.out h3.below)
          clear h3
          refine hK.out _ _ F9.out.k12 (fun hHeld => ?_)
          clear hK K
          refine norm_ (a' := ?_) ?_ ?_
          rotate_left
          · show Act.put _ (some 107) _ = _
            simp only [Act.put, List.setIfInBounds_toArray, List.set_cons_zero, List.set_cons_succ, i64_w, i32_w]
            rfl
          refine pure_ (i := 11) (N := (some 22)) (v := ?_) (a' := ?_) #[true, true, true, true, true, true, true, true, true, true, true, true] rfl rfl (any_of HT_.out (by kernel_rfl)) (fun _ _ _ h => h) (Or.inl ⟨by rfl, ?_⟩) ?_ ?_
          rotate_left
          · intro w'
            go_simp
            with_reducible rfl
          rotate_left
          · simp only [Act.put, List.setIfInBounds_toArray, List.set_cons_zero, List.set_cons_succ, i64_w, i32_w]
            rfl
          refine done_ (done_of HT_.out (by kernel_rfl)) ?_
          obtain ⟨k80, k81, k82, k83⟩ := F9.out.c8
          go_wp2_with fail
          refine (filter_Keep.calls k At ct types q1 q2 q3 none 0 [] Ar cr rows non _ F9.out.rt.2 F9.out.rt.1 (Kd.C_nil k28 _) (Nat.le_refl _) F9.out.rr.2 F9.out.rr.1 HNON.out).mono ?_
          rintro e w10 ⟨A10, c10, rfl, h1, h2, h3⟩
          have F10 := Aside0.mk (F9.out.step h3)
          have HC10 := Aside0.mk h1
          have HN10 := Aside0.mk h2
          clear h1 h2 h3
          go_wp2_with fail
          refine (thresherref04_Rows.calls k A10 c10 non Ar cr rows true _ HN10.out HC10.out F10.out.rr.2 F10.out.rr.1 HS3.out).mono ?_
          rintro e w11 ⟨rfl, h3⟩
          have F11 := Aside0.mk (F10.out.step h3.below)
          clear h3
          have e1' : ((lt.length : Int) + (gt.length : Int) == (ne.length : Int)) = true := by have := E1.out; rw [beq_iff_eq]; omega
          have e2' : ((eq.length : Int) + (ne.length : Int) == (rows.length : Int)) = true := by have := E2.out; rw [beq_iff_eq]; omega
          have e3' : ((le.length : Int) + (ge.length : Int) == (rows.length : Int) + (eq.length : Int)) = true := by have := E3.out; rw [beq_iff_eq]; omega
          have e4' : decide ((one.length : Int) ≤ (ge.length : Int)) = true := by have := E4.out; rw [decide_eq_true_eq]; omega
          go_wp2
          exact bodyPost_ret (v := .bool true) (by simp [results, Try.results3, go_sem, E4.out]) rfl ⟨rfl, F11.out.hb⟩
        · skip
          refine goes_ Try.func14 (by kernel_rfl) rfl #[.agg #[.slice At types.length ct, .int .i64 q1, .int .i64 q2, .int .i64 q3], .slice (some ⟨_, 0, none⟩) 1 1, .slice Ar rows.length cr] (by rfl) rfl rfl (by (try simp only [List.map_toArray, List.map_cons, List.map_nil]); first | done | rfl) ?_
          refine (keep_at k (fs := [⟨a.f0, 6, a.f2⟩]) _ 1 ((F.out.drew.alloc (.cells (cells28 (S28.mk a.f0 6 a.f2)).toArray 28))) (blk_new w6.drew (.cells (cells28 (S28.mk a.f0 6 a.f2)).toArray 28)) rfl (fun W => reps1 W _) (by simp) ((F.out.drew.alloc (.cells (cells28 (S28.mk a.f0 6 a.f2)).toArray 28))).rr.2 ((F.out.drew.alloc (.cells (cells28 (S28.mk a.f0 6 a.f2)).toArray 28))).rr.1 HGE.out).mono ?_
          rintro e w7 ⟨A7, c7, rfl, h1, h2, h3⟩
          refine ⟨_, rfl, ?_⟩
          have HC7 := Aside0.mk h2
          have HG7 := Aside0.mk h1
          have F7 := Aside0.mk (FSt.step ((F.out.drew.alloc (.cells (cells28 (S28.mk a.f0 6 a.f2)).toArray 28))) h3)
          have HO7 := Aside0.mk (Kd.C_below (Kd.C_alloc (Kd.C_drew HO.out) (.cells (cells28 (S28.mk a.f0 6 a.f2)).toArray 28)) h3)
          clear h1 h2 h3
          refine hK.out _ _ F7.out.k12 (fun hHeld => ?_)
          clear hK K
          refine norm_ (a' := ?_) ?_ ?_
          rotate_left
          · show Act.put _ (some 104) _ = _
            simp only [Act.put, List.setIfInBounds_toArray, List.set_cons_zero, List.set_cons_succ, i64_w, i32_w]
            rfl
          refine one_ (i := 2) (N := (some 99)) #[true, true, true, true, true, true, true, true, false, true, false, false] rfl rfl (one_of HT_.out (by kernel_rfl)) (by decide) (fun K hK => ?_)
          refine value_ (w1 := ?_) (v := ?_) (by rfl) rfl ?_ ?_
          rotate_left 2
          · go_simp
            constructor
            · rfl
            · rfl
          refine hK.out _ _ (F7.out.alloc _).k12 (fun hHeld => ?_)
          clear hK K
          refine norm_ (a' := ?_) ?_ ?_
          rotate_left
          · show Act.put _ (some 99) _ = _
            simp only [Act.put, List.setIfInBounds_toArray, List.set_cons_zero, List.set_cons_succ, i64_w, i32_w]
            rfl
          refine one_ (i := 8) (N := (some 105)) #[true, true, true, true, true, true, true, true, true, true, false, false] rfl rfl (one_of HT_.out (by kernel_rfl)) (by decide) (fun K hK => ?_)
          refine goes_ Try.func14 (by kernel_rfl) rfl #[.agg #[.slice At types.length ct, .int .i64 q1, .int .i64 q2, .int .i64 q3], .slice (some ⟨_, 0, none⟩) 1 1, .slice A7 ge.length c7] (by rfl) rfl rfl (by (try simp only [List.map_toArray, List.map_cons, List.map_nil]); first | done | rfl) ?_
          refine (keep_at k (fs := [b]) _ 1 (F7.out.alloc (.cells (cells28 b).toArray 28)) (blk_new w7 (.cells (cells28 b).toArray 28)) rfl (fun W => reps1 W _) (by simp) (Kd.C_alloc HC7.out (.cells (cells28 b).toArray 28)) HG7.out HTW.out).mono ?_
          rintro e w8 ⟨A8, c8, rfl, h1, h2, h3⟩
          refine ⟨_, rfl, ?_⟩
          have HC8 := Aside0.mk h1
          have HG8 := Aside0.mk h2
          have F8 := Aside0.mk (FSt.step (F7.out.alloc (.cells (cells28 b).toArray 28)) h3)
          have HO8 := Aside0.mk (Kd.C_below (Kd.C_alloc HO7.out (.cells (cells28 b).toArray 28)) h3)
          clear h1 h2 h3
          refine hK.out _ _ F8.out.k12 (fun hHeld => ?_)
          clear hK K
          refine norm_ (a' := ?_) ?_ ?_
          rotate_left
          · show Act.put _ (some 105) _ = _
            simp only [Act.put, List.setIfInBounds_toArray, List.set_cons_zero, List.set_cons_succ, i64_w, i32_w]
            rfl
          refine one_ (i := 10) (N := (some 107)) #[true, true, true, true, true, true, true, true, true, true, true, false] rfl rfl (one_of HT_.out (by kernel_rfl)) (by decide) (fun K hK => ?_)
          refine goes_ Try.func15 (by kernel_rfl) rfl #[.slice A8 tw.length c8, .slice A6 one.length c6] (by rfl) rfl rfl (by (try simp only [List.map_toArray, List.map_cons, List.map_nil]); first | done | rfl) ?_
          refine (thresherref04_Rows.calls k A8 c8 tw A6 c6 one true _ HG8.out HC8.out HO8.out HC6.out HS2.out).mono ?_
          rintro e w9 ⟨rfl, h3⟩
          refine ⟨_, rfl, ?_⟩
          have F9 := Aside0.mk (FSt.step F8.out h3.below)
          clear h3
          refine hK.out _ _ F9.out.k12 (fun hHeld => ?_)
          clear hK K
          refine norm_ (a' := ?_) ?_ ?_
          rotate_left
          · show Act.put _ (some 107) _ = _
            simp only [Act.put, List.setIfInBounds_toArray, List.set_cons_zero, List.set_cons_succ, i64_w, i32_w]
            rfl
          refine pure_ (i := 11) (N := (some 22)) (v := ?_) (a' := ?_) #[true, true, true, true, true, true, true, true, true, true, true, true] rfl rfl (any_of HT_.out (by kernel_rfl)) (fun _ _ _ h => h) (Or.inl ⟨by rfl, ?_⟩) ?_ ?_
          rotate_left
          · intro w'
            go_simp
            with_reducible rfl
          rotate_left
          · simp only [Act.put, List.setIfInBounds_toArray, List.set_cons_zero, List.set_cons_succ, i64_w, i32_w]
            rfl
          refine done_ (done_of HT_.out (by kernel_rfl)) ?_
          obtain ⟨k80, k81, k82, k83⟩ := F9.out.c8
          go_wp2_with fail
          refine (filter_Keep.calls k At ct types q1 q2 q3 none 0 [] Ar cr rows non _ F9.out.rt.2 F9.out.rt.1 (Kd.C_nil k28 _) (Nat.le_refl _) F9.out.rr.2 F9.out.rr.1 HNON.out).mono ?_
          rintro e w10 ⟨A10, c10, rfl, h1, h2, h3⟩
          have F10 := Aside0.mk (F9.out.step h3)
          have HC10 := Aside0.mk h1
          have HN10 := Aside0.mk h2
          clear h1 h2 h3
          go_wp2_with fail
          refine (thresherref04_Rows.calls k A10 c10 non Ar cr rows true _ HN10.out HC10.out F10.out.rr.2 F10.out.rr.1 HS3.out).mono ?_
          rintro e w11 ⟨rfl, h3⟩
          have F11 := Aside0.mk (F10.out.step h3.below)
          clear h3
          have e1' : ((lt.length : Int) + (gt.length : Int) == (ne.length : Int)) = true := by have := E1.out; rw [beq_iff_eq]; omega
          have e2' : ((eq.length : Int) + (ne.length : Int) == (rows.length : Int)) = true := by have := E2.out; rw [beq_iff_eq]; omega
          have e3' : ((le.length : Int) + (ge.length : Int) == (rows.length : Int) + (eq.length : Int)) = true := by have := E3.out; rw [beq_iff_eq]; omega
          have e4' : decide ((one.length : Int) ≤ (ge.length : Int)) = true := by have := E4.out; rw [decide_eq_true_eq]; omega
          go_wp2
          exact bodyPost_ret (v := .bool true) (by simp [results, Try.results3, go_sem, E4.out]) rfl ⟨rfl, F11.out.hb⟩
end Go.Proofs.Ytohbpgdhpfmlgaa.PA
