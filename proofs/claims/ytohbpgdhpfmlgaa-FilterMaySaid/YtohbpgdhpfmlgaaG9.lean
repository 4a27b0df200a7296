/- FilterMay: what its parts come to is what the walk of the law comes to. -/
import Derived.Test.YtohbpgdhpfmlgaaG3
import Derived.Test.YtohbpgdhpfmlgaaPAx5
import Derived.Test.YtohbpgdhpfmlgaaPAx5
import Derived.Test.YtohbpgdhpfmlgaaPAx5
import Derived.Test.YtohbpgdhpfmlgaaPAx9
import Derived.Outline
import Derived.Deep.RegionHeld3
import Derived.Deep.DeepCutAuto
namespace Go.Proofs.Ytohbpgdhpfmlgaa.PA
set_option linter.unusedVariables false
set_option linter.unusedSimpArgs false
open Go.RowKit Go.Proofs.YtohbpgdhpfmlgaaW.PrintWords Go.Proofs.YtohbpgdhpfmlgaaW.PrintLast

/-- What the law holds: the schema's box, the filters' box, the value's box. -/
structure MSt (w0 W : World) (g8 g9 g10 : Nat) (At : Option Addr) (ct : Nat) (types : List Int) (q1 q2 q3 : Int) (Af : Option Addr) (cf : Nat) (fit : List S28) (z : S26) : Prop where
  b8 : W.heap[g8]? = some (.cells #[.slice At types.length ct, .int .i64 q1, .int .i64 q2, .int .i64 q3] 34 (0, 0))
  b9 : W.heap[g9]? = some (.cells #[.slice Af fit.length cf] 37 (0, 0))
  b10 : W.heap[g10]? = some (.cells #[.int .i64 z.f0, .string z.f1] 26 (0, 0))
  ht : Kd.C (Kd.int .i64) W At types.length types
  htc : types.length ≤ ct
  hf : Kd.C k28 W Af fit.length fit
  hb : Below w0.heap.size w0 W
section
variable {w0 W W' : World} {g8 g9 g10 : Nat} {At : Option Addr} {ct : Nat} {types : List Int} {q1 q2 q3 : Int} {Af : Option Addr} {cf : Nat} {fit : List S28} {z : S26}
theorem MSt.step (h : MSt w0 W g8 g9 g10 At ct types q1 q2 q3 Af cf fit z) (hb : Below W.heap.size W W') : MSt w0 W' g8 g9 g10 At ct types q1 q2 q3 Af cf fit z :=
  ⟨blk_below h.b8 hb, blk_below h.b9 hb, blk_below h.b10 hb, Kd.C_below h.ht hb, h.htc, Kd.C_below h.hf hb, below_step h.hb hb⟩
theorem MSt.alloc (h : MSt w0 W g8 g9 g10 At ct types q1 q2 q3 Af cf fit z) (o : Obj) : MSt w0 (W.alloc o) g8 g9 g10 At ct types q1 q2 q3 Af cf fit z := h.step (below_alloc (Below.refl _ _) _)
theorem MSt.drew (h : MSt w0 W g8 g9 g10 At ct types q1 q2 q3 Af cf fit z) : MSt w0 W.drew g8 g9 g10 At ct types q1 q2 q3 Af cf fit z := h.step (below_drew (Below.refl _ _))
theorem MSt.c8 (h : MSt w0 W g8 g9 g10 At ct types q1 q2 q3 Af cf fit z) : W.cell? ⟨g8, 0, none⟩ = some (.slice At types.length ct) ∧ W.cell? ⟨g8, 1, none⟩ = some (.int .i64 q1) ∧ W.cell? ⟨g8, 2, none⟩ = some (.int .i64 q2) ∧ W.cell? ⟨g8, 3, none⟩ = some (.int .i64 q3) ∧
    W.cell? ⟨g9, 0, none⟩ = some (.slice Af fit.length cf) ∧ W.cell? ⟨g10, 0, none⟩ = some (.int .i64 z.f0) ∧ W.cell? ⟨g10, 1, none⟩ = some (.string z.f1) :=
  ⟨(blk_cell h.b8 0).trans rfl, (blk_cell h.b8 1).trans rfl, (blk_cell h.b8 2).trans rfl, (blk_cell h.b8 3).trans rfl, (blk_cell h.b9 0).trans rfl, (blk_cell h.b10 0).trans rfl, (blk_cell h.b10 1).trans rfl⟩
/-- The filters and one more, in any world that holds what the law holds. -/
theorem with_call (h : MSt w0 W g8 g9 g10 At ct types q1 q2 q3 Af cf fit z) (hl : fit.length ≤ 1000) (c o v0 : Int) (v1 : ByteArray) :
    Calls Try.prog 17 #[.agg #[.int .i64 c, .int .i64 o, .int .i64 v0, .string v1], .pointer (some ⟨g9, 0, none⟩)] W fun e w' => ∃ v, e = .returned v ∧ Kd.R k28 28 w' W.heap.size (fun _ => True) v (fit ++ [⟨c, o, ⟨v0, v1⟩⟩]) ∧ Below W.heap.size W w' :=
  with1.calls g9 Af cf fit ⟨c, o, ⟨v0, v1⟩⟩ W h.b9 h.hf hl
theorem may_call (k : Nat) (h : MSt w0 W g8 g9 g10 At ct types q1 q2 q3 Af cf fit z) {A1 : Option Addr} {n c1 : Nat} {l1 : List S28} {r : Bool} (h1 : Kd.C k28 W A1 l1.length l1) (hn : n = l1.length) (hc : l1.length ≤ c1) (hf : filter_May.f k types q1 q2 q3 l1 = some r) :
    Calls Try.prog 18 #[.agg #[.slice At types.length ct, .int .i64 q1, .int .i64 q2, .int .i64 q3], .slice A1 n c1] W fun e w' => e = .returned (.bool r) ∧ MSt w0 w' g8 g9 g10 At ct types q1 q2 q3 Af cf fit z := by
  subst hn
  refine (filter_May.calls k At ct types q1 q2 q3 A1 c1 l1 r W h.ht h.htc h1 hc hf).mono ?_
  rintro e w' ⟨rfl, hb⟩
  exact ⟨rfl, h.step hb⟩
end
/-- A call of a closure, by its contract. -/
theorem goesC_ {P : Program} {ops : Array Oper} {Q : Exit → Act → World → Prop} {oi : Oper} {N : Option Tmp} {a : Act} {w : World} {K : Act → World → Prop} {f : FuncId} {fn : Func} {as_ : Array Operand} {ts : Array TypeId} {x : Operand} {caps : Array Value} (hf : P.funcs[f]? = some fn) (hname : (fn.name == "runtime.NumGoroutine") = false) (hb : fn.body.isSome = true) (args : Array Value)
    (hw : Region.wanted oi (yielded ops a.tmps) = true) (hN : oi.dst = N) (hop : oi.op = .call { callee := .value x, args := as_, argTypes := ts }) (hx : a.eval x = .func (.func f) #[] caps) (hargs : as_.map a.eval ++ caps = args)
    (h : Calls P f args w fun e w' => ∃ v, e = .returned v ∧ K (a.put N v) w') : if Region.wanted oi (yielded ops a.tmps) = true then Oper.wp P oi a w K Q else K (a.put N undef) w := by
  refine call_ f args hw hN ?_ h
  have he := enters_ hf hname hb args w
  unfold execOp
  simp [hop, resolve, hx, Deferred.ofValue, invoke, hargs, he]
/-- The ops that a filter of the first column may have. -/
def opOk (types : List Int) (op : Int) : Bool := (decide (1 ≤ op) && decide (op ≤ 6)) || (decide (op = 7) && decide (rd types 0 = 3))
def FilterMay.T6 : Bool × List (List Nat × List Nat) := (true, [([], []), ([], []), ([], []), ([], []), ([2, 3], [2, 3]), ([1, 4], [1, 4]), ([0, 5, 5], [0, 5]), ([6, 6, 0, 1, 2, 3, 4, 5, 6], [6])])
def FilterMay.B6 : List Nat := [0, 0, 0, 0, 12, 30, 63, 127]
theorem FilterMay.tab6 : rtab .any (opsOf Try.f4 6) = FilterMay.T6 := by kernel_rfl
theorem FilterMay.bits6 : waitsOk FilterMay.T6.2 FilterMay.B6 = true := by kernel_rfl
def FilterMay.T7 : Bool × List (List Nat × List Nat) := (true, [([], []), ([], []), ([], []), ([], []), ([2, 3], [2, 3]), ([1, 4], [1, 4]), ([0, 5, 5], [0, 5]), ([6, 6, 0, 1, 2, 3, 4, 5, 6], [6])])
def FilterMay.B7 : List Nat := [0, 0, 0, 0, 12, 30, 63, 127]
theorem FilterMay.tab7 : rtab .any (opsOf Try.f4 7) = FilterMay.T7 := by kernel_rfl
theorem FilterMay.bits7 : waitsOk FilterMay.T7.2 FilterMay.B7 = true := by kernel_rfl
def FilterMay.T9 : Bool × List (List Nat × List Nat) := (true, [([], []), ([], []), ([], []), ([2], [2]), ([1, 3], [1, 3]), ([], []), ([5], [5]), ([6], [6]), ([4, 7, 4], [4, 7]), ([0, 8, 8], [0, 8]), ([9, 9, 0, 1, 2, 3, 4, 5, 6, 7, 8, 9], [9])])
def FilterMay.B9 : List Nat := [0, 0, 0, 4, 14, 0, 32, 96, 254, 511, 1023]
theorem FilterMay.tab9 : rtab .any (opsOf Try.f4 9) = FilterMay.T9 := by kernel_rfl
theorem FilterMay.bits9 : waitsOk FilterMay.T9.2 FilterMay.B9 = true := by kernel_rfl
def FilterMay.T10 : Bool × List (List Nat × List Nat) := (true, [([], []), ([], []), ([], []), ([2], [2]), ([1, 3], [1, 3]), ([0, 4, 4], [0, 4]), ([5, 5, 0, 1, 2, 3, 4, 5], [5])])
def FilterMay.B10 : List Nat := [0, 0, 0, 4, 14, 31, 63]
theorem FilterMay.tab10 : rtab .any (opsOf Try.f4 10) = FilterMay.T10 := by kernel_rfl
theorem FilterMay.bits10 : waitsOk FilterMay.T10.2 FilterMay.B10 = true := by kernel_rfl
set_option maxHeartbeats 8000000 in
set_option maxRecDepth 100000 in
theorem FilterMay.walk (k : Nat) (x0 x1 x2 x3 x4 x5 x6 x7 x8 x9 x10 x11 : Int) (A1 : Option Addr) (c1 : Nat) (l1 : List S28) (col : Int) (types : List Int) (q1 q2 q3 : Int) (fit : List S28) (z : S26) (zs : List S26) (left : Bool) (w : World)
    (hr1 : Kd.C k28 w A1 l1.length l1) (hc1 : l1.length ≤ c1) (hlen : 0 < types.length)
    (hsh : thresherlaw19_shown.f k = some true) (hmade : thresherlaw19_made.f x0 x1 x2 x3 x4 x5 x6 x7 x8 x9 x10 x11 = some (types, q1, q2, q3))
    (hfit : thresherref19_Fit.f types q1 q2 q3 l1 15 = some fit) (hlf : fit.length ≤ 15) (hzero : thresherref04_Fit.f k types q1 q2 q3 [] = some (z :: zs))
    (hleft : filter_May.f k types q1 q2 q3 (fit ++ [⟨col, 1, z⟩]) = some left) (hl1 : left = true → 0 ≤ col ∧ col < (types.length : Int)) (hl0 : left = false → col ≠ 0)
    (hmid : filter_May.f k types q1 q2 q3 (fit ++ [⟨0, col, z⟩]) = some (opOk types col))
    (hright : filter_May.f k types q1 q2 q3 ((fit ++ [⟨0, 2, z⟩]) ++ [⟨0, 1, z⟩]) = some (decide ((fit.length : Int) < 15)))
    (hwrong : filter_May.f k types q1 q2 q3 (fit ++ [⟨0, 1, ⟨1, ⟨#[120]⟩⟩⟩]) = some false) (hnil : filter_May.f k types q1 q2 q3 [] = some true) :
    Calls Try.prog 4 #[.agg #[.int .u8 x0, .int .u8 x1, .int .u8 x2, .int .u8 x3, .int .u8 x4, .int .u8 x5, .int .u8 x6, .int .u8 x7, .int .u8 x8, .int .u8 x9, .int .u8 x10, .int .u8 x11],
      .slice A1 l1.length c1, .int .i64 col] w fun e w' => e = .returned (.bool true) ∧ Below w.heap.size w w' := by
  have HR1 := Aside0.mk hr1
  have HSH := Aside0.mk hsh
  have HMADE := Aside0.mk hmade
  have HFIT := Aside0.mk hfit
  have HLF := Aside0.mk hlf
  have HZERO := Aside0.mk hzero
  have HLEFT := Aside0.mk hleft
  have HL1 := Aside0.mk hl1
  have HL0 := Aside0.mk hl0
  have HMID := Aside0.mk hmid
  have HRIGHT := Aside0.mk hright
  have HWRONG := Aside0.mk hwrong
  have HNIL := Aside0.mk hnil
  have HLEN := Aside0.mk hlen
  clear hr1 hsh hmade hfit hzero hleft hl1 hl0 hmid hright hwrong hnil hlf hlen
  go_enter Try.func4, Try.ntmps4
  go_wp2_with fail
  refine (thresherlaw19_shown.calls k true _ HSH.out).mono ?_
  rintro e w1 ⟨rfl, hb1⟩
  have B3 := Aside0.mk (show w1.heap[w.heap.size]? = some (.cells #[.int .u8 x0, .int .u8 x1, .int .u8 x2, .int .u8 x3, .int .u8 x4, .int .u8 x5, .int .u8 x6, .int .u8 x7, .int .u8 x8, .int .u8 x9, .int .u8 x10, .int .u8 x11] 24 (0, 0)) from blk_below (blk_new w _) hb1)
  have HB1 := Aside0.mk (show Below w.heap.size w w1 from below_step (below_alloc (Below.refl _ _) _) hb1)
  clear hb1
  have k0 : w1.cell? ⟨w.heap.size, 0, none⟩ = some (.int .u8 x0) := (blk_cell B3.out 0).trans rfl
  have k1 : w1.cell? ⟨w.heap.size, 1, none⟩ = some (.int .u8 x1) := (blk_cell B3.out 1).trans rfl
  have k2 : w1.cell? ⟨w.heap.size, 2, none⟩ = some (.int .u8 x2) := (blk_cell B3.out 2).trans rfl
  have k3 : w1.cell? ⟨w.heap.size, 3, none⟩ = some (.int .u8 x3) := (blk_cell B3.out 3).trans rfl
  have k4 : w1.cell? ⟨w.heap.size, 4, none⟩ = some (.int .u8 x4) := (blk_cell B3.out 4).trans rfl
  have k5 : w1.cell? ⟨w.heap.size, 5, none⟩ = some (.int .u8 x5) := (blk_cell B3.out 5).trans rfl
  have k6 : w1.cell? ⟨w.heap.size, 6, none⟩ = some (.int .u8 x6) := (blk_cell B3.out 6).trans rfl
  have k7 : w1.cell? ⟨w.heap.size, 7, none⟩ = some (.int .u8 x7) := (blk_cell B3.out 7).trans rfl
  have k8 : w1.cell? ⟨w.heap.size, 8, none⟩ = some (.int .u8 x8) := (blk_cell B3.out 8).trans rfl
  have k9 : w1.cell? ⟨w.heap.size, 9, none⟩ = some (.int .u8 x9) := (blk_cell B3.out 9).trans rfl
  have k10 : w1.cell? ⟨w.heap.size, 10, none⟩ = some (.int .u8 x10) := (blk_cell B3.out 10).trans rfl
  have k11 : w1.cell? ⟨w.heap.size, 11, none⟩ = some (.int .u8 x11) := (blk_cell B3.out 11).trans rfl
  go_wp2_with fail
  refine (thresherlaw19_made.calls x0 x1 x2 x3 x4 x5 x6 x7 x8 x9 x10 x11 types q1 q2 q3 _ HMADE.out).mono ?_
  rintro e w2 ⟨v2, rfl, h1, h2⟩
  obtain ⟨At, ct, rfl⟩ := Kd.R_slice h1
  have HT := Aside0.mk (Kd.R_reads' h1).2.2
  have HTC := Aside0.mk (Kd.R_reads' h1).2.1
  have HB2 := Aside0.mk (below_step HB1.out h2)
  clear h1 h2 HB1 B3 k0 k1 k2 k3 k4 k5 k6 k7 k8 k9 k10 k11
  go_wp2_with fail
  refine (thresherref19_Fit.calls At ct types q1 q2 q3 A1 c1 l1 15 fit _ (Kd.C_alloc HT.out _) HTC.out (Kd.C_below HR1.out (below_alloc HB2.out _)) hc1 HFIT.out).mono ?_
  rintro e w3 ⟨v3, rfl, h1, h2⟩
  obtain ⟨Af, cf, rfl⟩ := Kd.R_slice h1
  have HF := Aside0.mk (Kd.R_reads' h1).2.2
  have HT := Aside0.mk (Kd.C_below (Kd.C_alloc HT.out _) h2)
  have B8 := Aside0.mk (blk_below (blk_new w2 _) h2)
  have HB3 := Aside0.mk (below_step (below_alloc HB2.out _) h2)
  clear h1 h2 HB2
  have k0 := fun o => (blk_cell (blk_alloc B8.out o) 0).trans rfl
  have k1 := fun o => (blk_cell (blk_alloc B8.out o) 1).trans rfl
  have k2 := fun o => (blk_cell (blk_alloc B8.out o) 2).trans rfl
  have k3 := fun o => (blk_cell (blk_alloc B8.out o) 3).trans rfl
  go_wp2_with fail
  refine (thresherref04_Fit.calls k At ct types q1 q2 q3 none 0 [] (z :: zs) _ (Kd.C_alloc HT.out _) HTC.out (Kd.C_nil k26 _) (Nat.le_refl _) HZERO.out).mono ?_
  rintro e w4 ⟨v4, rfl, h1, h2⟩
  obtain ⟨Az, cz, rfl⟩ := Kd.R_slice h1
  obtain ⟨ad, ef, hf0, hf1⟩ := at_T26 (Kd.R_reads' h1).2.2 (0 : Int) (by omega) (by simp)
  cases ef
  replace hf0 : w4.cell? ad = some (.int .i64 z.f0) := hf0
  replace hf1 : w4.cell? ⟨ad.block, ad.off + 1, none⟩ = some (.string z.f1) := hf1
  have F := Aside0.mk (show MSt w (w4.alloc (.cells #[.int .i64 z.f0, .string z.f1] 26)) w2.heap.size w3.heap.size w4.heap.size At ct types q1 q2 q3 Af cf fit z from
    ⟨blk_alloc (blk_below (blk_alloc B8.out _) h2) _, blk_alloc (blk_below (blk_new w3 _) h2) _, blk_new w4 _, Kd.C_alloc (Kd.C_below (Kd.C_alloc HT.out _) h2) _, HTC.out, Kd.C_alloc (Kd.C_below (Kd.C_alloc HF.out _) h2) _, below_alloc (below_step (below_alloc HB3.out _) h2) _⟩)
  clear h1 h2 HB3 B8 HT HF k0 k1 k2 k3
  have hlz : (0 : Int) < ((z :: zs).length : Int) := by simp only [List.length_cons]; omega
  go_upto_region 6 with fail
  obtain ⟨W4, hW4⟩ : ∃ W4 : World, W4 = w4.alloc (.cells #[.int .i64 z.f0, .string z.f1] 26) := ⟨_, rfl⟩
  rw [← hW4] at F ⊢
  clear hW4 hf0 hf1
  refine start_ (n := 8) (S := fun w' => w'.cell? ⟨w2.heap.size, 0, none⟩ = some (.slice At types.length ct) ∧ w'.cell? ⟨w2.heap.size, 1, none⟩ = some (.int .i64 q1) ∧ w'.cell? ⟨w2.heap.size, 2, none⟩ = some (.int .i64 q2) ∧ w'.cell? ⟨w2.heap.size, 3, none⟩ = some (.int .i64 q3) ∧ w'.cell? ⟨w3.heap.size, 0, none⟩ = some (.slice Af fit.length cf) ∧ w'.cell? ⟨w4.heap.size, 0, none⟩ = some (.int .i64 z.f0) ∧ w'.cell? ⟨w4.heap.size, 1, none⟩ = some (.string z.f1)) (ds := []) #[false, false, false, false, false, false, false, false] (by kernel_rfl) rfl rfl F.out.c8 (fun hHeld => ?_); refine with_tabW FilterMay.tab6 FilterMay.bits6 (fun HT_ HW_ => ?_)
  refine take_ (i := 0) (N := (some 28)) (v := ?_) (a' := ?_) #[true, false, false, false, false, false, false, false] rfl rfl (take_ofW HT_.out HW_.out (by kernel_rfl)) (fun _ _ _ h => h) (Or.inl ⟨by rfl, ?_⟩) hHeld ?_ ?_
  rotate_left
  · rintro w' ⟨s0, s1, s2, s3, s4, s5, s6⟩
    go_simp
    with_reducible rfl
  rotate_left
  · simp only [Act.put, List.setIfInBounds_toArray, List.set_cons_zero, List.set_cons_succ, i64_w, i32_w]
    rfl
  refine pure_ (i := 1) (N := (some 29)) (v := ?_) (a' := ?_) #[true, true, false, false, false, false, false, false] rfl rfl (any_of HT_.out (by kernel_rfl)) (fun _ _ _ h => h) (Or.inl ⟨by rfl, ?_⟩) ?_ ?_
  rotate_left
  · intro w'
    go_simp
    with_reducible rfl
  rotate_left
  · simp only [Act.put, List.setIfInBounds_toArray, List.set_cons_zero, List.set_cons_succ, i64_w, i32_w]
    rfl
  refine pure_ (i := 2) (N := (some 30)) (v := ?_) (a' := ?_) #[true, true, true, false, false, false, false, false] rfl rfl (any_of HT_.out (by kernel_rfl)) (fun _ _ _ h => h) (Or.inl ⟨by rfl, ?_⟩) ?_ ?_
  rotate_left
  · intro w'
    go_simp
    with_reducible rfl
  rotate_left
  · simp only [Act.put, List.setIfInBounds_toArray, List.set_cons_zero, List.set_cons_succ, i64_w, i32_w]
    rfl
  refine take_ (i := 3) (N := (some 31)) (v := ?_) (a' := ?_) #[true, true, true, true, false, false, false, false] rfl rfl (take_ofW HT_.out HW_.out (by kernel_rfl)) (fun _ _ _ h => h) (Or.inl ⟨by rfl, ?_⟩) hHeld ?_ ?_
  rotate_left
  · rintro w' ⟨s0, s1, s2, s3, s4, s5, s6⟩
    go_simp
    with_reducible rfl
  rotate_left
  · simp only [Act.put, List.setIfInBounds_toArray, List.set_cons_zero, List.set_cons_succ, i64_w, i32_w]
    rfl
  refine pure_ (i := 4) (N := (some 32)) (v := ?_) (a' := ?_) #[true, true, true, true, true, false, false, false] rfl rfl (any_of HT_.out (by kernel_rfl)) (fun _ _ _ h => h) (Or.inl ⟨by rfl, ?_⟩) ?_ ?_
  rotate_left
  · intro w'
    go_simp
    with_reducible rfl
  rotate_left
  · simp only [Act.put, List.setIfInBounds_toArray, List.set_cons_zero, List.set_cons_succ, i64_w, i32_w]
    rfl
  refine one_ (i := 5) (N := (some 33)) #[true, true, true, true, true, true, false, false] rfl rfl (one_of HT_.out (by kernel_rfl)) (by decide) (fun K hK => ?_)
  refine goesC_ Try.func17 (by kernel_rfl) rfl #[.agg #[.int .i64 (col), .int .i64 (1), .int .i64 (z.f0), .string (z.f1)], .pointer (some ⟨w3.heap.size, 0, none⟩)] (by rfl) rfl rfl rfl (by (try simp only [List.map_toArray, List.map_cons, List.map_nil]); first | done | rfl) ?_
  refine (with_call (F.out.drew) (by have := HLF.out; omega) (col) (1) (z.f0) (z.f1)).mono ?_
  rintro e w5 ⟨v5, rfl, h1, h2⟩
  obtain ⟨A5, c5, rfl⟩ := Kd.R_slice h1
  refine ⟨_, rfl, ?_⟩
  have HV5 := Aside0.mk h1
  have F5 := Aside0.mk (MSt.step (F.out.drew) h2)
  clear h1 h2 F
  refine hK.out _ _ F5.out.c8 (fun hHeld => ?_)
  clear hK K
  refine norm_ (a' := ?_) ?_ ?_
  rotate_left
  · show Act.put _ (some 33) _ = _
    simp only [Act.put, List.setIfInBounds_toArray, List.set_cons_zero, List.set_cons_succ, i64_w, i32_w]
    rfl
  refine one_ (i := 6) (N := (some 34)) #[true, true, true, true, true, true, true, false] rfl rfl (one_of HT_.out (by kernel_rfl)) (by decide) (fun K hK => ?_)
  refine goes_ Try.func18 (by kernel_rfl) rfl #[.agg #[.slice At types.length ct, .int .i64 q1, .int .i64 q2, .int .i64 q3], .slice (A5) ((fit ++ [(⟨col, 1, ⟨z.f0, z.f1⟩⟩ : S28)]).length) (c5)] (by rfl) rfl rfl (by (try simp only [List.map_toArray, List.map_cons, List.map_nil]); first | done | rfl) ?_
  refine (may_call k (F5.out) ((Kd.R_reads' HV5.out).2.2) rfl ((Kd.R_reads' HV5.out).2.1) HLEFT.out).mono ?_
  rintro e w6 ⟨rfl, h3⟩
  refine ⟨_, rfl, ?_⟩
  have F := Aside0.mk h3
  clear h3
  clear F5 HV5
  refine hK.out _ _ F.out.c8 (fun hHeld => ?_)
  clear hK K
  refine norm_ (a' := ?_) ?_ ?_
  rotate_left
  · show Act.put _ (some 34) _ = _
    simp only [Act.put, List.setIfInBounds_toArray, List.set_cons_zero, List.set_cons_succ, i64_w, i32_w]
    rfl
  refine pure_ (i := 7) (N := (some 12)) (v := ?_) (a' := ?_) #[true, true, true, true, true, true, true, true] rfl rfl (any_of HT_.out (by kernel_rfl)) (fun _ _ _ h => h) (Or.inl ⟨by rfl, ?_⟩) ?_ ?_
  rotate_left
  · intro w'
    go_simp
    with_reducible rfl
  rotate_left
  · simp only [Act.put, List.setIfInBounds_toArray, List.set_cons_zero, List.set_cons_succ, i64_w, i32_w]
    rfl
  refine done_ (done_of HT_.out (by kernel_rfl)) ?_
  go_upto_region 7 with fail
  refine start_ (n := 8) (S := fun w' => w'.cell? ⟨w2.heap.size, 0, none⟩ = some (.slice At types.length ct) ∧ w'.cell? ⟨w2.heap.size, 1, none⟩ = some (.int .i64 q1) ∧ w'.cell? ⟨w2.heap.size, 2, none⟩ = some (.int .i64 q2) ∧ w'.cell? ⟨w2.heap.size, 3, none⟩ = some (.int .i64 q3) ∧ w'.cell? ⟨w3.heap.size, 0, none⟩ = some (.slice Af fit.length cf) ∧ w'.cell? ⟨w4.heap.size, 0, none⟩ = some (.int .i64 z.f0) ∧ w'.cell? ⟨w4.heap.size, 1, none⟩ = some (.string z.f1)) (ds := []) #[false, false, false, false, false, false, false, false] (by kernel_rfl) rfl rfl F.out.c8 (fun hHeld => ?_); refine with_tabW FilterMay.tab7 FilterMay.bits7 (fun HT_ HW_ => ?_)
  refine take_ (i := 0) (N := (some 35)) (v := ?_) (a' := ?_) #[true, false, false, false, false, false, false, false] rfl rfl (take_ofW HT_.out HW_.out (by kernel_rfl)) (fun _ _ _ h => h) (Or.inl ⟨by rfl, ?_⟩) hHeld ?_ ?_
  rotate_left
  · rintro w' ⟨s0, s1, s2, s3, s4, s5, s6⟩
    go_simp
    with_reducible rfl
  rotate_left
  · simp only [Act.put, List.setIfInBounds_toArray, List.set_cons_zero, List.set_cons_succ, i64_w, i32_w]
    rfl
  refine pure_ (i := 1) (N := (some 36)) (v := ?_) (a' := ?_) #[true, true, false, false, false, false, false, false] rfl rfl (any_of HT_.out (by kernel_rfl)) (fun _ _ _ h => h) (Or.inl ⟨by rfl, ?_⟩) ?_ ?_
  rotate_left
  · intro w'
    go_simp
    with_reducible rfl
  rotate_left
  · simp only [Act.put, List.setIfInBounds_toArray, List.set_cons_zero, List.set_cons_succ, i64_w, i32_w]
    rfl
  refine pure_ (i := 2) (N := (some 37)) (v := ?_) (a' := ?_) #[true, true, true, false, false, false, false, false] rfl rfl (any_of HT_.out (by kernel_rfl)) (fun _ _ _ h => h) (Or.inl ⟨by rfl, ?_⟩) ?_ ?_
  rotate_left
  · intro w'
    go_simp
    with_reducible rfl
  rotate_left
  · simp only [Act.put, List.setIfInBounds_toArray, List.set_cons_zero, List.set_cons_succ, i64_w, i32_w]
    rfl
  refine take_ (i := 3) (N := (some 38)) (v := ?_) (a' := ?_) #[true, true, true, true, false, false, false, false] rfl rfl (take_ofW HT_.out HW_.out (by kernel_rfl)) (fun _ _ _ h => h) (Or.inl ⟨by rfl, ?_⟩) hHeld ?_ ?_
  rotate_left
  · rintro w' ⟨s0, s1, s2, s3, s4, s5, s6⟩
    go_simp
    with_reducible rfl
  rotate_left
  · simp only [Act.put, List.setIfInBounds_toArray, List.set_cons_zero, List.set_cons_succ, i64_w, i32_w]
    rfl
  refine pure_ (i := 4) (N := (some 39)) (v := ?_) (a' := ?_) #[true, true, true, true, true, false, false, false] rfl rfl (any_of HT_.out (by kernel_rfl)) (fun _ _ _ h => h) (Or.inl ⟨by rfl, ?_⟩) ?_ ?_
  rotate_left
  · intro w'
    go_simp
    with_reducible rfl
  rotate_left
  · simp only [Act.put, List.setIfInBounds_toArray, List.set_cons_zero, List.set_cons_succ, i64_w, i32_w]
    rfl
  refine one_ (i := 5) (N := (some 40)) #[true, true, true, true, true, true, false, false] rfl rfl (one_of HT_.out (by kernel_rfl)) (by decide) (fun K hK => ?_)
  refine goesC_ Try.func17 (by kernel_rfl) rfl #[.agg #[.int .i64 (0), .int .i64 (col), .int .i64 (z.f0), .string (z.f1)], .pointer (some ⟨w3.heap.size, 0, none⟩)] (by rfl) rfl rfl rfl (by (try simp only [List.map_toArray, List.map_cons, List.map_nil]); first | done | rfl) ?_
  refine (with_call (F.out.drew) (by have := HLF.out; omega) (0) (col) (z.f0) (z.f1)).mono ?_
  rintro e w5 ⟨v5, rfl, h1, h2⟩
  obtain ⟨A5, c5, rfl⟩ := Kd.R_slice h1
  refine ⟨_, rfl, ?_⟩
  have HV5 := Aside0.mk h1
  have F5 := Aside0.mk (MSt.step (F.out.drew) h2)
  clear h1 h2 F
  refine hK.out _ _ F5.out.c8 (fun hHeld => ?_)
  clear hK K
  refine norm_ (a' := ?_) ?_ ?_
  rotate_left
  · show Act.put _ (some 40) _ = _
    simp only [Act.put, List.setIfInBounds_toArray, List.set_cons_zero, List.set_cons_succ, i64_w, i32_w]
    rfl
  refine one_ (i := 6) (N := (some 41)) #[true, true, true, true, true, true, true, false] rfl rfl (one_of HT_.out (by kernel_rfl)) (by decide) (fun K hK => ?_)
  refine goes_ Try.func18 (by kernel_rfl) rfl #[.agg #[.slice At types.length ct, .int .i64 q1, .int .i64 q2, .int .i64 q3], .slice (A5) ((fit ++ [(⟨0, col, ⟨z.f0, z.f1⟩⟩ : S28)]).length) (c5)] (by rfl) rfl rfl (by (try simp only [List.map_toArray, List.map_cons, List.map_nil]); first | done | rfl) ?_
  refine (may_call k (F5.out) ((Kd.R_reads' HV5.out).2.2) rfl ((Kd.R_reads' HV5.out).2.1) HMID.out).mono ?_
  rintro e w6 ⟨rfl, h3⟩
  refine ⟨_, rfl, ?_⟩
  have F := Aside0.mk h3
  clear h3
  clear F5 HV5
  refine hK.out _ _ F.out.c8 (fun hHeld => ?_)
  clear hK K
  refine norm_ (a' := ?_) ?_ ?_
  rotate_left
  · show Act.put _ (some 41) _ = _
    simp only [Act.put, List.setIfInBounds_toArray, List.set_cons_zero, List.set_cons_succ, i64_w, i32_w]
    rfl
  refine pure_ (i := 7) (N := (some 13)) (v := ?_) (a' := ?_) #[true, true, true, true, true, true, true, true] rfl rfl (any_of HT_.out (by kernel_rfl)) (fun _ _ _ h => h) (Or.inl ⟨by rfl, ?_⟩) ?_ ?_
  rotate_left
  · intro w'
    go_simp
    with_reducible rfl
  rotate_left
  · simp only [Act.put, List.setIfInBounds_toArray, List.set_cons_zero, List.set_cons_succ, i64_w, i32_w]
    rfl
  refine done_ (done_of HT_.out (by kernel_rfl)) ?_
  obtain ⟨k0, k1, k2, k3, k4, k5, k6⟩ := F.out.c8
  have hty : (0 : Int) < (types.length : Int) := by have := HLEN.out; omega
  go_upto_region 8 with fail
  go_cut [14] (fun v14 wc => v14 = .bool (opOk types col) ∧ Aside0 (wc = w6))
  case first =>
    obtain ⟨ad0, e0, ht0⟩ := Kd.at_int F.out.ht 0 (by omega) (by have := HLEN.out; omega)
    cases e0
    replace ht0 : w6.cell? ad0 = some (.int .i64 (rd types 0)) := ht0
    by_cases c1 : 1 ≤ col
    · have d1 : decide (col ≥ 1) = true := decide_eq_true c1
      by_cases c6 : col ≤ 6
      · have d6 : decide (col ≤ 6) = true := decide_eq_true c6
        have e : opOk types col = true := by simp [opOk, c1, c6]
        have E := Aside0.mk e
        clear e c1 c6
        go_wp2
        go_meet
        case rel => exact ⟨by rw [E.out], ⟨rfl⟩⟩
      · have d6 : decide (col ≤ 6) = false := decide_eq_false c6
        by_cases c7 : col = 7
        · have d7 : (col == 7) = true := beq_iff_eq.2 c7
          have e : opOk types col = (rd types 0 == 3) := by simp [opOk, c7]; rfl
          have E := Aside0.mk e
          clear e c1 c6 c7
          go_wp2
          go_meet
          case rel => exact ⟨by rw [E.out], ⟨rfl⟩⟩
        · have d7 : (col == 7) = false := beq_eq_false_iff_ne.2 c7
          have e : opOk types col = false := by simp [opOk, c6, c7]
          have E := Aside0.mk e
          clear e c1 c6 c7
          go_wp2
          go_meet
          case rel => exact ⟨by rw [E.out], ⟨rfl⟩⟩
    · have d1 : decide (col ≥ 1) = false := decide_eq_false c1
      have d7 : (col == 7) = false := beq_eq_false_iff_ne.2 (by omega)
      have c7 : col ≠ 7 := by omega
      have e : opOk types col = false := by simp [opOk, c1, c7]
      have E := Aside0.mk e
      clear e c1 c7
      go_wp2
      go_meet
      case rel => exact ⟨by rw [E.out], ⟨rfl⟩⟩
  case rest =>
    obtain ⟨rfl, ⟨rfl⟩⟩ := hcut
    go_upto_region 9 with fail
    go_cut [15] (fun v15 wd => v15 = .bool (decide ((fit.length : Int) < 15)) ∧ Aside0 (MSt w wd w2.heap.size w3.heap.size w4.heap.size At ct types q1 q2 q3 Af cf fit z))
    case first =>
      clear k0 k1 k2 k3 k4 k5 k6
      generalize wc = W9 at F ⊢
      refine start_ (n := 11) (S := fun w' => w'.cell? ⟨w2.heap.size, 0, none⟩ = some (.slice At types.length ct) ∧ w'.cell? ⟨w2.heap.size, 1, none⟩ = some (.int .i64 q1) ∧ w'.cell? ⟨w2.heap.size, 2, none⟩ = some (.int .i64 q2) ∧ w'.cell? ⟨w2.heap.size, 3, none⟩ = some (.int .i64 q3) ∧ w'.cell? ⟨w3.heap.size, 0, none⟩ = some (.slice Af fit.length cf) ∧ w'.cell? ⟨w4.heap.size, 0, none⟩ = some (.int .i64 z.f0) ∧ w'.cell? ⟨w4.heap.size, 1, none⟩ = some (.string z.f1)) (ds := []) #[false, false, false, false, false, false, false, false, false, false, false] (by kernel_rfl) rfl rfl F.out.c8 (fun hHeld => ?_); refine with_tabW FilterMay.tab9 FilterMay.bits9 (fun HT_ HW_ => ?_)
      refine take_ (i := 0) (N := (some 59)) (v := ?_) (a' := ?_) #[true, false, false, false, false, false, false, false, false, false, false] rfl rfl (take_ofW HT_.out HW_.out (by kernel_rfl)) (fun _ _ _ h => h) (Or.inl ⟨by rfl, ?_⟩) hHeld ?_ ?_
      rotate_left
      · rintro w' ⟨s0, s1, s2, s3, s4, s5, s6⟩
        go_simp
        with_reducible rfl
      rotate_left
      · simp only [Act.put, List.setIfInBounds_toArray, List.set_cons_zero, List.set_cons_succ, i64_w, i32_w]
        rfl
      refine pure_ (i := 1) (N := (some 60)) (v := ?_) (a' := ?_) #[true, true, false, false, false, false, false, false, false, false, false] rfl rfl (any_of HT_.out (by kernel_rfl)) (fun _ _ _ h => h) (Or.inl ⟨by rfl, ?_⟩) ?_ ?_
      rotate_left
      · intro w'
        go_simp
        with_reducible rfl
      rotate_left
      · simp only [Act.put, List.setIfInBounds_toArray, List.set_cons_zero, List.set_cons_succ, i64_w, i32_w]
        rfl
      refine take_ (i := 2) (N := (some 61)) (v := ?_) (a' := ?_) #[true, true, true, false, false, false, false, false, false, false, false] rfl rfl (take_ofW HT_.out HW_.out (by kernel_rfl)) (fun _ _ _ h => h) (Or.inl ⟨by rfl, ?_⟩) hHeld ?_ ?_
      rotate_left
      · rintro w' ⟨s0, s1, s2, s3, s4, s5, s6⟩
        go_simp
        with_reducible rfl
      rotate_left
      · simp only [Act.put, List.setIfInBounds_toArray, List.set_cons_zero, List.set_cons_succ, i64_w, i32_w]
        rfl
      refine pure_ (i := 3) (N := (some 62)) (v := ?_) (a' := ?_) #[true, true, true, true, false, false, false, false, false, false, false] rfl rfl (any_of HT_.out (by kernel_rfl)) (fun _ _ _ h => h) (Or.inl ⟨by rfl, ?_⟩) ?_ ?_
      rotate_left
      · intro w'
        go_simp
        with_reducible rfl
      rotate_left
      · simp only [Act.put, List.setIfInBounds_toArray, List.set_cons_zero, List.set_cons_succ, i64_w, i32_w]
        rfl
      refine take_ (i := 5) (N := (some 64)) (v := ?_) (a' := ?_) #[true, true, true, true, false, true, false, false, false, false, false] rfl rfl (take_ofW HT_.out HW_.out (by kernel_rfl)) (fun _ _ _ h => h) (Or.inl ⟨by rfl, ?_⟩) hHeld ?_ ?_
      rotate_left
      · rintro w' ⟨s0, s1, s2, s3, s4, s5, s6⟩
        go_simp
        with_reducible rfl
      rotate_left
      · simp only [Act.put, List.setIfInBounds_toArray, List.set_cons_zero, List.set_cons_succ, i64_w, i32_w]
        rfl
      refine pure_ (i := 6) (N := (some 65)) (v := ?_) (a' := ?_) #[true, true, true, true, false, true, true, false, false, false, false] rfl rfl (any_of HT_.out (by kernel_rfl)) (fun _ _ _ h => h) (Or.inl ⟨by rfl, ?_⟩) ?_ ?_
      rotate_left
      · intro w'
        go_simp
        with_reducible rfl
      rotate_left
      · simp only [Act.put, List.setIfInBounds_toArray, List.set_cons_zero, List.set_cons_succ, i64_w, i32_w]
        rfl
      refine two_ (i := 4) (j := 7) (Ni := (some 63)) (Nj := (some 66)) #[true, true, true, true, true, true, true, false, false, false, false] #[true, true, true, true, false, true, true, true, false, false, false] rfl rfl rfl rfl (two_of HT_.out (by kernel_rfl)) (by decide) (by decide) (fun K hK => ?_) (fun K hK => ?_)
      · skip
        refine goesC_ Try.func17 (by kernel_rfl) rfl #[.agg #[.int .i64 (0), .int .i64 (2), .int .i64 (z.f0), .string (z.f1)], .pointer (some ⟨w3.heap.size, 0, none⟩)] (by rfl) rfl rfl rfl (by (try simp only [List.map_toArray, List.map_cons, List.map_nil]); first | done | rfl) ?_
        refine (with_call (F.out.drew) (by have := HLF.out; omega) (0) (2) (z.f0) (z.f1)).mono ?_
        rintro e w5 ⟨v5, rfl, h1, h2⟩
        obtain ⟨A5, c5, rfl⟩ := Kd.R_slice h1
        refine ⟨_, rfl, ?_⟩
        have HV5 := Aside0.mk h1
        have F5 := Aside0.mk (MSt.step (F.out.drew) h2)
        refine hK.out _ _ F5.out.c8 (fun hHeld => ?_)
        clear hK K
        refine norm_ (a' := ?_) ?_ ?_
        rotate_left
        · show Act.put _ (some 63) _ = _
          simp only [Act.put, List.setIfInBounds_toArray, List.set_cons_zero, List.set_cons_succ, i64_w, i32_w]
          rfl
        refine one_ (i := 7) (N := (some 66)) #[true, true, true, true, true, true, true, true, false, false, false] rfl rfl (one_of HT_.out (by kernel_rfl)) (by decide) (fun K hK => ?_)
        refine value_ (w1 := ?_) (v := ?_) (by rfl) rfl ?_ ?_
        rotate_left 2
        · go_simp
          constructor
          · rfl
          · rfl
        refine hK.out _ _ (F5.out.alloc _).c8 (fun hHeld => ?_)
        clear hK K
        refine norm_ (a' := ?_) ?_ ?_
        rotate_left
        · show Act.put _ (some 66) _ = _
          simp only [Act.put, List.setIfInBounds_toArray, List.set_cons_zero, List.set_cons_succ, i64_w, i32_w]
          rfl
        refine one_ (i := 8) (N := (some 67)) #[true, true, true, true, true, true, true, true, true, false, false] rfl rfl (one_of HT_.out (by kernel_rfl)) (by decide) (fun K hK => ?_)
        refine Kd.R_append_rows_step k28 (w0 := W9.drew) (W9.drew).heap.size (by rfl) (.tmp 63) (.tmp 66) 37 28 (.agg #[.int .i64 0, .int .i64 0, .int .i64 0, .string ⟨#[]⟩]) 40 (by rfl) Try.underlying37 info28 rfl (by decide) (by decide) (.slice A5 (fit ++ [(⟨0, 2, ⟨z.f0, z.f1⟩⟩ : S28)]).length c5) (fit ++ [(⟨0, 2, ⟨z.f0, z.f1⟩⟩ : S28)]) [(⟨0, 1, ⟨z.f0, z.f1⟩⟩ : S28)] _ 1 1 (fun _ => True) (fun k => some k ≠ (Value.slice A5 (fit ++ [(⟨0, 2, ⟨z.f0, z.f1⟩⟩ : S28)]).length c5).ownBlock) (by rfl) (by rfl) (Kd.R_alloc HV5.out (.cells #[.int .i64 0, .int .i64 1, .int .i64 z.f0, .string z.f1] 28)) (C_blk (blk_new w5 (.cells #[.int .i64 0, .int .i64 1, .int .i64 z.f0, .string z.f1] 28)) (reps1 _ (⟨0, 1, ⟨z.f0, z.f1⟩⟩ : S28)) (by simp)) (fun x cs h => k28_made h) (fun _ hk => ⟨trivial, hk⟩) (fun _ _ => trivial) (below_alloc h2 (.cells #[.int .i64 0, .int .i64 1, .int .i64 z.f0, .string z.f1] 28)) (below_alloc h2 (.cells #[.int .i64 0, .int .i64 1, .int .i64 z.f0, .string z.f1] 28)).size (by have := HLF.out; simp; omega) ?_
        intro v8 w8 ho hb hg hat
        obtain ⟨A8, c8, rfl⟩ := Kd.R_slice ho
        have HV8 := Aside0.mk ho
        have F8 := Aside0.mk (MSt.step (F.out.drew) hb)
        clear ho hb hg hat h1 h2
        refine hK.out _ _ F8.out.c8 (fun hHeld => ?_)
        clear hK K
        refine norm_ (a' := ?_) ?_ ?_
        rotate_left
        · show Act.put _ (some 67) _ = _
          simp only [Act.put, List.setIfInBounds_toArray, List.set_cons_zero, List.set_cons_succ, i64_w, i32_w]
          rfl
        refine one_ (i := 9) (N := (some 68)) #[true, true, true, true, true, true, true, true, true, true, false] rfl rfl (one_of HT_.out (by kernel_rfl)) (by decide) (fun K hK => ?_)
        refine goes_ Try.func18 (by kernel_rfl) rfl #[.agg #[.slice At types.length ct, .int .i64 q1, .int .i64 q2, .int .i64 q3], .slice (A8) ((fit ++ [(⟨0, 2, ⟨z.f0, z.f1⟩⟩ : S28)] ++ [(⟨0, 1, ⟨z.f0, z.f1⟩⟩ : S28)]).length) (c8)] (by rfl) rfl rfl (by (try simp only [List.map_toArray, List.map_cons, List.map_nil]); first | done | rfl) ?_
        refine (may_call k (F8.out) ((Kd.R_reads' HV8.out).2.2) rfl ((Kd.R_reads' HV8.out).2.1) HRIGHT.out).mono ?_
        rintro e w6 ⟨rfl, h3⟩
        refine ⟨_, rfl, ?_⟩
        have F := Aside0.mk h3
        clear h3
        clear F8 HV8 F5 HV5
        refine hK.out _ _ F.out.c8 (fun hHeld => ?_)
        clear hK K
        refine norm_ (a' := ?_) ?_ ?_
        rotate_left
        · show Act.put _ (some 68) _ = _
          simp only [Act.put, List.setIfInBounds_toArray, List.set_cons_zero, List.set_cons_succ, i64_w, i32_w]
          rfl
        refine pure_ (i := 10) (N := (some 15)) (v := ?_) (a' := ?_) #[true, true, true, true, true, true, true, true, true, true, true] rfl rfl (any_of HT_.out (by kernel_rfl)) (fun _ _ _ h => h) (Or.inl ⟨by rfl, ?_⟩) ?_ ?_
        rotate_left
        · intro w'
          go_simp
          with_reducible rfl
        rotate_left
        · simp only [Act.put, List.setIfInBounds_toArray, List.set_cons_zero, List.set_cons_succ, i64_w, i32_w]
          rfl
        refine done_ (done_of HT_.out (by kernel_rfl)) ?_
        go_wp2
        go_meet
        case rel => exact ⟨rfl, ⟨F.out⟩⟩
      · skip
        refine value_ (w1 := ?_) (v := ?_) (by rfl) rfl ?_ ?_
        rotate_left 2
        · go_simp
          constructor
          · rfl
          · rfl
        refine hK.out _ _ (F.out.drew.alloc _).c8 (fun hHeld => ?_)
        clear hK K
        refine norm_ (a' := ?_) ?_ ?_
        rotate_left
        · show Act.put _ (some 66) _ = _
          simp only [Act.put, List.setIfInBounds_toArray, List.set_cons_zero, List.set_cons_succ, i64_w, i32_w]
          rfl
        refine one_ (i := 4) (N := (some 63)) #[true, true, true, true, true, true, true, true, false, false, false] rfl rfl (one_of HT_.out (by kernel_rfl)) (by decide) (fun K hK => ?_)
        refine goesC_ Try.func17 (by kernel_rfl) rfl #[.agg #[.int .i64 (0), .int .i64 (2), .int .i64 (z.f0), .string (z.f1)], .pointer (some ⟨w3.heap.size, 0, none⟩)] (by rfl) rfl rfl rfl (by (try simp only [List.map_toArray, List.map_cons, List.map_nil]); first | done | rfl) ?_
        refine (with_call (F.out.drew.alloc (.cells #[.int .i64 0, .int .i64 1, .int .i64 z.f0, .string z.f1] 28)) (by have := HLF.out; omega) (0) (2) (z.f0) (z.f1)).mono ?_
        rintro e w5 ⟨v5, rfl, h1, h2⟩
        obtain ⟨A5, c5, rfl⟩ := Kd.R_slice h1
        refine ⟨_, rfl, ?_⟩
        have HV5 := Aside0.mk h1
        have F5 := Aside0.mk (MSt.step (F.out.drew.alloc (.cells #[.int .i64 0, .int .i64 1, .int .i64 z.f0, .string z.f1] 28)) h2)
        have BB := Aside0.mk (blk_below (blk_new W9.drew (.cells #[.int .i64 0, .int .i64 1, .int .i64 z.f0, .string z.f1] 28)) h2)
        refine hK.out _ _ F5.out.c8 (fun hHeld => ?_)
        clear hK K
        refine norm_ (a' := ?_) ?_ ?_
        rotate_left
        · show Act.put _ (some 63) _ = _
          simp only [Act.put, List.setIfInBounds_toArray, List.set_cons_zero, List.set_cons_succ, i64_w, i32_w]
          rfl
        refine one_ (i := 8) (N := (some 67)) #[true, true, true, true, true, true, true, true, true, false, false] rfl rfl (one_of HT_.out (by kernel_rfl)) (by decide) (fun K hK => ?_)
        refine Kd.R_append_rows_step k28 (w0 := W9.drew.alloc (.cells #[.int .i64 0, .int .i64 1, .int .i64 z.f0, .string z.f1] 28)) (W9.drew.alloc (.cells #[.int .i64 0, .int .i64 1, .int .i64 z.f0, .string z.f1] 28)).heap.size (by rfl) (.tmp 63) (.tmp 66) 37 28 (.agg #[.int .i64 0, .int .i64 0, .int .i64 0, .string ⟨#[]⟩]) 40 (by rfl) Try.underlying37 info28 rfl (by decide) (by decide) (.slice A5 (fit ++ [(⟨0, 2, ⟨z.f0, z.f1⟩⟩ : S28)]).length c5) (fit ++ [(⟨0, 2, ⟨z.f0, z.f1⟩⟩ : S28)]) [(⟨0, 1, ⟨z.f0, z.f1⟩⟩ : S28)] _ 1 1 (fun _ => True) (fun k => some k ≠ (Value.slice A5 (fit ++ [(⟨0, 2, ⟨z.f0, z.f1⟩⟩ : S28)]).length c5).ownBlock) (by rfl) (by rfl) (HV5.out) (C_blk (BB.out) (reps1 _ (⟨0, 1, ⟨z.f0, z.f1⟩⟩ : S28)) (by simp)) (fun x cs h => k28_made h) (fun _ hk => ⟨trivial, hk⟩) (fun _ _ => trivial) (h2) (h2).size (by have := HLF.out; simp; omega) ?_
        intro v8 w8 ho hb hg hat
        obtain ⟨A8, c8, rfl⟩ := Kd.R_slice ho
        have HV8 := Aside0.mk ho
        have F8 := Aside0.mk (MSt.step (F.out.drew.alloc (.cells #[.int .i64 0, .int .i64 1, .int .i64 z.f0, .string z.f1] 28)) hb)
        clear ho hb hg hat h1 h2
        refine hK.out _ _ F8.out.c8 (fun hHeld => ?_)
        clear hK K
        refine norm_ (a' := ?_) ?_ ?_
        rotate_left
        · show Act.put _ (some 67) _ = _
          simp only [Act.put, List.setIfInBounds_toArray, List.set_cons_zero, List.set_cons_succ, i64_w, i32_w]
          rfl
        refine one_ (i := 9) (N := (some 68)) #[true, true, true, true, true, true, true, true, true, true, false] rfl rfl (one_of HT_.out (by kernel_rfl)) (by decide) (fun K hK => ?_)
        refine goes_ Try.func18 (by kernel_rfl) rfl #[.agg #[.slice At types.length ct, .int .i64 q1, .int .i64 q2, .int .i64 q3], .slice (A8) ((fit ++ [(⟨0, 2, ⟨z.f0, z.f1⟩⟩ : S28)] ++ [(⟨0, 1, ⟨z.f0, z.f1⟩⟩ : S28)]).length) (c8)] (by rfl) rfl rfl (by (try simp only [List.map_toArray, List.map_cons, List.map_nil]); first | done | rfl) ?_
        refine (may_call k (F8.out) ((Kd.R_reads' HV8.out).2.2) rfl ((Kd.R_reads' HV8.out).2.1) HRIGHT.out).mono ?_
        rintro e w6 ⟨rfl, h3⟩
        refine ⟨_, rfl, ?_⟩
        have F := Aside0.mk h3
        clear h3
        clear F8 HV8 F5 HV5
        refine hK.out _ _ F.out.c8 (fun hHeld => ?_)
        clear hK K
        refine norm_ (a' := ?_) ?_ ?_
        rotate_left
        · show Act.put _ (some 68) _ = _
          simp only [Act.put, List.setIfInBounds_toArray, List.set_cons_zero, List.set_cons_succ, i64_w, i32_w]
          rfl
        refine pure_ (i := 10) (N := (some 15)) (v := ?_) (a' := ?_) #[true, true, true, true, true, true, true, true, true, true, true] rfl rfl (any_of HT_.out (by kernel_rfl)) (fun _ _ _ h => h) (Or.inl ⟨by rfl, ?_⟩) ?_ ?_
        rotate_left
        · intro w'
          go_simp
          with_reducible rfl
        rotate_left
        · simp only [Act.put, List.setIfInBounds_toArray, List.set_cons_zero, List.set_cons_succ, i64_w, i32_w]
          rfl
        refine done_ (done_of HT_.out (by kernel_rfl)) ?_
        go_wp2
        go_meet
        case rel => exact ⟨rfl, ⟨F.out⟩⟩
    case rest =>
      clear F k0 k1 k2 k3 k4 k5 k6
      obtain ⟨rfl, F⟩ := hcut
      go_upto_region 10 with fail
      refine start_ (n := 7) (S := fun w' => w'.cell? ⟨w2.heap.size, 0, none⟩ = some (.slice At types.length ct) ∧ w'.cell? ⟨w2.heap.size, 1, none⟩ = some (.int .i64 q1) ∧ w'.cell? ⟨w2.heap.size, 2, none⟩ = some (.int .i64 q2) ∧ w'.cell? ⟨w2.heap.size, 3, none⟩ = some (.int .i64 q3) ∧ w'.cell? ⟨w3.heap.size, 0, none⟩ = some (.slice Af fit.length cf) ∧ w'.cell? ⟨w4.heap.size, 0, none⟩ = some (.int .i64 z.f0) ∧ w'.cell? ⟨w4.heap.size, 1, none⟩ = some (.string z.f1)) (ds := []) #[false, false, false, false, false, false, false] (by kernel_rfl) rfl rfl F.out.c8 (fun hHeld => ?_); refine with_tabW FilterMay.tab10 FilterMay.bits10 (fun HT_ HW_ => ?_)
      refine take_ (i := 0) (N := (some 69)) (v := ?_) (a' := ?_) #[true, false, false, false, false, false, false] rfl rfl (take_ofW HT_.out HW_.out (by kernel_rfl)) (fun _ _ _ h => h) (Or.inl ⟨by rfl, ?_⟩) hHeld ?_ ?_
      rotate_left
      · rintro w' ⟨s0, s1, s2, s3, s4, s5, s6⟩
        go_simp
        with_reducible rfl
      rotate_left
      · simp only [Act.put, List.setIfInBounds_toArray, List.set_cons_zero, List.set_cons_succ, i64_w, i32_w]
        rfl
      refine pure_ (i := 1) (N := (some 70)) (v := ?_) (a' := ?_) #[true, true, false, false, false, false, false] rfl rfl (any_of HT_.out (by kernel_rfl)) (fun _ _ _ h => h) (Or.inl ⟨by rfl, ?_⟩) ?_ ?_
      rotate_left
      · intro w'
        go_simp
        with_reducible rfl
      rotate_left
      · simp only [Act.put, List.setIfInBounds_toArray, List.set_cons_zero, List.set_cons_succ, i64_w, i32_w]
        rfl
      refine pure_ (i := 2) (N := (some 71)) (v := ?_) (a' := ?_) #[true, true, true, false, false, false, false] rfl rfl (any_of HT_.out (by kernel_rfl)) (fun _ _ _ h => h) (Or.inl ⟨by rfl, ?_⟩) ?_ ?_
      rotate_left
      · intro w'
        go_simp
        with_reducible rfl
      rotate_left
      · simp only [Act.put, List.setIfInBounds_toArray, List.set_cons_zero, List.set_cons_succ, i64_w, i32_w]
        rfl
      refine pure_ (i := 3) (N := (some 72)) (v := ?_) (a' := ?_) #[true, true, true, true, false, false, false] rfl rfl (any_of HT_.out (by kernel_rfl)) (fun _ _ _ h => h) (Or.inl ⟨by rfl, ?_⟩) ?_ ?_
      rotate_left
      · intro w'
        go_simp
        with_reducible rfl
      rotate_left
      · simp only [Act.put, List.setIfInBounds_toArray, List.set_cons_zero, List.set_cons_succ, i64_w, i32_w]
        rfl
      refine one_ (i := 4) (N := (some 73)) #[true, true, true, true, true, false, false] rfl rfl (one_of HT_.out (by kernel_rfl)) (by decide) (fun K hK => ?_)
      refine goesC_ Try.func17 (by kernel_rfl) rfl #[.agg #[.int .i64 (0), .int .i64 (1), .int .i64 (1), .string (⟨#[120]⟩)], .pointer (some ⟨w3.heap.size, 0, none⟩)] (by rfl) rfl rfl rfl (by (try simp only [List.map_toArray, List.map_cons, List.map_nil]); first | done | rfl) ?_
      refine (with_call (F.out.drew) (by have := HLF.out; omega) (0) (1) (1) (⟨#[120]⟩)).mono ?_
      rintro e w5 ⟨v5, rfl, h1, h2⟩
      obtain ⟨A5, c5, rfl⟩ := Kd.R_slice h1
      refine ⟨_, rfl, ?_⟩
      have HV5 := Aside0.mk h1
      have F5 := Aside0.mk (MSt.step (F.out.drew) h2)
      clear h1 h2 F
      refine hK.out _ _ F5.out.c8 (fun hHeld => ?_)
      clear hK K
      refine norm_ (a' := ?_) ?_ ?_
      rotate_left
      · show Act.put _ (some 73) _ = _
        simp only [Act.put, List.setIfInBounds_toArray, List.set_cons_zero, List.set_cons_succ, i64_w, i32_w]
        rfl
      refine one_ (i := 5) (N := (some 74)) #[true, true, true, true, true, true, false] rfl rfl (one_of HT_.out (by kernel_rfl)) (by decide) (fun K hK => ?_)
      refine goes_ Try.func18 (by kernel_rfl) rfl #[.agg #[.slice At types.length ct, .int .i64 q1, .int .i64 q2, .int .i64 q3], .slice (A5) ((fit ++ [(⟨0, 1, ⟨1, ⟨#[120]⟩⟩⟩ : S28)]).length) (c5)] (by rfl) rfl rfl (by (try simp only [List.map_toArray, List.map_cons, List.map_nil]); first | done | rfl) ?_
      refine (may_call k (F5.out) ((Kd.R_reads' HV5.out).2.2) rfl ((Kd.R_reads' HV5.out).2.1) HWRONG.out).mono ?_
      rintro e w6 ⟨rfl, h3⟩
      refine ⟨_, rfl, ?_⟩
      have F := Aside0.mk h3
      clear h3
      clear F5 HV5
      refine hK.out _ _ F.out.c8 (fun hHeld => ?_)
      clear hK K
      refine norm_ (a' := ?_) ?_ ?_
      rotate_left
      · show Act.put _ (some 74) _ = _
        simp only [Act.put, List.setIfInBounds_toArray, List.set_cons_zero, List.set_cons_succ, i64_w, i32_w]
        rfl
      refine pure_ (i := 6) (N := (some 16)) (v := ?_) (a' := ?_) #[true, true, true, true, true, true, true] rfl rfl (any_of HT_.out (by kernel_rfl)) (fun _ _ _ h => h) (Or.inl ⟨by rfl, ?_⟩) ?_ ?_
      rotate_left
      · intro w'
        go_simp
        with_reducible rfl
      rotate_left
      · simp only [Act.put, List.setIfInBounds_toArray, List.set_cons_zero, List.set_cons_succ, i64_w, i32_w]
        rfl
      refine done_ (done_of HT_.out (by kernel_rfl)) ?_
      have hbq : ∀ b : Bool, (b == b) = true := by simp
      obtain ⟨k0, k1, k2, k3, k4, k5, k6⟩ := F.out.c8
      generalize opOk types col = m
      cases left with
      | true =>
        obtain ⟨hc0, hc1'⟩ := HL1.out rfl
        have d0 : decide (col ≥ 0) = true := decide_eq_true hc0
        have d1 : decide (col < (types.length : Int)) = true := decide_eq_true hc1'
        go_wp2_with fail
        refine (may_call k F.out (Kd.C_nil k28 _) rfl (Nat.le_refl _) HNIL.out).mono ?_
        rintro e w7 ⟨rfl, h3⟩
        have F7 := Aside0.mk h3
        clear h3
        go_wp2
        exact bodyPost_ret (v := .bool true) (by simp [results, Try.results4, go_sem]) rfl ⟨rfl, F7.out.hb⟩
      | false =>
        have d0 : (col != 0) = true := bne_iff_ne.2 (HL0.out rfl)
        go_wp2_with fail
        refine (may_call k F.out (Kd.C_nil k28 _) rfl (Nat.le_refl _) HNIL.out).mono ?_
        rintro e w7 ⟨rfl, h3⟩
        have F7 := Aside0.mk h3
        clear h3
        go_wp2
        exact bodyPost_ret (v := .bool true) (by simp [results, Try.results4, go_sem]) rfl ⟨rfl, F7.out.hb⟩
end Go.Proofs.Ytohbpgdhpfmlgaa.PA
