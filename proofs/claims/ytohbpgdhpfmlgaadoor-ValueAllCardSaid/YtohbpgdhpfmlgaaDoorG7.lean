/- ValueSums' walk. -/
import Derived.Test.YtohbpgdhpfmlgaaDoorG5
import Derived.Test.YtohbpgdhpfmlgaaDoorPAx3
import Derived.Outline
import Derived.Deep.RegionHeld3
import Derived.Deep.DeepCutAuto
namespace Go.Proofs.YtohbpgdhpfmlgaaDoor.PA
set_option linter.unusedVariables false
set_option linter.unusedSimpArgs false
open Go.RowKit Go.Proofs.YtohbpgdhpfmlgaaDoorW.PrintWords Go.Proofs.YtohbpgdhpfmlgaaDoorW.PrintLast Go.Proofs.YtohbpgdhpfmlgaaDoorW.PrintMore
/-- The sum of two values. -/
def aN (k n n' : Int) : Int := if k = 3 then n' else wrap64 (n + n')
def aS (k : Int) (s' : ByteArray) : ByteArray := if k = 3 then s' else ⟨#[]⟩
theorem add_of {k n n' : Int} {s s' : ByteArray} (h : FitP k n s) (h' : FitP k n' s') (w : World) : Calls Tryd.prog 14 #[.int .i64 k, .agg #[.int .i64 n, .string s], .agg #[.int .i64 n', .string s']] w fun e w' => e = .returned (.agg #[.int .i64 (aN k n n'), .string (aS k s')]) ∧ Below w.heap.size w w' := by
  refine value_Add.calls 1 k n s n' s' _ _ w ?_
  simp only [value_Add.f, value_Add.j0, fits_of h, fits_of h', Option.bind_some, if_true, Bool.not_true, Bool.false_eq_true, if_false, aN, aS]
  by_cases e : k = 3
  · simp only [if_pos e]
  · simp only [if_neg e]
theorem add_fit {k n n' : Int} {s s' : ByteArray} (h : FitP k n s) (h' : FitP k n' s') : FitP k (aN k n n') (aS k s') := by
  obtain ⟨hk, h3, h1, l, u⟩ := h
  obtain ⟨_, h3', h1', l', u'⟩ := h'
  unfold aN aS FitP
  by_cases e : k = 3
  · simp only [if_pos e]
    exact ⟨hk, h3', h1', l', u'⟩
  · simp only [if_neg e]
    exact ⟨hk, fun e' => absurd e' e, fun _ => by first | rfl | trivial, by unfold wrap64; omega, by unfold wrap64; omega⟩
theorem addn {k n n' : Int} {s s' : ByteArray} (h : FitP k n s) (h' : FitP k n' s') (hk : ¬ k = 3) (w : World) : Calls Tryd.prog 14 #[.int .i64 k, .agg #[.int .i64 n, .string s], .agg #[.int .i64 n', .string s']] w fun e w' => e = .returned (.agg #[.int .i64 (wrap64 (n + n')), .string ⟨#[]⟩]) ∧ Below w.heap.size w w' := by
  have a := add_of h h' w
  simp only [aN, aS, if_neg hk] at a
  exact a
theorem addz {k n : Int} {s : ByteArray} (h : FitP k n s) (hk : ¬ k = 3) (w : World) : Calls Tryd.prog 14 #[.int .i64 k, .agg #[.int .i64 n, .string s], .agg #[.int .i64 0, .string ⟨#[]⟩]] w fun e w' => e = .returned (.agg #[.int .i64 n, .string s]) ∧ Below w.heap.size w w' := by
  have a := addn h (n' := 0) (s' := ⟨#[]⟩) ⟨h.1, fun e => absurd e hk, fun _ => rfl, by decide, by decide⟩ hk w
  have l := h.2.2.2.1
  have u := h.2.2.2.2
  rw [show wrap64 (n + 0) = n by unfold wrap64; omega, ← h.2.2.1 hk] at a
  rw [← h.2.2.1 hk]
  exact a
theorem add_assoc (k a b c : Int) : aN k (aN k a b) c = aN k a (aN k b c) := by
  unfold aN
  split
  · rfl
  · unfold wrap64; omega
theorem aS_aS (k : Int) (s : ByteArray) : aS k (aS k s) = aS k s := by unfold aS; split <;> rfl
theorem sz_alloc (w : World) (o : Obj) : (w.alloc o).heap.size = w.heap.size + 1 := by simp only [World.alloc]; exact Array.size_push ..
theorem undrew {X W2 : World} (h : Below X.drew.heap.size X.drew W2) : Below X.heap.size X W2 := ⟨h.os, h.tape, h.output, h.size, h.block⟩
theorem ST.late {w W W2 : World} {l : List (Nat × Array Value × TypeId)} {x y : Value} (h : ST w W l) (hb : Below (W.alloc (.cells #[x, y] 23)).heap.size (W.alloc (.cells #[x, y] 23)) W2) (u v : Value) :
    ST w ((W2.setCell ⟨W.heap.size, 0, none⟩ u).setCell ⟨W.heap.size, 1, none⟩ v) (l ++ [(W.heap.size, #[u, v], 23)]) := by
  have h1 := (h.new #[x, y] 23).step hb
  have hg := h1.m l.length (W.heap.size, #[x, y], 23) (by simp)
  refine ⟨below_set (below_set h1.b h.b.size) h.b.size, fun j z hz => ?_⟩
  rcases Nat.lt_or_ge j l.length with h2 | h2
  · rw [List.getElem?_append_left h2] at hz
    have h3 := h1.m j z (by rw [List.getElem?_append_left h2]; exact hz)
    have h4 := blk_lt (h.m j z hz)
    have hne : z.1 ≠ W.heap.size := Nat.ne_of_lt h4
    exact blk_far (blk_far h3 hne _) hne _
  · rw [List.getElem?_append_right h2] at hz
    have : z = (W.heap.size, #[u, v], 23) := by
      rcases hj : j - l.length with _ | q
      · rw [hj] at hz; simpa using hz.symm
      · rw [hj] at hz; simp at hz
    subst this
    exact blk_put (blk_put hg 0 u rfl) 1 v rfl
theorem ST.c6 {w W : World} {l : List (Nat × Array Value × TypeId)} {ga gb gc : Nat} {a0 b0 c0 : Int} {a1 b1 c1 : ByteArray} (h1 : l[1]? = some (ga, #[.int .i64 a0, .string a1], 23)) (h2 : l[2]? = some (gb, #[.int .i64 b0, .string b1], 23)) (h3 : l[3]? = some (gc, #[.int .i64 c0, .string c1], 23)) (h : ST w W l) :
    W.cell? ⟨ga, 0, none⟩ = some (.int .i64 a0) ∧ W.cell? ⟨ga, 1, none⟩ = some (.string a1) ∧ W.cell? ⟨gb, 0, none⟩ = some (.int .i64 b0) ∧ W.cell? ⟨gb, 1, none⟩ = some (.string b1) ∧ W.cell? ⟨gc, 0, none⟩ = some (.int .i64 c0) ∧ W.cell? ⟨gc, 1, none⟩ = some (.string c1) :=
  ⟨h.cell h1 0, h.cell h1 1, h.cell h2 0, h.cell h2 1, h.cell h3 0, h.cell h3 1⟩
theorem fld_run (W : World) (x : Int) (s : ByteArray) : (Instr.field 23 (.agg #[.int .i64 x, .string s]) 0).run Tryd.prog W = .ok (.int .i64 x) W := by kernel_rfl
attribute [local go_sem high] eqA23
attribute [local go_sem] fld_run
def ValueSums.T6 : Bool × List (List Nat × List Nat) := (true, [([], []), ([], []), ([], []), ([], []), ([1, 2, 3], [1, 2, 3]), ([], []), ([0, 4, 5, 4], [0, 4, 5]), ([], []), ([7, 6, 6, 0, 1, 2, 3, 4, 5, 6, 7], [6, 7])])
def ValueSums.B6 : List Nat := [0, 0, 0, 0, 14, 0, 63, 0, 255]
theorem ValueSums.tab6 : rtab .any (opsOf Tryd.f6 6) = ValueSums.T6 := by kernel_rfl
theorem ValueSums.bits6 : waitsOk ValueSums.T6.2 ValueSums.B6 = true := by kernel_rfl
def ValueSums.T7 : Bool × List (List Nat × List Nat) := (true, [([], []), ([], []), ([], []), ([], []), ([], []), ([2, 3, 4], [2, 3, 4]), ([0, 1, 5, 5], [0, 1, 5]), ([], []), ([7, 6, 6, 0, 1, 2, 3, 4, 5, 6, 7], [6, 7])])
def ValueSums.B7 : List Nat := [0, 0, 0, 0, 0, 28, 63, 0, 255]
theorem ValueSums.tab7 : rtab .any (opsOf Tryd.f6 7) = ValueSums.T7 := by kernel_rfl
theorem ValueSums.bits7 : waitsOk ValueSums.T7.2 ValueSums.B7 = true := by kernel_rfl
def ValueSums.T12 : Bool × List (List Nat × List Nat) := (true, [([], []), ([0], [0]), ([1], [1]), ([1], [1]), ([1], [1]), ([2, 3, 4, 1, 1], [1, 2, 3, 4]), ([1], [1]), ([1], [1]), ([1], [1]), ([6, 7, 8, 5, 1], [1, 6, 7, 8]), ([5, 9, 1], [1, 5, 9]), ([1, 10], [1, 10]), ([11, 9], [11]), ([12], [12]), ([12], [12]), ([12], [12]), ([13, 14, 15, 12, 12], [12, 13, 14, 15]), ([16, 12], [12, 16]), ([12], [12]), ([18, 12], [12, 18]), ([12], [12]), ([20, 12], [12, 20]), ([19, 21, 12], [12, 19, 21]), ([17, 22, 12], [12, 17, 22]), ([12, 23], [12, 23]), ([24, 16], [24]), ([25], [25]), ([25], [25]), ([25], [25]), ([26, 27, 28, 25, 25], [25, 26, 27, 28]), ([25], [25]), ([29, 30, 25], [25, 29, 30]), ([25, 31], [25, 31]), ([32, 29, 0, 1, 2, 3, 4, 5, 6, 7, 8, 9, 10, 11, 12, 13, 14, 15, 16, 17, 18, 19, 20, 21, 22, 23, 24, 25, 26, 27, 28, 29, 30, 31, 32], [32])])
def ValueSums.B12 : List Nat := [0, 1, 3, 3, 3, 31, 3, 3, 3, 511, 1023, 2047, 4095, 8191, 8191, 8191, 65535, 131071, 8191, 270335, 8191, 1056767, 3940351, 8388607, 16777215, 33554431, 67108863, 67108863, 67108863, 536870911, 67108863, 2147483647, 4294967295, 8589934591]
theorem ValueSums.tab12 : rtab .any (opsOf Tryd.f6 12) = ValueSums.T12 := by kernel_rfl
theorem ValueSums.bits12 : waitsOk ValueSums.T12.2 ValueSums.B12 = true := by kernel_rfl
set_option maxHeartbeats 8000000 in
set_option maxRecDepth 100000 in
theorem ValueSums.works (t n0 n1 n2 : Int) (s0 s1 s2 : ByteArray) (w : World) (HT : Aside0 (LT w)) (ht0 : 0 ≤ t) (ht1 : t < 256)
    (hl0 : -9223372036854775808 ≤ n0) (hu0 : n0 < 9223372036854775808) (hl1 : -9223372036854775808 ≤ n1) (hu1 : n1 < 9223372036854775808) (hl2 : -9223372036854775808 ≤ n2) (hu2 : n2 < 9223372036854775808) :
    Calls Tryd.prog 6 #[.int .u8 t, .agg #[.int .i64 n0, .string s0, .int .i64 n1, .string s1, .int .i64 n2, .string s2]] w fun e w' => e = .returned (.bool true) ∧ Below w.heap.size w w' := by
  obtain ⟨hk, hkk⟩ := kind_of t ht0 ht1
  obtain ⟨f0, p0⟩ := fit_of (kindOf t) n0 s0 hkk hl0 hu0
  obtain ⟨f1, p1⟩ := fit_of (kindOf t) n1 s1 hkk hl1 hu1
  obtain ⟨f2, p2⟩ := fit_of (kindOf t) n2 s2 hkk hl2 hu2
  have KK := Aside0.mk hk
  have F0 := Aside0.mk f0
  have F1 := Aside0.mk f1
  have F2 := Aside0.mk f2
  have P0 := Aside0.mk p0
  have P1 := Aside0.mk p1
  have P2 := Aside0.mk p2
  have HK3 := Aside0.mk hkk
  clear hk hkk f0 f1 f2 p0 p1 p2
  generalize kindOf t = k at *
  generalize fitN k n0 = a0 at *
  generalize fitN k n1 = b0 at *
  generalize fitN k n2 = c0 at *
  generalize fitS k s0 = a1 at *
  generalize fitS k s1 = b1 at *
  generalize fitS k s2 = c1 at *
  have S := Aside0.mk ((ST.start w).new #[.int .i64 n0, .string s0, .int .i64 n1, .string s1, .int .i64 n2, .string s2] 24)
  go_enter Tryd.func6, Tryd.ntmps6
  go_wp2_with fail
  refine (thresherlaw03_shown.calls 1 true _ ⟨LT.step HT.out S.out.b⟩ (shown_true 0)).mono ?_
  rintro e w1 ⟨rfl, hb⟩
  replace S := Aside0.mk ((S.out).step hb)
  clear hb
  go_wp2_with fail
  refine (Calls.below (thresherlaw03_kind.calls t k _ KK.out)).mono ?_
  rintro e w2 ⟨rfl, hb⟩
  replace S := Aside0.mk ((S.out).step hb)
  clear hb
  have cx0 : (w2).cell? ⟨w.heap.size, 0, none⟩ = some (.int .i64 n0) := ST.cell (j := 0) S.out rfl 0
  have cx1 : (w2).cell? ⟨w.heap.size, 1, none⟩ = some (.string s0) := ST.cell (j := 0) S.out rfl 1
  go_wp2_with fail
  refine (thresherlaw03_fit.calls k n0 s0 a0 a1 _ F0.out).mono ?_
  rintro e w3 ⟨rfl, hb⟩
  replace S := Aside0.mk ((S.out).step hb)
  clear hb
  clear cx0 cx1
  have cx0 : ((w3.alloc (.cells #[.int .i64 a0, .string a1] 23))).cell? ⟨w.heap.size, 2, none⟩ = some (.int .i64 n1) := ST.cell (j := 0) (S.out.alloc _) rfl 2
  have cx1 : ((w3.alloc (.cells #[.int .i64 a0, .string a1] 23))).cell? ⟨w.heap.size, 3, none⟩ = some (.string s1) := ST.cell (j := 0) (S.out.alloc _) rfl 3
  go_wp2_with fail
  refine (thresherlaw03_fit.calls k n1 s1 b0 b1 _ F1.out).mono ?_
  rintro e w4 ⟨rfl, hb⟩
  replace S := Aside0.mk ((S.out.new #[.int .i64 a0, .string a1] 23).step hb)
  clear hb
  clear cx0 cx1
  have cx0 : ((w4.alloc (.cells #[.int .i64 b0, .string b1] 23))).cell? ⟨w.heap.size, 4, none⟩ = some (.int .i64 n2) := ST.cell (j := 0) (S.out.alloc _) rfl 4
  have cx1 : ((w4.alloc (.cells #[.int .i64 b0, .string b1] 23))).cell? ⟨w.heap.size, 5, none⟩ = some (.string s2) := ST.cell (j := 0) (S.out.alloc _) rfl 5
  go_wp2_with fail
  refine (thresherlaw03_fit.calls k n2 s2 c0 c1 _ F2.out).mono ?_
  rintro e w5 ⟨rfl, hb⟩
  replace S := Aside0.mk ((S.out.new #[.int .i64 b0, .string b1] 23).step hb)
  clear hb
  clear cx0 cx1
  replace S := Aside0.mk (S.out.new #[.int .i64 c0, .string c1] 23)
  have HAB := Aside0.mk (add_of P0.out P1.out)
  have HABC := Aside0.mk (add_of (add_fit P0.out P1.out) P2.out)
  have HBC := Aside0.mk (add_of P1.out P2.out)
  have HABC2 := Aside0.mk (add_of P0.out (add_fit P1.out P2.out))
  have e1 := add_assoc k a0 b0 c0
  have e2 := aS_aS k c1
  rw [← e1, e2] at HABC2
  clear e1 e2
  have HR := Aside0.mk (eqBV (aN k (aN k a0 b0) c0) (aS k c1) (aN k (aN k a0 b0) c0) (aS k c1))
  have HS3 := Aside0.mk (show k = 3 → aN k (aN k a0 b0) c0 = c0 ∧ aS k c1 = c1 from fun e => ⟨if_pos e, if_pos e⟩)
  generalize aN k (aN k a0 b0) c0 = r0 at *
  generalize hr1 : aS k c1 = r1 at *
  have HR1 := Aside0.mk hr1
  clear hr1
  go_upto_region 6 with fail
  go_cut [10] (fun v10 wc => ∃ g, v10 = .pointer (some ⟨g, 0, none⟩) ∧ Aside0 (ST w wc ([(w.heap.size, #[.int .i64 n0, .string s0, .int .i64 n1, .string s1, .int .i64 n2, .string s2], 24), (w3.heap.size, #[.int .i64 a0, .string a1], 23), (w4.heap.size, #[.int .i64 b0, .string b1], 23), (w5.heap.size, #[.int .i64 c0, .string c1], 23)] ++ [(g, #[.int .i64 r0, .string r1], 23)])))
  case first =>
    refine start_ (n := 9) (S := fun w' => w'.cell? ⟨w3.heap.size, 0, none⟩ = some (.int .i64 a0) ∧ w'.cell? ⟨w3.heap.size, 1, none⟩ = some (.string a1) ∧ w'.cell? ⟨w4.heap.size, 0, none⟩ = some (.int .i64 b0) ∧ w'.cell? ⟨w4.heap.size, 1, none⟩ = some (.string b1) ∧ w'.cell? ⟨w5.heap.size, 0, none⟩ = some (.int .i64 c0) ∧ w'.cell? ⟨w5.heap.size, 1, none⟩ = some (.string c1)) (ds := [8]) #[false, false, false, false, false, false, false, false, false] (by kernel_rfl) rfl rfl (ST.c6 rfl rfl rfl S.out.drew) (fun hHeld => ?_); refine with_tabW ValueSums.tab6 ValueSums.bits6 (fun HT_ HW_ => ?_)
    refine pure_ (i := 0) (N := (some 27)) (v := ?_) (a' := ?_) #[true, false, false, false, false, false, false, false, false] rfl rfl (any_of HT_.out (by kernel_rfl)) (fun _ _ _ h => h) (Or.inl ⟨by rfl, ?_⟩) ?_ ?_
    rotate_left
    · intro w'
      go_simp
      with_reducible rfl
    rotate_left
    · simp only [Act.put, List.setIfInBounds_toArray, List.set_cons_zero, List.set_cons_succ, i64_w, i32_w]
      rfl
    refine pure_ (i := 1) (N := (some 28)) (v := ?_) (a' := ?_) #[true, true, false, false, false, false, false, false, false] rfl rfl (any_of HT_.out (by kernel_rfl)) (fun _ _ _ h => h) (Or.inl ⟨by rfl, ?_⟩) ?_ ?_
    rotate_left
    · intro w'
      go_simp
      with_reducible rfl
    rotate_left
    · simp only [Act.put, List.setIfInBounds_toArray, List.set_cons_zero, List.set_cons_succ, i64_w, i32_w]
      rfl
    refine take_ (i := 2) (N := (some 29)) (v := ?_) (a' := ?_) #[true, true, true, false, false, false, false, false, false] rfl rfl (take_ofW HT_.out HW_.out (by kernel_rfl)) (fun _ _ _ h => h) (Or.inl ⟨by rfl, ?_⟩) hHeld ?_ ?_
    rotate_left
    · rintro w' ⟨s0, s1, s2, s3, s4, s5⟩
      go_simp
      with_reducible rfl
    rotate_left
    · simp only [Act.put, List.setIfInBounds_toArray, List.set_cons_zero, List.set_cons_succ, i64_w, i32_w]
      rfl
    refine take_ (i := 3) (N := (some 30)) (v := ?_) (a' := ?_) #[true, true, true, true, false, false, false, false, false] rfl rfl (take_ofW HT_.out HW_.out (by kernel_rfl)) (fun _ _ _ h => h) (Or.inl ⟨by rfl, ?_⟩) hHeld ?_ ?_
    rotate_left
    · rintro w' ⟨s0, s1, s2, s3, s4, s5⟩
      go_simp
      with_reducible rfl
    rotate_left
    · simp only [Act.put, List.setIfInBounds_toArray, List.set_cons_zero, List.set_cons_succ, i64_w, i32_w]
      rfl
    refine take_ (i := 5) (N := (some 32)) (v := ?_) (a' := ?_) #[true, true, true, true, false, true, false, false, false] rfl rfl (take_ofW HT_.out HW_.out (by kernel_rfl)) (fun _ _ _ h => h) (Or.inl ⟨by rfl, ?_⟩) hHeld ?_ ?_
    rotate_left
    · rintro w' ⟨s0, s1, s2, s3, s4, s5⟩
      go_simp
      with_reducible rfl
    rotate_left
    · simp only [Act.put, List.setIfInBounds_toArray, List.set_cons_zero, List.set_cons_succ, i64_w, i32_w]
      rfl
    refine two_ (i := 4) (j := 7) (Ni := (some 31)) (Nj := (some 10)) #[true, true, true, true, true, true, false, false, false] #[true, true, true, true, false, true, false, true, false] rfl rfl rfl rfl (two_of HT_.out (by kernel_rfl)) (by decide) (by decide) (fun K hK => ?_) (fun K hK => ?_)
    · skip
      refine goes_ Tryd.func14 (by kernel_rfl) rfl #[.int .i64 k, .agg #[.int .i64 a0, .string a1], .agg #[.int .i64 b0, .string b1]] (by rfl) rfl rfl (by (try simp only [List.map_toArray, List.map_cons, List.map_nil]); first | done | rfl) ?_
      refine (HAB.out _).mono ?_
      rintro e wx ⟨rfl, h3⟩
      refine ⟨_, rfl, ?_⟩
      have S5 := Aside0.mk (ST.step S.out.drew h3)
      clear h3
      refine hK.out _ _ (ST.c6 rfl rfl rfl S5.out) (fun hHeld => ?_)
      clear hK K
      refine norm_ (a' := ?_) ?_ ?_
      rotate_left
      · show Act.put _ (some 31) _ = _
        simp only [Act.put, List.setIfInBounds_toArray, List.set_cons_zero, List.set_cons_succ, i64_w, i32_w]
        rfl
      refine two_ (i := 6) (j := 7) (Ni := (some 33)) (Nj := (some 10)) #[true, true, true, true, true, true, true, false, false] #[true, true, true, true, true, true, false, true, false] rfl rfl rfl rfl (two_of HT_.out (by kernel_rfl)) (by decide) (by decide) (fun K hK => ?_) (fun K hK => ?_)
      · skip
        refine goes_ Tryd.func14 (by kernel_rfl) rfl #[.int .i64 k, .agg #[.int .i64 (aN k a0 b0), .string (aS k b1)], .agg #[.int .i64 c0, .string c1]] (by rfl) rfl rfl (by (try simp only [List.map_toArray, List.map_cons, List.map_nil]); first | done | rfl) ?_
        refine (HABC.out _).mono ?_
        rintro e wy ⟨rfl, h3⟩
        refine ⟨_, rfl, ?_⟩
        have S6 := Aside0.mk (ST.step S5.out h3)
        have SF := Aside0.mk (S6.out.new #[.int .i64 r0, .string r1] 23)
        try simp only [sz_alloc] at SF
        clear h3
        refine hK.out _ _ (ST.c6 rfl rfl rfl S6.out) (fun hHeld => ?_)
        clear hK K
        refine norm_ (a' := ?_) ?_ ?_
        rotate_left
        · show Act.put _ (some 33) _ = _
          simp only [Act.put, List.setIfInBounds_toArray, List.set_cons_zero, List.set_cons_succ, i64_w, i32_w]
          rfl
        refine one_ (i := 7) (N := (some 10)) #[true, true, true, true, true, true, true, true, false] rfl rfl (one_of HT_.out (by kernel_rfl)) (by decide) (fun K hK => ?_)
        refine value_ (w1 := ?_) (v := ?_) (by rfl) rfl ?_ ?_
        rotate_left 2
        · go_simp
          constructor
          · rfl
          · rfl
        refine hK.out _ _ (ST.c6 rfl rfl rfl (S6.out.alloc _)) (fun hHeld => ?_)
        clear hK K
        refine norm_ (a' := ?_) ?_ ?_
        rotate_left
        · show Act.put _ (some 10) _ = _
          simp only [Act.put, List.setIfInBounds_toArray, List.set_cons_zero, List.set_cons_succ, i64_w, i32_w]
          rfl
        refine last_ (i := 8) (N := none) #[true, true, true, true, true, true, true, true, true] rfl rfl (one_of HT_.out (by kernel_rfl)) (by decide) (fun K hK => ?_)
        refine skip_ (w1 := ?_) (by rfl) rfl ?_ ?_
        rotate_left
        · go_simp
          rfl
        refine hK.out _ _ ?_
        clear hK K
        refine done_ (done_of HT_.out (by kernel_rfl)) ?_
        go_wp2
        go_meet
        case rel => exact ⟨_, rfl, SF⟩
      · skip
        refine value_ (w1 := ?_) (v := ?_) (by rfl) rfl ?_ ?_
        rotate_left 2
        · go_simp
          constructor
          · rfl
          · rfl
        refine hK.out _ _ (ST.c6 rfl rfl rfl (S5.out.alloc _)) (fun hHeld => ?_)
        clear hK K
        refine norm_ (a' := ?_) ?_ ?_
        rotate_left
        · show Act.put _ (some 10) _ = _
          simp only [Act.put, List.setIfInBounds_toArray, List.set_cons_zero, List.set_cons_succ, i64_w, i32_w]
          rfl
        refine one_ (i := 6) (N := (some 33)) #[true, true, true, true, true, true, true, true, false] rfl rfl (one_of HT_.out (by kernel_rfl)) (by decide) (fun K hK => ?_)
        refine goes_ Tryd.func14 (by kernel_rfl) rfl #[.int .i64 k, .agg #[.int .i64 (aN k a0 b0), .string (aS k b1)], .agg #[.int .i64 c0, .string c1]] (by rfl) rfl rfl (by (try simp only [List.map_toArray, List.map_cons, List.map_nil]); first | done | rfl) ?_
        refine (HABC.out _).mono ?_
        rintro e wy ⟨rfl, h3⟩
        refine ⟨_, rfl, ?_⟩
        have S6 := Aside0.mk (ST.step (S5.out.alloc _) h3)
        have SF := Aside0.mk (S5.out.late h3 (.int .i64 r0) (.string r1))
        have hbk := blk_below (blk_new _ _) h3
        have kc0 := (blk_cell hbk 0).trans (rfl : _ = some (Value.int .i64 0))
        have kc1 := (blk_cell (blk_put hbk 0 (.int .i64 r0) rfl) 1).trans (rfl : _ = some (Value.string ⟨#[]⟩))
        have kf0 := blk_frozen hbk 0
        have kf1 := blk_frozen (blk_put hbk 0 (.int .i64 r0) rfl) 1
        clear hbk
        try simp only [sz_alloc] at kc0 kc1 kf0 kf1 SF
        clear h3
        refine hK.out _ _ (ST.c6 rfl rfl rfl S6.out) (fun hHeld => ?_)
        clear hK K
        refine norm_ (a' := ?_) ?_ ?_
        rotate_left
        · show Act.put _ (some 33) _ = _
          simp only [Act.put, List.setIfInBounds_toArray, List.set_cons_zero, List.set_cons_succ, i64_w, i32_w]
          rfl
        refine last_ (i := 8) (N := none) #[true, true, true, true, true, true, true, true, true] rfl rfl (one_of HT_.out (by kernel_rfl)) (by decide) (fun K hK => ?_)
        refine skip_ (w1 := ?_) (by rfl) rfl ?_ ?_
        rotate_left
        · go_simp
          rfl
        refine hK.out _ _ ?_
        clear hK K
        refine done_ (done_of HT_.out (by kernel_rfl)) ?_
        go_wp2
        go_meet
        case rel => exact ⟨_, rfl, SF⟩
    · skip
      refine value_ (w1 := ?_) (v := ?_) (by rfl) rfl ?_ ?_
      rotate_left 2
      · go_simp
        constructor
        · rfl
        · rfl
      refine hK.out _ _ (ST.c6 rfl rfl rfl (S.out.drew.alloc _)) (fun hHeld => ?_)
      clear hK K
      refine norm_ (a' := ?_) ?_ ?_
      rotate_left
      · show Act.put _ (some 10) _ = _
        simp only [Act.put, List.setIfInBounds_toArray, List.set_cons_zero, List.set_cons_succ, i64_w, i32_w]
        rfl
      refine one_ (i := 4) (N := (some 31)) #[true, true, true, true, true, true, false, true, false] rfl rfl (one_of HT_.out (by kernel_rfl)) (by decide) (fun K hK => ?_)
      refine goes_ Tryd.func14 (by kernel_rfl) rfl #[.int .i64 k, .agg #[.int .i64 a0, .string a1], .agg #[.int .i64 b0, .string b1]] (by rfl) rfl rfl (by (try simp only [List.map_toArray, List.map_cons, List.map_nil]); first | done | rfl) ?_
      refine (HAB.out _).mono ?_
      rintro e wx ⟨rfl, h3⟩
      refine ⟨_, rfl, ?_⟩
      have S5 := Aside0.mk (ST.step (S.out.drew.alloc _) h3)
      have h35 := Aside0.mk h3
      clear h3
      refine hK.out _ _ (ST.c6 rfl rfl rfl S5.out) (fun hHeld => ?_)
      clear hK K
      refine norm_ (a' := ?_) ?_ ?_
      rotate_left
      · show Act.put _ (some 31) _ = _
        simp only [Act.put, List.setIfInBounds_toArray, List.set_cons_zero, List.set_cons_succ, i64_w, i32_w]
        rfl
      refine one_ (i := 6) (N := (some 33)) #[true, true, true, true, true, true, true, true, false] rfl rfl (one_of HT_.out (by kernel_rfl)) (by decide) (fun K hK => ?_)
      refine goes_ Tryd.func14 (by kernel_rfl) rfl #[.int .i64 k, .agg #[.int .i64 (aN k a0 b0), .string (aS k b1)], .agg #[.int .i64 c0, .string c1]] (by rfl) rfl rfl (by (try simp only [List.map_toArray, List.map_cons, List.map_nil]); first | done | rfl) ?_
      refine (HABC.out _).mono ?_
      rintro e wy ⟨rfl, h3⟩
      refine ⟨_, rfl, ?_⟩
      have S6 := Aside0.mk (ST.step S5.out h3)
      have h3 := undrew (below_step h35.out h3)
      have SF := Aside0.mk (S.out.late h3 (.int .i64 r0) (.string r1))
      have hbk := blk_below (blk_new _ _) h3
      have kc0 := (blk_cell hbk 0).trans (rfl : _ = some (Value.int .i64 0))
      have kc1 := (blk_cell (blk_put hbk 0 (.int .i64 r0) rfl) 1).trans (rfl : _ = some (Value.string ⟨#[]⟩))
      have kf0 := blk_frozen hbk 0
      have kf1 := blk_frozen (blk_put hbk 0 (.int .i64 r0) rfl) 1
      clear hbk
      try simp only [sz_alloc] at kc0 kc1 kf0 kf1 SF
      clear h3
      refine hK.out _ _ (ST.c6 rfl rfl rfl S6.out) (fun hHeld => ?_)
      clear hK K
      refine norm_ (a' := ?_) ?_ ?_
      rotate_left
      · show Act.put _ (some 33) _ = _
        simp only [Act.put, List.setIfInBounds_toArray, List.set_cons_zero, List.set_cons_succ, i64_w, i32_w]
        rfl
      refine last_ (i := 8) (N := none) #[true, true, true, true, true, true, true, true, true] rfl rfl (one_of HT_.out (by kernel_rfl)) (by decide) (fun K hK => ?_)
      refine skip_ (w1 := ?_) (by rfl) rfl ?_ ?_
      rotate_left
      · go_simp
        rfl
      refine hK.out _ _ ?_
      clear hK K
      refine done_ (done_of HT_.out (by kernel_rfl)) ?_
      go_wp2
      go_meet
      case rel => exact ⟨_, rfl, SF⟩
  case rest =>
    obtain ⟨g10, rfl, S⟩ := hcut
    go_upto_region 7 with fail
    go_cut [11] (fun v10 wc => ∃ g, v10 = .pointer (some ⟨g, 0, none⟩) ∧ Aside0 (ST w wc ([(w.heap.size, #[.int .i64 n0, .string s0, .int .i64 n1, .string s1, .int .i64 n2, .string s2], 24), (w3.heap.size, #[.int .i64 a0, .string a1], 23), (w4.heap.size, #[.int .i64 b0, .string b1], 23), (w5.heap.size, #[.int .i64 c0, .string c1], 23), (g10, #[.int .i64 r0, .string r1], 23)] ++ [(g, #[.int .i64 r0, .string r1], 23)])))
    case first =>
      refine start_ (n := 9) (S := fun w' => w'.cell? ⟨w3.heap.size, 0, none⟩ = some (.int .i64 a0) ∧ w'.cell? ⟨w3.heap.size, 1, none⟩ = some (.string a1) ∧ w'.cell? ⟨w4.heap.size, 0, none⟩ = some (.int .i64 b0) ∧ w'.cell? ⟨w4.heap.size, 1, none⟩ = some (.string b1) ∧ w'.cell? ⟨w5.heap.size, 0, none⟩ = some (.int .i64 c0) ∧ w'.cell? ⟨w5.heap.size, 1, none⟩ = some (.string c1)) (ds := [8]) #[false, false, false, false, false, false, false, false, false] (by kernel_rfl) rfl rfl (ST.c6 rfl rfl rfl S.out.drew) (fun hHeld => ?_); refine with_tabW ValueSums.tab7 ValueSums.bits7 (fun HT_ HW_ => ?_)
      refine pure_ (i := 0) (N := (some 34)) (v := ?_) (a' := ?_) #[true, false, false, false, false, false, false, false, false] rfl rfl (any_of HT_.out (by kernel_rfl)) (fun _ _ _ h => h) (Or.inl ⟨by rfl, ?_⟩) ?_ ?_
      rotate_left
      · intro w'
        go_simp
        with_reducible rfl
      rotate_left
      · simp only [Act.put, List.setIfInBounds_toArray, List.set_cons_zero, List.set_cons_succ, i64_w, i32_w]
        rfl
      refine take_ (i := 1) (N := (some 35)) (v := ?_) (a' := ?_) #[true, true, false, false, false, false, false, false, false] rfl rfl (take_ofW HT_.out HW_.out (by kernel_rfl)) (fun _ _ _ h => h) (Or.inl ⟨by rfl, ?_⟩) hHeld ?_ ?_
      rotate_left
      · rintro w' ⟨s0, s1, s2, s3, s4, s5⟩
        go_simp
        with_reducible rfl
      rotate_left
      · simp only [Act.put, List.setIfInBounds_toArray, List.set_cons_zero, List.set_cons_succ, i64_w, i32_w]
        rfl
      refine pure_ (i := 2) (N := (some 36)) (v := ?_) (a' := ?_) #[true, true, true, false, false, false, false, false, false] rfl rfl (any_of HT_.out (by kernel_rfl)) (fun _ _ _ h => h) (Or.inl ⟨by rfl, ?_⟩) ?_ ?_
      rotate_left
      · intro w'
        go_simp
        with_reducible rfl
      rotate_left
      · simp only [Act.put, List.setIfInBounds_toArray, List.set_cons_zero, List.set_cons_succ, i64_w, i32_w]
        rfl
      refine take_ (i := 3) (N := (some 37)) (v := ?_) (a' := ?_) #[true, true, true, true, false, false, false, false, false] rfl rfl (take_ofW HT_.out HW_.out (by kernel_rfl)) (fun _ _ _ h => h) (Or.inl ⟨by rfl, ?_⟩) hHeld ?_ ?_
      rotate_left
      · rintro w' ⟨s0, s1, s2, s3, s4, s5⟩
        go_simp
        with_reducible rfl
      rotate_left
      · simp only [Act.put, List.setIfInBounds_toArray, List.set_cons_zero, List.set_cons_succ, i64_w, i32_w]
        rfl
      refine take_ (i := 4) (N := (some 38)) (v := ?_) (a' := ?_) #[true, true, true, true, true, false, false, false, false] rfl rfl (take_ofW HT_.out HW_.out (by kernel_rfl)) (fun _ _ _ h => h) (Or.inl ⟨by rfl, ?_⟩) hHeld ?_ ?_
      rotate_left
      · rintro w' ⟨s0, s1, s2, s3, s4, s5⟩
        go_simp
        with_reducible rfl
      rotate_left
      · simp only [Act.put, List.setIfInBounds_toArray, List.set_cons_zero, List.set_cons_succ, i64_w, i32_w]
        rfl
      refine two_ (i := 5) (j := 7) (Ni := (some 39)) (Nj := (some 11)) #[true, true, true, true, true, true, false, false, false] #[true, true, true, true, true, false, false, true, false] rfl rfl rfl rfl (two_of HT_.out (by kernel_rfl)) (by decide) (by decide) (fun K hK => ?_) (fun K hK => ?_)
      · skip
        refine goes_ Tryd.func14 (by kernel_rfl) rfl #[.int .i64 k, .agg #[.int .i64 b0, .string b1], .agg #[.int .i64 c0, .string c1]] (by rfl) rfl rfl (by (try simp only [List.map_toArray, List.map_cons, List.map_nil]); first | done | rfl) ?_
        refine (HBC.out _).mono ?_
        rintro e wx ⟨rfl, h3⟩
        refine ⟨_, rfl, ?_⟩
        have S5 := Aside0.mk (ST.step S.out.drew h3)
        clear h3
        refine hK.out _ _ (ST.c6 rfl rfl rfl S5.out) (fun hHeld => ?_)
        clear hK K
        refine norm_ (a' := ?_) ?_ ?_
        rotate_left
        · show Act.put _ (some 39) _ = _
          simp only [Act.put, List.setIfInBounds_toArray, List.set_cons_zero, List.set_cons_succ, i64_w, i32_w]
          rfl
        refine two_ (i := 6) (j := 7) (Ni := (some 40)) (Nj := (some 11)) #[true, true, true, true, true, true, true, false, false] #[true, true, true, true, true, true, false, true, false] rfl rfl rfl rfl (two_of HT_.out (by kernel_rfl)) (by decide) (by decide) (fun K hK => ?_) (fun K hK => ?_)
        · skip
          refine goes_ Tryd.func14 (by kernel_rfl) rfl #[.int .i64 k, .agg #[.int .i64 a0, .string a1], .agg #[.int .i64 (aN k b0 c0), .string r1]] (by rfl) rfl rfl (by (try simp only [List.map_toArray, List.map_cons, List.map_nil]); first | done | rfl) ?_
          refine (HABC2.out _).mono ?_
          rintro e wy ⟨rfl, h3⟩
          refine ⟨_, rfl, ?_⟩
          have S6 := Aside0.mk (ST.step S5.out h3)
          have SF := Aside0.mk (S6.out.new #[.int .i64 r0, .string r1] 23)
          try simp only [sz_alloc] at SF
          clear h3
          refine hK.out _ _ (ST.c6 rfl rfl rfl S6.out) (fun hHeld => ?_)
          clear hK K
          refine norm_ (a' := ?_) ?_ ?_
          rotate_left
          · show Act.put _ (some 40) _ = _
            simp only [Act.put, List.setIfInBounds_toArray, List.set_cons_zero, List.set_cons_succ, i64_w, i32_w]
            rfl
          refine one_ (i := 7) (N := (some 11)) #[true, true, true, true, true, true, true, true, false] rfl rfl (one_of HT_.out (by kernel_rfl)) (by decide) (fun K hK => ?_)
          refine value_ (w1 := ?_) (v := ?_) (by rfl) rfl ?_ ?_
          rotate_left 2
          · go_simp
            constructor
            · rfl
            · rfl
          refine hK.out _ _ (ST.c6 rfl rfl rfl (S6.out.alloc _)) (fun hHeld => ?_)
          clear hK K
          refine norm_ (a' := ?_) ?_ ?_
          rotate_left
          · show Act.put _ (some 11) _ = _
            simp only [Act.put, List.setIfInBounds_toArray, List.set_cons_zero, List.set_cons_succ, i64_w, i32_w]
            rfl
          refine last_ (i := 8) (N := none) #[true, true, true, true, true, true, true, true, true] rfl rfl (one_of HT_.out (by kernel_rfl)) (by decide) (fun K hK => ?_)
          refine skip_ (w1 := ?_) (by rfl) rfl ?_ ?_
          rotate_left
          · go_simp
            rfl
          refine hK.out _ _ ?_
          clear hK K
          refine done_ (done_of HT_.out (by kernel_rfl)) ?_
          go_wp2
          go_meet
          case rel => exact ⟨_, rfl, SF⟩
        · skip
          refine value_ (w1 := ?_) (v := ?_) (by rfl) rfl ?_ ?_
          rotate_left 2
          · go_simp
            constructor
            · rfl
            · rfl
          refine hK.out _ _ (ST.c6 rfl rfl rfl (S5.out.alloc _)) (fun hHeld => ?_)
          clear hK K
          refine norm_ (a' := ?_) ?_ ?_
          rotate_left
          · show Act.put _ (some 11) _ = _
            simp only [Act.put, List.setIfInBounds_toArray, List.set_cons_zero, List.set_cons_succ, i64_w, i32_w]
            rfl
          refine one_ (i := 6) (N := (some 40)) #[true, true, true, true, true, true, true, true, false] rfl rfl (one_of HT_.out (by kernel_rfl)) (by decide) (fun K hK => ?_)
          refine goes_ Tryd.func14 (by kernel_rfl) rfl #[.int .i64 k, .agg #[.int .i64 a0, .string a1], .agg #[.int .i64 (aN k b0 c0), .string r1]] (by rfl) rfl rfl (by (try simp only [List.map_toArray, List.map_cons, List.map_nil]); first | done | rfl) ?_
          refine (HABC2.out _).mono ?_
          rintro e wy ⟨rfl, h3⟩
          refine ⟨_, rfl, ?_⟩
          have S6 := Aside0.mk (ST.step (S5.out.alloc _) h3)
          have SF := Aside0.mk (S5.out.late h3 (.int .i64 r0) (.string r1))
          have hbk := blk_below (blk_new _ _) h3
          have kc0 := (blk_cell hbk 0).trans (rfl : _ = some (Value.int .i64 0))
          have kc1 := (blk_cell (blk_put hbk 0 (.int .i64 r0) rfl) 1).trans (rfl : _ = some (Value.string ⟨#[]⟩))
          have kf0 := blk_frozen hbk 0
          have kf1 := blk_frozen (blk_put hbk 0 (.int .i64 r0) rfl) 1
          clear hbk
          try simp only [sz_alloc] at kc0 kc1 kf0 kf1 SF
          clear h3
          refine hK.out _ _ (ST.c6 rfl rfl rfl S6.out) (fun hHeld => ?_)
          clear hK K
          refine norm_ (a' := ?_) ?_ ?_
          rotate_left
          · show Act.put _ (some 40) _ = _
            simp only [Act.put, List.setIfInBounds_toArray, List.set_cons_zero, List.set_cons_succ, i64_w, i32_w]
            rfl
          refine last_ (i := 8) (N := none) #[true, true, true, true, true, true, true, true, true] rfl rfl (one_of HT_.out (by kernel_rfl)) (by decide) (fun K hK => ?_)
          refine skip_ (w1 := ?_) (by rfl) rfl ?_ ?_
          rotate_left
          · go_simp
            rfl
          refine hK.out _ _ ?_
          clear hK K
          refine done_ (done_of HT_.out (by kernel_rfl)) ?_
          go_wp2
          go_meet
          case rel => exact ⟨_, rfl, SF⟩
      · skip
        refine value_ (w1 := ?_) (v := ?_) (by rfl) rfl ?_ ?_
        rotate_left 2
        · go_simp
          constructor
          · rfl
          · rfl
        refine hK.out _ _ (ST.c6 rfl rfl rfl (S.out.drew.alloc _)) (fun hHeld => ?_)
        clear hK K
        refine norm_ (a' := ?_) ?_ ?_
        rotate_left
        · show Act.put _ (some 11) _ = _
          simp only [Act.put, List.setIfInBounds_toArray, List.set_cons_zero, List.set_cons_succ, i64_w, i32_w]
          rfl
        refine one_ (i := 5) (N := (some 39)) #[true, true, true, true, true, true, false, true, false] rfl rfl (one_of HT_.out (by kernel_rfl)) (by decide) (fun K hK => ?_)
        refine goes_ Tryd.func14 (by kernel_rfl) rfl #[.int .i64 k, .agg #[.int .i64 b0, .string b1], .agg #[.int .i64 c0, .string c1]] (by rfl) rfl rfl (by (try simp only [List.map_toArray, List.map_cons, List.map_nil]); first | done | rfl) ?_
        refine (HBC.out _).mono ?_
        rintro e wx ⟨rfl, h3⟩
        refine ⟨_, rfl, ?_⟩
        have S5 := Aside0.mk (ST.step (S.out.drew.alloc _) h3)
        have h35 := Aside0.mk h3
        clear h3
        refine hK.out _ _ (ST.c6 rfl rfl rfl S5.out) (fun hHeld => ?_)
        clear hK K
        refine norm_ (a' := ?_) ?_ ?_
        rotate_left
        · show Act.put _ (some 39) _ = _
          simp only [Act.put, List.setIfInBounds_toArray, List.set_cons_zero, List.set_cons_succ, i64_w, i32_w]
          rfl
        refine one_ (i := 6) (N := (some 40)) #[true, true, true, true, true, true, true, true, false] rfl rfl (one_of HT_.out (by kernel_rfl)) (by decide) (fun K hK => ?_)
        refine goes_ Tryd.func14 (by kernel_rfl) rfl #[.int .i64 k, .agg #[.int .i64 a0, .string a1], .agg #[.int .i64 (aN k b0 c0), .string r1]] (by rfl) rfl rfl (by (try simp only [List.map_toArray, List.map_cons, List.map_nil]); first | done | rfl) ?_
        refine (HABC2.out _).mono ?_
        rintro e wy ⟨rfl, h3⟩
        refine ⟨_, rfl, ?_⟩
        have S6 := Aside0.mk (ST.step S5.out h3)
        have h3 := undrew (below_step h35.out h3)
        have SF := Aside0.mk (S.out.late h3 (.int .i64 r0) (.string r1))
        have hbk := blk_below (blk_new _ _) h3
        have kc0 := (blk_cell hbk 0).trans (rfl : _ = some (Value.int .i64 0))
        have kc1 := (blk_cell (blk_put hbk 0 (.int .i64 r0) rfl) 1).trans (rfl : _ = some (Value.string ⟨#[]⟩))
        have kf0 := blk_frozen hbk 0
        have kf1 := blk_frozen (blk_put hbk 0 (.int .i64 r0) rfl) 1
        clear hbk
        try simp only [sz_alloc] at kc0 kc1 kf0 kf1 SF
        clear h3
        refine hK.out _ _ (ST.c6 rfl rfl rfl S6.out) (fun hHeld => ?_)
        clear hK K
        refine norm_ (a' := ?_) ?_ ?_
        rotate_left
        · show Act.put _ (some 40) _ = _
          simp only [Act.put, List.setIfInBounds_toArray, List.set_cons_zero, List.set_cons_succ, i64_w, i32_w]
          rfl
        refine last_ (i := 8) (N := none) #[true, true, true, true, true, true, true, true, true] rfl rfl (one_of HT_.out (by kernel_rfl)) (by decide) (fun K hK => ?_)
        refine skip_ (w1 := ?_) (by rfl) rfl ?_ ?_
        rotate_left
        · go_simp
          rfl
        refine hK.out _ _ ?_
        clear hK K
        refine done_ (done_of HT_.out (by kernel_rfl)) ?_
        go_wp2
        go_meet
        case rel => exact ⟨_, rfl, SF⟩
    case rest =>
      obtain ⟨g11, rfl, S⟩ := hcut
      have cr0 : (wc).cell? ⟨g10, 0, none⟩ = some (.int .i64 r0) := ST.cell (j := 4) S.out rfl 0
      have cr1 : (wc).cell? ⟨g10, 1, none⟩ = some (.string r1) := ST.cell (j := 4) S.out rfl 1
      have cq0 : (wc).cell? ⟨g11, 0, none⟩ = some (.int .i64 r0) := ST.cell (j := 5) S.out rfl 0
      have cq1 : (wc).cell? ⟨g11, 1, none⟩ = some (.string r1) := ST.cell (j := 5) S.out rfl 1
      by_cases hk : k = 3
      · obtain ⟨e1, e2⟩ := HS3.out hk
        subst e1 e2 hk
        have cc0 : (wc).cell? ⟨w5.heap.size, 0, none⟩ = some (.int .i64 r0) := ST.cell (j := 3) S.out rfl 0
        have cc1 : (wc).cell? ⟨w5.heap.size, 1, none⟩ = some (.string r1) := ST.cell (j := 3) S.out rfl 1
        go_wp2
        go_ret
        exact ⟨rfl, S.out.b⟩
      · have hk3 : (k == 3) = false := by simp [hk]
        have HAB2 := Aside0.mk (addn P0.out P1.out hk)
        have HBA2 := Aside0.mk (addn P1.out P0.out hk)
        rw [show b0 + a0 = a0 + b0 from Int.add_comm _ _] at HBA2
        have HZ := Aside0.mk (addz P0.out hk)
        clear HAB HABC HBC HABC2 hk HR HS3 HR1
        go_upto_region 12 with fail
        refine start_ (n := 34) (S := fun w' => w'.cell? ⟨w3.heap.size, 0, none⟩ = some (.int .i64 a0) ∧ w'.cell? ⟨w3.heap.size, 1, none⟩ = some (.string a1) ∧ w'.cell? ⟨w4.heap.size, 0, none⟩ = some (.int .i64 b0) ∧ w'.cell? ⟨w4.heap.size, 1, none⟩ = some (.string b1) ∧ w'.cell? ⟨w5.heap.size, 0, none⟩ = some (.int .i64 c0) ∧ w'.cell? ⟨w5.heap.size, 1, none⟩ = some (.string c1)) (ds := []) #[false, false, false, false, false, false, false, false, false, false, false, false, false, false, false, false, false, false, false, false, false, false, false, false, false, false, false, false, false, false, false, false, false, false] (by kernel_rfl) rfl rfl (ST.c6 rfl rfl rfl S.out.drew) (fun hHeld => ?_); refine with_tabW ValueSums.tab12 ValueSums.bits12 (fun HT_ HW_ => ?_)
        refine pure_ (i := 0) (N := (some 52)) (v := ?_) (a' := ?_) #[true, false, false, false, false, false, false, false, false, false, false, false, false, false, false, false, false, false, false, false, false, false, false, false, false, false, false, false, false, false, false, false, false, false] rfl rfl (any_of HT_.out (by kernel_rfl)) (fun _ _ _ h => h) (Or.inl ⟨by rfl, ?_⟩) ?_ ?_
        rotate_left
        · intro w'
          go_simp
          with_reducible rfl
        rotate_left
        · simp only [Act.put, List.setIfInBounds_toArray, List.set_cons_zero, List.set_cons_succ, i64_w, i32_w]
          rfl
        refine pure_ (i := 1) (N := (some 53)) (v := ?_) (a' := ?_) #[true, true, false, false, false, false, false, false, false, false, false, false, false, false, false, false, false, false, false, false, false, false, false, false, false, false, false, false, false, false, false, false, false, false] rfl rfl (any_of HT_.out (by kernel_rfl)) (fun _ _ _ h => h) (Or.inl ⟨by rfl, ?_⟩) ?_ ?_
        rotate_left
        · intro w'
          go_simp
          with_reducible rfl
        rotate_left
        · simp only [Act.put, List.setIfInBounds_toArray, List.set_cons_zero, List.set_cons_succ, i64_w, i32_w]
          rfl
        refine pure_ (i := 2) (N := (some 54)) (v := ?_) (a' := ?_) #[true, true, true, false, false, false, false, false, false, false, false, false, false, false, false, false, false, false, false, false, false, false, false, false, false, false, false, false, false, false, false, false, false, false] rfl rfl (any_of HT_.out (by kernel_rfl)) (fun _ _ _ h => h) (Or.inl ⟨by rfl, ?_⟩) ?_ ?_
        rotate_left
        · intro w'
          go_simp
          with_reducible rfl
        rotate_left
        · simp only [Act.put, List.setIfInBounds_toArray, List.set_cons_zero, List.set_cons_succ, i64_w, i32_w]
          rfl
        refine take_ (i := 3) (N := (some 55)) (v := ?_) (a' := ?_) #[true, true, true, true, false, false, false, false, false, false, false, false, false, false, false, false, false, false, false, false, false, false, false, false, false, false, false, false, false, false, false, false, false, false] rfl rfl (take_ofW HT_.out HW_.out (by kernel_rfl)) (fun _ _ _ h => h) (Or.inl ⟨by rfl, ?_⟩) hHeld ?_ ?_
        rotate_left
        · rintro w' ⟨s0, s1, s2, s3, s4, s5⟩
          go_simp
          with_reducible rfl
        rotate_left
        · simp only [Act.put, List.setIfInBounds_toArray, List.set_cons_zero, List.set_cons_succ, i64_w, i32_w]
          rfl
        refine take_ (i := 4) (N := (some 56)) (v := ?_) (a' := ?_) #[true, true, true, true, true, false, false, false, false, false, false, false, false, false, false, false, false, false, false, false, false, false, false, false, false, false, false, false, false, false, false, false, false, false] rfl rfl (take_ofW HT_.out HW_.out (by kernel_rfl)) (fun _ _ _ h => h) (Or.inl ⟨by rfl, ?_⟩) hHeld ?_ ?_
        rotate_left
        · rintro w' ⟨s0, s1, s2, s3, s4, s5⟩
          go_simp
          with_reducible rfl
        rotate_left
        · simp only [Act.put, List.setIfInBounds_toArray, List.set_cons_zero, List.set_cons_succ, i64_w, i32_w]
          rfl
        refine pure_ (i := 6) (N := (some 58)) (v := ?_) (a' := ?_) #[true, true, true, true, true, false, true, false, false, false, false, false, false, false, false, false, false, false, false, false, false, false, false, false, false, false, false, false, false, false, false, false, false, false] rfl rfl (any_of HT_.out (by kernel_rfl)) (fun _ _ _ h => h) (Or.inl ⟨by rfl, ?_⟩) ?_ ?_
        rotate_left
        · intro w'
          go_simp
          with_reducible rfl
        rotate_left
        · simp only [Act.put, List.setIfInBounds_toArray, List.set_cons_zero, List.set_cons_succ, i64_w, i32_w]
          rfl
        refine take_ (i := 7) (N := (some 59)) (v := ?_) (a' := ?_) #[true, true, true, true, true, false, true, true, false, false, false, false, false, false, false, false, false, false, false, false, false, false, false, false, false, false, false, false, false, false, false, false, false, false] rfl rfl (take_ofW HT_.out HW_.out (by kernel_rfl)) (fun _ _ _ h => h) (Or.inl ⟨by rfl, ?_⟩) hHeld ?_ ?_
        rotate_left
        · rintro w' ⟨s0, s1, s2, s3, s4, s5⟩
          go_simp
          with_reducible rfl
        rotate_left
        · simp only [Act.put, List.setIfInBounds_toArray, List.set_cons_zero, List.set_cons_succ, i64_w, i32_w]
          rfl
        refine take_ (i := 8) (N := (some 60)) (v := ?_) (a' := ?_) #[true, true, true, true, true, false, true, true, true, false, false, false, false, false, false, false, false, false, false, false, false, false, false, false, false, false, false, false, false, false, false, false, false, false] rfl rfl (take_ofW HT_.out HW_.out (by kernel_rfl)) (fun _ _ _ h => h) (Or.inl ⟨by rfl, ?_⟩) hHeld ?_ ?_
        rotate_left
        · rintro w' ⟨s0, s1, s2, s3, s4, s5⟩
          go_simp
          with_reducible rfl
        rotate_left
        · simp only [Act.put, List.setIfInBounds_toArray, List.set_cons_zero, List.set_cons_succ, i64_w, i32_w]
          rfl
        refine one_ (i := 5) (N := (some 57)) #[true, true, true, true, true, true, true, true, true, false, false, false, false, false, false, false, false, false, false, false, false, false, false, false, false, false, false, false, false, false, false, false, false, false] rfl rfl (one_of HT_.out (by kernel_rfl)) (by decide) (fun K hK => ?_)
        refine goes_ Tryd.func14 (by kernel_rfl) rfl #[.int .i64 k, .agg #[.int .i64 a0, .string a1], .agg #[.int .i64 b0, .string b1]] (by rfl) rfl rfl (by (try simp only [List.map_toArray, List.map_cons, List.map_nil]); first | done | rfl) ?_
        refine (HAB2.out _).mono ?_
        rintro e x1 ⟨rfl, h3⟩
        refine ⟨_, rfl, ?_⟩
        have S1 := Aside0.mk (ST.step S.out.drew h3)
        clear h3
        refine hK.out _ _ (ST.c6 rfl rfl rfl S1.out) (fun hHeld => ?_)
        clear hK K
        refine norm_ (a' := ?_) ?_ ?_
        rotate_left
        · show Act.put _ (some 57) _ = _
          simp only [Act.put, List.setIfInBounds_toArray, List.set_cons_zero, List.set_cons_succ, i64_w, i32_w]
          rfl
        refine one_ (i := 9) (N := (some 61)) #[true, true, true, true, true, true, true, true, true, true, false, false, false, false, false, false, false, false, false, false, false, false, false, false, false, false, false, false, false, false, false, false, false, false] rfl rfl (one_of HT_.out (by kernel_rfl)) (by decide) (fun K hK => ?_)
        refine goes_ Tryd.func14 (by kernel_rfl) rfl #[.int .i64 k, .agg #[.int .i64 b0, .string b1], .agg #[.int .i64 a0, .string a1]] (by rfl) rfl rfl (by (try simp only [List.map_toArray, List.map_cons, List.map_nil]); first | done | rfl) ?_
        refine (HBA2.out _).mono ?_
        rintro e x2 ⟨rfl, h3⟩
        refine ⟨_, rfl, ?_⟩
        have S2 := Aside0.mk (ST.step S1.out h3)
        clear h3
        refine hK.out _ _ (ST.c6 rfl rfl rfl S2.out) (fun hHeld => ?_)
        clear hK K
        refine norm_ (a' := ?_) ?_ ?_
        rotate_left
        · show Act.put _ (some 61) _ = _
          simp only [Act.put, List.setIfInBounds_toArray, List.set_cons_zero, List.set_cons_succ, i64_w, i32_w]
          rfl
        refine pure_ (i := 10) (N := (some 62)) (v := ?_) (a' := ?_) #[true, true, true, true, true, true, true, true, true, true, true, false, false, false, false, false, false, false, false, false, false, false, false, false, false, false, false, false, false, false, false, false, false, false] rfl rfl (any_of HT_.out (by kernel_rfl)) (fun _ _ _ h => h) (Or.inl ⟨by rfl, ?_⟩) ?_ ?_
        rotate_left
        · intro w'
          go_simp
          with_reducible rfl
        rotate_left
        · simp only [Act.put, List.setIfInBounds_toArray, List.set_cons_zero, List.set_cons_succ, i64_w, i32_w]
          rfl
        refine pure_ (i := 11) (N := (some 63)) (v := ?_) (a' := ?_) #[true, true, true, true, true, true, true, true, true, true, true, true, false, false, false, false, false, false, false, false, false, false, false, false, false, false, false, false, false, false, false, false, false, false] rfl rfl (any_of HT_.out (by kernel_rfl)) (fun _ _ _ h => h) (Or.inl ⟨by rfl, ?_⟩) ?_ ?_
        rotate_left
        · intro w'
          go_simp
          with_reducible rfl
        rotate_left
        · simp only [Act.put, List.setIfInBounds_toArray, List.set_cons_zero, List.set_cons_succ, i64_w, i32_w]
          rfl
        refine pure_ (i := 12) (N := (some 64)) (v := ?_) (a' := ?_) #[true, true, true, true, true, true, true, true, true, true, true, true, true, false, false, false, false, false, false, false, false, false, false, false, false, false, false, false, false, false, false, false, false, false] rfl rfl (any_of HT_.out (by kernel_rfl)) (fun _ _ _ h => h) (Or.inl ⟨by rfl, ?_⟩) ?_ ?_
        rotate_left
        · intro w'
          go_simp
          with_reducible rfl
        rotate_left
        · simp only [Act.put, List.setIfInBounds_toArray, List.set_cons_zero, List.set_cons_succ, i64_w, i32_w]
          rfl
        refine pure_ (i := 13) (N := (some 65)) (v := ?_) (a' := ?_) #[true, true, true, true, true, true, true, true, true, true, true, true, true, true, false, false, false, false, false, false, false, false, false, false, false, false, false, false, false, false, false, false, false, false] rfl rfl (any_of HT_.out (by kernel_rfl)) (fun _ _ _ h => h) (Or.inl ⟨by rfl, ?_⟩) ?_ ?_
        rotate_left
        · intro w'
          go_simp
          with_reducible rfl
        rotate_left
        · simp only [Act.put, List.setIfInBounds_toArray, List.set_cons_zero, List.set_cons_succ, i64_w, i32_w]
          rfl
        refine take_ (i := 14) (N := (some 66)) (v := ?_) (a' := ?_) #[true, true, true, true, true, true, true, true, true, true, true, true, true, true, true, false, false, false, false, false, false, false, false, false, false, false, false, false, false, false, false, false, false, false] rfl rfl (take_ofW HT_.out HW_.out (by kernel_rfl)) (fun _ _ _ h => h) (Or.inl ⟨by rfl, ?_⟩) hHeld ?_ ?_
        rotate_left
        · rintro w' ⟨s0, s1, s2, s3, s4, s5⟩
          go_simp
          with_reducible rfl
        rotate_left
        · simp only [Act.put, List.setIfInBounds_toArray, List.set_cons_zero, List.set_cons_succ, i64_w, i32_w]
          rfl
        refine take_ (i := 15) (N := (some 67)) (v := ?_) (a' := ?_) #[true, true, true, true, true, true, true, true, true, true, true, true, true, true, true, true, false, false, false, false, false, false, false, false, false, false, false, false, false, false, false, false, false, false] rfl rfl (take_ofW HT_.out HW_.out (by kernel_rfl)) (fun _ _ _ h => h) (Or.inl ⟨by rfl, ?_⟩) hHeld ?_ ?_
        rotate_left
        · rintro w' ⟨s0, s1, s2, s3, s4, s5⟩
          go_simp
          with_reducible rfl
        rotate_left
        · simp only [Act.put, List.setIfInBounds_toArray, List.set_cons_zero, List.set_cons_succ, i64_w, i32_w]
          rfl
        refine pure_ (i := 18) (N := (some 70)) (v := ?_) (a' := ?_) #[true, true, true, true, true, true, true, true, true, true, true, true, true, true, true, true, false, false, true, false, false, false, false, false, false, false, false, false, false, false, false, false, false, false] rfl rfl (any_of HT_.out (by kernel_rfl)) (fun _ _ _ h => h) (Or.inl ⟨by rfl, ?_⟩) ?_ ?_
        rotate_left
        · intro w'
          go_simp
          with_reducible rfl
        rotate_left
        · simp only [Act.put, List.setIfInBounds_toArray, List.set_cons_zero, List.set_cons_succ, i64_w, i32_w]
          rfl
        refine take_ (i := 19) (N := (some 71)) (v := ?_) (a' := ?_) #[true, true, true, true, true, true, true, true, true, true, true, true, true, true, true, true, false, false, true, true, false, false, false, false, false, false, false, false, false, false, false, false, false, false] rfl rfl (take_ofW HT_.out HW_.out (by kernel_rfl)) (fun _ _ _ h => h) (Or.inl ⟨by rfl, ?_⟩) hHeld ?_ ?_
        rotate_left
        · rintro w' ⟨s0, s1, s2, s3, s4, s5⟩
          go_simp
          with_reducible rfl
        rotate_left
        · simp only [Act.put, List.setIfInBounds_toArray, List.set_cons_zero, List.set_cons_succ, i64_w, i32_w]
          rfl
        refine pure_ (i := 20) (N := (some 72)) (v := ?_) (a' := ?_) #[true, true, true, true, true, true, true, true, true, true, true, true, true, true, true, true, false, false, true, true, true, false, false, false, false, false, false, false, false, false, false, false, false, false] rfl rfl (any_of HT_.out (by kernel_rfl)) (fun _ _ _ h => h) (Or.inl ⟨by rfl, ?_⟩) ?_ ?_
        rotate_left
        · intro w'
          go_simp
          with_reducible rfl
        rotate_left
        · simp only [Act.put, List.setIfInBounds_toArray, List.set_cons_zero, List.set_cons_succ, i64_w, i32_w]
          rfl
        refine take_ (i := 21) (N := (some 73)) (v := ?_) (a' := ?_) #[true, true, true, true, true, true, true, true, true, true, true, true, true, true, true, true, false, false, true, true, true, true, false, false, false, false, false, false, false, false, false, false, false, false] rfl rfl (take_ofW HT_.out HW_.out (by kernel_rfl)) (fun _ _ _ h => h) (Or.inl ⟨by rfl, ?_⟩) hHeld ?_ ?_
        rotate_left
        · rintro w' ⟨s0, s1, s2, s3, s4, s5⟩
          go_simp
          with_reducible rfl
        rotate_left
        · simp only [Act.put, List.setIfInBounds_toArray, List.set_cons_zero, List.set_cons_succ, i64_w, i32_w]
          rfl
        refine pure_ (i := 22) (N := (some 74)) (v := ?_) (a' := ?_) #[true, true, true, true, true, true, true, true, true, true, true, true, true, true, true, true, false, false, true, true, true, true, true, false, false, false, false, false, false, false, false, false, false, false] rfl rfl (any_of HT_.out (by kernel_rfl)) (fun _ _ _ h => h) (Or.inl ⟨by rfl, ?_⟩) ?_ ?_
        rotate_left
        · intro w'
          go_simp
          with_reducible rfl
        rotate_left
        · simp only [Act.put, List.setIfInBounds_toArray, List.set_cons_zero, List.set_cons_succ, i64_w, i32_w]
          rfl
        refine one_ (i := 16) (N := (some 68)) #[true, true, true, true, true, true, true, true, true, true, true, true, true, true, true, true, true, false, true, true, true, true, true, false, false, false, false, false, false, false, false, false, false, false] rfl rfl (one_of HT_.out (by kernel_rfl)) (by decide) (fun K hK => ?_)
        refine goes_ Tryd.func14 (by kernel_rfl) rfl #[.int .i64 k, .agg #[.int .i64 a0, .string a1], .agg #[.int .i64 b0, .string b1]] (by rfl) rfl rfl (by (try simp only [List.map_toArray, List.map_cons, List.map_nil]); first | done | rfl) ?_
        refine (HAB2.out _).mono ?_
        rintro e x3 ⟨rfl, h3⟩
        refine ⟨_, rfl, ?_⟩
        have S3 := Aside0.mk (ST.step S2.out h3)
        clear h3
        refine hK.out _ _ (ST.c6 rfl rfl rfl S3.out) (fun hHeld => ?_)
        clear hK K
        refine norm_ (a' := ?_) ?_ ?_
        rotate_left
        · show Act.put _ (some 68) _ = _
          simp only [Act.put, List.setIfInBounds_toArray, List.set_cons_zero, List.set_cons_succ, i64_w, i32_w]
          rfl
        refine pure_ (i := 17) (N := (some 69)) (v := ?_) (a' := ?_) #[true, true, true, true, true, true, true, true, true, true, true, true, true, true, true, true, true, true, true, true, true, true, true, false, false, false, false, false, false, false, false, false, false, false] rfl rfl (any_of HT_.out (by kernel_rfl)) (fun _ _ _ h => h) (Or.inl ⟨by rfl, ?_⟩) ?_ ?_
        rotate_left
        · intro w'
          go_simp
          with_reducible rfl
        rotate_left
        · simp only [Act.put, List.setIfInBounds_toArray, List.set_cons_zero, List.set_cons_succ, i64_w, i32_w]
          rfl
        refine pure_ (i := 23) (N := (some 75)) (v := ?_) (a' := ?_) #[true, true, true, true, true, true, true, true, true, true, true, true, true, true, true, true, true, true, true, true, true, true, true, true, false, false, false, false, false, false, false, false, false, false] rfl rfl (any_of HT_.out (by kernel_rfl)) (fun _ _ _ h => h) (Or.inl ⟨by rfl, ?_⟩) ?_ ?_
        rotate_left
        · intro w'
          go_simp
          with_reducible rfl
        rotate_left
        · simp only [Act.put, List.setIfInBounds_toArray, List.set_cons_zero, List.set_cons_succ, i64_w, i32_w]
          rfl
        refine pure_ (i := 24) (N := (some 76)) (v := ?_) (a' := ?_) #[true, true, true, true, true, true, true, true, true, true, true, true, true, true, true, true, true, true, true, true, true, true, true, true, true, false, false, false, false, false, false, false, false, false] rfl rfl (any_of HT_.out (by kernel_rfl)) (fun _ _ _ h => h) (Or.inl ⟨by rfl, ?_⟩) ?_ ?_
        rotate_left
        · intro w'
          go_simp
          with_reducible rfl
        rotate_left
        · simp only [Act.put, List.setIfInBounds_toArray, List.set_cons_zero, List.set_cons_succ, i64_w, i32_w]
          rfl
        refine pure_ (i := 25) (N := (some 77)) (v := ?_) (a' := ?_) #[true, true, true, true, true, true, true, true, true, true, true, true, true, true, true, true, true, true, true, true, true, true, true, true, true, true, false, false, false, false, false, false, false, false] rfl rfl (any_of HT_.out (by kernel_rfl)) (fun _ _ _ h => h) (Or.inl ⟨by rfl, ?_⟩) ?_ ?_
        rotate_left
        · intro w'
          go_simp
          with_reducible rfl
        rotate_left
        · simp only [Act.put, List.setIfInBounds_toArray, List.set_cons_zero, List.set_cons_succ, i64_w, i32_w]
          rfl
        refine pure_ (i := 26) (N := (some 78)) (v := ?_) (a' := ?_) #[true, true, true, true, true, true, true, true, true, true, true, true, true, true, true, true, true, true, true, true, true, true, true, true, true, true, true, false, false, false, false, false, false, false] rfl rfl (any_of HT_.out (by kernel_rfl)) (fun _ _ _ h => h) (Or.inl ⟨by rfl, ?_⟩) ?_ ?_
        rotate_left
        · intro w'
          go_simp
          with_reducible rfl
        rotate_left
        · simp only [Act.put, List.setIfInBounds_toArray, List.set_cons_zero, List.set_cons_succ, i64_w, i32_w]
          rfl
        refine take_ (i := 27) (N := (some 79)) (v := ?_) (a' := ?_) #[true, true, true, true, true, true, true, true, true, true, true, true, true, true, true, true, true, true, true, true, true, true, true, true, true, true, true, true, false, false, false, false, false, false] rfl rfl (take_ofW HT_.out HW_.out (by kernel_rfl)) (fun _ _ _ h => h) (Or.inl ⟨by rfl, ?_⟩) hHeld ?_ ?_
        rotate_left
        · rintro w' ⟨s0, s1, s2, s3, s4, s5⟩
          go_simp
          with_reducible rfl
        rotate_left
        · simp only [Act.put, List.setIfInBounds_toArray, List.set_cons_zero, List.set_cons_succ, i64_w, i32_w]
          rfl
        refine pure_ (i := 28) (N := (some 80)) (v := ?_) (a' := ?_) #[true, true, true, true, true, true, true, true, true, true, true, true, true, true, true, true, true, true, true, true, true, true, true, true, true, true, true, true, true, false, false, false, false, false] rfl rfl (any_of HT_.out (by kernel_rfl)) (fun _ _ _ h => h) (Or.inl ⟨by rfl, ?_⟩) ?_ ?_
        rotate_left
        · intro w'
          go_simp
          with_reducible rfl
        rotate_left
        · simp only [Act.put, List.setIfInBounds_toArray, List.set_cons_zero, List.set_cons_succ, i64_w, i32_w]
          rfl
        refine take_ (i := 30) (N := (some 82)) (v := ?_) (a' := ?_) #[true, true, true, true, true, true, true, true, true, true, true, true, true, true, true, true, true, true, true, true, true, true, true, true, true, true, true, true, true, false, true, false, false, false] rfl rfl (take_ofW HT_.out HW_.out (by kernel_rfl)) (fun _ _ _ h => h) (Or.inl ⟨by rfl, ?_⟩) hHeld ?_ ?_
        rotate_left
        · rintro w' ⟨s0, s1, s2, s3, s4, s5⟩
          go_simp
          with_reducible rfl
        rotate_left
        · simp only [Act.put, List.setIfInBounds_toArray, List.set_cons_zero, List.set_cons_succ, i64_w, i32_w]
          rfl
        refine one_ (i := 29) (N := (some 81)) #[true, true, true, true, true, true, true, true, true, true, true, true, true, true, true, true, true, true, true, true, true, true, true, true, true, true, true, true, true, true, true, false, false, false] rfl rfl (one_of HT_.out (by kernel_rfl)) (by decide) (fun K hK => ?_)
        refine goes_ Tryd.func14 (by kernel_rfl) rfl #[.int .i64 k, .agg #[.int .i64 a0, .string a1], .agg #[.int .i64 0, .string ⟨#[]⟩]] (by rfl) rfl rfl (by (try simp only [List.map_toArray, List.map_cons, List.map_nil]); first | done | rfl) ?_
        refine (HZ.out _).mono ?_
        rintro e x4 ⟨rfl, h3⟩
        refine ⟨_, rfl, ?_⟩
        have S4 := Aside0.mk (ST.step S3.out h3)
        clear h3
        refine hK.out _ _ (ST.c6 rfl rfl rfl S4.out) (fun hHeld => ?_)
        clear hK K
        refine norm_ (a' := ?_) ?_ ?_
        rotate_left
        · show Act.put _ (some 81) _ = _
          simp only [Act.put, List.setIfInBounds_toArray, List.set_cons_zero, List.set_cons_succ, i64_w, i32_w]
          rfl
        refine pure_ (i := 31) (N := (some 83)) (v := ?_) (a' := ?_) #[true, true, true, true, true, true, true, true, true, true, true, true, true, true, true, true, true, true, true, true, true, true, true, true, true, true, true, true, true, true, true, true, false, false] rfl rfl (any_of HT_.out (by kernel_rfl)) (fun _ _ _ h => h) (Or.inl ⟨by rfl, ?_⟩) ?_ ?_
        rotate_left
        · intro w'
          go_simp
          with_reducible rfl
        rotate_left
        · simp only [Act.put, List.setIfInBounds_toArray, List.set_cons_zero, List.set_cons_succ, i64_w, i32_w]
          rfl
        refine pure_ (i := 32) (N := (some 84)) (v := ?_) (a' := ?_) #[true, true, true, true, true, true, true, true, true, true, true, true, true, true, true, true, true, true, true, true, true, true, true, true, true, true, true, true, true, true, true, true, true, false] rfl rfl (any_of HT_.out (by kernel_rfl)) (fun _ _ _ h => h) (Or.inl ⟨by rfl, ?_⟩) ?_ ?_
        rotate_left
        · intro w'
          go_simp
          with_reducible rfl
        rotate_left
        · simp only [Act.put, List.setIfInBounds_toArray, List.set_cons_zero, List.set_cons_succ, i64_w, i32_w]
          rfl
        refine pure_ (i := 33) (N := (some 4)) (v := ?_) (a' := ?_) #[true, true, true, true, true, true, true, true, true, true, true, true, true, true, true, true, true, true, true, true, true, true, true, true, true, true, true, true, true, true, true, true, true, true] rfl rfl (any_of HT_.out (by kernel_rfl)) (fun _ _ _ h => h) (Or.inl ⟨by rfl, ?_⟩) ?_ ?_
        rotate_left
        · intro w'
          go_simp
          with_reducible rfl
        rotate_left
        · simp only [Act.put, List.setIfInBounds_toArray, List.set_cons_zero, List.set_cons_succ, i64_w, i32_w]
          rfl
        refine done_ (done_of HT_.out (by kernel_rfl)) ?_
        go_wp2
        go_ret
        exact ⟨rfl, S4.out.b⟩
end Go.Proofs.YtohbpgdhpfmlgaaDoor.PA
