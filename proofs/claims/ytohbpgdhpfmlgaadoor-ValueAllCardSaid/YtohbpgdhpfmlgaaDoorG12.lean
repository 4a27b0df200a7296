/- value.Read. -/
import Derived.Test.YtohbpgdhpfmlgaaDoorG11
import Derived.Test.YtohbpgdhpfmlgaaDoorPAx2
import Derived.Deep.CutBlock
import Derived.Deep.DeepCutAuto
import Derived.Deep.RegionHeld3
namespace Go.Proofs.YtohbpgdhpfmlgaaDoor.PA
open Go.Shelf Go.RowKit Go.Lib Go.Proofs.YtohbpgdhpfmlgaaDoorW.PrintWords Go.Proofs.YtohbpgdhpfmlgaaDoorW.PrintLast
set_option linter.unusedVariables false
set_option linter.unusedSimpArgs false
theorem numEnd_cases {α : Type} (r : NumEnd α) : (∃ v, r = .ok v) ∨ (∀ v, r ≠ .ok v) := by
  cases r with
  | ok v => exact Or.inl ⟨v, rfl⟩
  | _ => exact Or.inr (fun v h => by cases h)
theorem pInt (s : ByteArray) (hs : s.size ≤ 140737488351232) (w : World) (HT : Aside0 (LE w)) :
    Calls Tryd.prog 30 #[.string s, .int .i64 10, .int .i64 64] w fun e w' => ∃ n ev, e = .returned (.tuple #[.int .i64 n, ev]) ∧ ((Lib.parseIntB 64 s.data.toList = .ok n ∧ ev = .nilIface) ∨ ((∀ v, Lib.parseIntB 64 s.data.toList ≠ .ok v) ∧ ∃ p, ev = .iface 81 (.pointer (some p)))) ∧ Below w.heap.size w w' := by
  obtain ⟨_, ⟨e2, h2, h2'⟩, ⟨e3, h3, h3'⟩⟩ := HT.out
  cases h : Lib.parseIntB 64 s.data.toList with
  | ok v =>
    refine (Tryd.strconv_ParseInt_10_at64_ok s (by omega) v h w).mono ?_
    rintro e w' ⟨rfl, hw⟩
    refine ⟨_, _, rfl, Or.inl ⟨rfl, rfl⟩, ?_⟩
    rcases hw with rfl | ⟨t, rfl⟩
    · exact Below.refl _ _
    · exact bytes_below _ _ _
  | _ =>
    first
    | (refine (Any.strconv_ParseInt_10_at64_syntax Tryd.laysC174 s (by omega) h e2 w h2 h2').mono ?_
       rintro e w' ⟨N, rfl, _, _, hb⟩
       exact ⟨_, _, rfl, Or.inr ⟨(fun v hv => by cases hv), _, rfl⟩, hb⟩)
    | (refine (Any.strconv_ParseInt_10_at64_range Tryd.laysC174 s (by omega) h e3 w h3 h3').mono ?_
       rintro e w' ⟨N, rfl, _, _, hb⟩
       exact ⟨_, _, rfl, Or.inr ⟨(fun v hv => by cases hv), _, rfl⟩, hb⟩)
theorem pUint (s : ByteArray) (hs : s.size ≤ 140737488351232) (w : World) (HT : Aside0 (LE w)) :
    Calls Tryd.prog 31 #[.string s, .int .i64 10, .int .i64 64] w fun e w' => ∃ (n : Nat) (ev : Value), e = .returned (.tuple #[.int .u64 n, ev]) ∧ ((Lib.parseUintB 64 s.data.toList = .ok n ∧ ev = .nilIface) ∨ ((∀ v, Lib.parseUintB 64 s.data.toList ≠ .ok v) ∧ ∃ p, ev = .iface 81 (.pointer (some p)))) ∧ Below w.heap.size w w' := by
  obtain ⟨_, ⟨e2, h2, h2'⟩, ⟨e3, h3, h3'⟩⟩ := HT.out
  cases h : Lib.parseUintB 64 s.data.toList with
  | ok v =>
    refine (Tryd.strconv_ParseUint_10_at64_ok s (by omega) v h w).mono ?_
    rintro e w' ⟨rfl, hw⟩
    refine ⟨_, _, rfl, Or.inl ⟨rfl, rfl⟩, ?_⟩
    rcases hw with rfl | rfl
    · exact Below.refl _ _
    · exact bytes_below _ _ _
  | _ =>
    first
    | (refine (Any.strconv_ParseUint_10_at64_syntax Tryd.laysPu14 s (by omega) h e2 w h2 h2').mono ?_
       rintro e w' ⟨N, rfl, _, _, hb⟩
       exact ⟨0, _, rfl, Or.inr ⟨(fun v hv => by cases hv), _, rfl⟩, hb⟩)
    | (refine (Any.strconv_ParseUint_10_at64_range Tryd.laysPu14 s (by omega) h e3 w h3 h3').mono ?_
       rintro e w' ⟨N, rfl, _, _, hb⟩
       exact ⟨18446744073709551615, _, rfl, Or.inr ⟨(fun v hv => by cases hv), _, rfl⟩, hb⟩)
/-- What a text's letters say. -/
def parsed (t : Int) (s : ByteArray) : Option (Int × ByteArray) :=
  if t = 1 then (match Lib.parseIntB 64 s.data.toList with | .ok v => some (v, ⟨#[]⟩) | _ => none)
  else if t = 2 then (match Lib.parseUintB 64 s.data.toList with | .ok u => some (wrap64 (u : Int), ⟨#[]⟩) | _ => none)
  else if (textV s).2 = true then some (0, ⟨(textV s).1.toArray⟩) else none
/-- Read's two variables. -/
structure RS (w W : World) (g4 g6 : Nat) (n0 : Int) (x0 : ByteArray) (n : Int) (x : ByteArray) : Prop where
  b : Below w.heap.size w W
  b4 : W.heap[g4]? = some (.cells #[.int .i64 n0, .string x0] 23 (0, 0))
  b6 : W.heap[g6]? = some (.cells #[.int .i64 n, .string x] 23 (0, 0))
  l4 : w.heap.size ≤ g4
  l6 : w.heap.size ≤ g6
  ne : g4 ≠ g6
section
variable {w W W' : World} {g4 g6 : Nat} {n0 n : Int} {x0 x : ByteArray}
theorem RS.step (h : RS w W g4 g6 n0 x0 n x) (hb : Below W.heap.size W W') : RS w W' g4 g6 n0 x0 n x := ⟨below_step h.b hb, blk_below h.b4 hb, blk_below h.b6 hb, h.l4, h.l6, h.ne⟩
theorem RS.drew (h : RS w W g4 g6 n0 x0 n x) : RS w W.drew g4 g6 n0 x0 n x := h.step (below_drew (Below.refl _ _))
theorem RS.set6 (h : RS w W g4 g6 n0 x0 n x) (m : Int) : RS w (W.setCell ⟨g6, 0, none⟩ (.int .i64 m)) g4 g6 n0 x0 m x := ⟨below_set h.b h.l6, blk_far h.b4 h.ne _, blk_put h.b6 0 _ rfl, h.l4, h.l6, h.ne⟩
theorem RS.set6s (h : RS w W g4 g6 n0 x0 n x) (m : ByteArray) : RS w (W.setCell ⟨g6, 1, none⟩ (.string m)) g4 g6 n0 x0 n m := ⟨below_set h.b h.l6, blk_far h.b4 h.ne _, blk_put h.b6 1 _ rfl, h.l4, h.l6, h.ne⟩
theorem RS.set4 (h : RS w W g4 g6 n0 x0 n x) (m : Int) : RS w (W.setCell ⟨g4, 0, none⟩ (.int .i64 m)) g4 g6 m x0 n x := ⟨below_set h.b h.l4, blk_put h.b4 0 _ rfl, blk_far h.b6 h.ne.symm _, h.l4, h.l6, h.ne⟩
theorem RS.set4s (h : RS w W g4 g6 n0 x0 n x) (m : ByteArray) : RS w (W.setCell ⟨g4, 1, none⟩ (.string m)) g4 g6 n0 m n x := ⟨below_set h.b h.l4, blk_put h.b4 1 _ rfl, blk_far h.b6 h.ne.symm _, h.l4, h.l6, h.ne⟩
theorem RS.c60 (h : RS w W g4 g6 n0 x0 n x) : W.cell? ⟨g6, 0, none⟩ = some (.int .i64 n) := (blk_cell h.b6 0).trans rfl
theorem RS.c61 (h : RS w W g4 g6 n0 x0 n x) : W.cell? ⟨g6, 1, none⟩ = some (.string x) := (blk_cell h.b6 1).trans rfl
theorem RS.c40 (h : RS w W g4 g6 n0 x0 n x) : W.cell? ⟨g4, 0, none⟩ = some (.int .i64 n0) := (blk_cell h.b4 0).trans rfl
theorem RS.c41 (h : RS w W g4 g6 n0 x0 n x) : W.cell? ⟨g4, 1, none⟩ = some (.string x0) := (blk_cell h.b4 1).trans rfl
theorem RS.f6 (h : RS w W g4 g6 n0 x0 n x) (i : Nat) : W.frozen? ⟨g6, i, none⟩ = false := blk_frozen h.b6 i
theorem RS.f4 (h : RS w W g4 g6 n0 x0 n x) (i : Nat) : W.frozen? ⟨g4, i, none⟩ = false := blk_frozen h.b4 i
theorem sz_al (w : World) (o : Obj) : (w.alloc o).heap.size = w.heap.size + 1 := by simp only [World.alloc]; exact Array.size_push ..
theorem RS.start (w : World) (cs ds : Array Value) (hc : cs = #[.int .i64 0, .string ⟨#[]⟩]) (hd : ds = #[.int .i64 0, .string ⟨#[]⟩]) : RS w ((w.alloc (.cells cs 23)).alloc (.cells ds 23)) w.heap.size (w.heap.size + 1) 0 ⟨#[]⟩ 0 ⟨#[]⟩ := by
  subst hc hd
  refine ⟨below_alloc (below_alloc (Below.refl _ _) _) _, blk_alloc (blk_new w _) _, ?_, Nat.le_refl _, by omega, by omega⟩
  have h := blk_new (w.alloc (.cells #[.int .i64 0, .string ⟨#[]⟩] 23)) (.cells #[.int .i64 0, .string ⟨#[]⟩] 23)
  rw [sz_al] at h
  exact h
end
/-- What Read tells. -/
def readV (t : Int) (s : ByteArray) : (Int × ByteArray) × Bool := match parsed t s with
  | none => ((0, ⟨#[]⟩), false)
  | some p => if s.data.toList = [] then ((0, ⟨#[]⟩), false) else if value_Text.f 1 t p.1 p.2 = some s then (p, true) else ((0, ⟨#[]⟩), false)
def Read.T7 : Bool × List (List Nat × List Nat) := (true, [([], []), ([], []), ([1], [1]), ([0], []), ([3, 0, 0], [0, 3]), ([2, 4, 0, 1, 2, 3, 4], [2])])
def Read.B7 : List Nat := [0, 0, 2, 1, 9, 31]
theorem Read.tab7 : rtab .any (opsOf Tryd.f15 7) = Read.T7 := by kernel_rfl
theorem Read.bits7 : waitsOk Read.T7.2 Read.B7 = true := by kernel_rfl
def Read.T10 : Bool × List (List Nat × List Nat) := (true, [([], []), ([0], [0]), ([], []), ([2], [2]), ([0, 1], []), ([4, 1, 0, 1], [1, 4]), ([3, 5, 0, 1, 2, 3, 4, 5], [3])])
def Read.B10 : List Nat := [0, 1, 0, 4, 3, 19, 63]
theorem Read.tab10 : rtab .any (opsOf Tryd.f15 10) = Read.T10 := by kernel_rfl
theorem Read.bits10 : waitsOk Read.T10.2 Read.B10 = true := by kernel_rfl
set_option maxHeartbeats 8000000 in
set_option maxRecDepth 100000 in
theorem read_any (t : Int) (s : ByteArray) (hs : s.size ≤ 140737488351232) (htot : ∀ p, parsed t s = some p → ∃ r, value_Text.f 1 t p.1 p.2 = some r) (w : World) (HT : Aside0 (LE w)) :
    Calls Tryd.prog 15 #[.int .i64 t, .string s] w fun e w' => e = .returned (.tuple #[.agg #[.int .i64 (readV t s).1.1, .string (readV t s).1.2], .bool (readV t s).2]) ∧ Below w.heap.size w w' := by
  generalize hres : readV t s = res
  have HRES := Aside0.mk hres
  have HTOT := Aside0.mk htot
  clear hres htot
  have R := Aside0.mk (RS.start w _ _ rfl rfl)
  go_enter Tryd.func15, Tryd.ntmps15
  go_upto_block 0 with fail
  go_cut [7] (fun v7 wc => ∃ (n : Int) (x : ByteArray) (ok : Bool), v7 = .bool ok ∧ Aside0 (match parsed t s with | some p => ok = true ∧ n = p.1 ∧ x = p.2 | none => ok = false) ∧ Aside0 (RS w wc w.heap.size (w.heap.size + 1) 0 ⟨#[]⟩ n x))
  case first =>
    by_cases h1 : t = 1
    · have b1 : (t == 1) = true := by simp [h1]
      have H1 := Aside0.mk h1
      clear h1
      go_wp2_with fail
      refine (pInt s hs _ ⟨HT.out.step R.out.b⟩).mono ?_
      rintro e w1 ⟨n, ev, rfl, hev, hb⟩
      replace R := Aside0.mk (R.out.step hb)
      clear hb
      rcases hev with ⟨hok, rfl⟩ | ⟨hno, p, rfl⟩
      · have HPV := Aside0.mk (show parsed t s = some (n, ⟨#[]⟩) from by unfold parsed; rw [if_pos H1.out, hok])
        clear hok
        have kc := R.out.drew.c60
        have kf := R.out.drew.f6 0
        go_upto_region 7 with fail
        refine start_ (n := 6) (S := fun w' => w'.cell? ⟨w.heap.size + 1, 0, none⟩ = some (.int .i64 0)) (ds := [4]) #[false, false, false, false, false, false] (by kernel_rfl) rfl rfl (R.out.drew.c60) (fun hHeld => ?_); refine with_tabW Read.tab7 Read.bits7 (fun HT_ HW_ => ?_)
        refine pure_ (i := 0) (N := (some 26)) (v := ?_) (a' := ?_) #[true, false, false, false, false, false] rfl rfl (any_of HT_.out (by kernel_rfl)) (fun _ _ _ h => h) (Or.inl ⟨by rfl, ?_⟩) ?_ ?_
        rotate_left
        · intro w'
          go_simp
          with_reducible rfl
        rotate_left
        · simp only [Act.put, List.setIfInBounds_toArray, List.set_cons_zero, List.set_cons_succ, i64_w, i32_w]
          rfl
        refine pure_ (i := 1) (N := (some 27)) (v := ?_) (a' := ?_) #[true, true, false, false, false, false] rfl rfl (any_of HT_.out (by kernel_rfl)) (fun _ _ _ h => h) (Or.inl ⟨by rfl, ?_⟩) ?_ ?_
        rotate_left
        · intro w'
          go_simp
          with_reducible rfl
        rotate_left
        · simp only [Act.put, List.setIfInBounds_toArray, List.set_cons_zero, List.set_cons_succ, i64_w, i32_w]
          rfl
        refine pure_ (i := 2) (N := (some 28)) (v := ?_) (a' := ?_) #[true, true, true, false, false, false] rfl rfl (any_of HT_.out (by kernel_rfl)) (fun _ _ _ h => h) (Or.inl ⟨by rfl, ?_⟩) ?_ ?_
        rotate_left
        · intro w'
          go_simp
          with_reducible rfl
        rotate_left
        · simp only [Act.put, List.setIfInBounds_toArray, List.set_cons_zero, List.set_cons_succ, i64_w, i32_w]
          rfl
        refine pure_ (i := 3) (N := (some 29)) (v := ?_) (a' := ?_) #[true, true, true, true, false, false] rfl rfl (any_of HT_.out (by kernel_rfl)) (fun _ _ _ h => h) (Or.inl ⟨by rfl, ?_⟩) ?_ ?_
        rotate_left
        · intro w'
          go_simp
          with_reducible rfl
        rotate_left
        · simp only [Act.put, List.setIfInBounds_toArray, List.set_cons_zero, List.set_cons_succ, i64_w, i32_w]
          rfl
        refine last_ (i := 4) (N := none) #[true, true, true, true, true, false] rfl rfl (one_of HT_.out (by kernel_rfl)) (by decide) (fun K hK => ?_)
        refine skip_ (w1 := ?_) (by rfl) rfl ?_ ?_
        rotate_left
        · go_simp
          rfl
        refine hK.out _ _ ?_
        clear hK K
        refine pure_ (i := 5) (N := (some 7)) (v := ?_) (a' := ?_) #[true, true, true, true, true, true] rfl rfl (any_of HT_.out (by kernel_rfl)) (fun _ _ _ h => h) (Or.inl ⟨by rfl, ?_⟩) ?_ ?_
        rotate_left
        · intro w'
          go_simp
          with_reducible rfl
        rotate_left
        · simp only [Act.put, List.setIfInBounds_toArray, List.set_cons_zero, List.set_cons_succ, i64_w, i32_w]
          rfl
        refine done_ (done_of HT_.out (by kernel_rfl)) ?_
        go_wp2
        go_meet
        case rel => exact ⟨n, ⟨#[]⟩, _, rfl, ⟨by rw [HPV.out] <;> exact ⟨rfl, rfl, rfl⟩⟩, ⟨by first | exact R.out.drew.set6 _ | exact (R.out.set6 _).drew⟩⟩
      · have HPV := Aside0.mk (show parsed t s = none from by
          unfold parsed; rw [if_pos H1.out]
          cases h : Lib.parseIntB 64 s.data.toList with
          | ok v => exact absurd h (hno v)
          | _ => rfl)
        clear hno
        have kc := R.out.drew.c60
        have kf := R.out.drew.f6 0
        go_upto_region 7 with fail
        refine start_ (n := 6) (S := fun w' => w'.cell? ⟨w.heap.size + 1, 0, none⟩ = some (.int .i64 0)) (ds := [4]) #[false, false, false, false, false, false] (by kernel_rfl) rfl rfl (R.out.drew.c60) (fun hHeld => ?_); refine with_tabW Read.tab7 Read.bits7 (fun HT_ HW_ => ?_)
        refine pure_ (i := 0) (N := (some 26)) (v := ?_) (a' := ?_) #[true, false, false, false, false, false] rfl rfl (any_of HT_.out (by kernel_rfl)) (fun _ _ _ h => h) (Or.inl ⟨by rfl, ?_⟩) ?_ ?_
        rotate_left
        · intro w'
          go_simp
          with_reducible rfl
        rotate_left
        · simp only [Act.put, List.setIfInBounds_toArray, List.set_cons_zero, List.set_cons_succ, i64_w, i32_w]
          rfl
        refine pure_ (i := 1) (N := (some 27)) (v := ?_) (a' := ?_) #[true, true, false, false, false, false] rfl rfl (any_of HT_.out (by kernel_rfl)) (fun _ _ _ h => h) (Or.inl ⟨by rfl, ?_⟩) ?_ ?_
        rotate_left
        · intro w'
          go_simp
          with_reducible rfl
        rotate_left
        · simp only [Act.put, List.setIfInBounds_toArray, List.set_cons_zero, List.set_cons_succ, i64_w, i32_w]
          rfl
        refine pure_ (i := 2) (N := (some 28)) (v := ?_) (a' := ?_) #[true, true, true, false, false, false] rfl rfl (any_of HT_.out (by kernel_rfl)) (fun _ _ _ h => h) (Or.inl ⟨by rfl, ?_⟩) ?_ ?_
        rotate_left
        · intro w'
          go_simp
          with_reducible rfl
        rotate_left
        · simp only [Act.put, List.setIfInBounds_toArray, List.set_cons_zero, List.set_cons_succ, i64_w, i32_w]
          rfl
        refine pure_ (i := 3) (N := (some 29)) (v := ?_) (a' := ?_) #[true, true, true, true, false, false] rfl rfl (any_of HT_.out (by kernel_rfl)) (fun _ _ _ h => h) (Or.inl ⟨by rfl, ?_⟩) ?_ ?_
        rotate_left
        · intro w'
          go_simp
          with_reducible rfl
        rotate_left
        · simp only [Act.put, List.setIfInBounds_toArray, List.set_cons_zero, List.set_cons_succ, i64_w, i32_w]
          rfl
        refine last_ (i := 4) (N := none) #[true, true, true, true, true, false] rfl rfl (one_of HT_.out (by kernel_rfl)) (by decide) (fun K hK => ?_)
        refine skip_ (w1 := ?_) (by rfl) rfl ?_ ?_
        rotate_left
        · go_simp
          rfl
        refine hK.out _ _ ?_
        clear hK K
        refine pure_ (i := 5) (N := (some 7)) (v := ?_) (a' := ?_) #[true, true, true, true, true, true] rfl rfl (any_of HT_.out (by kernel_rfl)) (fun _ _ _ h => h) (Or.inl ⟨by rfl, ?_⟩) ?_ ?_
        rotate_left
        · intro w'
          go_simp
          with_reducible rfl
        rotate_left
        · simp only [Act.put, List.setIfInBounds_toArray, List.set_cons_zero, List.set_cons_succ, i64_w, i32_w]
          rfl
        refine done_ (done_of HT_.out (by kernel_rfl)) ?_
        go_wp2
        go_meet
        case rel => exact ⟨n, ⟨#[]⟩, _, rfl, ⟨by rw [HPV.out] <;> exact ⟨rfl, rfl, rfl⟩⟩, ⟨by first | exact R.out.drew.set6 _ | exact (R.out.set6 _).drew⟩⟩
    · have b1 : (t == 1) = false := by simp [h1]
      by_cases h2 : t = 2
      · have b2 : (t == 2) = true := by simp [h2]
        have H1 := Aside0.mk h1
        have H2 := Aside0.mk h2
        clear h1 h2
        go_wp2_with fail
        refine (pUint s hs _ ⟨HT.out.step R.out.b⟩).mono ?_
        rintro e w1 ⟨n, ev, rfl, hev, hb⟩
        replace R := Aside0.mk (R.out.step hb)
        clear hb
        rcases hev with ⟨hok, rfl⟩ | ⟨hno, p, rfl⟩
        · have HPV := Aside0.mk (show parsed t s = some (wrap64 (n : Int), ⟨#[]⟩) from by unfold parsed; rw [if_neg H1.out, if_pos H2.out, hok])
          clear hok
          have kc := R.out.drew.c60
          have kf := R.out.drew.f6 0
          go_upto_region 10 with fail
          refine start_ (n := 7) (S := fun w' => w'.cell? ⟨w.heap.size + 1, 0, none⟩ = some (.int .i64 0)) (ds := [5]) #[false, false, false, false, false, false, false] (by kernel_rfl) rfl rfl (R.out.drew.c60) (fun hHeld => ?_); refine with_tabW Read.tab10 Read.bits10 (fun HT_ HW_ => ?_)
          refine pure_ (i := 0) (N := (some 37)) (v := ?_) (a' := ?_) #[true, false, false, false, false, false, false] rfl rfl (any_of HT_.out (by kernel_rfl)) (fun _ _ _ h => h) (Or.inl ⟨by rfl, ?_⟩) ?_ ?_
          rotate_left
          · intro w'
            go_simp
            with_reducible rfl
          rotate_left
          · simp only [Act.put, List.setIfInBounds_toArray, List.set_cons_zero, List.set_cons_succ, i64_w, i32_w]
            rfl
          refine pure_ (i := 1) (N := (some 38)) (v := ?_) (a' := ?_) #[true, true, false, false, false, false, false] rfl rfl (any_of HT_.out (by kernel_rfl)) (fun _ _ _ h => h) (Or.inl ⟨by rfl, ?_⟩) ?_ ?_
          rotate_left
          · intro w'
            go_simp
            with_reducible rfl
          rotate_left
          · simp only [Act.put, List.setIfInBounds_toArray, List.set_cons_zero, List.set_cons_succ, i64_w, i32_w]
            rfl
          refine pure_ (i := 2) (N := (some 39)) (v := ?_) (a' := ?_) #[true, true, true, false, false, false, false] rfl rfl (any_of HT_.out (by kernel_rfl)) (fun _ _ _ h => h) (Or.inl ⟨by rfl, ?_⟩) ?_ ?_
          rotate_left
          · intro w'
            go_simp
            with_reducible rfl
          rotate_left
          · simp only [Act.put, List.setIfInBounds_toArray, List.set_cons_zero, List.set_cons_succ, i64_w, i32_w]
            rfl
          refine pure_ (i := 3) (N := (some 40)) (v := ?_) (a' := ?_) #[true, true, true, true, false, false, false] rfl rfl (any_of HT_.out (by kernel_rfl)) (fun _ _ _ h => h) (Or.inl ⟨by rfl, ?_⟩) ?_ ?_
          rotate_left
          · intro w'
            go_simp
            with_reducible rfl
          rotate_left
          · simp only [Act.put, List.setIfInBounds_toArray, List.set_cons_zero, List.set_cons_succ, i64_w, i32_w]
            rfl
          refine pure_ (i := 4) (N := (some 41)) (v := ?_) (a' := ?_) #[true, true, true, true, true, false, false] rfl rfl (any_of HT_.out (by kernel_rfl)) (fun _ _ _ h => h) (Or.inl ⟨by rfl, ?_⟩) ?_ ?_
          rotate_left
          · intro w'
            go_simp
            with_reducible rfl
          rotate_left
          · simp only [Act.put, List.setIfInBounds_toArray, List.set_cons_zero, List.set_cons_succ, i64_w, i32_w]
            rfl
          refine last_ (i := 5) (N := none) #[true, true, true, true, true, true, false] rfl rfl (one_of HT_.out (by kernel_rfl)) (by decide) (fun K hK => ?_)
          refine skip_ (w1 := ?_) (by rfl) rfl ?_ ?_
          rotate_left
          · go_simp
            rfl
          refine hK.out _ _ ?_
          clear hK K
          refine pure_ (i := 6) (N := (some 7)) (v := ?_) (a' := ?_) #[true, true, true, true, true, true, true] rfl rfl (any_of HT_.out (by kernel_rfl)) (fun _ _ _ h => h) (Or.inl ⟨by rfl, ?_⟩) ?_ ?_
          rotate_left
          · intro w'
            go_simp
            with_reducible rfl
          rotate_left
          · simp only [Act.put, List.setIfInBounds_toArray, List.set_cons_zero, List.set_cons_succ, i64_w, i32_w]
            rfl
          refine done_ (done_of HT_.out (by kernel_rfl)) ?_
          go_wp2
          go_meet
          case rel => exact ⟨(wrap64 (n : Int)), ⟨#[]⟩, _, rfl, ⟨by rw [HPV.out] <;> exact ⟨rfl, rfl, rfl⟩⟩, ⟨by first | exact R.out.drew.set6 _ | exact (R.out.set6 _).drew⟩⟩
        · have HPV := Aside0.mk (show parsed t s = none from by
            unfold parsed; rw [if_neg H1.out, if_pos H2.out]
            cases h : Lib.parseUintB 64 s.data.toList with
            | ok v => exact absurd h (hno v)
            | _ => rfl)
          clear hno
          have kc := R.out.drew.c60
          have kf := R.out.drew.f6 0
          go_upto_region 10 with fail
          refine start_ (n := 7) (S := fun w' => w'.cell? ⟨w.heap.size + 1, 0, none⟩ = some (.int .i64 0)) (ds := [5]) #[false, false, false, false, false, false, false] (by kernel_rfl) rfl rfl (R.out.drew.c60) (fun hHeld => ?_); refine with_tabW Read.tab10 Read.bits10 (fun HT_ HW_ => ?_)
          refine pure_ (i := 0) (N := (some 37)) (v := ?_) (a' := ?_) #[true, false, false, false, false, false, false] rfl rfl (any_of HT_.out (by kernel_rfl)) (fun _ _ _ h => h) (Or.inl ⟨by rfl, ?_⟩) ?_ ?_
          rotate_left
          · intro w'
            go_simp
            with_reducible rfl
          rotate_left
          · simp only [Act.put, List.setIfInBounds_toArray, List.set_cons_zero, List.set_cons_succ, i64_w, i32_w]
            rfl
          refine pure_ (i := 1) (N := (some 38)) (v := ?_) (a' := ?_) #[true, true, false, false, false, false, false] rfl rfl (any_of HT_.out (by kernel_rfl)) (fun _ _ _ h => h) (Or.inl ⟨by rfl, ?_⟩) ?_ ?_
          rotate_left
          · intro w'
            go_simp
            with_reducible rfl
          rotate_left
          · simp only [Act.put, List.setIfInBounds_toArray, List.set_cons_zero, List.set_cons_succ, i64_w, i32_w]
            rfl
          refine pure_ (i := 2) (N := (some 39)) (v := ?_) (a' := ?_) #[true, true, true, false, false, false, false] rfl rfl (any_of HT_.out (by kernel_rfl)) (fun _ _ _ h => h) (Or.inl ⟨by rfl, ?_⟩) ?_ ?_
          rotate_left
          · intro w'
            go_simp
            with_reducible rfl
          rotate_left
          · simp only [Act.put, List.setIfInBounds_toArray, List.set_cons_zero, List.set_cons_succ, i64_w, i32_w]
            rfl
          refine pure_ (i := 3) (N := (some 40)) (v := ?_) (a' := ?_) #[true, true, true, true, false, false, false] rfl rfl (any_of HT_.out (by kernel_rfl)) (fun _ _ _ h => h) (Or.inl ⟨by rfl, ?_⟩) ?_ ?_
          rotate_left
          · intro w'
            go_simp
            with_reducible rfl
          rotate_left
          · simp only [Act.put, List.setIfInBounds_toArray, List.set_cons_zero, List.set_cons_succ, i64_w, i32_w]
            rfl
          refine pure_ (i := 4) (N := (some 41)) (v := ?_) (a' := ?_) #[true, true, true, true, true, false, false] rfl rfl (any_of HT_.out (by kernel_rfl)) (fun _ _ _ h => h) (Or.inl ⟨by rfl, ?_⟩) ?_ ?_
          rotate_left
          · intro w'
            go_simp
            with_reducible rfl
          rotate_left
          · simp only [Act.put, List.setIfInBounds_toArray, List.set_cons_zero, List.set_cons_succ, i64_w, i32_w]
            rfl
          refine last_ (i := 5) (N := none) #[true, true, true, true, true, true, false] rfl rfl (one_of HT_.out (by kernel_rfl)) (by decide) (fun K hK => ?_)
          refine skip_ (w1 := ?_) (by rfl) rfl ?_ ?_
          rotate_left
          · go_simp
            rfl
          refine hK.out _ _ ?_
          clear hK K
          refine pure_ (i := 6) (N := (some 7)) (v := ?_) (a' := ?_) #[true, true, true, true, true, true, true] rfl rfl (any_of HT_.out (by kernel_rfl)) (fun _ _ _ h => h) (Or.inl ⟨by rfl, ?_⟩) ?_ ?_
          rotate_left
          · intro w'
            go_simp
            with_reducible rfl
          rotate_left
          · simp only [Act.put, List.setIfInBounds_toArray, List.set_cons_zero, List.set_cons_succ, i64_w, i32_w]
            rfl
          refine done_ (done_of HT_.out (by kernel_rfl)) ?_
          go_wp2
          go_meet
          case rel => exact ⟨(wrap64 (n : Int)), ⟨#[]⟩, _, rfl, ⟨by rw [HPV.out] <;> exact ⟨rfl, rfl, rfl⟩⟩, ⟨by first | exact R.out.drew.set6 _ | exact (R.out.set6 _).drew⟩⟩
      · have b2 : (t == 2) = false := by simp [h2]
        have HPV := Aside0.mk (show parsed t s = if (textV s).2 = true then some (0, ⟨(textV s).1.toArray⟩) else none from by unfold parsed; rw [if_neg h1, if_neg h2])
        clear h1 h2
        go_wp2_with fail
        refine (text_any s hs _ ⟨HT.out.step R.out.b⟩).mono ?_
        rintro e w1 ⟨rfl, hb⟩
        replace R := Aside0.mk (R.out.step hb)
        have kc := R.out.c61
        have kf := R.out.f6 1
        clear hb
        go_wp2
        go_meet
        case rel =>
          refine ⟨0, ⟨(textV s).1.toArray⟩, (textV s).2, rfl, ⟨?_⟩, ⟨R.out.set6s _⟩⟩
          rw [HPV.out]
          cases (textV s).2 <;> simp
  case rest =>
    obtain ⟨n, x, ok, rfl, HP, R⟩ := hcut
    have c60 := R.out.c60
    have c61 := R.out.c61
    cases hpp : parsed t s with
    | none =>
      have hp := HP.out
      rw [hpp] at hp
      have HR := Aside0.mk (show res = ((0, ⟨#[]⟩), false) from by rw [← HRES.out]; unfold readV; rw [hpp])
      have hk : ok = false := hp
      subst hk
      clear hpp HP hp HRES HTOT
      have c40 := R.out.c40
      have f40 := R.out.f4 0
      have R1 := Aside0.mk (R.out.set4 0)
      have c41 := R1.out.c41
      have f41 := R1.out.f4 1
      have R2 := Aside0.mk (R1.out.set4s ⟨#[]⟩)
      have r0 := R2.out.c40
      have r1 := R2.out.c41
      go_wp2
      refine bodyPost_ret (v := .tuple #[.agg #[.int .i64 0, .string ⟨#[]⟩], .bool false]) (by simp [results, Tryd.results15, go_sem, r0, r1]) rfl ⟨by rw [HR.out], R2.out.b⟩
    | some p =>
      have hp := HP.out
      rw [hpp] at hp
      obtain ⟨hk, rfl, rfl⟩ : ok = true ∧ n = p.1 ∧ x = p.2 := hp
      subst hk
      obtain ⟨r, hr⟩ := HTOT.out p hpp
      by_cases he : s.data.toList = []
      · have HR := Aside0.mk (show res = ((0, ⟨#[]⟩), false) from by rw [← HRES.out]; unfold readV; rw [hpp]; show (if s.data.toList = [] then _ else _) = _; rw [if_pos he])
        have hse : (s.toList == []) = true := by rw [ByteArray.toList_eq, he]; rfl
        clear hpp HP HRES HTOT he hr
        have c40 := R.out.c40
        have f40 := R.out.f4 0
        have R1 := Aside0.mk (R.out.set4 0)
        have c41 := R1.out.c41
        have f41 := R1.out.f4 1
        have R2 := Aside0.mk (R1.out.set4s ⟨#[]⟩)
        have r0 := R2.out.c40
        have r1 := R2.out.c41
        go_wp2
        refine bodyPost_ret (v := .tuple #[.agg #[.int .i64 0, .string ⟨#[]⟩], .bool false]) (by simp [results, Tryd.results15, go_sem, r0, r1]) rfl ⟨by rw [HR.out], R2.out.b⟩
      · have hse : (s.toList == []) = false := by rw [ByteArray.toList_eq]; exact beq_eq_false_iff_ne.2 he
        have HTX := Aside0.mk (fun W (hW : LT W) => value_Text.calls 1 t p.1 p.2 r W ⟨hW⟩ hr)
        by_cases hq : r = s
        · have HR := Aside0.mk (show res = (p, true) from by rw [← HRES.out]; unfold readV; rw [hpp]; show (if s.data.toList = [] then _ else _) = _; rw [if_neg he, hr, hq, if_pos rfl])
          have hrs : (r.toList == s.toList) = true := by rw [hq]; simp
          clear hpp HP HRES HTOT he hr hq
          go_wp2_with fail
          refine (HTX.out _ (HT.out.step R.out.b).tab).mono ?_
          rintro e w3 ⟨rfl, hb⟩
          replace R := Aside0.mk (R.out.step hb)
          clear hb c60 c61
          have c60 := R.out.c60
          have c61 := R.out.c61
          have c40 := R.out.c40
          have f40 := R.out.f4 0
          have R1 := Aside0.mk (R.out.set4 p.1)
          have c41 := R1.out.c41
          have f41 := R1.out.f4 1
          have R2 := Aside0.mk (R1.out.set4s p.2)
          have r0 := R2.out.c40
          have r1 := R2.out.c41
          go_wp2
          refine bodyPost_ret (v := .tuple #[.agg #[.int .i64 p.1, .string p.2], .bool true]) (by simp [results, Tryd.results15, go_sem, r0, r1]) rfl ⟨by rw [HR.out], R2.out.b⟩
        · have HR := Aside0.mk (show res = ((0, ⟨#[]⟩), false) from by rw [← HRES.out]; unfold readV; rw [hpp]; show (if s.data.toList = [] then _ else _) = _; rw [if_neg he, hr, if_neg (fun e => hq (Option.some.inj e))])
          have hrs : (r.toList == s.toList) = false := by
            rw [ByteArray.toList_eq, ByteArray.toList_eq]
            refine beq_eq_false_iff_ne.2 fun e => hq ?_
            cases r; cases s; simp at e; simp [e]
          clear hpp HP HRES HTOT he hr hq
          go_wp2_with fail
          refine (HTX.out _ (HT.out.step R.out.b).tab).mono ?_
          rintro e w3 ⟨rfl, hb⟩
          replace R := Aside0.mk (R.out.step hb)
          clear hb c60 c61
          have c40 := R.out.c40
          have f40 := R.out.f4 0
          have R1 := Aside0.mk (R.out.set4 0)
          have c41 := R1.out.c41
          have f41 := R1.out.f4 1
          have R2 := Aside0.mk (R1.out.set4s ⟨#[]⟩)
          have r0 := R2.out.c40
          have r1 := R2.out.c41
          go_wp2
          refine bodyPost_ret (v := .tuple #[.agg #[.int .i64 0, .string ⟨#[]⟩], .bool false]) (by simp [results, Tryd.results15, go_sem, r0, r1]) rfl ⟨by rw [HR.out], R2.out.b⟩
end Go.Proofs.YtohbpgdhpfmlgaaDoor.PA
