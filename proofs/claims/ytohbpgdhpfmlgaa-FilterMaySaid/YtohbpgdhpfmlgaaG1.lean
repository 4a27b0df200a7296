/- thresherref04.Made makes a schema of any numbers: the types are 1 and the bytes' rests by 3. -/
import Derived.Test.YtohbpgdhpfmlgaaG0
import Derived.Test.YtohbpgdhpfmlgaaWLast
import Derived.Test.YtohbpgdhpfmlgaaWTab
import Derived.Test.YtohbpgdhpfmlgaaWApart
import Derived.Outline
import Derived.RowKit3
import Derived.Deep.LoopGhost
import Derived.Deep.RegionHeld3
import Derived.Deep.AppendLies
import Derived.KernelRfl
import Derived.WalkKit
import Derived.Maps.AppendAt
namespace Go.Proofs.Ytohbpgdhpfmlgaa
set_option linter.unusedVariables false
set_option linter.unusedSimpArgs false
open Go.RowKit Go.Proofs.YtohbpgdhpfmlgaaW.PrintWords Go.Proofs.YtohbpgdhpfmlgaaW.PrintLast

def byteOk (x : Int) : Bool := decide (0 ≤ x) && decide (x ≤ 255)
def madeTypes (l : List Int) (k : Nat) : List Int := (l.take k).map fun x => 1 + x % 3
def thresherref04_Made.f (b0 b1 b2 b3 b4 b5 b6 b7 n keys mode grain : Int) : Option (List Int × Int × Int × Int) :=
  if [b0, b1, b2, b3, b4, b5, b6, b7, n, keys, mode, grain].all byteOk then
    some (madeTypes [b0, b1, b2, b3, b4, b5, b6, b7] (1 + n % 8).toNat, 1 + keys % (1 + n % 8), 1 + mode % 3, 1 + grain % 8)
  else none

theorem madeTypes_snoc (bs : List Int) (i : Nat) (h : i < bs.length) : madeTypes bs (i + 1) = madeTypes bs i ++ [1 + bs[i] % 3] := by
  unfold madeTypes
  rw [List.take_succ_eq_append_getElem h, List.map_append]
  rfl
theorem G1info3 : (Try.prog.info? 3).map (fun i => (i.zero, i.size, i.bytes)) = some (some (.int .i64 0), 1, 8) := by kernel_rfl

def thresherref04_Made.T6 : Bool × List (List Nat × List Nat) := (true, [([], []), ([0], [0]), ([], []), ([2], [2]), ([3], [3]), ([4], [4]), ([5], [5]), ([6], [6]), ([7], [7]), ([1, 8], [1, 8]), ([0, 1, 2, 3, 4, 5, 6, 7, 8, 9], []), ([10, 9, 9, 0, 1, 2, 3, 4, 5, 6, 7, 8, 9], [9, 10])])
def thresherref04_Made.B6 : List Nat := [0, 1, 0, 4, 12, 28, 60, 124, 252, 511, 1023, 2047]
theorem thresherref04_Made.tab6 : rtab .any (opsOf Try.f29 6) = thresherref04_Made.T6 := by kernel_rfl
theorem thresherref04_Made.bits6 : waitsOk thresherref04_Made.T6.2 thresherref04_Made.B6 = true := by kernel_rfl
set_option maxHeartbeats 1000000 in
set_option maxRecDepth 100000 in
theorem thresherref04_Made.calls (b0 b1 b2 b3 b4 b5 b6 b7 n keys mode grain : Int) (r1 : List Int) (r2 r3 r4 : Int) (w : World) (h : thresherref04_Made.f b0 b1 b2 b3 b4 b5 b6 b7 n keys mode grain = some (r1, r2, r3, r4)) :
    Calls Try.prog 29 #[.agg #[.int .u8 b0, .int .u8 b1, .int .u8 b2, .int .u8 b3, .int .u8 b4, .int .u8 b5, .int .u8 b6, .int .u8 b7], .int .u8 n, .int .u8 keys, .int .u8 mode, .int .u8 grain] w fun e w' =>
      ∃ v0_ : Value, e = .returned (.agg #[v0_, .int .i64 r2, .int .i64 r3, .int .i64 r4]) ∧ Kd.R (Kd.int .i64) 3 w' w.heap.size (fun _ => True) v0_ r1 ∧ Below w.heap.size w w' := by
  unfold thresherref04_Made.f at h
  split at h
  · rename_i hb
    simp only [List.all_cons, List.all_nil, Bool.and_true, byteOk, Bool.and_eq_true, decide_eq_true_eq] at hb
    obtain ⟨⟨p0, q0⟩, ⟨p1, q1⟩, ⟨p2, q2⟩, ⟨p3, q3⟩, ⟨p4, q4⟩, ⟨p5, q5⟩, ⟨p6, q6⟩, ⟨p7, q7⟩, ⟨pn, qn⟩, ⟨pk, qk⟩, ⟨pm, qm⟩, ⟨pg, qg⟩⟩ := hb
    simp only [Option.some.injEq, Prod.mk.injEq] at h
    obtain ⟨rfl, rfl, rfl, rfl⟩ := h
    have hk0 : 0 ≤ keys % (1 + n % 8) := Int.emod_nonneg _ (by omega)
    have hk1 : keys % (1 + n % 8) < 1 + n % 8 := Int.emod_lt_of_pos _ (by omega)
    have hn0 : 0 ≤ n % 8 := by omega
    have hn1 : n % 8 ≤ 7 := by omega
    obtain ⟨bs, hbs⟩ : ∃ bs, bs = [b0, b1, b2, b3, b4, b5, b6, b7] := ⟨_, rfl⟩
    have hbl : bs.length = 8 := by rw [hbs]; rfl
    have hbr : ∀ x ∈ bs, 0 ≤ x ∧ x ≤ 255 := by
      rw [hbs]; intro x hx; simp at hx; rcases hx with rfl | rfl | rfl | rfl | rfl | rfl | rfl | rfl <;> omega
    have hba : #[Value.int .u8 b0, .int .u8 b1, .int .u8 b2, .int .u8 b3, .int .u8 b4, .int .u8 b5, .int .u8 b6, .int .u8 b7] = (nums .u8 bs).toArray := by rw [hbs]; rfl
    rw [← hbs]
    have HBS := Aside0.mk hba
    have HBL := Aside0.mk hbl
    have HBR := Aside0.mk hbr
    clear hbs hbl hbr hba
    obtain ⟨i0, hi, hz0, hz1, hz2⟩ := info_parts G1info3
    go_enter Try.func29, Try.ntmps29
    go_wp2_with fail
    go_loopg [13] 8 (fun kq v13 w' => ∃ (i : Nat) (v : Value), v13 = .int .i64 i ∧ Aside0 ((i : Int) ≤ 1 + n % 8) ∧ Aside0 (i + kq = 8) ∧ Aside0 (w'.heap[w.heap.size]? = some (.cells (nums .u8 bs).toArray 22 (0, 0))) ∧
      Aside0 (w'.heap[w.heap.size + 1]? = some (.cells #[.slice none 0 0, .int .i64 0, .int .i64 0, .int .i64 0] 34 (0, 0))) ∧
      Aside0 (w'.heap[w.heap.size + 1 + 1]? = some (.cells #[v, .int .i64 (1 + keys % (1 + n % 8)), .int .i64 (1 + mode % 3), .int .i64 (1 + grain % 8)] 34 (0, 0))) ∧
      Aside0 (Kd.R (Kd.int .i64) 3 w' w.heap.size (fun _ => True) v (madeTypes bs i)) ∧ Aside0 (Below w.heap.size w w'))
    case atStart =>
      refine ⟨0, .slice none 0 0, rfl, ⟨by omega⟩, ⟨rfl⟩, ⟨?_⟩, ⟨?_⟩, ⟨?_⟩, ⟨Kd.R_nil _ _ _ _ _⟩, ⟨?_⟩⟩
      · rw [HBS.out]
        exact blk_alloc (blk_alloc (by simpa using heap_alloc_new w _) _) _
      · exact blk_alloc (by simpa using heap_alloc_new (w.alloc _) _) _
      · simpa using heap_alloc_new ((w.alloc _).alloc _) _
      · repeat (first | exact Below.refl _ _ | apply below_alloc)
    case round =>
      obtain ⟨i, v, rfl, HI, HQ, BA, BR, BS, HO, HB⟩ := hrel
      by_cases hlt : (i : Int) < 1 + n % 8
      · have hi8 : i < bs.length := by have := HBL.out; omega
        have hx := HBR.out _ (List.getElem_mem hi8)
        have hca0 : (nums .u8 bs).toArray[i]? = some (.int .u8 bs[i]) := by simp [nums, hi8]
        have hca : wr.cell? ⟨w.heap.size, i, none⟩ = some (.int .u8 bs[i]) := (blk_cell BA.out i).trans (by simp [nums, hi8])
        generalize hgx : bs[i] = x at hx hca hca0
        have HCA := Aside0.mk hca0
        have HM := Aside0.mk (madeTypes_snoc bs i hi8)
        rw [hgx] at HM
        clear hca0
        have N1 := Aside0.mk (Kd.R_ne HO.out BA.out (by decide))
        have N3 := Aside0.mk (Kd.R_ne HO.out BR.out (by decide))
        have N2 := Aside0.mk (Kd.R_ne HO.out BS.out (by decide))
        obtain ⟨hx0, hx1⟩ := hx
        have hcs : wr.cell? ⟨w.heap.size + 1 + 1, 0, none⟩ = some v := (blk_cell BS.out 0).trans rfl
        have hi80 : (0 : Int) ≤ (i : Int) := by omega
        have hi81 : (i : Int) < 8 := by omega
        have e1 : IntKind.i64.wrap x = x := IntWalk.i64_in _ (by omega)
        have e2 : x.tmod 3 = x % 3 := Int.tmod_eq_emod_of_nonneg hx0
        have e3 : IntKind.i64.wrap (1 + x % 3) = 1 + x % 3 := IntWalk.i64_in _ (by omega)
        have hlen : (madeTypes bs i).length = i := by simp [madeTypes]; omega
        have HL := Aside0.mk (show ((madeTypes bs i).length + 1) * 8 ≤ 140737488355328 by omega)
        clear hlen
        go_wp2_with fail
        refine start_ (n := 12) (S := fun w' => w'.cell? ⟨w.heap.size, i, none⟩ = some (.int .u8 x) ∧ w'.cell? ⟨w.heap.size + 1 + 1, 0, none⟩ = some v) (ds := [11]) #[false, false, false, false, false, false, false, false, false, false, false, false] (by kernel_rfl) rfl rfl ⟨hca, hcs⟩ (fun hHeld => ?_); refine with_tabW thresherref04_Made.tab6 thresherref04_Made.bits6 (fun HT_ HW_ => ?_)
        refine pure_ (i := 0) (N := (some 37)) (v := ?_) (a' := ?_) #[true, false, false, false, false, false, false, false, false, false, false, false] rfl rfl (any_of HT_.out (by kernel_rfl)) (fun _ _ _ h => h) (Or.inl ⟨by rfl, ?_⟩) ?_ ?_
        rotate_left
        · intro w'
          go_simp
          with_reducible rfl
        rotate_left
        · simp only [Act.put, List.setIfInBounds_toArray, List.set_cons_zero, List.set_cons_succ, i64_w, i32_w]
          rfl
        refine take_ (i := 1) (N := (some 38)) (v := ?_) (a' := ?_) #[true, true, false, false, false, false, false, false, false, false, false, false] rfl rfl (take_ofW HT_.out HW_.out (by kernel_rfl)) (fun _ _ _ h => h) (Or.inl ⟨by rfl, ?_⟩) hHeld ?_ ?_
        rotate_left
        · rintro w' ⟨s0, s1⟩
          go_simp
          with_reducible rfl
        rotate_left
        · simp only [Act.put, List.setIfInBounds_toArray, List.set_cons_zero, List.set_cons_succ, i64_w, i32_w]
          rfl
        refine pure_ (i := 2) (N := (some 39)) (v := ?_) (a' := ?_) #[true, true, true, false, false, false, false, false, false, false, false, false] rfl rfl (any_of HT_.out (by kernel_rfl)) (fun _ _ _ h => h) (Or.inl ⟨by rfl, ?_⟩) ?_ ?_
        rotate_left
        · intro w'
          go_simp
          with_reducible rfl
        rotate_left
        · simp only [Act.put, List.setIfInBounds_toArray, List.set_cons_zero, List.set_cons_succ, i64_w, i32_w]
          rfl
        refine pure_ (i := 3) (N := (some 40)) (v := ?_) (a' := ?_) #[true, true, true, true, false, false, false, false, false, false, false, false] rfl rfl (any_of HT_.out (by kernel_rfl)) (fun _ _ _ h => h) (Or.inl ⟨by rfl, ?_⟩) ?_ ?_
        rotate_left
        · intro w'
          go_simp
          with_reducible rfl
        rotate_left
        · simp only [Act.put, List.setIfInBounds_toArray, List.set_cons_zero, List.set_cons_succ, i64_w, i32_w]
          rfl
        refine take_ (i := 4) (N := (some 41)) (v := ?_) (a' := ?_) #[true, true, true, true, true, false, false, false, false, false, false, false] rfl rfl (take_ofW HT_.out HW_.out (by kernel_rfl)) (fun _ _ _ h => h) (Or.inl ⟨by rfl, ?_⟩) hHeld ?_ ?_
        rotate_left
        · rintro w' ⟨s0, s1⟩
          go_simp
          with_reducible rfl
        rotate_left
        · simp only [Act.put, List.setIfInBounds_toArray, List.set_cons_zero, List.set_cons_succ, i64_w, i32_w]
          rfl
        refine pure_ (i := 5) (N := (some 42)) (v := ?_) (a' := ?_) #[true, true, true, true, true, true, false, false, false, false, false, false] rfl rfl (any_of HT_.out (by kernel_rfl)) (fun _ _ _ h => h) (Or.inl ⟨by rfl, ?_⟩) ?_ ?_
        rotate_left
        · intro w'
          go_simp
          with_reducible rfl
        rotate_left
        · simp only [Act.put, List.setIfInBounds_toArray, List.set_cons_zero, List.set_cons_succ, i64_w, i32_w]
          rfl
        refine pure_ (i := 6) (N := (some 43)) (v := ?_) (a' := ?_) #[true, true, true, true, true, true, true, false, false, false, false, false] rfl rfl (any_of HT_.out (by kernel_rfl)) (fun _ _ _ h => h) (Or.inl ⟨by rfl, ?_⟩) ?_ ?_
        rotate_left
        · intro w'
          go_simp
          with_reducible rfl
        rotate_left
        · simp only [Act.put, List.setIfInBounds_toArray, List.set_cons_zero, List.set_cons_succ, i64_w, i32_w]
          rfl
        refine pure_ (i := 7) (N := (some 44)) (v := ?_) (a' := ?_) #[true, true, true, true, true, true, true, true, false, false, false, false] rfl rfl (any_of HT_.out (by kernel_rfl)) (fun _ _ _ h => h) (Or.inl ⟨by rfl, ?_⟩) ?_ ?_
        rotate_left
        · intro w'
          go_simp
          with_reducible rfl
        rotate_left
        · simp only [Act.put, List.setIfInBounds_toArray, List.set_cons_zero, List.set_cons_succ, i64_w, i32_w]
          rfl
        refine one_ (i := 8) (N := (some 45)) #[true, true, true, true, true, true, true, true, true, false, false, false] rfl rfl (one_of HT_.out (by kernel_rfl)) (by decide) (fun K hK => ?_)
        refine value_ (w1 := ?_) (v := ?_) (by rfl) rfl ?_ ?_
        rotate_left 2
        · go_simp
          constructor
          · rfl
          · rfl
        refine hK.out _ _ ⟨(blk_cell (blk_alloc (blk_drew BA.out) _) i).trans HCA.out, (blk_cell (blk_alloc (blk_drew BS.out) _) 0).trans rfl⟩ (fun hHeld => ?_)
        clear hK K
        refine norm_ (a' := ?_) ?_ ?_
        rotate_left
        · show Act.put _ (some 45) _ = _
          simp only [Act.put, List.setIfInBounds_toArray, List.set_cons_zero, List.set_cons_succ, i64_w, i32_w]
          rfl
        refine one_ (i := 9) (N := (some 46)) #[true, true, true, true, true, true, true, true, true, true, false, false] rfl rfl (one_of HT_.out (by kernel_rfl)) (by decide) (fun K hK => ?_)
        refine Kd.R_append_step (Kd.int .i64) (w0 := w) w.heap.size (by rfl) (.tmp 38) (.tmp 45) 32 3 (.int .i64 0) 8 (by rfl) Try.underlying32 G1info3 rfl (by decide) (by decide) v (madeTypes bs i) (1 + x % 3) [.int .i64 (1 + x % 3)] (fun _ => True) (fun k => some k ≠ v.ownBlock) (by rfl) (by rfl) rfl (fun k hk => ⟨trivial, hk⟩) (fun _ _ => trivial) (Kd.R_drew HO.out) (below_drew HB.out) HB.out.size HL.out ?_
        intro v1 w1 hown hbel hgrow hat
        obtain ⟨Av, cv, ev⟩ := Kd.R_slice hown
        subst ev
        have BA1 := Aside0.mk (blk_grown (blk_drew BA.out) hgrow N1.out)
        have BR1 := Aside0.mk (blk_grown (blk_drew BR.out) hgrow N3.out)
        have BS1 := Aside0.mk (blk_grown (blk_drew BS.out) hgrow N2.out)
        have HO1 := Aside0.mk hown
        have HB1 := Aside0.mk hbel
        clear hown hbel hgrow hat
        refine hK.out _ _ ⟨(blk_cell BA1.out i).trans HCA.out, (blk_cell BS1.out 0).trans rfl⟩ (fun hHeld => ?_)
        clear hK K
        refine norm_ (a' := ?_) ?_ ?_
        rotate_left
        · show Act.put _ (some 46) _ = _
          simp only [Act.put, List.setIfInBounds_toArray, List.set_cons_zero, List.set_cons_succ, i64_w, i32_w]
          rfl
        refine pure_ (i := 10) (N := (some 47)) (v := ?_) (a' := ?_) #[true, true, true, true, true, true, true, true, true, true, true, false] rfl rfl (any_of HT_.out (by kernel_rfl)) (fun _ _ _ h => h) (Or.inl ⟨by rfl, ?_⟩) ?_ ?_
        rotate_left
        · intro w'
          go_simp
          with_reducible rfl
        rotate_left
        · simp only [Act.put, List.setIfInBounds_toArray, List.set_cons_zero, List.set_cons_succ, i64_w, i32_w]
          rfl
        refine last_ (i := 11) (N := none) #[true, true, true, true, true, true, true, true, true, true, true, true] rfl rfl (one_of HT_.out (by kernel_rfl)) (by decide) (fun K hK => ?_)
        refine skip_ (w1 := ?_) (by rfl) rfl ?_ ?_
        rotate_left
        have hcs1 : w1.cell? ⟨w.heap.size + 1 + 1, 0, none⟩ = some v := (blk_cell BS1.out 0).trans rfl
        have hfs1 : w1.frozen? ⟨w.heap.size + 1 + 1, 0, none⟩ = false := blk_frozen BS1.out 0
        · go_simp
          rfl
        refine hK.out _ _ ?_
        clear hK K
        refine done_ (done_of HT_.out (by kernel_rfl)) ?_
        go_wp2
        obtain ⟨q, rfl⟩ : ∃ q, gk = q + 1 := ⟨gk - 1, by have := HQ.out; omega⟩
        go_roundg q
        case measure => omega
        case rel =>
          refine ⟨i + 1, .slice Av ((madeTypes bs i).length + 1) cv, by go_num, ⟨by omega⟩, ⟨by have := HQ.out; omega⟩, ⟨?_⟩, ⟨?_⟩, ⟨?_⟩, ⟨?_⟩, ⟨?_⟩⟩
          · exact blk_far BA1.out (show w.heap.size ≠ w.heap.size + 1 + 1 by omega) _
          · exact blk_far BR1.out (show w.heap.size + 1 ≠ w.heap.size + 1 + 1 by omega) _
          · exact blk_put BS1.out 0 _ rfl
          · rw [HM.out]
            have h1 := Kd.R_set HO1.out BS1.out (by decide) 0 (.slice Av ((madeTypes bs i).length + 1) cv)
            simpa using h1
          · exact below_set HB1.out (by omega)
      · have he : (i : Int) = 1 + n % 8 := by have := HI.out; omega
        obtain rfl : (1 + n % 8).toNat = i := by omega
        obtain ⟨Av, cv, ev⟩ := Kd.R_slice HO.out
        subst ev
        have cs0 : wr.cell? ⟨w.heap.size + 1 + 1, 0, none⟩ = some (.slice Av _ cv) := (blk_cell BS.out 0).trans rfl
        have cs1 : wr.cell? ⟨w.heap.size + 1 + 1, 1, none⟩ = some (.int .i64 (1 + keys % (1 + n % 8))) := (blk_cell BS.out 1).trans rfl
        have cs2 : wr.cell? ⟨w.heap.size + 1 + 1, 2, none⟩ = some (.int .i64 (1 + mode % 3)) := (blk_cell BS.out 2).trans rfl
        have cr0 := (blk_cell BR.out 0).trans rfl
        have cr1 := (blk_cell BR.out 1).trans rfl
        have cr2 := (blk_cell BR.out 2).trans rfl
        have cr3 := (blk_cell BR.out 3).trans rfl
        have fr0 := blk_frozen BR.out 0
        have fr1 := blk_frozen BR.out 1
        have fr2 := blk_frozen BR.out 2
        have fr3 := blk_frozen BR.out 3
        have cs3 : wr.cell? ⟨w.heap.size + 1 + 1, 3, none⟩ = some (.int .i64 (1 + grain % 8)) := (blk_cell BS.out 3).trans rfl
        go_wp2
        have q0 := blk_set BR.out 0 (.slice Av (madeTypes bs (1 + n % 8).toNat).length cv)
        have q1 := blk_set q0 1 (.int .i64 (1 + keys % (1 + n % 8)))
        have q2 := blk_set q1 2 (.int .i64 (1 + mode % 3))
        have q3 := blk_set q2 3 (.int .i64 (1 + grain % 8))
        have c0 := (blk_cell q3 0).trans rfl
        have c1 := (blk_cell q3 1).trans rfl
        have c2 := (blk_cell q3 2).trans rfl
        have c3 := (blk_cell q3 3).trans rfl
        refine bodyPost_ret (v := .agg #[.slice Av (madeTypes bs (1 + n % 8).toNat).length cv, .int .i64 (1 + keys % (1 + n % 8)), .int .i64 (1 + mode % 3), .int .i64 (1 + grain % 8)]) (by simp [results, Try.results29, go_sem, c0, c1, c2, c3]) rfl ⟨_, rfl, ?_, ?_⟩
        · exact Kd.R_set (Kd.R_set (Kd.R_set (Kd.R_set HO.out BR.out (by decide) 0 _) q0 (by decide) 1 _) q1 (by decide) 2 _) q2 (by decide) 3 _
        · exact below_set (below_set (below_set (below_set HB.out (by omega)) (by omega)) (by omega)) (by omega)
  · exact absurd h (by simp)
end Go.Proofs.Ytohbpgdhpfmlgaa
