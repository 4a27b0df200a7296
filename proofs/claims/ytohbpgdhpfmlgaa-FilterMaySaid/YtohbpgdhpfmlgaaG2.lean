/- filter.Keep keeps the rows of which all filters hold, in their order. -/
import Derived.Test.YtohbpgdhpfmlgaaPAx3
import Derived.Outline
import Derived.Deep.RegionHeld3
namespace Go.Proofs.Ytohbpgdhpfmlgaa.PA
set_option linter.unusedVariables false
set_option linter.unusedSimpArgs false
open Go.RowKit Go.Proofs.YtohbpgdhpfmlgaaW.PrintWords Go.Proofs.YtohbpgdhpfmlgaaW.PrintLast

def keepRow (k : Nat) (types : List Int) (r : List S26) : List S28 → Option Bool
  | [] => some true
  | f :: fs =>
    if 0 ≤ f.f0 ∧ f.f0 < (types.length : Int) ∧ f.f0 < (r.length : Int) then
      (filter_holds.f k (rd types f.f0) f.f0 f.f1 f.f2.f0 f.f2.f1 (rd_T26 r f.f0).f0 (rd_T26 r f.f0).f1).bind fun b => if b = true then keepRow k types r fs else some false
    else none
def keepRows (k : Nat) (types : List Int) (l : List S28) : List (List S26) → Option (List (List S26))
  | [] => some []
  | r :: rs => (keepRow k types r l).bind fun b => (keepRows k types l rs).bind fun rest => some (if b = true then r :: rest else rest)
def filter_Keep.f (k : Nat) (l0_0 : List Int) (a0_1 a0_2 a0_3 : Int) (l1 : List S28) (l2 : List (List S26)) : Option (List (List S26)) :=
  if l2.length < 5864062014805 then keepRows k l0_0 l1 l2 else none

theorem rdT28_at (l : List S28) (j : Nat) (h : j < l.length) : rd_T28 l (j : Int) = l[j] := by
  unfold rd_T28
  rw [Int.toNat_natCast, List.getD_eq_getElem?_getD, List.getElem?_eq_getElem h]; rfl
theorem rdL7_at (l : List (List S26)) (j : Nat) (h : j < l.length) : rd_L7 l (j : Int) = l[j] := by
  unfold rd_L7
  rw [Int.toNat_natCast, List.getD_eq_getElem?_getD, List.getElem?_eq_getElem h]; rfl
def filter_Keep.T8 : Bool × List (List Nat × List Nat) := (true, [([], []), ([0], [0]), ([], []), ([2], [2]), ([1, 3], [1, 3]), ([4], [4]), ([], []), ([], []), ([], []), ([8], [8]), ([7, 9], [7, 9]), ([10], [10]), ([5, 6, 11], [5, 6, 11]), ([12], [12])])
def filter_Keep.B8 : List Nat := [0, 1, 0, 4, 15, 31, 0, 0, 0, 256, 896, 1920, 4095, 8191]
theorem filter_Keep.tab8 : rtab .any (opsOf Try.f14 8) = filter_Keep.T8 := by kernel_rfl
theorem filter_Keep.bits8 : waitsOk filter_Keep.T8.2 filter_Keep.B8 = true := by kernel_rfl
set_option maxHeartbeats 4000000 in
set_option maxRecDepth 100000 in
theorem filter_Keep.calls (k : Nat) (A0_0 : Option Addr) (c0_0 : Nat) (l0_0 : List Int) (a0_1 a0_2 a0_3 : Int) (A1 : Option Addr) (c1 : Nat) (l1 : List S28) (A2 : Option Addr) (c2 : Nat) (l2 : List (List S26)) (r : List (List S26)) (w : World)
    (hr0_0 : Kd.C (Kd.int .i64) w A0_0 l0_0.length l0_0) (hc0_0 : l0_0.length ≤ c0_0) (hr1 : Kd.C k28 w A1 l1.length l1) (hc1 : l1.length ≤ c1) (hr2 : Kd.C (Kd.slice 26 k26) w A2 l2.length l2) (hc2 : l2.length ≤ c2) (h : filter_Keep.f k l0_0 a0_1 a0_2 a0_3 l1 l2 = some r) :
    Calls Try.prog 14 #[.agg #[.slice A0_0 l0_0.length c0_0, .int .i64 a0_1, .int .i64 a0_2, .int .i64 a0_3], .slice A1 l1.length c1, .slice A2 l2.length c2] w fun e w' => ∃ (A : Option Addr) (c : Nat), e = .returned (.slice A r.length c) ∧ r.length ≤ c ∧ Kd.C (Kd.slice 26 k26) w' A r.length r ∧ Below w.heap.size w w' := by
  have HR0 := Aside0.mk hr0_0
  have HR1 := Aside0.mk hr1
  have HR2 := Aside0.mk hr2
  have HC0 := Aside0.mk hc0_0
  have HC1 := Aside0.mk hc1
  have HC2 := Aside0.mk hc2
  clear hr0_0 hr1 hr2 hc0_0 hc1 hc2
  unfold filter_Keep.f at h
  split at h
  · rename_i hlen
    have HLEN := Aside0.mk hlen
    have H := Aside0.mk h
    have hn1 := Aside0.mk HR1.out.2.1
    have hn2 := Aside0.mk HR2.out.2.1
    clear h hlen
    go_enter Try.func14, Try.ntmps14
    go_wp2
    refine wp_scope_straight ?_
    go_wp2
    go_step3
    go_wp2
    go_loopg [7, 14] l2.length (fun kq v7 v14 w' => ∃ (i : Nat) (acc : List (List S26)), v14 = .int .i64 i ∧ Aside0 (i + kq = l2.length) ∧ Aside0 (∃ rest, keepRows k l0_0 l1 (l2.drop i) = some rest ∧ acc ++ rest = r) ∧ Aside0 (acc.length ≤ i) ∧
      Aside0 (w'.heap[w.heap.size]? = some (.cells #[.slice A0_0 l0_0.length c0_0, .int .i64 a0_1, .int .i64 a0_2, .int .i64 a0_3] 34 (0, 0))) ∧
      Aside0 (Kd.R (Kd.fixed (Kd.slice 26 k26) w) 43 w' w.heap.size (fun _ => True) v7 acc) ∧ Aside0 (Below w.heap.size w w'))
    case atStart =>
      exact ⟨0, [], rfl, ⟨by omega⟩, ⟨r, H.out, rfl⟩, ⟨Nat.le_refl _⟩, ⟨by simpa using heap_alloc_new w _⟩, ⟨Kd.R_nil _ _ _ _ _⟩, ⟨below_alloc (Below.refl _ _) _⟩⟩
    case round =>
      obtain ⟨i, acc, rfl, HQ, HK, HA, BS, HO, HB⟩ := hrel
      obtain ⟨rest, hrest, hacc⟩ := HK.out
      clear HK
      by_cases hlt : i < l2.length
      · have hdrop : l2.drop i = l2[i] :: l2.drop (i + 1) := List.drop_eq_getElem_cons hlt
        rw [hdrop] at hrest
        simp only [keepRows] at hrest
        obtain ⟨b, hb, hrest⟩ := Option.bind_eq_some_iff.1 hrest
        obtain ⟨rest2, hr2, hrest⟩ := Option.bind_eq_some_iff.1 hrest
        obtain ⟨ad2, Ar, cr, e2, hx2, hl2, hi2⟩ := at_L7 HR2.out (i : Int) (by omega) (by omega)
        cases e2
        rw [rdL7_at l2 i hlt] at hx2 hl2 hi2
        generalize hrow : l2[i] = row at hb hrest hx2 hl2 hi2
        replace hx2 := (HB.out.cell (World.block_lt_of_cell? w _ hx2)).trans hx2
        have HROW := Aside0.mk hrow
        have HB0 := Aside0.mk hb
        have HR2' := Aside0.mk hr2
        have HREST := Aside0.mk hrest
        have HACC := Aside0.mk hacc
        have HL2 := Aside0.mk hl2
        have HI2 := Aside0.mk hi2
        clear hrow hb hr2 hrest hacc hdrop hl2 hi2
        rw [Int.toNat_natCast] at hx2
        have hi0 : (0 : Int) ≤ (i : Int) := by omega
        have hi1 : (i : Int) < (l2.length : Int) := by omega
        go_wp2
        go_loopg [20] l1.length (fun kq2 v20 w2 => ∃ (j : Nat), v20 = .int .i64 j ∧ Aside0 (j + kq2 = l1.length) ∧ Aside0 (keepRow k l0_0 row (l1.drop j) = some b) ∧
          Aside0 (w2.heap[w.heap.size]? = some (.cells #[.slice A0_0 l0_0.length c0_0, .int .i64 a0_1, .int .i64 a0_2, .int .i64 a0_3] 34 (0, 0))) ∧
          Aside0 (Kd.R (Kd.fixed (Kd.slice 26 k26) w) 43 w2 w.heap.size (fun _ => True) u7 acc) ∧ Aside0 (Below w.heap.size w w2))
        case atStart => exact ⟨0, rfl, ⟨by omega⟩, ⟨HB0.out⟩, ⟨BS.out⟩, ⟨HO.out⟩, ⟨HB.out⟩⟩
        case round =>
          clear HB0 BS HO HB
          obtain ⟨j, rfl, HQ2, HJ, BS, HO, HB⟩ := hrel
          by_cases hj : j < l1.length
          · have hdrop : l1.drop j = l1[j] :: l1.drop (j + 1) := List.drop_eq_getElem_cons hj
            have hJ := HJ.out
            rw [hdrop] at hJ
            simp only [keepRow] at hJ
            split at hJ
            · rename_i hcol
              obtain ⟨hc0, hc1, hc2⟩ := hcol
              obtain ⟨bh, hbh, hJ⟩ := Option.bind_eq_some_iff.1 hJ
              obtain ⟨adf, ef, hf0, hf1, hf2, hf3⟩ := at_T28 HR1.out (j : Int) (by omega) (by omega)
              cases ef
              rw [rdT28_at l1 j hj] at hf0 hf1 hf2 hf3
              generalize l1[j] = f at hc0 hc1 hc2 hbh hf0 hf1 hf2 hf3
              obtain ⟨ad0, e0, ht⟩ := Kd.at_int HR0.out f.f0 hc0 hc1
              cases e0
              obtain ⟨adr, er, hr0, hr1⟩ := at_T26 HI2.out f.f0 hc0 hc2
              cases er
              replace hf0 := (HB.out.cell (World.block_lt_of_cell? w _ hf0)).trans hf0
              replace hf1 := (HB.out.cell (World.block_lt_of_cell? w _ hf1)).trans hf1
              replace hf2 := (HB.out.cell (World.block_lt_of_cell? w _ hf2)).trans hf2
              replace hf3 := (HB.out.cell (World.block_lt_of_cell? w _ hf3)).trans hf3
              have HT := Aside0.mk ht
              have HP0 := Aside0.mk hr0
              have HP1 := Aside0.mk hr1
              have HBH := Aside0.mk hbh
              have HJ' := Aside0.mk hJ
              clear ht hr0 hr1 hbh hJ hdrop HJ
              rw [Int.toNat_natCast] at hf0 hf1 hf2 hf3
              have hj0 : (0 : Int) ≤ (j : Int) := by omega
              have hj1 : (j : Int) < (l1.length : Int) := by omega
              have hj2 : l1.length ≤ 9223372036854775807 := hn1.out
              replace hc0 := eq_true hc0
              replace hc1 := eq_true hc1
              replace hc2 := eq_true hc2
              go_wp2
              obtain ⟨W1, hW1⟩ : ∃ W1 : World, W1 = wr.alloc (.cells #[.int .i64 f.f0, .int .i64 f.f1, .int .i64 f.f2.f0, .string f.f2.f1] 28) := ⟨_, rfl⟩
              rw [← hW1]
              have BF := Aside0.mk (show W1.heap[wr.heap.size]? = some (.cells #[.int .i64 f.f0, .int .i64 f.f1, .int .i64 f.f2.f0, .string f.f2.f1] 28 (0, 0)) by subst hW1; exact blk_new _ _)
              have BS1 := Aside0.mk (show W1.heap[w.heap.size]? = some (.cells #[.slice (some ad0) l0_0.length c0_0, .int .i64 a0_1, .int .i64 a0_2, .int .i64 a0_3] 34 (0, 0)) by subst hW1; exact blk_alloc BS.out _)
              have HO1 := Aside0.mk (show Kd.R (Kd.fixed (Kd.slice 26 k26) w) 43 W1 w.heap.size (fun _ => True) u7 acc by subst hW1; exact Kd.R_alloc HO.out _)
              have HB1 := Aside0.mk (show Below w.heap.size w W1 by subst hW1; exact below_alloc HB.out _)
              clear hW1 BS HO HB hf0 hf1 hf2 hf3
              refine start_ (n := 14) (S := fun w' => w'.cell? ⟨w.heap.size, 0, none⟩ = some (.slice (some ad0) l0_0.length c0_0) ∧ w'.cell? ⟨wr.heap.size, 0, none⟩ = some (.int .i64 f.f0) ∧ w'.cell? ⟨wr.heap.size, 1, none⟩ = some (.int .i64 f.f1) ∧ w'.cell? ⟨wr.heap.size, 2, none⟩ = some (.int .i64 f.f2.f0) ∧ w'.cell? ⟨wr.heap.size, 3, none⟩ = some (.string f.f2.f1) ∧ w'.cell? (ad0.add f.f0.toNat) = some (.int .i64 (rd l0_0 f.f0)) ∧ w'.cell? (adr.add (f.f0.toNat * 2)) = some (.int .i64 (rd_T26 row f.f0).f0) ∧ w'.cell? ⟨(adr.add (f.f0.toNat * 2)).block, (adr.add (f.f0.toNat * 2)).off + 1, none⟩ = some (.string (rd_T26 row f.f0).f1)) (ds := []) #[false, false, false, false, false, false, false, false, false, false, false, false, false, false] (by kernel_rfl) rfl rfl ⟨(blk_cell BS1.out 0).trans rfl, (blk_cell BF.out 0).trans rfl, (blk_cell BF.out 1).trans rfl, (blk_cell BF.out 2).trans rfl, (blk_cell BF.out 3).trans rfl, (HB1.out.cell (World.block_lt_of_cell? w _ HT.out)).trans HT.out, (HB1.out.cell (World.block_lt_of_cell? w _ HP0.out)).trans HP0.out, (HB1.out.cell (World.block_lt_of_cell? w _ HP1.out)).trans HP1.out⟩ (fun hHeld => ?_); refine with_tabW filter_Keep.tab8 filter_Keep.bits8 (fun HT_ HW_ => ?_)
              refine pure_ (i := 0) (N := (some 24)) (v := ?_) (a' := ?_) #[true, false, false, false, false, false, false, false, false, false, false, false, false, false] rfl rfl (any_of HT_.out (by kernel_rfl)) (fun _ _ _ h => h) (Or.inl ⟨by rfl, ?_⟩) ?_ ?_
              rotate_left
              · intro w'
                go_simp
                with_reducible rfl
              rotate_left
              · simp only [Act.put, List.setIfInBounds_toArray, List.set_cons_zero, List.set_cons_succ, i64_w, i32_w]
                rfl
              refine take_ (i := 1) (N := (some 25)) (v := ?_) (a' := ?_) #[true, true, false, false, false, false, false, false, false, false, false, false, false, false] rfl rfl (take_ofW HT_.out HW_.out (by kernel_rfl)) (fun _ _ _ h => h) (Or.inl ⟨by rfl, ?_⟩) hHeld ?_ ?_
              rotate_left
              · rintro w' ⟨s0, s1, s2, s3, s4, s5, s6, s7⟩
                go_simp
                with_reducible rfl
              rotate_left
              · simp only [Act.put, List.setIfInBounds_toArray, List.set_cons_zero, List.set_cons_succ, i64_w, i32_w]
                rfl
              refine pure_ (i := 2) (N := (some 26)) (v := ?_) (a' := ?_) #[true, true, true, false, false, false, false, false, false, false, false, false, false, false] rfl rfl (any_of HT_.out (by kernel_rfl)) (fun _ _ _ h => h) (Or.inl ⟨by rfl, ?_⟩) ?_ ?_
              rotate_left
              · intro w'
                go_simp
                with_reducible rfl
              rotate_left
              · simp only [Act.put, List.setIfInBounds_toArray, List.set_cons_zero, List.set_cons_succ, i64_w, i32_w]
                rfl
              refine take_ (i := 3) (N := (some 27)) (v := ?_) (a' := ?_) #[true, true, true, true, false, false, false, false, false, false, false, false, false, false] rfl rfl (take_ofW HT_.out HW_.out (by kernel_rfl)) (fun _ _ _ h => h) (Or.inl ⟨by rfl, ?_⟩) hHeld ?_ ?_
              rotate_left
              · rintro w' ⟨s0, s1, s2, s3, s4, s5, s6, s7⟩
                go_simp
                with_reducible rfl
              rotate_left
              · simp only [Act.put, List.setIfInBounds_toArray, List.set_cons_zero, List.set_cons_succ, i64_w, i32_w]
                rfl
              refine pure_ (i := 4) (N := (some 28)) (v := ?_) (a' := ?_) #[true, true, true, true, true, false, false, false, false, false, false, false, false, false] rfl rfl (any_of HT_.out (by kernel_rfl)) (fun _ _ _ h => h) (Or.inl ⟨by rfl, ?_⟩) ?_ ?_
              rotate_left
              · intro w'
                go_simp
                with_reducible rfl
              rotate_left
              · simp only [Act.put, List.setIfInBounds_toArray, List.set_cons_zero, List.set_cons_succ, i64_w, i32_w]
                rfl
              refine take_ (i := 5) (N := (some 29)) (v := ?_) (a' := ?_) #[true, true, true, true, true, true, false, false, false, false, false, false, false, false] rfl rfl (take_ofW HT_.out HW_.out (by kernel_rfl)) (fun _ _ _ h => h) (Or.inl ⟨by rfl, ?_⟩) hHeld ?_ ?_
              rotate_left
              · rintro w' ⟨s0, s1, s2, s3, s4, s5, s6, s7⟩
                go_simp
                with_reducible rfl
              rotate_left
              · simp only [Act.put, List.setIfInBounds_toArray, List.set_cons_zero, List.set_cons_succ, i64_w, i32_w]
                rfl
              refine take_ (i := 6) (N := (some 30)) (v := ?_) (a' := ?_) #[true, true, true, true, true, true, true, false, false, false, false, false, false, false] rfl rfl (take_ofW HT_.out HW_.out (by kernel_rfl)) (fun _ _ _ h => h) (Or.inl ⟨by rfl, ?_⟩) hHeld ?_ ?_
              rotate_left
              · rintro w' ⟨s0, s1, s2, s3, s4, s5, s6, s7⟩
                go_simp
                with_reducible rfl
              rotate_left
              · simp only [Act.put, List.setIfInBounds_toArray, List.set_cons_zero, List.set_cons_succ, i64_w, i32_w]
                rfl
              refine pure_ (i := 7) (N := (some 31)) (v := ?_) (a' := ?_) #[true, true, true, true, true, true, true, true, false, false, false, false, false, false] rfl rfl (any_of HT_.out (by kernel_rfl)) (fun _ _ _ h => h) (Or.inl ⟨by rfl, ?_⟩) ?_ ?_
              rotate_left
              · intro w'
                go_simp
                with_reducible rfl
              rotate_left
              · simp only [Act.put, List.setIfInBounds_toArray, List.set_cons_zero, List.set_cons_succ, i64_w, i32_w]
                rfl
              refine pure_ (i := 8) (N := (some 32)) (v := ?_) (a' := ?_) #[true, true, true, true, true, true, true, true, true, false, false, false, false, false] rfl rfl (any_of HT_.out (by kernel_rfl)) (fun _ _ _ h => h) (Or.inl ⟨by rfl, ?_⟩) ?_ ?_
              rotate_left
              · intro w'
                go_simp
                with_reducible rfl
              rotate_left
              · simp only [Act.put, List.setIfInBounds_toArray, List.set_cons_zero, List.set_cons_succ, i64_w, i32_w]
                rfl
              refine take_ (i := 9) (N := (some 33)) (v := ?_) (a' := ?_) #[true, true, true, true, true, true, true, true, true, true, false, false, false, false] rfl rfl (take_ofW HT_.out HW_.out (by kernel_rfl)) (fun _ _ _ h => h) (Or.inl ⟨by rfl, ?_⟩) hHeld ?_ ?_
              rotate_left
              · rintro w' ⟨s0, s1, s2, s3, s4, s5, s6, s7⟩
                go_simp
                with_reducible rfl
              rotate_left
              · simp only [Act.put, List.setIfInBounds_toArray, List.set_cons_zero, List.set_cons_succ, i64_w, i32_w]
                rfl
              refine pure_ (i := 10) (N := (some 34)) (v := ?_) (a' := ?_) #[true, true, true, true, true, true, true, true, true, true, true, false, false, false] rfl rfl (any_of HT_.out (by kernel_rfl)) (fun _ _ _ h => h) (Or.inl ⟨by rfl, ?_⟩) ?_ ?_
              rotate_left
              · intro w'
                go_simp
                with_reducible rfl
              rotate_left
              · simp only [Act.put, List.setIfInBounds_toArray, List.set_cons_zero, List.set_cons_succ, i64_w, i32_w]
                rfl
              refine take_ (i := 11) (N := (some 35)) (v := ?_) (a' := ?_) #[true, true, true, true, true, true, true, true, true, true, true, true, false, false] rfl rfl (take_ofW HT_.out HW_.out (by kernel_rfl)) (fun _ _ _ h => h) (Or.inl ⟨by rfl, ?_⟩) hHeld ?_ ?_
              rotate_left
              · rintro w' ⟨s0, s1, s2, s3, s4, s5, s6, s7⟩
                go_simp
                with_reducible rfl
              rotate_left
              · simp only [Act.put, List.setIfInBounds_toArray, List.set_cons_zero, List.set_cons_succ, i64_w, i32_w]
                rfl
              refine one_ (i := 12) (N := (some 36)) #[true, true, true, true, true, true, true, true, true, true, true, true, true, false] rfl rfl (one_of HT_.out (by kernel_rfl)) (by decide) (fun K hK => ?_)
              refine goes_ Try.func30 (by kernel_rfl) rfl #[.int .i64 (rd l0_0 f.f0), .agg #[.int .i64 f.f0, .int .i64 f.f1, .int .i64 f.f2.f0, .string f.f2.f1], .agg #[.int .i64 (rd_T26 row f.f0).f0, .string (rd_T26 row f.f0).f1]] (by rfl) rfl rfl (by (try simp only [List.map_toArray, List.map_cons, List.map_nil]); first | done | rfl) ?_
              refine (filter_holds.calls k _ _ _ _ _ _ _ bh _ HBH.out).mono ?_
              rintro e w3 ⟨rfl, hb3⟩
              refine ⟨_, rfl, ?_⟩
              have BS3 := Aside0.mk (blk_below (blk_drew BS1.out) hb3)
              have BF3 := Aside0.mk (blk_below (blk_drew BF.out) hb3)
              have HO3 := Aside0.mk (Kd.R_below (Kd.R_drew HO1.out) hb3)
              have HB3 := Aside0.mk (below_step (below_drew HB1.out) hb3)
              clear hb3
              refine hK.out _ _ ⟨(blk_cell BS3.out 0).trans rfl, (blk_cell BF3.out 0).trans rfl, (blk_cell BF3.out 1).trans rfl, (blk_cell BF3.out 2).trans rfl, (blk_cell BF3.out 3).trans rfl, (HB3.out.cell (World.block_lt_of_cell? w _ HT.out)).trans HT.out, (HB3.out.cell (World.block_lt_of_cell? w _ HP0.out)).trans HP0.out, (HB3.out.cell (World.block_lt_of_cell? w _ HP1.out)).trans HP1.out⟩ (fun hHeld => ?_)
              clear hK K
              refine norm_ (a' := ?_) ?_ ?_
              rotate_left
              · show Act.put _ (some 36) _ = _
                simp only [Act.put, List.setIfInBounds_toArray, List.set_cons_zero, List.set_cons_succ, i64_w, i32_w]
                rfl
              refine pure_ (i := 13) (N := (some 37)) (v := ?_) (a' := ?_) #[true, true, true, true, true, true, true, true, true, true, true, true, true, true] rfl rfl (any_of HT_.out (by kernel_rfl)) (fun _ _ _ h => h) (Or.inl ⟨by rfl, ?_⟩) ?_ ?_
              rotate_left
              · intro w'
                go_simp
                with_reducible rfl
              rotate_left
              · simp only [Act.put, List.setIfInBounds_toArray, List.set_cons_zero, List.set_cons_succ, i64_w, i32_w]
                rfl
              refine done_ (done_of HT_.out (by kernel_rfl)) ?_
              cases bh with
              | true =>
                have hJ := HJ'.out
                rw [if_pos rfl] at hJ
                have HJ2 := Aside0.mk hJ
                clear hJ HJ'
                go_wp2
                obtain ⟨q, rfl⟩ : ∃ q, gk = q + 1 := ⟨gk - 1, by have := HQ2.out; omega⟩
                go_roundg q
                case measure => omega
                case rel => exact ⟨j + 1, by go_num, ⟨by have := HQ2.out; omega⟩, ⟨HJ2.out⟩, ⟨BS3.out⟩, ⟨HO3.out⟩, ⟨HB3.out⟩⟩
              | false =>
                have hJ := HJ'.out
                rw [if_neg (by decide)] at hJ
                obtain rfl := Option.some.inj hJ
                clear hJ HJ'
                have hi2' : l2.length ≤ 9223372036854775807 := hn2.out
                go_wp2
                go_roundg (l2.length - (i + 1))
                case measure => have := HQ.out; omega
                case rel => exact ⟨i + 1, acc, by go_num, ⟨by omega⟩, ⟨rest2, HR2'.out, by have h1 := HREST.out; rw [if_neg (by decide)] at h1; rw [Option.some.inj h1]; exact HACC.out⟩, ⟨by have := HA.out; omega⟩, ⟨BS3.out⟩, ⟨HO3.out⟩, ⟨HB3.out⟩⟩
            · exact absurd hJ (by simp)
          · obtain rfl : j = l1.length := by have := HQ2.out; omega
            have hJ := HJ.out
            rw [List.drop_length] at hJ
            simp only [keepRow] at hJ
            obtain rfl := Option.some.inj hJ
            clear hJ HJ hj
            have hi2' : l2.length ≤ 9223372036854775807 := hn2.out
            have HLX := Aside0.mk (show (acc.length + 1) * 24 ≤ 140737488355328 by have := HA.out; have := HLEN.out; omega)
            go_wp2_with ((with_reducible refine gate_builtin (b := .append) (xs := #[.tmp 39, .tmp 41]) rfl ?_); at_builtin; refine Kd.R_append (Kd.fixed (Kd.slice 26 k26) w) (w0 := w) w.heap.size (by rfl) (.tmp 39) (.tmp 41) 30 43 (.slice none 0 0) 24 (by rfl) Try.underlying30 info43 rfl Nat.one_pos (by decide) u7 acc row [.slice Ar row.length cr] (fun _ => True) (fun k => some k ≠ u7.ownBlock) (by rfl) (by rfl) ⟨Ar, cr, rfl, HL2.out, HI2.out⟩ (fun _ hk => ⟨trivial, hk⟩) (fun _ _ => trivial) HO.out HB.out HB.out.size HLX.out ?_; intro v1 w1 ho1 hb1 hg1 hat1; have HO1 := Aside0.mk ho1; have HB1 := Aside0.mk hb1; have BS1 := Aside0.mk (blk_grown BS.out hg1 (Kd.R_ne HO.out BS.out (by decide))); clear ho1 hb1 hg1 hat1)
            go_roundg (l2.length - (i + 1))
            case measure => have := HQ.out; omega
            case rel => exact ⟨i + 1, acc ++ [row], by go_num, ⟨by omega⟩, ⟨rest2, HR2'.out, by have h1 := Option.some.inj HREST.out; rw [← HACC.out, ← h1]; simp⟩, ⟨by have := HA.out; simp; omega⟩, ⟨BS1.out⟩, ⟨HO1.out⟩, ⟨HB1.out⟩⟩
      · obtain rfl : i = l2.length := by have := HQ.out; omega
        rw [List.drop_length] at hrest
        simp only [keepRows] at hrest
        obtain rfl := Option.some.inj hrest
        rw [List.append_nil] at hacc
        subst hacc
        clear hrest hlt
        go_wp2
        obtain ⟨A, c, ev, hl, hC⟩ := Kd.R_reads HO.out
        subst ev
        (try rw [Exit.noGoto_ret])
        go_ret
        exact ⟨A, c, rfl, hl, Kd.C_read (w := wr) (dm := Kd.fixed (Kd.slice 26 k26) w) (d := Kd.slice 26 k26) rfl (fun x cs hx => (Kd.slice 26 k26).K_below HB.out hx) hC, HB.out⟩
  · exact absurd h (by simp)
end Go.Proofs.Ytohbpgdhpfmlgaa.PA
