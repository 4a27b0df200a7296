-- written by a program of this claim's session (wip/tools/hook.py turns the kit's print): Lean checks it
import Derived.Test.YtohbpgdhpfmlgaaDoorPAx0
import Derived.Test.YtohbpgdhpfmlgaaDoorPAx2
namespace Go.Proofs.YtohbpgdhpfmlgaaDoor.PA
open Go.RowKit Go.Proofs.YtohbpgdhpfmlgaaDoorW.PrintWords Go.Proofs.YtohbpgdhpfmlgaaDoorW.PrintLast Go.Proofs.YtohbpgdhpfmlgaaDoorW.PrintMore
attribute [local go_sem] max2_int min2_int max_two min_two max_three min_three max_four min_four   -- for this text's walks alone
set_option linter.unusedVariables false
set_option linter.unusedSimpArgs false

/-! ### thresherlaw03_ValueWrites: function 5 -/
mutual
def thresherlaw03_ValueWrites.j0 : Nat → Bool → Int → ByteArray → Bool → Option (Bool)
  | 0, _, _, _, _ => none
  | k + 1, x5, x6, x7, x41 => if x41 = true then (some false) else (thresherlaw03_ValueWrites.l0 k x5 x6 x7 0)
def thresherlaw03_ValueWrites.l0 : Nat → Bool → Int → ByteArray → Int → Option (Bool)
  | 0, _, _, _, _ => none
  | k + 1, x5, x6, x7, x8 => if x8 < (x7.size : Int) then (if x6 = 3 then (thresherlaw03_ValueWrites.j2 k x5 x6 x7 x8 false) else (if 0 ≤ x8 then (if (bt x7 x8) < 48 then (if x8 > 0 then (thresherlaw03_ValueWrites.j2 k x5 x6 x7 x8 true) else (if x6 = 1 then (thresherlaw03_ValueWrites.j2 k x5 x6 x7 x8 ((bt x7 x8) != 45)) else (thresherlaw03_ValueWrites.j2 k x5 x6 x7 x8 true))) else (if (bt x7 x8) > 57 then (if x8 > 0 then (thresherlaw03_ValueWrites.j2 k x5 x6 x7 x8 true) else (if x6 = 1 then (thresherlaw03_ValueWrites.j2 k x5 x6 x7 x8 ((bt x7 x8) != 45)) else (thresherlaw03_ValueWrites.j2 k x5 x6 x7 x8 true))) else (thresherlaw03_ValueWrites.j2 k x5 x6 x7 x8 false))) else (none))) else (some x5)
def thresherlaw03_ValueWrites.j2 : Nat → Bool → Int → ByteArray → Int → Bool → Option (Bool)
  | 0, _, _, _, _, _ => none
  | k + 1, x5, x6, x7, x8, x75 => if x75 = true then (some false) else (if x6 = 3 then (if 0 ≤ x8 then (if x8 < (x7.size : Int) then (if (bt x7 x8) < 32 then (some false) else (if (bt x7 x8) > 126 then (some false) else (if (bt x7 x8) = 34 then (if x8 > 0 then (if x8 < (wrap64 ((x7.size : Int) - 1)) then (some false) else (thresherlaw03_ValueWrites.l0 k x5 x6 x7 (wrap64 (x8 + 1)))) else (thresherlaw03_ValueWrites.l0 k x5 x6 x7 (wrap64 (x8 + 1)))) else (thresherlaw03_ValueWrites.l0 k x5 x6 x7 (wrap64 (x8 + 1)))))) else (none)) else (none)) else (thresherlaw03_ValueWrites.l0 k x5 x6 x7 (wrap64 (x8 + 1))))
end
def thresherlaw03_ValueWrites.f (k : Nat) (a0 : Int) (a1_0 : Int) (a1_1 : ByteArray) : Option (Bool) := (thresherlaw03_shown.f k).bind fun t187 => ((thresherlaw03_kind.f a0).bind fun t188 => ((thresherlaw03_fit.f t188 a1_0 a1_1).bind fun bt189 => ((value_Text.f k t188 bt189.1 bt189.2).bind fun t191 => (if (t191.size : Int) < 1 then (thresherlaw03_ValueWrites.j0 k t187 t188 t191 true) else (if t188 = 3 then (if (t191.size : Int) < 2 then (thresherlaw03_ValueWrites.j0 k t187 t188 t191 true) else (if 0 < (t191.size : Int) then (if (bt t191 0) = 34 then (if 0 ≤ (wrap64 ((t191.size : Int) - 1)) then (if (wrap64 ((t191.size : Int) - 1)) < (t191.size : Int) then (thresherlaw03_ValueWrites.j0 k t187 t188 t191 ((bt t191 (wrap64 ((t191.size : Int) - 1))) != 34)) else (none)) else (none)) else (thresherlaw03_ValueWrites.j0 k t187 t188 t191 true)) else (none))) else (thresherlaw03_ValueWrites.j0 k t187 t188 t191 false))))))
theorem thresherlaw03_ValueWrites.mono_l : ∀ k, (∀ y0 y1 y2 y3, LeO (thresherlaw03_ValueWrites.j0 k y0 y1 y2 y3) (thresherlaw03_ValueWrites.j0 (k + 1) y0 y1 y2 y3)) ∧ (∀ y0 y1 y2 y3, LeO (thresherlaw03_ValueWrites.l0 k y0 y1 y2 y3) (thresherlaw03_ValueWrites.l0 (k + 1) y0 y1 y2 y3)) ∧ (∀ y0 y1 y2 y3 y4, LeO (thresherlaw03_ValueWrites.j2 k y0 y1 y2 y3 y4) (thresherlaw03_ValueWrites.j2 (k + 1) y0 y1 y2 y3 y4))
  | 0 => ⟨fun _ _ _ _ r h => by simp [thresherlaw03_ValueWrites.j0] at h, fun _ _ _ _ r h => by simp [thresherlaw03_ValueWrites.l0] at h, fun _ _ _ _ _ r h => by simp [thresherlaw03_ValueWrites.j2] at h⟩
  | k + 1 => by
    obtain ⟨ih0, ih1, ih2⟩ := thresherlaw03_ValueWrites.mono_l k
    refine ⟨?_, ?_, ?_⟩
    · intro y0 y1 y2 y3
      unfold thresherlaw03_ValueWrites.j0
      repeat' first
      | (with_reducible exact ih0 _ _ _ _)
      | (with_reducible exact ih1 _ _ _ _)
      | (with_reducible exact ih2 _ _ _ _ _)
      | (with_reducible exact thresherlaw03_shown.mono _)
      | (with_reducible exact value_Text.mono _ _ _ _)
      | (with_reducible exact LeO.refl _)
      | (with_reducible exact LeO.none _)
      | (with_reducible refine LeO.ite ?_ ?_)
      | (with_reducible refine LeO.bind ?_ (fun _ => ?_))
      | exact ih0 _ _ _ _
      | exact ih1 _ _ _ _
      | exact ih2 _ _ _ _ _
      | exact thresherlaw03_shown.mono _
      | exact value_Text.mono _ _ _ _
      | exact LeO.none _
      | refine LeO.ite ?_ ?_
      | refine LeO.bind ?_ (fun _ => ?_)
    · intro y0 y1 y2 y3
      unfold thresherlaw03_ValueWrites.l0
      repeat' first
      | (with_reducible exact ih0 _ _ _ _)
      | (with_reducible exact ih1 _ _ _ _)
      | (with_reducible exact ih2 _ _ _ _ _)
      | (with_reducible exact thresherlaw03_shown.mono _)
      | (with_reducible exact value_Text.mono _ _ _ _)
      | (with_reducible exact LeO.refl _)
      | (with_reducible exact LeO.none _)
      | (with_reducible refine LeO.ite ?_ ?_)
      | (with_reducible refine LeO.bind ?_ (fun _ => ?_))
      | exact ih0 _ _ _ _
      | exact ih1 _ _ _ _
      | exact ih2 _ _ _ _ _
      | exact thresherlaw03_shown.mono _
      | exact value_Text.mono _ _ _ _
      | exact LeO.none _
      | refine LeO.ite ?_ ?_
      | refine LeO.bind ?_ (fun _ => ?_)
    · intro y0 y1 y2 y3 y4
      unfold thresherlaw03_ValueWrites.j2
      repeat' first
      | (with_reducible exact ih0 _ _ _ _)
      | (with_reducible exact ih1 _ _ _ _)
      | (with_reducible exact ih2 _ _ _ _ _)
      | (with_reducible exact thresherlaw03_shown.mono _)
      | (with_reducible exact value_Text.mono _ _ _ _)
      | (with_reducible exact LeO.refl _)
      | (with_reducible exact LeO.none _)
      | (with_reducible refine LeO.ite ?_ ?_)
      | (with_reducible refine LeO.bind ?_ (fun _ => ?_))
      | exact ih0 _ _ _ _
      | exact ih1 _ _ _ _
      | exact ih2 _ _ _ _ _
      | exact thresherlaw03_shown.mono _
      | exact value_Text.mono _ _ _ _
      | exact LeO.none _
      | refine LeO.ite ?_ ?_
      | refine LeO.bind ?_ (fun _ => ?_)
theorem thresherlaw03_ValueWrites.mono : ∀ a0 a1 a2 k, LeO (thresherlaw03_ValueWrites.f k a0 a1 a2) (thresherlaw03_ValueWrites.f (k + 1) a0 a1 a2) := by
  intro a0 a1 a2 k
  obtain ⟨ih0, ih1, ih2⟩ := thresherlaw03_ValueWrites.mono_l k
  unfold thresherlaw03_ValueWrites.f
  repeat' first
      | (with_reducible exact ih0 _ _ _ _)
      | (with_reducible exact ih1 _ _ _ _)
      | (with_reducible exact ih2 _ _ _ _ _)
      | (with_reducible exact thresherlaw03_shown.mono _)
      | (with_reducible exact value_Text.mono _ _ _ _)
      | (with_reducible exact LeO.refl _)
      | (with_reducible exact LeO.none _)
      | (with_reducible refine LeO.ite ?_ ?_)
      | (with_reducible refine LeO.bind ?_ (fun _ => ?_))
      | exact ih0 _ _ _ _
      | exact ih1 _ _ _ _
      | exact ih2 _ _ _ _ _
      | exact thresherlaw03_shown.mono _
      | exact value_Text.mono _ _ _ _
      | exact LeO.none _
      | refine LeO.ite ?_ ?_
      | refine LeO.bind ?_ (fun _ => ?_)
set_option maxHeartbeats 8000000 in
set_option maxRecDepth 100000 in
theorem thresherlaw03_ValueWrites.calls (k : Nat) (a0 : Int) (a1_0 : Int) (a1_1 : ByteArray) (r : Bool) (w : World) (HT : Aside0 (LT w)) (h : thresherlaw03_ValueWrites.f k a0 a1_0 a1_1 = some r) :
    Calls Tryd.prog 5 #[.int .u8 a0, .agg #[.int .i64 a1_0, .string a1_1]] w fun e w' => e = .returned (.bool r) ∧ Below w.heap.size w w' := by
  have hu23 := Tryd.underlying23
  have HB := Aside0.mk (Below.refl w.heap.size w)
  have H : ((thresherlaw03_shown.f k).bind fun t187 => ((thresherlaw03_kind.f a0).bind fun t188 => ((thresherlaw03_fit.f t188 a1_0 a1_1).bind fun bt189 => ((value_Text.f k t188 bt189.1 bt189.2).bind fun t191 => (if (t191.size : Int) < 1 then (thresherlaw03_ValueWrites.j0 k t187 t188 t191 true) else (if t188 = 3 then (if (t191.size : Int) < 2 then (thresherlaw03_ValueWrites.j0 k t187 t188 t191 true) else (if 0 < (t191.size : Int) then (if (bt t191 0) = 34 then (if 0 ≤ (wrap64 ((t191.size : Int) - 1)) then (if (wrap64 ((t191.size : Int) - 1)) < (t191.size : Int) then (thresherlaw03_ValueWrites.j0 k t187 t188 t191 ((bt t191 (wrap64 ((t191.size : Int) - 1))) != 34)) else (none)) else (none)) else (thresherlaw03_ValueWrites.j0 k t187 t188 t191 true)) else (none))) else (thresherlaw03_ValueWrites.j0 k t187 t188 t191 false))))))) = some r := h
  clear h
  replace H := Option.bind_eq_some_iff.mp H
  obtain ⟨t187, A30, H⟩ := H
  replace H : ((thresherlaw03_kind.f a0).bind fun t188 => ((thresherlaw03_fit.f t188 a1_0 a1_1).bind fun bt189 => ((value_Text.f k t188 bt189.1 bt189.2).bind fun t191 => (if (t191.size : Int) < 1 then (thresherlaw03_ValueWrites.j0 k t187 t188 t191 true) else (if t188 = 3 then (if (t191.size : Int) < 2 then (thresherlaw03_ValueWrites.j0 k t187 t188 t191 true) else (if 0 < (t191.size : Int) then (if (bt t191 0) = 34 then (if 0 ≤ (wrap64 ((t191.size : Int) - 1)) then (if (wrap64 ((t191.size : Int) - 1)) < (t191.size : Int) then (thresherlaw03_ValueWrites.j0 k t187 t188 t191 ((bt t191 (wrap64 ((t191.size : Int) - 1))) != 34)) else (none)) else (none)) else (thresherlaw03_ValueWrites.j0 k t187 t188 t191 true)) else (none))) else (thresherlaw03_ValueWrites.j0 k t187 t188 t191 false)))))) = some r := H
  have A3 := Aside0.mk A30
  clear A30
  replace H := Option.bind_eq_some_iff.mp H
  obtain ⟨t188, A40, H⟩ := H
  replace H : ((thresherlaw03_fit.f t188 a1_0 a1_1).bind fun bt189 => ((value_Text.f k t188 bt189.1 bt189.2).bind fun t191 => (if (t191.size : Int) < 1 then (thresherlaw03_ValueWrites.j0 k t187 t188 t191 true) else (if t188 = 3 then (if (t191.size : Int) < 2 then (thresherlaw03_ValueWrites.j0 k t187 t188 t191 true) else (if 0 < (t191.size : Int) then (if (bt t191 0) = 34 then (if 0 ≤ (wrap64 ((t191.size : Int) - 1)) then (if (wrap64 ((t191.size : Int) - 1)) < (t191.size : Int) then (thresherlaw03_ValueWrites.j0 k t187 t188 t191 ((bt t191 (wrap64 ((t191.size : Int) - 1))) != 34)) else (none)) else (none)) else (thresherlaw03_ValueWrites.j0 k t187 t188 t191 true)) else (none))) else (thresherlaw03_ValueWrites.j0 k t187 t188 t191 false))))) = some r := H
  have A4 := Aside0.mk A40
  clear A40
  replace H := Option.bind_eq_some_iff.mp H
  obtain ⟨⟨t189, t190⟩, A50, H⟩ := H
  replace H : ((value_Text.f k t188 t189 t190).bind fun t191 => (if (t191.size : Int) < 1 then (thresherlaw03_ValueWrites.j0 k t187 t188 t191 true) else (if t188 = 3 then (if (t191.size : Int) < 2 then (thresherlaw03_ValueWrites.j0 k t187 t188 t191 true) else (if 0 < (t191.size : Int) then (if (bt t191 0) = 34 then (if 0 ≤ (wrap64 ((t191.size : Int) - 1)) then (if (wrap64 ((t191.size : Int) - 1)) < (t191.size : Int) then (thresherlaw03_ValueWrites.j0 k t187 t188 t191 ((bt t191 (wrap64 ((t191.size : Int) - 1))) != 34)) else (none)) else (none)) else (thresherlaw03_ValueWrites.j0 k t187 t188 t191 true)) else (none))) else (thresherlaw03_ValueWrites.j0 k t187 t188 t191 false)))) = some r := H
  have A5 := Aside0.mk A50
  clear A50
  replace H := Option.bind_eq_some_iff.mp H
  obtain ⟨t191, A60, H⟩ := H
  replace H : (if (t191.size : Int) < 1 then (thresherlaw03_ValueWrites.j0 k t187 t188 t191 true) else (if t188 = 3 then (if (t191.size : Int) < 2 then (thresherlaw03_ValueWrites.j0 k t187 t188 t191 true) else (if 0 < (t191.size : Int) then (if (bt t191 0) = 34 then (if 0 ≤ (wrap64 ((t191.size : Int) - 1)) then (if (wrap64 ((t191.size : Int) - 1)) < (t191.size : Int) then (thresherlaw03_ValueWrites.j0 k t187 t188 t191 ((bt t191 (wrap64 ((t191.size : Int) - 1))) != 34)) else (none)) else (none)) else (thresherlaw03_ValueWrites.j0 k t187 t188 t191 true)) else (none))) else (thresherlaw03_ValueWrites.j0 k t187 t188 t191 false))) = some r := H
  have A6 := Aside0.mk A60
  clear A60
  have HC7 := Aside0.mk H
  clear H
  go_enter Tryd.func5, Tryd.ntmps5
  go_upto_region 4 with (first | ((with_reducible refine gate_dst (N := 3) rfl ?_); (try (refine gate_guard (by rfl) ?_; dsimp only)); refine box_event ?hg (N := 3) ?hd (cs := #[.int .i64 a1_0, .string a1_1]) (t := 23) ?hr ?_; (case hd => rfl); (case hg => rfl); (case hr => first | (go_simp; done) | (go_simp; rfl)); intro gb186 hg w8 hbox hb; have n0_ := Aside0.mk (below_step (by repeat (first | (with_reducible first | exact HB.out | apply below_alloc | apply pw_below_drewN | apply below_drew1) | exact HB.out)) hb); have n1_ := Aside0.mk (hbox); have n2_ := Aside0.mk ((by rw [hg]; exact (below_size (by repeat (first | (with_reducible first | exact HB.out | apply below_alloc | apply pw_below_drewN | apply below_drew1) | exact HB.out))) : w.heap.size ≤ gb186)); have n3_ := Aside0.mk ((by rw [hg]; exact (below_size (by repeat (first | (with_reducible first | exact HB.out | apply below_alloc | apply pw_below_drewN | apply below_drew1) | exact HB.out))) : w.heap.size ≤ gb186)); clear HB; have HB := n0_; have BK186 := n1_; have GW186 := n2_; have GE186 := n3_; clear n0_ n1_ n2_ n3_; clear hb hbox hg) | ((with_reducible refine gate_callee (f := 9) rfl ?_); refine goesL_ (some 9) rfl rfl Tryd.func9 (by kernel_rfl) rfl #[] rfl (by (try simp only [List.map_toArray, List.map_cons, List.map_nil]); first | done | rfl | (simp only [List.length_drop, List.length_take]; rfl)) ?_; (with_reducible refine (thresherlaw03_shown.calls k  t187 _ ?side1 A3.out).mono ?_); (case side1 => exact ⟨LT.step HT.out (by repeat (first | (with_reducible first | exact HB.out | apply below_alloc | apply pw_below_drewN | apply below_drew1 | refine below_set ?_ GE186.out) | exact HB.out))⟩); rintro e w9 ⟨rfl, hb⟩; refine ⟨_, rfl, ?_⟩; have n0_ := Aside0.mk (blk_below (g := gb186) (o := .cells #[.int .i64 a1_0, .string a1_1] 23 (0, 0)) (by (with_reducible repeat (first | refine blk_drewN ?_ _ | refine blk_drew ?_ | refine blk_alloc ?_ _)); exact BK186.out) hb); have n1_ := Aside0.mk (below_step (by repeat (first | (with_reducible first | exact HB.out | apply below_alloc | apply pw_below_drewN | apply below_drew1 | refine below_set ?_ GE186.out) | exact HB.out)) hb); clear BK186; clear HB; have BK186 := n0_; have HB := n1_; clear n0_ n1_; (try clear hb); (try clear hb2); (try clear hk); (try clear hi)) | ((with_reducible refine gate_callee (f := 10) rfl ?_); refine goesL_ (some 11) rfl rfl Tryd.func10 (by kernel_rfl) rfl #[.int .u8 a0] rfl (by (try simp only [List.map_toArray, List.map_cons, List.map_nil]); first | done | rfl | (simp only [List.length_drop, List.length_take]; rfl)) ?_; (with_reducible refine (thresherlaw03_kind.calls a0 t188 _ A4.out).mono ?_); rintro e w' ⟨rfl, ⟨nd, rfl⟩⟩; refine ⟨_, rfl, ?_⟩; have hcz10_0 : w9.cell? ⟨gb186, 0, none⟩ = some (.int .i64 a1_0) := (blk_cell BK186.out 0).trans rfl; have hcz10_1 : w9.cell? ⟨gb186, 1, none⟩ = some (.string a1_1) := (blk_cell BK186.out 1).trans rfl; have hfz10_0 := blk_frozen BK186.out 0; have hfz10_1 := blk_frozen BK186.out 1) | ((with_reducible refine gate_callee (f := 11) rfl ?_); refine goesL_ (some 15) rfl rfl Tryd.func11 (by kernel_rfl) rfl #[.int .i64 t188, .agg #[.int .i64 a1_0, .string a1_1]] rfl (by (try simp only [List.map_toArray, List.map_cons, List.map_nil]); first | done | rfl | (simp only [List.length_drop, List.length_take]; rfl)) ?_; (with_reducible refine (thresherlaw03_fit.calls t188 a1_0 a1_1 t189 t190 _ A5.out).mono ?_); rintro e w11 ⟨rfl, hb⟩; refine ⟨_, rfl, ?_⟩; have n0_ := Aside0.mk (blk_below (g := gb186) (o := .cells #[.int .i64 a1_0, .string a1_1] 23 (0, 0)) (by (with_reducible repeat (first | refine blk_drewN ?_ _ | refine blk_drew ?_ | refine blk_alloc ?_ _)); exact BK186.out) hb); have n1_ := Aside0.mk (below_step (by repeat (first | (with_reducible first | exact HB.out | apply below_alloc | apply pw_below_drewN | apply below_drew1 | refine below_set ?_ GE186.out) | exact HB.out)) hb); clear BK186; clear HB; have BK186 := n0_; have HB := n1_; clear n0_ n1_; (try clear hb); (try clear hb2); (try clear hk); (try clear hi)) | ((with_reducible refine gate_callee (f := 13) rfl ?_); refine goesL_ (some 16) rfl rfl Tryd.func13 (by kernel_rfl) rfl #[.int .i64 t188, .agg #[.int .i64 t189, .string t190]] rfl (by (try simp only [List.map_toArray, List.map_cons, List.map_nil]); first | done | rfl | (simp only [List.length_drop, List.length_take]; rfl)) ?_; (with_reducible refine (value_Text.calls k t188 t189 t190 t191 _ ?side1 A6.out).mono ?_); (case side1 => exact ⟨LT.step HT.out (by repeat (first | (with_reducible first | exact HB.out | apply below_alloc | apply pw_below_drewN | apply below_drew1 | refine below_set ?_ GE186.out) | exact HB.out))⟩); rintro e w12 ⟨rfl, hb⟩; refine ⟨_, rfl, ?_⟩; have n0_ := Aside0.mk (blk_below (g := gb186) (o := .cells #[.int .i64 a1_0, .string a1_1] 23 (0, 0)) (by (with_reducible repeat (first | refine blk_drewN ?_ _ | refine blk_drew ?_ | refine blk_alloc ?_ _)); exact BK186.out) hb); have n1_ := Aside0.mk (below_step (by repeat (first | (with_reducible first | exact HB.out | apply below_alloc | apply pw_below_drewN | apply below_drew1 | refine below_set ?_ GE186.out) | exact HB.out)) hb); clear BK186; clear HB; have BK186 := n0_; have HB := n1_; clear n0_ n1_; (try clear hb); (try clear hb2); (try clear hk); (try clear hi)))
  (try simp only [Act.put, List.setIfInBounds_toArray, List.set_cons_zero, List.set_cons_succ])
  go_cut [41] (fun v41 wc => ∃ (kq : Nat) (x41_6 : Bool), v41 = .bool x41_6 ∧ Aside0 (thresherlaw03_ValueWrites.j0 kq t187 t188 t191 x41_6 = some r) ∧ Aside0 (kq ≤ k) ∧ Aside0 (wc.heap[gb186]? = some (.cells #[.int .i64 a1_0, .string a1_1] 23 (0, 0))) ∧ Aside0 (Below w.heap.size w wc))
  case first =>
    have H := HC7.out
    clear HC7
    by_cases c13 : (t191.size : Int) < 1
    · rw [if_pos c13] at H
      have c13b0 : decide ((t191.size : Int) < 1) = true := decide_eq_true c13
      have c13b1 : decide (t191.size < 1) = true := decide_eq_true (by omega)
      clear c13
      (first | rw [c13b0] | (simp only [i64_w, i32_w]; rw [c13b0]) | skip)
      have H' := Aside0.mk H
      clear H
      go_wp2
      go_meet
      case rel => exact ⟨_, (true), (by first | rfl | (simp; done) | (simp [*]; done)), H', ⟨by first | omega | exact Nat.le_refl _⟩, ⟨by (with_reducible repeat (first | refine blk_drewN ?_ _ | refine blk_drew ?_ | refine blk_alloc ?_ _)); exact BK186.out⟩, ⟨by repeat (first | (with_reducible first | exact HB.out | apply below_alloc | apply pw_below_drewN | apply below_drew1 | refine below_set ?_ GE186.out) | exact HB.out)⟩⟩
    · rw [if_neg c13] at H
      have c13b0 : decide ((t191.size : Int) < 1) = false := decide_eq_false c13
      have c13b1 : decide (t191.size < 1) = false := decide_eq_false (by omega)
      clear c13
      (first | rw [c13b0] | (simp only [i64_w, i32_w]; rw [c13b0]) | skip)
      by_cases c14 : t188 = 3
      · rw [if_pos c14] at H
        have c14b0 : (t188 == 3) = true := beq_iff_eq.mpr c14
        have c14b1 : (t188 != 3) = false := bne_eq_false_iff_eq.mpr c14
        clear c14
        by_cases c15 : (t191.size : Int) < 2
        · rw [if_pos c15] at H
          have c15b0 : decide ((t191.size : Int) < 2) = true := decide_eq_true c15
          have c15b1 : decide (t191.size < 2) = true := decide_eq_true (by omega)
          clear c15
          have H' := Aside0.mk H
          clear H
          go_wp2
          go_meet
          case rel => exact ⟨_, (true), (by first | rfl | (simp; done) | (simp [*]; done)), H', ⟨by first | omega | exact Nat.le_refl _⟩, ⟨by (with_reducible repeat (first | refine blk_drewN ?_ _ | refine blk_drew ?_ | refine blk_alloc ?_ _)); exact BK186.out⟩, ⟨by repeat (first | (with_reducible first | exact HB.out | apply below_alloc | apply pw_below_drewN | apply below_drew1 | refine below_set ?_ GE186.out) | exact HB.out)⟩⟩
        · rw [if_neg c15] at H
          have c15b0 : decide ((t191.size : Int) < 2) = false := decide_eq_false c15
          have c15b1 : decide (t191.size < 2) = false := decide_eq_false (by omega)
          clear c15
          by_cases c16 : 0 < (t191.size : Int)
          · rw [if_pos c16] at H
            have c16b0 : decide (0 < (t191.size : Int)) = true := decide_eq_true c16
            have c16b1 : decide (0 < t191.size) = true := decide_eq_true (by omega)
            clear c16
            by_cases c18 : (bt t191 0) = 34
            · rw [if_pos c18] at H
              have c18b0 : ((bt t191 0) == 34) = true := beq_iff_eq.mpr c18
              have c18b1 : ((bt t191 0) != 34) = false := bne_eq_false_iff_eq.mpr c18
              clear c18
              obtain ⟨ji19, hji19⟩ : ∃ j_ : Int, (wrap64 ((t191.size : Int) - 1)) = j_ := ⟨_, rfl⟩
              replace H : (if 0 ≤ (ji19) then (if (ji19) < (t191.size : Int) then (thresherlaw03_ValueWrites.j0 k t187 t188 t191 ((bt t191 (ji19)) != 34)) else (none)) else (none)) = some r := by first | (rw [hji19] at H; exact H) | (simp only [hji19] at H ⊢; exact H)
              have hji19w : (IntKind.i64.wrap ((t191.size : Int) - 1)) = ji19 := (i64_w _).trans hji19
              by_cases c20 : 0 ≤ (ji19)
              · rw [if_pos c20] at H
                have c20b0 : decide (0 ≤ (ji19)) = true := decide_eq_true c20
                clear c20
                by_cases c21 : (ji19) < (t191.size : Int)
                · rw [if_pos c21] at H
                  have c21b0 : decide ((ji19) < (t191.size : Int)) = true := decide_eq_true c21
                  clear c21
                  have H' := Aside0.mk H
                  clear H
                  have p17 : 0 ≤ (0 : Int) := (by omega)
                  have q17 : 0 < t191.size := (by have : (0 : Int) < (t191.size : Int) := of_decide_eq_true (by first | (with_reducible assumption) | assumption); omega)
                  have hx17 : ∀ h : 0 < t191.size, ((t191[0]'h).toNat : Int) = bt t191 0 := bt_at t191 0
                  clear p17
                  have qi17 : (0 < (t191.size : Int)) = True := eq_true (of_decide_eq_true (by first | (with_reducible assumption) | assumption))
                  replace q17 := eq_true q17
                  have p22 : 0 ≤ ((ji19) : Int) := of_decide_eq_true (by first | (with_reducible assumption) | assumption)
                  have q22 : (ji19) < (t191.size : Int) := of_decide_eq_true (by first | (with_reducible assumption) | assumption)
                  have hx22 := bt_at t191 (ji19)
                  replace p22 := eq_true p22
                  replace q22 := eq_true q22
                  go_wp2
                  go_meet
                  case rel => exact ⟨_, (((bt t191 (ji19)) != 34)), (by first | rfl | (simp; done) | (simp only [← hji19] <;> (first | rfl | simp)) | (simp [*]; done)), H', ⟨by first | omega | exact Nat.le_refl _⟩, ⟨by (with_reducible repeat (first | refine blk_drewN ?_ _ | refine blk_drew ?_ | refine blk_alloc ?_ _)); exact BK186.out⟩, ⟨by repeat (first | (with_reducible first | exact HB.out | apply below_alloc | apply pw_below_drewN | apply below_drew1 | refine below_set ?_ GE186.out) | exact HB.out)⟩⟩
                · rw [if_neg c21] at H
                  exact absurd H (by simp)
              · rw [if_neg c20] at H
                exact absurd H (by simp)
            · rw [if_neg c18] at H
              have c18b0 : ((bt t191 0) == 34) = false := beq_eq_false_iff_ne.mpr c18
              have c18b1 : ((bt t191 0) != 34) = true := bne_iff_ne.mpr c18
              have H' := Aside0.mk H
              clear H
              have p17 : 0 ≤ (0 : Int) := (by omega)
              have q17 : 0 < t191.size := (by have : (0 : Int) < (t191.size : Int) := of_decide_eq_true (by first | (with_reducible assumption) | assumption); omega)
              have hx17 : ∀ h : 0 < t191.size, ((t191[0]'h).toNat : Int) = bt t191 0 := bt_at t191 0
              clear p17
              have qi17 : (0 < (t191.size : Int)) = True := eq_true (of_decide_eq_true (by first | (with_reducible assumption) | assumption))
              replace q17 := eq_true q17
              go_wp2
              go_meet
              case rel => exact ⟨_, (true), (by first | rfl | (simp; done) | (simp [*]; done)), H', ⟨by first | omega | exact Nat.le_refl _⟩, ⟨by (with_reducible repeat (first | refine blk_drewN ?_ _ | refine blk_drew ?_ | refine blk_alloc ?_ _)); exact BK186.out⟩, ⟨by repeat (first | (with_reducible first | exact HB.out | apply below_alloc | apply pw_below_drewN | apply below_drew1 | refine below_set ?_ GE186.out) | exact HB.out)⟩⟩
          · rw [if_neg c16] at H
            exact absurd H (by simp)
      · rw [if_neg c14] at H
        have c14b0 : (t188 == 3) = false := beq_eq_false_iff_ne.mpr c14
        have c14b1 : (t188 != 3) = true := bne_iff_ne.mpr c14
        have H' := Aside0.mk H
        clear H
        go_wp2
        go_meet
        case rel => exact ⟨_, (false), (by first | rfl | (simp; done) | (simp [*]; done)), H', ⟨by first | omega | exact Nat.le_refl _⟩, ⟨by (with_reducible repeat (first | refine blk_drewN ?_ _ | refine blk_drew ?_ | refine blk_alloc ?_ _)); exact BK186.out⟩, ⟨by repeat (first | (with_reducible first | exact HB.out | apply below_alloc | apply pw_below_drewN | apply below_drew1 | refine below_set ?_ GE186.out) | exact HB.out)⟩⟩
  case rest =>
    clear HC7
    try clear c1
    try clear p1
    try clear q1
    try clear hx1
    try clear qi1
    try clear c2
    try clear p2
    try clear q2
    try clear hx2
    try clear c5
    try clear p6
    try clear c9
    try clear c10
    try clear c11
    try clear c13
    try clear c13b0
    try clear c13b1
    try clear c14
    try clear c14b0
    try clear c14b1
    try clear c15
    try clear c15b0
    try clear c15b1
    try clear c16
    try clear c16b0
    try clear c16b1
    try clear p17
    try clear q17
    try clear hx17
    try clear qi17
    try clear c18
    try clear c18b0
    try clear c18b1
    try clear c20
    try clear c20b0
    try clear c21
    try clear c21b0
    try clear p22
    try clear q22
    try clear hx22
    try clear hcz10_0
    try clear hcz10_1
    try clear hfz10_0
    try clear hfz10_1
    try clear p17
    try clear p22
    try clear q17
    try clear q22
    obtain ⟨kq, x41_6, rfl, HA, HJ6, BK186, HB⟩ := hcut
    cases kq with
    | zero => exact absurd HA.out (by simp [thresherlaw03_ValueWrites.j0])
    | succ kj6 =>
      have H := HA.out
      clear HA
      simp only [thresherlaw03_ValueWrites.j0] at H
      by_cases c23 : x41_6 = true
      · subst c23
        have H1 : (some false) = some r := by rw [if_pos rfl] at H; exact H
        clear H
        have H := H1
        clear H1
        obtain rfl := Option.some.inj H
        go_wp2
        go_ret
        exact ⟨by first | rfl | (simp [errW_none, errW_some] <;> rfl) | (simp [*, errW_none, errW_some] <;> rfl), by repeat (first | (with_reducible first | exact HB.out | apply below_alloc | apply pw_below_drewN | apply below_drew1 | refine below_set ?_ GE186.out) | exact HB.out)⟩
      · replace c23 := Bool.eq_false_iff.mpr c23
        subst c23
        have H1 : (thresherlaw03_ValueWrites.l0 kj6 t187 t188 t191 0) = some r := by rw [if_neg (show ¬ (false = true) by decide)] at H; exact H
        clear H
        have H := H1
        clear H1
        have H' := Aside0.mk H
        clear H
        go_wp2
        go_loopg [8] kj6 (fun kq v8 w' => ∃ (x8_2 : Int), v8 = .int .i64 x8_2 ∧ Aside0 (thresherlaw03_ValueWrites.l0 kq t187 t188 t191 x8_2 = some r) ∧ Aside0 (kq ≤ kj6) ∧ Aside0 (w'.heap[gb186]? = some (.cells #[.int .i64 a1_0, .string a1_1] 23 (0, 0))) ∧ Aside0 (Below w.heap.size w w'))
        case atStart => exact ⟨(0), (by first | rfl | (simp; done) | (simp [*]; done)), H', ⟨Nat.le_refl _⟩, ⟨by (with_reducible repeat (first | refine blk_drewN ?_ _ | refine blk_drew ?_ | refine blk_alloc ?_ _)); exact BK186.out⟩, ⟨by repeat (first | (with_reducible first | exact HB.out | apply below_alloc | apply pw_below_drewN | apply below_drew1 | refine below_set ?_ GE186.out) | exact HB.out)⟩⟩
        case round =>
          clear H'
          try clear c1
          try clear p1
          try clear q1
          try clear hx1
          try clear qi1
          try clear c2
          try clear p2
          try clear q2
          try clear hx2
          try clear c5
          try clear p6
          try clear c9
          try clear c10
          try clear c11
          try clear c13
          try clear c13b0
          try clear c13b1
          try clear c14
          try clear c14b0
          try clear c14b1
          try clear c15
          try clear c15b0
          try clear c15b1
          try clear c16
          try clear c16b0
          try clear c16b1
          try clear p17
          try clear q17
          try clear hx17
          try clear qi17
          try clear c18
          try clear c18b0
          try clear c18b1
          try clear c20
          try clear c20b0
          try clear c21
          try clear c21b0
          try clear p22
          try clear q22
          try clear hx22
          try clear c23
          try clear hcz10_0
          try clear hcz10_1
          try clear hfz10_0
          try clear hfz10_1
          try clear p1
          try clear p17
          try clear p2
          try clear p22
          try clear p6
          try clear q1
          try clear q17
          try clear q2
          try clear q22
          obtain ⟨x8_2, rfl, HA, HK2, BK186, HB⟩ := hrel
          cases gk with
          | zero => exact absurd HA.out (by simp [thresherlaw03_ValueWrites.l0])
          | succ k2 =>
            have H := HA.out
            clear HA
            simp only [thresherlaw03_ValueWrites.l0] at H
            by_cases c24 : x8_2 < (t191.size : Int)
            · rw [if_pos c24] at H
              have c24b0 : decide (x8_2 < (t191.size : Int)) = true := decide_eq_true c24
              clear c24
              have HC25 := Aside0.mk H
              clear H
              go_upto_region 9 with (fail)
              go_cut [75] (fun v75 wc => ∃ (kq : Nat) (x75_24 : Bool), v75 = .bool x75_24 ∧ Aside0 (thresherlaw03_ValueWrites.j2 kq t187 t188 t191 x8_2 x75_24 = some r) ∧ Aside0 (kq ≤ k2) ∧ Aside0 (wc.heap[gb186]? = some (.cells #[.int .i64 a1_0, .string a1_1] 23 (0, 0))) ∧ Aside0 (Below w.heap.size w wc))
              case first =>
                have H := HC25.out
                clear HC25
                by_cases c26 : t188 = 3
                · rw [if_pos c26] at H
                  have c26b0 : (t188 == 3) = true := beq_iff_eq.mpr c26
                  have c26b1 : (t188 != 3) = false := bne_eq_false_iff_eq.mpr c26
                  clear c26
                  (first | rw [c26b0] | (simp only [i64_w, i32_w]; rw [c26b0]) | skip)
                  have H' := Aside0.mk H
                  clear H
                  go_wp2
                  go_meet
                  case rel => exact ⟨_, (false), (by first | rfl | (simp; done) | (simp [*]; done)), H', ⟨by have := HJ6.out; have := HK2.out; first | omega | exact Nat.le_refl _⟩, ⟨by (with_reducible repeat (first | refine blk_drewN ?_ _ | refine blk_drew ?_ | refine blk_alloc ?_ _)); exact BK186.out⟩, ⟨by repeat (first | (with_reducible first | exact HB.out | apply below_alloc | apply pw_below_drewN | apply below_drew1 | refine below_set ?_ GE186.out) | exact HB.out)⟩⟩
                · rw [if_neg c26] at H
                  have c26b0 : (t188 == 3) = false := beq_eq_false_iff_ne.mpr c26
                  have c26b1 : (t188 != 3) = true := bne_iff_ne.mpr c26
                  (first | rw [c26b0] | (simp only [i64_w, i32_w]; rw [c26b0]) | skip)
                  by_cases c27 : 0 ≤ x8_2
                  · rw [if_pos c27] at H
                    have c27b0 : decide (0 ≤ x8_2) = true := decide_eq_true c27
                    clear c27
                    by_cases c29 : (bt t191 x8_2) < 48
                    · rw [if_pos c29] at H
                      have c29b0 : decide ((bt t191 x8_2) < 48) = true := decide_eq_true c29
                      clear c29
                      by_cases c30 : x8_2 > 0
                      · rw [if_pos c30] at H
                        have c30b0 : decide (0 < x8_2) = true := decide_eq_true c30
                        clear c30
                        have H' := Aside0.mk H
                        clear H
                        have p28 : 0 ≤ (x8_2 : Int) := of_decide_eq_true (by first | (with_reducible assumption) | assumption)
                        have q28 : x8_2 < (t191.size : Int) := of_decide_eq_true (by first | (with_reducible assumption) | assumption)
                        have hx28 := bt_at t191 x8_2
                        replace p28 := eq_true p28
                        replace q28 := eq_true q28
                        go_wp2
                        go_meet
                        case rel => exact ⟨_, (true), (by first | rfl | (simp; done) | (simp [*]; done)), H', ⟨by have := HJ6.out; have := HK2.out; first | omega | exact Nat.le_refl _⟩, ⟨by (with_reducible repeat (first | refine blk_drewN ?_ _ | refine blk_drew ?_ | refine blk_alloc ?_ _)); exact BK186.out⟩, ⟨by repeat (first | (with_reducible first | exact HB.out | apply below_alloc | apply pw_below_drewN | apply below_drew1 | refine below_set ?_ GE186.out) | exact HB.out)⟩⟩
                      · rw [if_neg c30] at H
                        have c30b0 : decide (0 < x8_2) = false := decide_eq_false c30
                        clear c30
                        by_cases c31 : t188 = 1
                        · rw [if_pos c31] at H
                          have c31b0 : (t188 == 1) = true := beq_iff_eq.mpr c31
                          have c31b1 : (t188 != 1) = false := bne_eq_false_iff_eq.mpr c31
                          clear c31
                          have H' := Aside0.mk H
                          clear H
                          have p28 : 0 ≤ (x8_2 : Int) := of_decide_eq_true (by first | (with_reducible assumption) | assumption)
                          have q28 : x8_2 < (t191.size : Int) := of_decide_eq_true (by first | (with_reducible assumption) | assumption)
                          have hx28 := bt_at t191 x8_2
                          replace p28 := eq_true p28
                          replace q28 := eq_true q28
                          have p32 : 0 ≤ (x8_2 : Int) := of_decide_eq_true (by first | (with_reducible assumption) | assumption)
                          have q32 : x8_2 < (t191.size : Int) := of_decide_eq_true (by first | (with_reducible assumption) | assumption)
                          have hx32 := bt_at t191 x8_2
                          replace p32 := eq_true p32
                          replace q32 := eq_true q32
                          go_wp2
                          go_meet
                          case rel => exact ⟨_, (((bt t191 x8_2) != 45)), (by first | rfl | (simp; done) | (simp [*]; done)), H', ⟨by have := HJ6.out; have := HK2.out; first | omega | exact Nat.le_refl _⟩, ⟨by (with_reducible repeat (first | refine blk_drewN ?_ _ | refine blk_drew ?_ | refine blk_alloc ?_ _)); exact BK186.out⟩, ⟨by repeat (first | (with_reducible first | exact HB.out | apply below_alloc | apply pw_below_drewN | apply below_drew1 | refine below_set ?_ GE186.out) | exact HB.out)⟩⟩
                        · rw [if_neg c31] at H
                          have c31b0 : (t188 == 1) = false := beq_eq_false_iff_ne.mpr c31
                          have c31b1 : (t188 != 1) = true := bne_iff_ne.mpr c31
                          have H' := Aside0.mk H
                          clear H
                          have p28 : 0 ≤ (x8_2 : Int) := of_decide_eq_true (by first | (with_reducible assumption) | assumption)
                          have q28 : x8_2 < (t191.size : Int) := of_decide_eq_true (by first | (with_reducible assumption) | assumption)
                          have hx28 := bt_at t191 x8_2
                          replace p28 := eq_true p28
                          replace q28 := eq_true q28
                          go_wp2
                          go_meet
                          case rel => exact ⟨_, (true), (by first | rfl | (simp; done) | (simp [*]; done)), H', ⟨by have := HJ6.out; have := HK2.out; first | omega | exact Nat.le_refl _⟩, ⟨by (with_reducible repeat (first | refine blk_drewN ?_ _ | refine blk_drew ?_ | refine blk_alloc ?_ _)); exact BK186.out⟩, ⟨by repeat (first | (with_reducible first | exact HB.out | apply below_alloc | apply pw_below_drewN | apply below_drew1 | refine below_set ?_ GE186.out) | exact HB.out)⟩⟩
                    · rw [if_neg c29] at H
                      have c29b0 : decide ((bt t191 x8_2) < 48) = false := decide_eq_false c29
                      clear c29
                      by_cases c34 : (bt t191 x8_2) > 57
                      · rw [if_pos c34] at H
                        have c34b0 : decide (57 < (bt t191 x8_2)) = true := decide_eq_true c34
                        clear c34
                        by_cases c35 : x8_2 > 0
                        · rw [if_pos c35] at H
                          have c35b0 : decide (0 < x8_2) = true := decide_eq_true c35
                          clear c35
                          have H' := Aside0.mk H
                          clear H
                          have p28 : 0 ≤ (x8_2 : Int) := of_decide_eq_true (by first | (with_reducible assumption) | assumption)
                          have q28 : x8_2 < (t191.size : Int) := of_decide_eq_true (by first | (with_reducible assumption) | assumption)
                          have hx28 := bt_at t191 x8_2
                          replace p28 := eq_true p28
                          replace q28 := eq_true q28
                          have p33 : 0 ≤ (x8_2 : Int) := of_decide_eq_true (by first | (with_reducible assumption) | assumption)
                          have q33 : x8_2 < (t191.size : Int) := of_decide_eq_true (by first | (with_reducible assumption) | assumption)
                          have hx33 := bt_at t191 x8_2
                          replace p33 := eq_true p33
                          replace q33 := eq_true q33
                          go_wp2
                          go_meet
                          case rel => exact ⟨_, (true), (by first | rfl | (simp; done) | (simp [*]; done)), H', ⟨by have := HJ6.out; have := HK2.out; first | omega | exact Nat.le_refl _⟩, ⟨by (with_reducible repeat (first | refine blk_drewN ?_ _ | refine blk_drew ?_ | refine blk_alloc ?_ _)); exact BK186.out⟩, ⟨by repeat (first | (with_reducible first | exact HB.out | apply below_alloc | apply pw_below_drewN | apply below_drew1 | refine below_set ?_ GE186.out) | exact HB.out)⟩⟩
                        · rw [if_neg c35] at H
                          have c35b0 : decide (0 < x8_2) = false := decide_eq_false c35
                          clear c35
                          by_cases c36 : t188 = 1
                          · rw [if_pos c36] at H
                            have c36b0 : (t188 == 1) = true := beq_iff_eq.mpr c36
                            have c36b1 : (t188 != 1) = false := bne_eq_false_iff_eq.mpr c36
                            clear c36
                            have H' := Aside0.mk H
                            clear H
                            have p28 : 0 ≤ (x8_2 : Int) := of_decide_eq_true (by first | (with_reducible assumption) | assumption)
                            have q28 : x8_2 < (t191.size : Int) := of_decide_eq_true (by first | (with_reducible assumption) | assumption)
                            have hx28 := bt_at t191 x8_2
                            replace p28 := eq_true p28
                            replace q28 := eq_true q28
                            have p33 : 0 ≤ (x8_2 : Int) := of_decide_eq_true (by first | (with_reducible assumption) | assumption)
                            have q33 : x8_2 < (t191.size : Int) := of_decide_eq_true (by first | (with_reducible assumption) | assumption)
                            have hx33 := bt_at t191 x8_2
                            replace p33 := eq_true p33
                            replace q33 := eq_true q33
                            have p37 : 0 ≤ (x8_2 : Int) := of_decide_eq_true (by first | (with_reducible assumption) | assumption)
                            have q37 : x8_2 < (t191.size : Int) := of_decide_eq_true (by first | (with_reducible assumption) | assumption)
                            have hx37 := bt_at t191 x8_2
                            replace p37 := eq_true p37
                            replace q37 := eq_true q37
                            go_wp2
                            go_meet
                            case rel => exact ⟨_, (((bt t191 x8_2) != 45)), (by first | rfl | (simp; done) | (simp [*]; done)), H', ⟨by have := HJ6.out; have := HK2.out; first | omega | exact Nat.le_refl _⟩, ⟨by (with_reducible repeat (first | refine blk_drewN ?_ _ | refine blk_drew ?_ | refine blk_alloc ?_ _)); exact BK186.out⟩, ⟨by repeat (first | (with_reducible first | exact HB.out | apply below_alloc | apply pw_below_drewN | apply below_drew1 | refine below_set ?_ GE186.out) | exact HB.out)⟩⟩
                          · rw [if_neg c36] at H
                            have c36b0 : (t188 == 1) = false := beq_eq_false_iff_ne.mpr c36
                            have c36b1 : (t188 != 1) = true := bne_iff_ne.mpr c36
                            have H' := Aside0.mk H
                            clear H
                            have p28 : 0 ≤ (x8_2 : Int) := of_decide_eq_true (by first | (with_reducible assumption) | assumption)
                            have q28 : x8_2 < (t191.size : Int) := of_decide_eq_true (by first | (with_reducible assumption) | assumption)
                            have hx28 := bt_at t191 x8_2
                            replace p28 := eq_true p28
                            replace q28 := eq_true q28
                            have p33 : 0 ≤ (x8_2 : Int) := of_decide_eq_true (by first | (with_reducible assumption) | assumption)
                            have q33 : x8_2 < (t191.size : Int) := of_decide_eq_true (by first | (with_reducible assumption) | assumption)
                            have hx33 := bt_at t191 x8_2
                            replace p33 := eq_true p33
                            replace q33 := eq_true q33
                            go_wp2
                            go_meet
                            case rel => exact ⟨_, (true), (by first | rfl | (simp; done) | (simp [*]; done)), H', ⟨by have := HJ6.out; have := HK2.out; first | omega | exact Nat.le_refl _⟩, ⟨by (with_reducible repeat (first | refine blk_drewN ?_ _ | refine blk_drew ?_ | refine blk_alloc ?_ _)); exact BK186.out⟩, ⟨by repeat (first | (with_reducible first | exact HB.out | apply below_alloc | apply pw_below_drewN | apply below_drew1 | refine below_set ?_ GE186.out) | exact HB.out)⟩⟩
                      · rw [if_neg c34] at H
                        have c34b0 : decide (57 < (bt t191 x8_2)) = false := decide_eq_false c34
                        clear c34
                        have H' := Aside0.mk H
                        clear H
                        have p28 : 0 ≤ (x8_2 : Int) := of_decide_eq_true (by first | (with_reducible assumption) | assumption)
                        have q28 : x8_2 < (t191.size : Int) := of_decide_eq_true (by first | (with_reducible assumption) | assumption)
                        have hx28 := bt_at t191 x8_2
                        replace p28 := eq_true p28
                        replace q28 := eq_true q28
                        have p33 : 0 ≤ (x8_2 : Int) := of_decide_eq_true (by first | (with_reducible assumption) | assumption)
                        have q33 : x8_2 < (t191.size : Int) := of_decide_eq_true (by first | (with_reducible assumption) | assumption)
                        have hx33 := bt_at t191 x8_2
                        replace p33 := eq_true p33
                        replace q33 := eq_true q33
                        go_wp2
                        go_meet
                        case rel => exact ⟨_, (false), (by first | rfl | (simp; done) | (simp [*]; done)), H', ⟨by have := HJ6.out; have := HK2.out; first | omega | exact Nat.le_refl _⟩, ⟨by (with_reducible repeat (first | refine blk_drewN ?_ _ | refine blk_drew ?_ | refine blk_alloc ?_ _)); exact BK186.out⟩, ⟨by repeat (first | (with_reducible first | exact HB.out | apply below_alloc | apply pw_below_drewN | apply below_drew1 | refine below_set ?_ GE186.out) | exact HB.out)⟩⟩
                  · rw [if_neg c27] at H
                    exact absurd H (by simp)
              case rest =>
                clear HC25
                try clear c1
                try clear p1
                try clear q1
                try clear hx1
                try clear qi1
                try clear c2
                try clear p2
                try clear q2
                try clear hx2
                try clear c3
                try clear p3
                try clear q3
                try clear hx3
                try clear c5
                try clear p6
                try clear c9
                try clear c10
                try clear c11
                try clear c13
                try clear c13b0
                try clear c13b1
                try clear c14
                try clear c14b0
                try clear c14b1
                try clear c15
                try clear c15b0
                try clear c15b1
                try clear c16
                try clear c16b0
                try clear c16b1
                try clear p17
                try clear q17
                try clear hx17
                try clear qi17
                try clear c18
                try clear c18b0
                try clear c18b1
                try clear c20
                try clear c20b0
                try clear c21
                try clear c21b0
                try clear p22
                try clear q22
                try clear hx22
                try clear c23
                try clear c24
                try clear c24b0
                try clear c26
                try clear c26b0
                try clear c26b1
                try clear c27
                try clear c27b0
                try clear p28
                try clear q28
                try clear hx28
                try clear c29
                try clear c29b0
                try clear c30
                try clear c30b0
                try clear c31
                try clear c31b0
                try clear c31b1
                try clear p32
                try clear q32
                try clear hx32
                try clear p33
                try clear q33
                try clear hx33
                try clear c34
                try clear c34b0
                try clear c35
                try clear c35b0
                try clear c36
                try clear c36b0
                try clear c36b1
                try clear p37
                try clear q37
                try clear hx37
                try clear hcz10_0
                try clear hcz10_1
                try clear hfz10_0
                try clear hfz10_1
                try clear p1
                try clear p17
                try clear p2
                try clear p22
                try clear p28
                try clear p32
                try clear p33
                try clear p37
                try clear p6
                try clear q1
                try clear q17
                try clear q2
                try clear q22
                try clear q28
                try clear q32
                try clear q33
                try clear q37
                obtain ⟨kq, x75_24, rfl, HA, HJ24, BK186, HB⟩ := hcut
                cases kq with
                | zero => exact absurd HA.out (by simp [thresherlaw03_ValueWrites.j2])
                | succ kj24 =>
                  have H := HA.out
                  clear HA
                  simp only [thresherlaw03_ValueWrites.j2] at H
                  by_cases c38 : x75_24 = true
                  · subst c38
                    have H1 : (some false) = some r := by rw [if_pos rfl] at H; exact H
                    clear H
                    have H := H1
                    clear H1
                    obtain rfl := Option.some.inj H
                    go_wp2
                    go_ret
                    exact ⟨by first | rfl | (simp [errW_none, errW_some] <;> rfl) | (simp [*, errW_none, errW_some] <;> rfl), by repeat (first | (with_reducible first | exact HB.out | apply below_alloc | apply pw_below_drewN | apply below_drew1 | refine below_set ?_ GE186.out) | exact HB.out)⟩
                  · replace c38 := Bool.eq_false_iff.mpr c38
                    subst c38
                    have H1 : (if t188 = 3 then (if 0 ≤ x8_2 then (if x8_2 < (t191.size : Int) then (if (bt t191 x8_2) < 32 then (some false) else (if (bt t191 x8_2) > 126 then (some false) else (if (bt t191 x8_2) = 34 then (if x8_2 > 0 then (if x8_2 < (wrap64 ((t191.size : Int) - 1)) then (some false) else (thresherlaw03_ValueWrites.l0 kj24 t187 t188 t191 (wrap64 (x8_2 + 1)))) else (thresherlaw03_ValueWrites.l0 kj24 t187 t188 t191 (wrap64 (x8_2 + 1)))) else (thresherlaw03_ValueWrites.l0 kj24 t187 t188 t191 (wrap64 (x8_2 + 1)))))) else (none)) else (none)) else (thresherlaw03_ValueWrites.l0 kj24 t187 t188 t191 (wrap64 (x8_2 + 1)))) = some r := by rw [if_neg (show ¬ (false = true) by decide)] at H; exact H
                    clear H
                    have H := H1
                    clear H1
                    by_cases c39 : t188 = 3
                    · rw [if_pos c39] at H
                      have c39b0 : (t188 == 3) = true := beq_iff_eq.mpr c39
                      have c39b1 : (t188 != 3) = false := bne_eq_false_iff_eq.mpr c39
                      clear c39
                      by_cases c40 : 0 ≤ x8_2
                      · rw [if_pos c40] at H
                        have c40b0 : decide (0 ≤ x8_2) = true := decide_eq_true c40
                        clear c40
                        by_cases c41 : x8_2 < (t191.size : Int)
                        · rw [if_pos c41] at H
                          have c41b0 : decide (x8_2 < (t191.size : Int)) = true := decide_eq_true c41
                          clear c41
                          by_cases c43 : (bt t191 x8_2) < 32
                          · rw [if_pos c43] at H
                            have c43b0 : decide ((bt t191 x8_2) < 32) = true := decide_eq_true c43
                            clear c43
                            obtain rfl := Option.some.inj H
                            have p42 : 0 ≤ (x8_2 : Int) := of_decide_eq_true (by first | (with_reducible assumption) | assumption)
                            have q42 : x8_2 < (t191.size : Int) := of_decide_eq_true (by first | (with_reducible assumption) | assumption)
                            have hx42 := bt_at t191 x8_2
                            replace p42 := eq_true p42
                            replace q42 := eq_true q42
                            go_wp2
                            go_ret
                            exact ⟨by first | rfl | (simp [errW_none, errW_some] <;> rfl) | (simp [*, errW_none, errW_some] <;> rfl), by repeat (first | (with_reducible first | exact HB.out | apply below_alloc | apply pw_below_drewN | apply below_drew1 | refine below_set ?_ GE186.out) | exact HB.out)⟩
                          · rw [if_neg c43] at H
                            have c43b0 : decide ((bt t191 x8_2) < 32) = false := decide_eq_false c43
                            clear c43
                            by_cases c45 : (bt t191 x8_2) > 126
                            · rw [if_pos c45] at H
                              have c45b0 : decide (126 < (bt t191 x8_2)) = true := decide_eq_true c45
                              clear c45
                              obtain rfl := Option.some.inj H
                              have p42 : 0 ≤ (x8_2 : Int) := of_decide_eq_true (by first | (with_reducible assumption) | assumption)
                              have q42 : x8_2 < (t191.size : Int) := of_decide_eq_true (by first | (with_reducible assumption) | assumption)
                              have hx42 := bt_at t191 x8_2
                              replace p42 := eq_true p42
                              replace q42 := eq_true q42
                              have p44 : 0 ≤ (x8_2 : Int) := of_decide_eq_true (by first | (with_reducible assumption) | assumption)
                              have q44 : x8_2 < (t191.size : Int) := of_decide_eq_true (by first | (with_reducible assumption) | assumption)
                              have hx44 := bt_at t191 x8_2
                              replace p44 := eq_true p44
                              replace q44 := eq_true q44
                              go_wp2
                              go_ret
                              exact ⟨by first | rfl | (simp [errW_none, errW_some] <;> rfl) | (simp [*, errW_none, errW_some] <;> rfl), by repeat (first | (with_reducible first | exact HB.out | apply below_alloc | apply pw_below_drewN | apply below_drew1 | refine below_set ?_ GE186.out) | exact HB.out)⟩
                            · rw [if_neg c45] at H
                              have c45b0 : decide (126 < (bt t191 x8_2)) = false := decide_eq_false c45
                              clear c45
                              by_cases c47 : (bt t191 x8_2) = 34
                              · rw [if_pos c47] at H
                                have c47b0 : ((bt t191 x8_2) == 34) = true := beq_iff_eq.mpr c47
                                have c47b1 : ((bt t191 x8_2) != 34) = false := bne_eq_false_iff_eq.mpr c47
                                clear c47
                                by_cases c48 : x8_2 > 0
                                · rw [if_pos c48] at H
                                  have c48b0 : decide (0 < x8_2) = true := decide_eq_true c48
                                  clear c48
                                  by_cases c49 : x8_2 < (wrap64 ((t191.size : Int) - 1))
                                  · rw [if_pos c49] at H
                                    have c49b0 : decide (x8_2 < (wrap64 ((t191.size : Int) - 1))) = true := decide_eq_true c49
                                    clear c49
                                    obtain rfl := Option.some.inj H
                                    have p42 : 0 ≤ (x8_2 : Int) := of_decide_eq_true (by first | (with_reducible assumption) | assumption)
                                    have q42 : x8_2 < (t191.size : Int) := of_decide_eq_true (by first | (with_reducible assumption) | assumption)
                                    have hx42 := bt_at t191 x8_2
                                    replace p42 := eq_true p42
                                    replace q42 := eq_true q42
                                    have p44 : 0 ≤ (x8_2 : Int) := of_decide_eq_true (by first | (with_reducible assumption) | assumption)
                                    have q44 : x8_2 < (t191.size : Int) := of_decide_eq_true (by first | (with_reducible assumption) | assumption)
                                    have hx44 := bt_at t191 x8_2
                                    replace p44 := eq_true p44
                                    replace q44 := eq_true q44
                                    have p46 : 0 ≤ (x8_2 : Int) := of_decide_eq_true (by first | (with_reducible assumption) | assumption)
                                    have q46 : x8_2 < (t191.size : Int) := of_decide_eq_true (by first | (with_reducible assumption) | assumption)
                                    have hx46 := bt_at t191 x8_2
                                    replace p46 := eq_true p46
                                    replace q46 := eq_true q46
                                    go_wp2
                                    go_ret
                                    exact ⟨by first | rfl | (simp [errW_none, errW_some] <;> rfl) | (simp [*, errW_none, errW_some] <;> rfl), by repeat (first | (with_reducible first | exact HB.out | apply below_alloc | apply pw_below_drewN | apply below_drew1 | refine below_set ?_ GE186.out) | exact HB.out)⟩
                                  · rw [if_neg c49] at H
                                    have c49b0 : decide (x8_2 < (wrap64 ((t191.size : Int) - 1))) = false := decide_eq_false c49
                                    clear c49
                                    have H' := Aside0.mk H
                                    clear H
                                    have p42 : 0 ≤ (x8_2 : Int) := of_decide_eq_true (by first | (with_reducible assumption) | assumption)
                                    have q42 : x8_2 < (t191.size : Int) := of_decide_eq_true (by first | (with_reducible assumption) | assumption)
                                    have hx42 := bt_at t191 x8_2
                                    replace p42 := eq_true p42
                                    replace q42 := eq_true q42
                                    have p44 : 0 ≤ (x8_2 : Int) := of_decide_eq_true (by first | (with_reducible assumption) | assumption)
                                    have q44 : x8_2 < (t191.size : Int) := of_decide_eq_true (by first | (with_reducible assumption) | assumption)
                                    have hx44 := bt_at t191 x8_2
                                    replace p44 := eq_true p44
                                    replace q44 := eq_true q44
                                    have p46 : 0 ≤ (x8_2 : Int) := of_decide_eq_true (by first | (with_reducible assumption) | assumption)
                                    have q46 : x8_2 < (t191.size : Int) := of_decide_eq_true (by first | (with_reducible assumption) | assumption)
                                    have hx46 := bt_at t191 x8_2
                                    replace p46 := eq_true p46
                                    replace q46 := eq_true q46
                                    go_wp2
                                    go_roundg kj24
                                    case measure => have := HJ6.out; have := HK2.out; have := HJ24.out; omega
                                    case rel => exact ⟨(wrap64 (x8_2 + 1)), (by first | rfl | (simp; done) | (simp [*]; done)), H', ⟨by have := HJ6.out; have := HK2.out; have := HJ24.out; omega⟩, ⟨by (with_reducible repeat (first | refine blk_drewN ?_ _ | refine blk_drew ?_ | refine blk_alloc ?_ _)); exact BK186.out⟩, ⟨by repeat (first | (with_reducible first | exact HB.out | apply below_alloc | apply pw_below_drewN | apply below_drew1 | refine below_set ?_ GE186.out) | exact HB.out)⟩⟩
                                · rw [if_neg c48] at H
                                  have c48b0 : decide (0 < x8_2) = false := decide_eq_false c48
                                  clear c48
                                  have H' := Aside0.mk H
                                  clear H
                                  have p42 : 0 ≤ (x8_2 : Int) := of_decide_eq_true (by first | (with_reducible assumption) | assumption)
                                  have q42 : x8_2 < (t191.size : Int) := of_decide_eq_true (by first | (with_reducible assumption) | assumption)
                                  have hx42 := bt_at t191 x8_2
                                  replace p42 := eq_true p42
                                  replace q42 := eq_true q42
                                  have p44 : 0 ≤ (x8_2 : Int) := of_decide_eq_true (by first | (with_reducible assumption) | assumption)
                                  have q44 : x8_2 < (t191.size : Int) := of_decide_eq_true (by first | (with_reducible assumption) | assumption)
                                  have hx44 := bt_at t191 x8_2
                                  replace p44 := eq_true p44
                                  replace q44 := eq_true q44
                                  have p46 : 0 ≤ (x8_2 : Int) := of_decide_eq_true (by first | (with_reducible assumption) | assumption)
                                  have q46 : x8_2 < (t191.size : Int) := of_decide_eq_true (by first | (with_reducible assumption) | assumption)
                                  have hx46 := bt_at t191 x8_2
                                  replace p46 := eq_true p46
                                  replace q46 := eq_true q46
                                  go_wp2
                                  go_roundg kj24
                                  case measure => have := HJ6.out; have := HK2.out; have := HJ24.out; omega
                                  case rel => exact ⟨(wrap64 (x8_2 + 1)), (by first | rfl | (simp; done) | (simp [*]; done)), H', ⟨by have := HJ6.out; have := HK2.out; have := HJ24.out; omega⟩, ⟨by (with_reducible repeat (first | refine blk_drewN ?_ _ | refine blk_drew ?_ | refine blk_alloc ?_ _)); exact BK186.out⟩, ⟨by repeat (first | (with_reducible first | exact HB.out | apply below_alloc | apply pw_below_drewN | apply below_drew1 | refine below_set ?_ GE186.out) | exact HB.out)⟩⟩
                              · rw [if_neg c47] at H
                                have c47b0 : ((bt t191 x8_2) == 34) = false := beq_eq_false_iff_ne.mpr c47
                                have c47b1 : ((bt t191 x8_2) != 34) = true := bne_iff_ne.mpr c47
                                have H' := Aside0.mk H
                                clear H
                                have p42 : 0 ≤ (x8_2 : Int) := of_decide_eq_true (by first | (with_reducible assumption) | assumption)
                                have q42 : x8_2 < (t191.size : Int) := of_decide_eq_true (by first | (with_reducible assumption) | assumption)
                                have hx42 := bt_at t191 x8_2
                                replace p42 := eq_true p42
                                replace q42 := eq_true q42
                                have p44 : 0 ≤ (x8_2 : Int) := of_decide_eq_true (by first | (with_reducible assumption) | assumption)
                                have q44 : x8_2 < (t191.size : Int) := of_decide_eq_true (by first | (with_reducible assumption) | assumption)
                                have hx44 := bt_at t191 x8_2
                                replace p44 := eq_true p44
                                replace q44 := eq_true q44
                                have p46 : 0 ≤ (x8_2 : Int) := of_decide_eq_true (by first | (with_reducible assumption) | assumption)
                                have q46 : x8_2 < (t191.size : Int) := of_decide_eq_true (by first | (with_reducible assumption) | assumption)
                                have hx46 := bt_at t191 x8_2
                                replace p46 := eq_true p46
                                replace q46 := eq_true q46
                                go_wp2
                                go_roundg kj24
                                case measure => have := HJ6.out; have := HK2.out; have := HJ24.out; omega
                                case rel => exact ⟨(wrap64 (x8_2 + 1)), (by first | rfl | (simp; done) | (simp [*]; done)), H', ⟨by have := HJ6.out; have := HK2.out; have := HJ24.out; omega⟩, ⟨by (with_reducible repeat (first | refine blk_drewN ?_ _ | refine blk_drew ?_ | refine blk_alloc ?_ _)); exact BK186.out⟩, ⟨by repeat (first | (with_reducible first | exact HB.out | apply below_alloc | apply pw_below_drewN | apply below_drew1 | refine below_set ?_ GE186.out) | exact HB.out)⟩⟩
                        · rw [if_neg c41] at H
                          exact absurd H (by simp)
                      · rw [if_neg c40] at H
                        exact absurd H (by simp)
                    · rw [if_neg c39] at H
                      have c39b0 : (t188 == 3) = false := beq_eq_false_iff_ne.mpr c39
                      have c39b1 : (t188 != 3) = true := bne_iff_ne.mpr c39
                      have H' := Aside0.mk H
                      clear H
                      go_wp2
                      go_roundg kj24
                      case measure => have := HJ6.out; have := HK2.out; have := HJ24.out; omega
                      case rel => exact ⟨(wrap64 (x8_2 + 1)), (by first | rfl | (simp; done) | (simp [*]; done)), H', ⟨by have := HJ6.out; have := HK2.out; have := HJ24.out; omega⟩, ⟨by (with_reducible repeat (first | refine blk_drewN ?_ _ | refine blk_drew ?_ | refine blk_alloc ?_ _)); exact BK186.out⟩, ⟨by repeat (first | (with_reducible first | exact HB.out | apply below_alloc | apply pw_below_drewN | apply below_drew1 | refine below_set ?_ GE186.out) | exact HB.out)⟩⟩
            · rw [if_neg c24] at H
              have c24b0 : decide (x8_2 < (t191.size : Int)) = false := decide_eq_false c24
              clear c24
              obtain rfl := Option.some.inj H
              go_wp2
              go_ret
              exact ⟨by first | rfl | (simp [errW_none, errW_some] <;> rfl) | (simp [*, errW_none, errW_some] <;> rfl), by repeat (first | (with_reducible first | exact HB.out | apply below_alloc | apply pw_below_drewN | apply below_drew1 | refine below_set ?_ GE186.out) | exact HB.out)⟩

end Go.Proofs.YtohbpgdhpfmlgaaDoor.PA
