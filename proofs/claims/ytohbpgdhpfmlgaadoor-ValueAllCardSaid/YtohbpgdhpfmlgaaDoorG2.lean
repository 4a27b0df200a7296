/- A Builder takes bytes one by one. -/
import Derived.Test.YtohbpgdhpfmlgaaDoorG1
import Derived.Lib.Builder
import Derived.Lib.ConvBytes
import Derived.OwnWalk
namespace Go.Proofs.YtohbpgdhpfmlgaaDoor.PA
open Go.Shelf Go.RowKit Go.Lib Go.Proofs.YtohbpgdhpfmlgaaDoorW.PrintWords
set_option linter.unusedVariables false
/-- What a conversion laid stays, b apart. -/
def MK (b : Nat) (w w' : World) : Prop := ∀ q cs T (fz : Nat × Nat), fz ≠ (0, 0) → q ≠ b → w.heap[q]? = some (.cells cs T fz) → w'.heap[q]? = some (.cells cs T fz)
theorem MK.refl (b : Nat) (w : World) : MK b w w := fun _ _ _ _ _ _ h => h
theorem MK.trans {b : Nat} {w w1 w2 : World} (h : MK b w w1) (k : MK b w1 w2) : MK b w w2 := fun q cs T fz h0 h1 h2 => k q cs T fz h0 h1 (h q cs T fz h0 h1 h2)
theorem MK.drew {b : Nat} {w w1 : World} (h : MK b w w1) : MK b w w1.drew := h
theorem MK.set {b : Nat} {w w1 : World} (h : MK b w w1) (o : Nat) (v : Value) : MK b w (w1.setCell ⟨b, o, none⟩ v) := fun q cs T fz h0 h1 h2 =>
  (Below.heap_setCell w1 ⟨b, o, none⟩ v q h1).trans (h q cs T fz h0 h1 h2)
theorem lt_of_get {w : World} {q : Nat} {o : Obj} (h : w.heap[q]? = some o) : q < w.heap.size := by
  rcases Nat.lt_or_ge q w.heap.size with h' | h'
  · exact h'
  · simp [Array.getElem?_eq_none h'] at h
theorem MK.alloc {b : Nat} {w w1 : World} (h : MK b w w1) (o : Obj) : MK b w (w1.alloc o) := fun q cs T fz h0 h1 h2 =>
  (Below.heap_alloc w1 o q (lt_of_get (h q cs T fz h0 h1 h2))).trans (h q cs T fz h0 h1 h2)
theorem MK.grown {b B : Nat} {e : TypeId} {sz n : Nat} {v : Value} {xs : List Value} {w w1 w2 : World} (h : MK b w w1) (ho : w1.ownsRow B e sz v n xs) (hg : w1.grownBy w2 v.ownBlock) : MK b w w2 := fun q cs T fz h0 h1 h2 => by
  have h3 := h q cs T fz h0 h1 h2
  refine (hg.block q (lt_of_get h3) ?_).trans h3
  intro e
  rcases ho.2 with ⟨rfl, _⟩ | ⟨g, cap, cur, rfl, _, hh, _⟩
  · simp [Value.ownBlock] at e
  · simp only [Value.ownBlock, Option.some.injEq] at e
    subst e
    rw [h3] at hh
    simp only [Option.some.injEq, Obj.cells.injEq] at hh
    exact h0 hh.2.2
theorem sizeB : (Tryd.prog.info? 67).map (·.size) = some 2 := by kernel_rfl
theorem infoByte : (Tryd.prog.info? 5).map (fun i => (i.zero, i.size, i.bytes)) = some (some (.int .u8 0), 1, 1) := by kernel_rfl
set_option maxHeartbeats 1000000 in
set_option maxRecDepth 100000 in
theorem copyCheck_used (b : Nat) (w : World) (h0 : w.cell? ⟨b, 0, none⟩ = some (.pointer (some ⟨b, 0, none⟩))) :
    Calls Tryd.prog 56 #[.pointer (some ⟨b, 0, none⟩)] w fun e w' => e = .returned (.tuple #[]) ∧ w' = w := by
  obtain ⟨j, hj, _⟩ := Option.map_eq_some_iff.1 sizeB
  go_enter Tryd.func56, Tryd.ntmps56
  go_wp2
  rw [Lib.run_neq_ptr_same w _ Tryd.underlying64 hj]
  go_wp2
  go_end0
  exact ⟨rfl, rfl⟩
set_option maxHeartbeats 1000000 in
set_option maxRecDepth 100000 in
theorem copyCheck_fresh (b : Nat) (w : World) (h0 : w.cell? ⟨b, 0, none⟩ = some (.pointer none)) (hsh : w.shape? b = some (67, 2)) (hfz : w.frozen? ⟨b, 0, none⟩ = false) :
    Calls Tryd.prog 56 #[.pointer (some ⟨b, 0, none⟩)] w fun e w' => e = .returned (.tuple #[]) ∧ w' = w.setCell ⟨b, 0, none⟩ (.pointer (some ⟨b, 0, none⟩)) := by
  obtain ⟨j, hj, hjs⟩ := Option.map_eq_some_iff.1 sizeB
  go_enter Tryd.func56, Tryd.ntmps56
  go_wp2
  rw [Lib.run_to_unsafe w ⟨b, 0, none⟩ Tryd.underlying64 Tryd.underlying93 hj (by rw [hjs]; decide) hsh (Nat.zero_lt_succ 1)]
  simp only [Result.andThen]
  rw [Oper.upon_value]
  go_wp2
  rw [run_callFunc_extern Tryd.func70 (by kernel_rfl) (by kernel_rfl) (by kernel_rfl) (e := Extern.AbiNoEscape.same) (by kernel_rfl)]
  rw [Lib.run_noEscape]
  simp only [Result.andThen]
  rw [Oper.upon_value]
  go_wp2
  rw [Lib.run_from_unsafe w ⟨b, 0, none⟩ Tryd.underlying93 Tryd.underlying64 hj hsh (by kernel_rfl)]
  simp only [Result.andThen]
  rw [Oper.upon_value]
  go_wp2
  go_end0
  exact ⟨rfl, rfl⟩
theorem copyCheck (B b : Nat) (bs : List Value) (w : World) (h : Lib.IsBuilder 67 5 B b bs w) :
    Calls Tryd.prog 56 #[.pointer (some ⟨b, 0, none⟩)] w fun e w' => e = .returned (.tuple #[]) ∧ (Lib.BuilderAt 67 5 B b (.pointer (some ⟨b, 0, none⟩)) bs w' ∧ Below B w w' ∧ MK b w w') := by
  rcases h with h | h
  · refine (copyCheck_fresh b w h.cell0 h.shape h.frozen0).mono ?_
    rintro e w' ⟨rfl, rfl⟩
    exact ⟨rfl, h.used _, (Below.refl B w).setCell (p := ⟨b, 0, none⟩) h.1 _, (MK.refl b w).set 0 _⟩
  · refine (copyCheck_used b w h.cell0).mono ?_
    rintro e w' ⟨rfl, rfl⟩
    exact ⟨rfl, h, Below.refl B _, MK.refl _ _⟩
set_option maxHeartbeats 2000000 in
set_option maxRecDepth 100000 in
theorem writeByte (B b : Nat) (bs : List Value) (c : Int) (w : World) (h : Lib.IsBuilder 67 5 B b bs w) (hlen : bs.length + 1 ≤ 140737488355328) (hBw : B ≤ w.heap.size) :
    Calls Tryd.prog 43 #[.pointer (some ⟨b, 0, none⟩), .int .u8 c] w fun e w' => e = .returned .nilIface ∧ (Lib.IsBuilder 67 5 B b (bs ++ [.int .u8 c]) w' ∧ Below B w w' ∧ MK b w w') := by
  obtain ⟨i0, hi, hz0, hz1, hz2⟩ := info_parts infoByte
  go_enter Tryd.func43, Tryd.ntmps43
  go_wp2_with (go_at_call 56; refine (copyCheck B b bs _ h).mono ?_)
  rintro e w1 ⟨rfl, h1, hb1, hm1⟩
  obtain ⟨hB, v, hbk, hown, hne⟩ := h1
  have c0 : w1.cell? ⟨b, 0, none⟩ = some (.pointer (some ⟨b, 0, none⟩)) := by rw [Lib.cell_of_heap hbk]; rfl
  have c1 : w1.cell? ⟨b, 1, none⟩ = some v := by rw [Lib.cell_of_heap hbk]; rfl
  go_wp2_with (at_builtin; refine wpList_append_own _ rfl _ _ 65 rfl B 5 i0 (.int .u8 0) 1 1 Tryd.underlying65 hi hz0 hz1 hz2 rfl (by decide) _ _ _ rfl (hown.alloc _) ⟨w1.heap.size, 0, none⟩ 1 1 [.int .u8 c] rfl rfl ?c1 ?c2 ?c3 ?c4 ?c5 ?_)
  case c1 =>
    intro j u hj
    match j, hj with
    | 0, hj => simp at hj; subst hj; simp [Addr.add]
  case c2 => intro u hu; simp at hu; subst hu; rfl
  case c3 => unfold maxLen; omega
  case c4 => omega
  case c5 => have := hb1.size; simp; omega
  intro v' w2 hown' hgrow _
  have hlt : b < w1.heap.size := by
    rcases Nat.lt_or_ge b w1.heap.size with h' | h'
    · exact h'
    · simp [Array.getElem?_eq_none h'] at hbk
  have hb2 : w2.heap[b]? = some (.cells #[.pointer (some ⟨b, 0, none⟩), v] 67 (0, 0)) := by
    rw [hgrow.block b (by simp; omega) (fun e => hne e.symm), Lib.alloc_old w1 _ b hlt]
    exact hbk
  have d0 : w2.cell? ⟨b, 0, none⟩ = some (.pointer (some ⟨b, 0, none⟩)) := by rw [Lib.cell_of_heap hb2]; rfl
  have d1 : w2.cell? ⟨b, 1, none⟩ = some v := by rw [Lib.cell_of_heap hb2]; rfl
  have f1 : w2.frozen? ⟨b, 1, none⟩ = false := Lib.frozen_of_heap hb2 1
  obtain ⟨g, cap, rfl⟩ : ∃ g cap, v' = .slice (some ⟨g, 0, none⟩) (bs.length + 1) cap := by
    rcases hown'.2 with ⟨_, h0⟩ | ⟨g, cap, cur, hv, _⟩
    · omega
    · exact ⟨g, cap, hv⟩
  have hm2 := Lib.hid (((hm1.alloc (.cells #[.int .u8 c] 5)).grown (hown.alloc _) hgrow).set 1 (.slice (some ⟨g, 0, none⟩) (bs.length + 1) cap))
  go_wp2
  go_ret
  refine ⟨rfl, .inr ?_, ?_, hm2.out⟩
  · exact Lib.BuilderAt.put (T := 67) (e := 5) hB hb2 (bs' := bs ++ [.int .u8 c]) (by simpa using hown') (by decide)
  · exact ((hb1.alloc (by have := hb1.size; omega) _).grown hgrow (by have := hb1.size; simp; omega) (fun k hk => (hown.lt k hk).1)).setCell (p := ⟨b, 1, none⟩) hB _
end Go.Proofs.YtohbpgdhpfmlgaaDoor.PA
