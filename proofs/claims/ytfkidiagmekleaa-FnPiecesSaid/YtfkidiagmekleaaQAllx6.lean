-- Written by a program of this session (patch_print.py over the print).
import Derived.Test.YtfkidiagmekleaaQAllx0
import Derived.Test.YtfkidiagmekleaaQAllx3
import Derived.Test.YtfkidiagmekleaaQAllx5
namespace Go.Proofs.Ytfkidiagmekleaa.QAll
open Go.RowKit Go.Proofs.YtfkidiagmekleaaW.PrintWords Go.Proofs.YtfkidiagmekleaaW.PrintLast Go.Proofs.YtfkidiagmekleaaW.PrintMore
attribute [local go_sem] max2_int min2_int max_two min_two max_three min_three max_four min_four   -- for this text's walks alone
set_option linter.unusedVariables false
set_option linter.unusedSimpArgs false

def M6_6 (k : Nat) : Array Bool := ((List.range 6).map fun j => k.testBit j).toArray
def M6_8 (k : Nat) : Array Bool := ((List.range 8).map fun j => k.testBit j).toArray
theorem C6_13 {W : World} {g : Nat} {T : TypeId} {v0 v1 v2 v3 v4 v5 v6 v7 v8 v9 v10 v11 v12 : Value} (h : W.heap[g]? = some (.cells #[v0, v1, v2, v3, v4, v5, v6, v7, v8, v9, v10, v11, v12] T (0, 0))) : (W.cell? ⟨g, 0, none⟩ = some v0 ∧ W.cell? ⟨g, 1, none⟩ = some v1 ∧ W.cell? ⟨g, 2, none⟩ = some v2 ∧ W.cell? ⟨g, 3, none⟩ = some v3 ∧ W.cell? ⟨g, 4, none⟩ = some v4 ∧ W.cell? ⟨g, 5, none⟩ = some v5 ∧ W.cell? ⟨g, 6, none⟩ = some v6 ∧ W.cell? ⟨g, 7, none⟩ = some v7 ∧ W.cell? ⟨g, 8, none⟩ = some v8 ∧ W.cell? ⟨g, 9, none⟩ = some v9 ∧ W.cell? ⟨g, 10, none⟩ = some v10 ∧ W.cell? ⟨g, 11, none⟩ = some v11 ∧ W.cell? ⟨g, 12, none⟩ = some v12) ∧ W.frozen? ⟨g, 0, none⟩ = false ∧ W.frozen? ⟨g, 1, none⟩ = false ∧ W.frozen? ⟨g, 2, none⟩ = false ∧ W.frozen? ⟨g, 3, none⟩ = false ∧ W.frozen? ⟨g, 4, none⟩ = false ∧ W.frozen? ⟨g, 5, none⟩ = false ∧ W.frozen? ⟨g, 6, none⟩ = false ∧ W.frozen? ⟨g, 7, none⟩ = false ∧ W.frozen? ⟨g, 8, none⟩ = false ∧ W.frozen? ⟨g, 9, none⟩ = false ∧ W.frozen? ⟨g, 10, none⟩ = false ∧ W.frozen? ⟨g, 11, none⟩ = false ∧ W.frozen? ⟨g, 12, none⟩ = false := ⟨⟨(blk_cell h 0).trans rfl, (blk_cell h 1).trans rfl, (blk_cell h 2).trans rfl, (blk_cell h 3).trans rfl, (blk_cell h 4).trans rfl, (blk_cell h 5).trans rfl, (blk_cell h 6).trans rfl, (blk_cell h 7).trans rfl, (blk_cell h 8).trans rfl, (blk_cell h 9).trans rfl, (blk_cell h 10).trans rfl, (blk_cell h 11).trans rfl, (blk_cell h 12).trans rfl⟩, blk_frozen h 0, blk_frozen h 1, blk_frozen h 2, blk_frozen h 3, blk_frozen h 4, blk_frozen h 5, blk_frozen h 6, blk_frozen h 7, blk_frozen h 8, blk_frozen h 9, blk_frozen h 10, blk_frozen h 11, blk_frozen h 12⟩
theorem D6_13 {W : World} {g : Nat} {T : TypeId} {v0 v1 v2 v3 v4 v5 v6 v7 v8 v9 v10 v11 v12 : Value} (h : W.heap[g]? = some (.cells #[v0, v1, v2, v3, v4, v5, v6, v7, v8, v9, v10, v11, v12] T (0, 0))) {R : Prop} (r : R) : W.cell? ⟨g, 0, none⟩ = some v0 ∧ W.cell? ⟨g, 1, none⟩ = some v1 ∧ W.cell? ⟨g, 2, none⟩ = some v2 ∧ W.cell? ⟨g, 3, none⟩ = some v3 ∧ W.cell? ⟨g, 4, none⟩ = some v4 ∧ W.cell? ⟨g, 5, none⟩ = some v5 ∧ W.cell? ⟨g, 6, none⟩ = some v6 ∧ W.cell? ⟨g, 7, none⟩ = some v7 ∧ W.cell? ⟨g, 8, none⟩ = some v8 ∧ W.cell? ⟨g, 9, none⟩ = some v9 ∧ W.cell? ⟨g, 10, none⟩ = some v10 ∧ W.cell? ⟨g, 11, none⟩ = some v11 ∧ W.cell? ⟨g, 12, none⟩ = some v12 ∧ R := ⟨(blk_cell h 0).trans rfl, (blk_cell h 1).trans rfl, (blk_cell h 2).trans rfl, (blk_cell h 3).trans rfl, (blk_cell h 4).trans rfl, (blk_cell h 5).trans rfl, (blk_cell h 6).trans rfl, (blk_cell h 7).trans rfl, (blk_cell h 8).trans rfl, (blk_cell h 9).trans rfl, (blk_cell h 10).trans rfl, (blk_cell h 11).trans rfl, (blk_cell h 12).trans rfl, r⟩
theorem E6_13 {W : World} {g : Nat} {T : TypeId} {v0 v1 v2 v3 v4 v5 v6 v7 v8 v9 v10 v11 v12 o0 o1 o2 o3 o4 o5 o6 o7 o8 o9 o10 o11 o12 : Value} (h : W.heap[g]? = some (.cells #[o0, o1, o2, o3, o4, o5, o6, o7, o8, o9, o10, o11, o12] T (0, 0))) : (((((((((((((W.setCell ⟨g, 0, none⟩ v0).setCell ⟨g, 1, none⟩ v1).setCell ⟨g, 2, none⟩ v2).setCell ⟨g, 3, none⟩ v3).setCell ⟨g, 4, none⟩ v4).setCell ⟨g, 5, none⟩ v5).setCell ⟨g, 6, none⟩ v6).setCell ⟨g, 7, none⟩ v7).setCell ⟨g, 8, none⟩ v8).setCell ⟨g, 9, none⟩ v9).setCell ⟨g, 10, none⟩ v10).setCell ⟨g, 11, none⟩ v11).setCell ⟨g, 12, none⟩ v12).heap[g]? = some (.cells #[v0, v1, v2, v3, v4, v5, v6, v7, v8, v9, v10, v11, v12] T (0, 0)) := (blk_put (cs := #[v0, v1, v2, v3, v4, v5, v6, v7, v8, v9, v10, v11, o12]) (blk_put (cs := #[v0, v1, v2, v3, v4, v5, v6, v7, v8, v9, v10, o11, o12]) (blk_put (cs := #[v0, v1, v2, v3, v4, v5, v6, v7, v8, v9, o10, o11, o12]) (blk_put (cs := #[v0, v1, v2, v3, v4, v5, v6, v7, v8, o9, o10, o11, o12]) (blk_put (cs := #[v0, v1, v2, v3, v4, v5, v6, v7, o8, o9, o10, o11, o12]) (blk_put (cs := #[v0, v1, v2, v3, v4, v5, v6, o7, o8, o9, o10, o11, o12]) (blk_put (cs := #[v0, v1, v2, v3, v4, v5, o6, o7, o8, o9, o10, o11, o12]) (blk_put (cs := #[v0, v1, v2, v3, v4, o5, o6, o7, o8, o9, o10, o11, o12]) (blk_put (cs := #[v0, v1, v2, v3, o4, o5, o6, o7, o8, o9, o10, o11, o12]) (blk_put (cs := #[v0, v1, v2, o3, o4, o5, o6, o7, o8, o9, o10, o11, o12]) (blk_put (cs := #[v0, v1, o2, o3, o4, o5, o6, o7, o8, o9, o10, o11, o12]) (blk_put (cs := #[v0, o1, o2, o3, o4, o5, o6, o7, o8, o9, o10, o11, o12]) (blk_put (cs := #[o0, o1, o2, o3, o4, o5, o6, o7, o8, o9, o10, o11, o12]) h 0 _ rfl) 1 _ rfl) 2 _ rfl) 3 _ rfl) 4 _ rfl) 5 _ rfl) 6 _ rfl) 7 _ rfl) 8 _ rfl) 9 _ rfl) 10 _ rfl) 11 _ rfl) 12 _ rfl)
theorem F6_13 {W : World} {g : Nat} {v0 v1 v2 v3 v4 v5 v6 v7 v8 v9 v10 v11 v12 : Value} {a : Addr} (h : a.block ≠ g) : (((((((((((((W.setCell ⟨g, 0, none⟩ v0).setCell ⟨g, 1, none⟩ v1).setCell ⟨g, 2, none⟩ v2).setCell ⟨g, 3, none⟩ v3).setCell ⟨g, 4, none⟩ v4).setCell ⟨g, 5, none⟩ v5).setCell ⟨g, 6, none⟩ v6).setCell ⟨g, 7, none⟩ v7).setCell ⟨g, 8, none⟩ v8).setCell ⟨g, 9, none⟩ v9).setCell ⟨g, 10, none⟩ v10).setCell ⟨g, 11, none⟩ v11).setCell ⟨g, 12, none⟩ v12).cell? a = W.cell? a := by rw [cell_far (p := ⟨g, 12, none⟩) h, cell_far (p := ⟨g, 11, none⟩) h, cell_far (p := ⟨g, 10, none⟩) h, cell_far (p := ⟨g, 9, none⟩) h, cell_far (p := ⟨g, 8, none⟩) h, cell_far (p := ⟨g, 7, none⟩) h, cell_far (p := ⟨g, 6, none⟩) h, cell_far (p := ⟨g, 5, none⟩) h, cell_far (p := ⟨g, 4, none⟩) h, cell_far (p := ⟨g, 3, none⟩) h, cell_far (p := ⟨g, 2, none⟩) h, cell_far (p := ⟨g, 1, none⟩) h, cell_far (p := ⟨g, 0, none⟩) h]
theorem Z6_1 {p : Prop} (h : p := by exact (KeepBut.blk hk (g' := gb340) (o := .cells #[.int .i64 t325, .int .i64 t326, .int .i64 t327, .int .i64 t328, .int .i64 t329, .int .i64 t330, .int .i64 t331, .int .i64 t332, .int .i64 t333, .int .i64 t334, .int .i64 t335, .bool t336, .bool t337] 25 (0, 0)) (by (with_reducible repeat (first | refine blk_drewN ?_ _ | refine blk_drew ?_ | refine blk_alloc ?_ _)); exact BK340.out) NB340_324.out (by simp))) : p := h
theorem Z6_16 {p : Prop} (h : p := by (with_reducible repeat (first | refine blk_drewN ?_ _ | refine blk_drew ?_ | refine blk_alloc ?_ _)); exact BK293.out) : p := h
theorem Z6_2 {p : Prop} (h : p := by exact (KeepBut.blk hk (g' := gb293) (o := .cells #[.int .i64 0, .int .i64 0, .int .i64 0, .int .i64 0, .int .i64 0, .int .i64 0, .int .i64 0, .int .i64 0, .int .i64 0, .int .i64 0, .int .i64 0, .bool false, .bool false] 25 (0, 0)) Z6_16 NB293_297.out (by simp))) : p := h
theorem Z6_18 {p : Prop} (h : p := by (with_reducible repeat (first | refine blk_drewN ?_ _ | refine blk_drew ?_ | refine blk_alloc ?_ _)); exact BK320.out) : p := h
theorem Z6_3 {p : Prop} (h : p := by exact (KeepBut.blk hk (g' := gb320) (o := .cells #[.int .i64 0, .int .i64 0, .int .i64 0, .int .i64 0, .int .i64 0, .int .i64 0, .int .i64 0, .int .i64 0, .int .i64 0, .int .i64 0, .int .i64 0, .bool false, .bool false] 25 (0, 0)) Z6_18 NB320_324.out (by simp))) : p := h
theorem Z6_4 {p : Prop} (h : p := by exact (blk_below (g := gb293) (o := .cells #[.int .i64 0, .int .i64 0, .int .i64 0, .int .i64 0, .int .i64 0, .int .i64 0, .int .i64 0, .int .i64 0, .int .i64 0, .int .i64 0, .int .i64 0, .bool false, .bool false] 25 (0, 0)) Z6_16 hb)) : p := h
theorem Z6_5 {p : Prop} (h : p := by exact ((by rw [hg]; exact (below_size (by repeat (first | (with_reducible first | exact HB.out | apply below_alloc | apply pw_below_drewN | apply below_drew1 | refine below_set ?_ (IsS120.ge HI297.out) | refine below_set ?_ GE293.out) | exact HB.out))) : w.heap.size ≤ gb313))) : p := h
theorem Z6_6 {p : Prop} (h : p := by exact ((by rw [hg]; exact (below_size (by repeat (first | (with_reducible first | exact HB.out | apply below_alloc | apply pw_below_drewN | apply below_drew1 | refine below_set ?_ (IsS120.ge HI324.out) | refine below_set ?_ GE320.out) | exact HB.out))) : w.heap.size ≤ gb340))) : p := h
theorem Z6_7 {p : Prop} (h : p := by repeat (first | (with_reducible first | exact HI297.out | apply IsS120.alloc | apply IsS120.drewN | apply IsS120.drew | apply IsS120.set_1 | apply IsS120.set_2 | refine IsS120.far ?_ NB297_293.out _ | refine IsS120.far ?_ NB297_313.out _) | exact HI297.out)) : p := h
theorem Z6_8 {p : Prop} (h : p := by repeat (first | (with_reducible first | exact HB.out | apply below_alloc | apply pw_below_drewN | apply below_drew1 | refine below_set ?_ (IsS120.ge HI297.out) | refine below_set ?_ GE293.out | refine below_set ?_ GE313.out) | exact HB.out)) : p := h
theorem Z6_9 {p : Prop} (h : p := by repeat (first | (with_reducible first | exact HB.out | apply below_alloc | apply pw_below_drewN | apply below_drew1 | refine below_set ?_ (IsS120.ge HI324.out) | refine below_set ?_ GE320.out | refine below_set ?_ GE340.out) | exact HB.out)) : p := h
theorem Z6_10 {p : Prop} (h : p := by exact ((by rw [hg]; exact (below_size (by repeat (first | (with_reducible first | exact HB.out | apply below_alloc | apply pw_below_drewN | apply below_drew1 | refine below_set ?_ GE347.out) | exact HB.out))) : w.heap.size ≤ gb348))) : p := h
theorem Z6_11 {p : Prop} (h : p := by exact ((by rw [hg]; exact (below_size (by repeat (first | (with_reducible first | exact HB.out | apply below_alloc | apply pw_below_drewN | apply below_drew1) | exact HB.out))) : w.heap.size ≤ gb293))) : p := h
theorem Z6_12 {p : Prop} (h : p := by exact ((by rw [hg]; exact (below_size (by repeat (first | (with_reducible first | exact HB.out | apply below_alloc | apply pw_below_drewN | apply below_drew1) | exact HB.out))) : w.heap.size ≤ gb320))) : p := h
theorem Z6_13 {p : Prop} (h : p := by exact ((by rw [hg]; exact (below_size (by repeat (first | (with_reducible first | exact HB.out | apply below_alloc | apply pw_below_drewN | apply below_drew1) | exact HB.out))) : w.heap.size ≤ gb347))) : p := h
theorem Z6_14 {p : Prop} (h : p := by exact (below_step (by repeat (first | (with_reducible first | exact HB.out | apply below_alloc | apply pw_below_drewN | apply below_drew1) | exact HB.out)) hb)) : p := h
theorem Z6_15 {p : Prop} (h : p := by (try simp only [List.map_toArray, List.map_cons, List.map_nil]); first | done | rfl | (simp only [List.length_drop, List.length_take]; rfl)) : p := h
theorem Z6_17 {p : Prop} (h : p := by (with_reducible repeat (first | refine blk_drewN ?_ _ | refine blk_drew ?_ | refine blk_alloc ?_ _)); exact BK313.out) : p := h
theorem Z6_19 {p : Prop} (h : p := by (with_reducible repeat (first | refine blk_drewN ?_ _ | refine blk_drew ?_ | refine blk_alloc ?_ _)); exact BK347.out) : p := h
theorem Z6_20 {p : Prop} (h : p := by simp only [Act.put, List.setIfInBounds_toArray, List.set_cons_zero, List.set_cons_succ, i64_w, i32_w]; rfl) : p := h
theorem Z6_21 {p : Prop} (h : p := by first | rfl | (simp [errW_none, errW_some] <;> rfl) | (simp [*, errW_none, errW_some] <;> rfl)) : p := h
/-! ### spec_DrawHasTrait: function 14 -/
def spec_DrawHasTrait.f (k : Nat) (l0 : List Int) : Option (Int × Int × Int × Int × Int × Int × Int × Int × Int × Int × Int × Bool × Bool × Int) := (spec_l1New.f k l0).bind fun bt294 => ((spec_l4Any.f k bt294.1 bt294.2.1 bt294.2.2).bind fun bt298 => ((spec_l1Int.f bt294.1 bt298.2.2.2.2.2.2.2.2.2.2.2.2.2.1 bt298.2.2.2.2.2.2.2.2.2.2.2.2.2.2 (([1, 2, 4, 8, 16, 32, 3, 64, 0, (-1)] : List Int))).bind fun bt317 => (some (bt298.1, bt298.2.1, bt298.2.2.1, bt298.2.2.2.1, bt298.2.2.2.2.1, bt298.2.2.2.2.2.1, bt298.2.2.2.2.2.2.1, bt298.2.2.2.2.2.2.2.1, bt298.2.2.2.2.2.2.2.2.1, bt298.2.2.2.2.2.2.2.2.2.1, bt298.2.2.2.2.2.2.2.2.2.2.1, bt298.2.2.2.2.2.2.2.2.2.2.2.1, bt298.2.2.2.2.2.2.2.2.2.2.2.2.1, bt317.1))))
theorem spec_DrawHasTrait.mono : ∀ a0 k, LeO (spec_DrawHasTrait.f k a0) (spec_DrawHasTrait.f (k + 1) a0) := by
  intro a0 k
  unfold spec_DrawHasTrait.f
  repeat' first
      | (with_reducible exact spec_l1New.mono _ _)
      | (with_reducible exact spec_l4Any.mono _ _ _ _)
      | (with_reducible exact LeO.refl _)
      | (with_reducible exact LeO.none _)
      | (with_reducible refine LeO.ite ?_ ?_)
      | (with_reducible refine LeO.bind ?_ (fun _ => ?_))
      | exact spec_l1New.mono _ _
      | exact spec_l4Any.mono _ _ _ _
      | exact LeO.none _
      | refine LeO.ite ?_ ?_
      | refine LeO.bind ?_ (fun _ => ?_)
set_option maxHeartbeats 8000000 in
set_option maxRecDepth 100000 in
theorem spec_DrawHasTrait.calls (k : Nat) (A0 : Option Addr) (c0 : Nat) (l0 : List Int) (r1 : Int) (r2 : Int) (r3 : Int) (r4 : Int) (r5 : Int) (r6 : Int) (r7 : Int) (r8 : Int) (r9 : Int) (r10 : Int) (r11 : Int) (r12 : Bool) (r13 : Bool) (r14 : Int) (w : World) (hr0 : Kd.C (Kd.int .u8) w A0 l0.length l0) (hc0 : l0.length ≤ c0) (h : spec_DrawHasTrait.f k l0 = some (r1, r2, r3, r4, r5, r6, r7, r8, r9, r10, r11, r12, r13, r14)) :
    Calls Try.prog 14 #[.slice A0 l0.length c0] w fun e w' => e = .returned (.tuple #[.agg #[.int .i64 r1, .int .i64 r2, .int .i64 r3, .int .i64 r4, .int .i64 r5, .int .i64 r6, .int .i64 r7, .int .i64 r8, .int .i64 r9, .int .i64 r10, .int .i64 r11, .bool r12, .bool r13], .int .i64 r14]) ∧ Below w.heap.size w w' := by
  have hu25 := Try.underlying25
  have HR0 := Aside0.mk hr0
  have HC0 := Aside0.mk hc0
  clear hr0 hc0
  have HB := Aside0.mk (Below.refl w.heap.size w)
  have H : ((spec_l1New.f k l0).bind fun bt294 => ((spec_l4Any.f k bt294.1 bt294.2.1 bt294.2.2).bind fun bt298 => ((spec_l1Int.f bt294.1 bt298.2.2.2.2.2.2.2.2.2.2.2.2.2.1 bt298.2.2.2.2.2.2.2.2.2.2.2.2.2.2 (([1, 2, 4, 8, 16, 32, 3, 64, 0, (-1)] : List Int))).bind fun bt317 => (some (bt298.1, bt298.2.1, bt298.2.2.1, bt298.2.2.2.1, bt298.2.2.2.2.1, bt298.2.2.2.2.2.1, bt298.2.2.2.2.2.2.1, bt298.2.2.2.2.2.2.2.1, bt298.2.2.2.2.2.2.2.2.1, bt298.2.2.2.2.2.2.2.2.2.1, bt298.2.2.2.2.2.2.2.2.2.2.1, bt298.2.2.2.2.2.2.2.2.2.2.2.1, bt298.2.2.2.2.2.2.2.2.2.2.2.2.1, bt317.1))))) = some (r1, r2, r3, r4, r5, r6, r7, r8, r9, r10, r11, r12, r13, r14) := h
  clear h
  replace H := Option.bind_eq_some_iff.mp H
  obtain ⟨⟨t294, t295, t296⟩, A20, H⟩ := H
  (try dsimp only at H)
  have A2 := Aside0.mk A20
  clear A20
  replace H := Option.bind_eq_some_iff.mp H
  obtain ⟨⟨t298, t299, t300, t301, t302, t303, t304, t305, t306, t307, t308, t309, t310, t311, t312⟩, A30, H⟩ := H
  (try dsimp only at H)
  have A3 := Aside0.mk A30
  clear A30
  obtain ⟨y314, hy314⟩ : ∃ y_ : List Int, y_ = (([1, 2, 4, 8, 16, 32, 3, 64, 0, (-1)] : List Int)) := ⟨_, rfl⟩
  replace H : ((spec_l1Int.f t294 t311 t312 y314).bind fun bt317 => (some (t298, t299, t300, t301, t302, t303, t304, t305, t306, t307, t308, t309, t310, bt317.1))) = some (r1, r2, r3, r4, r5, r6, r7, r8, r9, r10, r11, r12, r13, r14) := by first | (rw [hy314]; with_reducible exact H) | (have H2_ := (Option.bind_some _ _).symm.trans H; rw [hy314]; with_reducible exact H2_) | (have H2_ := (Option.bind_some _ _).symm.trans H; with_reducible exact H2_) | with_reducible exact H | (rw [hy314]; exact H) | exact H
  have Ny314 := Aside0.mk hy314
  clear hy314
  replace H := Option.bind_eq_some_iff.mp H
  obtain ⟨⟨t317, t318, t319⟩, A40, H⟩ := H
  replace H : (some (t298, t299, t300, t301, t302, t303, t304, t305, t306, t307, t308, t309, t310, t317)) = some (r1, r2, r3, r4, r5, r6, r7, r8, r9, r10, r11, r12, r13, r14) := H
  have A4 := Aside0.mk A40
  clear A40
  simp only [Option.some.injEq, Prod.mk.injEq] at H
  obtain ⟨rfl, rfl, rfl, rfl, rfl, rfl, rfl, rfl, rfl, rfl, rfl, rfl, rfl, rfl⟩ := H
  go_enter Try.func14, Try.ntmps14
  try go_wp2_with (first | ((with_reducible refine gate_dst (N := 2) rfl ?_); refine box_event ?hg (N := 2) ?hd (cs := #[.int .i64 0, .int .i64 0, .int .i64 0, .int .i64 0, .int .i64 0, .int .i64 0, .int .i64 0, .int .i64 0, .int .i64 0, .int .i64 0, .int .i64 0, .bool false, .bool false]) (t := 25) ?hr ?_; (case hd => rfl); (case hg => rfl); (case hr => first | (go_simp; done) | (go_simp; rfl)); intro gb293 hg w5 hbox hb; have n0_ := Aside0.mk Z6_14; have n1_ := Aside0.mk (hbox); have n2_ := Aside0.mk Z6_11; have n3_ := Aside0.mk Z6_11; clear HB; have HB := n0_; have BK293 := n1_; have GW293 := n2_; have GE293 := n3_; clear n0_ n1_ n2_ n3_; clear hb hbox hg) | ((with_reducible refine gate_callee (f := 71) rfl ?_); refine goesL_ (some 7) rfl rfl Try.func71 (by kernel_rfl) rfl #[.slice A0 l0.length c0] rfl Z6_15 ?_; (with_reducible refine (spec_l1New.calls k _ _ l0 t294 t295 t296 w _ ?side1 ?side2 ?side3 A2.out).mono ?_); (case side1 => repeat (first | (with_reducible first | exact HB.out | apply below_alloc | apply pw_below_drewN | apply below_drew1 | refine below_set ?_ GE293.out) | exact HB.out)); (case side2 => exact HR0.out); (case side3 => exact HC0.out); rintro e w6 ⟨g297, rfl, hi, hb, hb2⟩; refine ⟨_, rfl, ?_⟩; have n0_ := Aside0.mk (blk_below (g := gb293) (o := .cells #[.int .i64 0, .int .i64 0, .int .i64 0, .int .i64 0, .int .i64 0, .int .i64 0, .int .i64 0, .int .i64 0, .int .i64 0, .int .i64 0, .int .i64 0, .bool false, .bool false] 25 (0, 0)) Z6_16 hb2); have n1_ := Aside0.mk (hb); have n2_ := Aside0.mk (hi); have n3_ := Aside0.mk (IsS120.ne_blk hi (blk_below (g := gb293) (o := .cells #[.int .i64 0, .int .i64 0, .int .i64 0, .int .i64 0, .int .i64 0, .int .i64 0, .int .i64 0, .int .i64 0, .int .i64 0, .int .i64 0, .int .i64 0, .bool false, .bool false] 25 (0, 0)) Z6_16 hb2) (by decide)); have n4_ := Aside0.mk (Ne.symm (IsS120.ne_blk hi (blk_below (g := gb293) (o := .cells #[.int .i64 0, .int .i64 0, .int .i64 0, .int .i64 0, .int .i64 0, .int .i64 0, .int .i64 0, .int .i64 0, .int .i64 0, .int .i64 0, .int .i64 0, .bool false, .bool false] 25 (0, 0)) Z6_16 hb2) (by decide))); clear BK293; clear HB; have BK293 := n0_; have HB := n1_; have HI297 := n2_; have NB297_293 := n3_; have NB293_297 := n4_; clear n0_ n1_ n2_ n3_ n4_; (try clear hb); (try clear hb2); (try clear hk); (try clear hi)) | ((with_reducible refine gate_callee (f := 72) rfl ?_); refine goesL_ (some 9) rfl rfl Try.func72 (by kernel_rfl) rfl #[.pointer (some ⟨g297, 0, none⟩)] rfl Z6_15 ?_; (with_reducible refine (spec_l4Any.calls k g297 t294 t295 t296 t298 t299 t300 t301 t302 t303 t304 t305 t306 t307 t308 t309 t310 t311 t312 w _ ?side1 ?side2 A3.out).mono ?_); (case side1 => repeat (first | (with_reducible first | exact HI297.out | apply IsS120.alloc | apply IsS120.drewN | apply IsS120.drew | apply IsS120.set_1 | apply IsS120.set_2 | refine IsS120.far ?_ NB297_293.out _) | exact HI297.out)); (case side2 => repeat (first | (with_reducible first | exact HB.out | apply below_alloc | apply pw_below_drewN | apply below_drew1 | refine below_set ?_ (IsS120.ge HI297.out) | refine below_set ?_ GE293.out) | exact HB.out)); rintro e w7 ⟨rfl, hi, hb, hk⟩; refine ⟨_, rfl, ?_⟩; have n0_ := Aside0.mk Z6_2; have n1_ := Aside0.mk (hb); have n2_ := Aside0.mk (hi); clear BK293; clear HB; clear HI297; have BK293 := n0_; have HB := n1_; have HI297 := n2_; clear n0_ n1_ n2_; (try clear hb); (try clear hb2); (try clear hk); (try clear hi)) | ((with_reducible refine gate_dst (N := 5) rfl ?_); refine box_event ?hg (N := 5) ?hd (cs := #[.int .i64 0, .int .i64 0, .int .i64 0, .int .i64 0, .int .i64 0, .int .i64 0, .int .i64 0, .int .i64 0, .int .i64 0, .int .i64 0, .int .i64 0, .bool false, .bool false]) (t := 25) ?hr ?_; (case hd => rfl); (case hg => rfl); (case hr => first | (go_simp; done) | (go_simp; rfl)); intro gb313 hg w8 hbox hb; have n0_ := Aside0.mk Z6_4; have n1_ := Aside0.mk (IsS120.below (by repeat (first | (with_reducible first | exact HI297.out | apply IsS120.alloc | apply IsS120.drewN | apply IsS120.drew | apply IsS120.set_1 | apply IsS120.set_2 | refine IsS120.far ?_ NB297_293.out _) | exact HI297.out)) hb); have n2_ := Aside0.mk (below_step (by repeat (first | (with_reducible first | exact HB.out | apply below_alloc | apply pw_below_drewN | apply below_drew1 | refine below_set ?_ (IsS120.ge HI297.out) | refine below_set ?_ GE293.out) | exact HB.out)) hb); have n3_ := Aside0.mk (hbox); have n4_ := Aside0.mk Z6_5; have n5_ := Aside0.mk Z6_5; have n6_ := Aside0.mk ((by rw [hg]; exact Nat.ne_of_lt (blk_lt (g := gb293) (o := .cells #[.int .i64 0, .int .i64 0, .int .i64 0, .int .i64 0, .int .i64 0, .int .i64 0, .int .i64 0, .int .i64 0, .int .i64 0, .int .i64 0, .int .i64 0, .bool false, .bool false] 25 (0, 0)) Z6_16) : gb293 ≠ gb313)); have n7_ := Aside0.mk ((by rw [hg]; exact Nat.ne_of_gt (blk_lt (g := gb293) (o := .cells #[.int .i64 0, .int .i64 0, .int .i64 0, .int .i64 0, .int .i64 0, .int .i64 0, .int .i64 0, .int .i64 0, .int .i64 0, .int .i64 0, .int .i64 0, .bool false, .bool false] 25 (0, 0)) Z6_16) : gb313 ≠ gb293)); have n8_ := Aside0.mk ((by rw [hg]; exact Nat.ne_of_lt (IsS120.lt (show IsS120 w _ g297 t294 t311 t312 from by repeat (first | (with_reducible first | exact HI297.out | apply IsS120.alloc | apply IsS120.drewN | apply IsS120.drew | apply IsS120.set_1 | apply IsS120.set_2 | refine IsS120.far ?_ NB297_293.out _) | exact HI297.out))) : g297 ≠ gb313)); have n9_ := Aside0.mk ((by rw [hg]; exact Nat.ne_of_gt (IsS120.lt (show IsS120 w _ g297 t294 t311 t312 from by repeat (first | (with_reducible first | exact HI297.out | apply IsS120.alloc | apply IsS120.drewN | apply IsS120.drew | apply IsS120.set_1 | apply IsS120.set_2 | refine IsS120.far ?_ NB297_293.out _) | exact HI297.out))) : gb313 ≠ g297)); clear BK293; clear HI297; clear HB; have BK293 := n0_; have HI297 := n1_; have HB := n2_; have BK313 := n3_; have GW313 := n4_; have GE313 := n5_; have NB293_313 := n6_; have NB313_293 := n7_; have NB297_313 := n8_; have NB313_297 := n9_; clear n0_ n1_ n2_ n3_ n4_ n5_ n6_ n7_ n8_ n9_; clear hb hbox hg; have hnb9 := NB313_293.out; have hnc9 := NB293_313.out; have hnb10 := NB313_297.out; have hnc10 := NB297_313.out; obtain ⟨⟨hcz11_0, hcz11_1, hcz11_2, hcz11_3, hcz11_4, hcz11_5, hcz11_6, hcz11_7, hcz11_8, hcz11_9, hcz11_10, hcz11_11, hcz11_12⟩, hfz11_0, hfz11_1, hfz11_2, hfz11_3, hfz11_4, hfz11_5, hfz11_6, hfz11_7, hfz11_8, hfz11_9, hfz11_10, hfz11_11, hfz11_12⟩ := C6_13 BK313.out))
  have n0_ : Aside0 ((((((((((((((w8.setCell ⟨gb313, 0, none⟩ (.int .i64 t298)).setCell ⟨gb313, 1, none⟩ (.int .i64 t299)).setCell ⟨gb313, 2, none⟩ (.int .i64 t300)).setCell ⟨gb313, 3, none⟩ (.int .i64 t301)).setCell ⟨gb313, 4, none⟩ (.int .i64 t302)).setCell ⟨gb313, 5, none⟩ (.int .i64 t303)).setCell ⟨gb313, 6, none⟩ (.int .i64 t304)).setCell ⟨gb313, 7, none⟩ (.int .i64 t305)).setCell ⟨gb313, 8, none⟩ (.int .i64 t306)).setCell ⟨gb313, 9, none⟩ (.int .i64 t307)).setCell ⟨gb313, 10, none⟩ (.int .i64 t308)).setCell ⟨gb313, 11, none⟩ (.bool t309)).setCell ⟨gb313, 12, none⟩ (.bool t310)).heap[gb293]? = some (.cells #[.int .i64 0, .int .i64 0, .int .i64 0, .int .i64 0, .int .i64 0, .int .i64 0, .int .i64 0, .int .i64 0, .int .i64 0, .int .i64 0, .int .i64 0, .bool false, .bool false] 25 (0, 0))) := ⟨(by (with_reducible repeat (first | refine blk_drewN ?_ _ | refine blk_drew ?_ | refine blk_alloc ?_ _)); refine blk_far ?_ NB293_313.out _; (with_reducible repeat (first | refine blk_drewN ?_ _ | refine blk_drew ?_ | refine blk_alloc ?_ _)); refine blk_far ?_ NB293_313.out _; (with_reducible repeat (first | refine blk_drewN ?_ _ | refine blk_drew ?_ | refine blk_alloc ?_ _)); refine blk_far ?_ NB293_313.out _; (with_reducible repeat (first | refine blk_drewN ?_ _ | refine blk_drew ?_ | refine blk_alloc ?_ _)); refine blk_far ?_ NB293_313.out _; (with_reducible repeat (first | refine blk_drewN ?_ _ | refine blk_drew ?_ | refine blk_alloc ?_ _)); refine blk_far ?_ NB293_313.out _; (with_reducible repeat (first | refine blk_drewN ?_ _ | refine blk_drew ?_ | refine blk_alloc ?_ _)); refine blk_far ?_ NB293_313.out _; (with_reducible repeat (first | refine blk_drewN ?_ _ | refine blk_drew ?_ | refine blk_alloc ?_ _)); refine blk_far ?_ NB293_313.out _; (with_reducible repeat (first | refine blk_drewN ?_ _ | refine blk_drew ?_ | refine blk_alloc ?_ _)); refine blk_far ?_ NB293_313.out _; (with_reducible repeat (first | refine blk_drewN ?_ _ | refine blk_drew ?_ | refine blk_alloc ?_ _)); refine blk_far ?_ NB293_313.out _; (with_reducible repeat (first | refine blk_drewN ?_ _ | refine blk_drew ?_ | refine blk_alloc ?_ _)); refine blk_far ?_ NB293_313.out _; (with_reducible repeat (first | refine blk_drewN ?_ _ | refine blk_drew ?_ | refine blk_alloc ?_ _)); refine blk_far ?_ NB293_313.out _; (with_reducible repeat (first | refine blk_drewN ?_ _ | refine blk_drew ?_ | refine blk_alloc ?_ _)); refine blk_far ?_ NB293_313.out _; (with_reducible repeat (first | refine blk_drewN ?_ _ | refine blk_drew ?_ | refine blk_alloc ?_ _)); refine blk_far ?_ NB293_313.out _; (with_reducible repeat (first | refine blk_drewN ?_ _ | refine blk_drew ?_ | refine blk_alloc ?_ _)); exact BK293.out)⟩
  have n1_ : Aside0 ((((((((((((((w8.setCell ⟨gb313, 0, none⟩ (.int .i64 t298)).setCell ⟨gb313, 1, none⟩ (.int .i64 t299)).setCell ⟨gb313, 2, none⟩ (.int .i64 t300)).setCell ⟨gb313, 3, none⟩ (.int .i64 t301)).setCell ⟨gb313, 4, none⟩ (.int .i64 t302)).setCell ⟨gb313, 5, none⟩ (.int .i64 t303)).setCell ⟨gb313, 6, none⟩ (.int .i64 t304)).setCell ⟨gb313, 7, none⟩ (.int .i64 t305)).setCell ⟨gb313, 8, none⟩ (.int .i64 t306)).setCell ⟨gb313, 9, none⟩ (.int .i64 t307)).setCell ⟨gb313, 10, none⟩ (.int .i64 t308)).setCell ⟨gb313, 11, none⟩ (.bool t309)).setCell ⟨gb313, 12, none⟩ (.bool t310)).heap[gb313]? = some (.cells #[.int .i64 t298, .int .i64 t299, .int .i64 t300, .int .i64 t301, .int .i64 t302, .int .i64 t303, .int .i64 t304, .int .i64 t305, .int .i64 t306, .int .i64 t307, .int .i64 t308, .bool t309, .bool t310] 25 (0, 0))) := ⟨(by (with_reducible repeat (first | refine blk_drewN ?_ _ | refine blk_drew ?_ | refine blk_alloc ?_ _)); apply E6_13; (with_reducible repeat (first | refine blk_drewN ?_ _ | refine blk_drew ?_ | refine blk_alloc ?_ _)); exact BK313.out)⟩
  have n2_ : Aside0 (IsS120 w (((((((((((((w8.setCell ⟨gb313, 0, none⟩ (.int .i64 t298)).setCell ⟨gb313, 1, none⟩ (.int .i64 t299)).setCell ⟨gb313, 2, none⟩ (.int .i64 t300)).setCell ⟨gb313, 3, none⟩ (.int .i64 t301)).setCell ⟨gb313, 4, none⟩ (.int .i64 t302)).setCell ⟨gb313, 5, none⟩ (.int .i64 t303)).setCell ⟨gb313, 6, none⟩ (.int .i64 t304)).setCell ⟨gb313, 7, none⟩ (.int .i64 t305)).setCell ⟨gb313, 8, none⟩ (.int .i64 t306)).setCell ⟨gb313, 9, none⟩ (.int .i64 t307)).setCell ⟨gb313, 10, none⟩ (.int .i64 t308)).setCell ⟨gb313, 11, none⟩ (.bool t309)).setCell ⟨gb313, 12, none⟩ (.bool t310)) g297 t294 t311 t312) := ⟨Z6_7⟩
  have n3_ : Aside0 (Below w.heap.size w (((((((((((((w8.setCell ⟨gb313, 0, none⟩ (.int .i64 t298)).setCell ⟨gb313, 1, none⟩ (.int .i64 t299)).setCell ⟨gb313, 2, none⟩ (.int .i64 t300)).setCell ⟨gb313, 3, none⟩ (.int .i64 t301)).setCell ⟨gb313, 4, none⟩ (.int .i64 t302)).setCell ⟨gb313, 5, none⟩ (.int .i64 t303)).setCell ⟨gb313, 6, none⟩ (.int .i64 t304)).setCell ⟨gb313, 7, none⟩ (.int .i64 t305)).setCell ⟨gb313, 8, none⟩ (.int .i64 t306)).setCell ⟨gb313, 9, none⟩ (.int .i64 t307)).setCell ⟨gb313, 10, none⟩ (.int .i64 t308)).setCell ⟨gb313, 11, none⟩ (.bool t309)).setCell ⟨gb313, 12, none⟩ (.bool t310))) := ⟨Z6_8⟩
  (try clear BK293)
  (try clear BK313)
  (try clear HI297)
  (try clear HB)
  generalize (((((((((((((w8.setCell ⟨gb313, 0, none⟩ (.int .i64 t298)).setCell ⟨gb313, 1, none⟩ (.int .i64 t299)).setCell ⟨gb313, 2, none⟩ (.int .i64 t300)).setCell ⟨gb313, 3, none⟩ (.int .i64 t301)).setCell ⟨gb313, 4, none⟩ (.int .i64 t302)).setCell ⟨gb313, 5, none⟩ (.int .i64 t303)).setCell ⟨gb313, 6, none⟩ (.int .i64 t304)).setCell ⟨gb313, 7, none⟩ (.int .i64 t305)).setCell ⟨gb313, 8, none⟩ (.int .i64 t306)).setCell ⟨gb313, 9, none⟩ (.int .i64 t307)).setCell ⟨gb313, 10, none⟩ (.int .i64 t308)).setCell ⟨gb313, 11, none⟩ (.bool t309)).setCell ⟨gb313, 12, none⟩ (.bool t310)) = w12 at n0_ n1_ n2_ n3_ ⊢
  have BK293 := n0_
  have BK313 := n1_
  have HI297 := n2_
  have HB := n3_
  clear n0_ n1_ n2_ n3_
  have n0_ := Aside0.mk (blk_drew BK293.out)
  have n1_ := Aside0.mk (blk_drew BK313.out)
  have n2_ := Aside0.mk (IsS120.drew HI297.out)
  have n3_ := Aside0.mk (below_drew1 HB.out)
  clear BK293
  clear BK313
  clear HI297
  clear HB
  have BK293 := n0_
  have BK313 := n1_
  have HI297 := n2_
  have HB := n3_
  clear n0_ n1_ n2_ n3_
  refine start_ (n := 6) (S := fun w' => w'.cell? ⟨gb313, 0, none⟩ = some (.int .i64 t298) ∧ w'.cell? ⟨gb313, 1, none⟩ = some (.int .i64 t299) ∧ w'.cell? ⟨gb313, 2, none⟩ = some (.int .i64 t300) ∧ w'.cell? ⟨gb313, 3, none⟩ = some (.int .i64 t301) ∧ w'.cell? ⟨gb313, 4, none⟩ = some (.int .i64 t302) ∧ w'.cell? ⟨gb313, 5, none⟩ = some (.int .i64 t303) ∧ w'.cell? ⟨gb313, 6, none⟩ = some (.int .i64 t304) ∧ w'.cell? ⟨gb313, 7, none⟩ = some (.int .i64 t305) ∧ w'.cell? ⟨gb313, 8, none⟩ = some (.int .i64 t306) ∧ w'.cell? ⟨gb313, 9, none⟩ = some (.int .i64 t307) ∧ w'.cell? ⟨gb313, 10, none⟩ = some (.int .i64 t308) ∧ w'.cell? ⟨gb313, 11, none⟩ = some (.bool t309) ∧ w'.cell? ⟨gb313, 12, none⟩ = some (.bool t310)) (ds := [4]) #[false, false, false, false, false, false] (by kernel_rfl) rfl rfl ⟨(blk_cell BK313.out 0).trans rfl, (blk_cell BK313.out 1).trans rfl, (blk_cell BK313.out 2).trans rfl, (blk_cell BK313.out 3).trans rfl, (blk_cell BK313.out 4).trans rfl, (blk_cell BK313.out 5).trans rfl, (blk_cell BK313.out 6).trans rfl, (blk_cell BK313.out 7).trans rfl, (blk_cell BK313.out 8).trans rfl, (blk_cell BK313.out 9).trans rfl, (blk_cell BK313.out 10).trans rfl, (blk_cell BK313.out 11).trans rfl, (blk_cell BK313.out 12).trans rfl⟩ (fun hHeld => ?_)
  generalize w12.drew = w13 at BK293 BK313 HI297 HB hHeld ⊢
  refine pure_ (i := 1) (N := some 11) (v := _) (a' := _) (M6_6 2) rfl rfl (by kernel_rfl) (fun _ _ _ h => h) (Or.inl ⟨(by rfl), (by intro w'; go_simp; with_reducible rfl)⟩) Z6_20 ?_
  refine take_ (i := 0) (N := some 10) (v := _) (a' := _) (M6_6 3) rfl rfl (by kernel_rfl) (fun _ _ _ h => h) (Or.inl ⟨(by rfl), (by rintro w' ⟨s0, s1, s2, s3, s4, s5, s6, s7, s8, s9, s10, s11, s12⟩; go_simp; with_reducible rfl)⟩) hHeld Z6_20 ?_
  refine one_ (i := 2) (N := some 12) (M6_6 7) rfl rfl (by kernel_rfl) (by decide) (fun K hK => ?_)
  refine Kd.R_lit_step (Kd.int .i64) _ 3 ?hg (N := 12) ?hd (xs := ([1, 2, 4, 8, 16, 32, 3, 64, 0, (-1)] : List Int)) (inner := [.int .i64 1, .int .i64 2, .int .i64 4, .int .i64 8, .int .i64 16, .int .i64 32, .int .i64 3, .int .i64 64, .int .i64 0, .int .i64 (-1)]) (ok := fun _ => True) (okp := fun _ => True) ?hr ?hp (fun _ hk => hk) trivial (Below.refl _ _) (Nat.le_refl _) (by simp) ?_; (case hd => rfl); (case hg => rfl); (case hr => first | (go_simp; done) | (go_simp; rfl)); (case hp => exact (Reps.one (show Kd.M (Kd.int .i64) _ _ _ 1 [.int .i64 1] from rfl) (Reps.one (show Kd.M (Kd.int .i64) _ _ _ 2 [.int .i64 2] from rfl) (Reps.one (show Kd.M (Kd.int .i64) _ _ _ 4 [.int .i64 4] from rfl) (Reps.one (show Kd.M (Kd.int .i64) _ _ _ 8 [.int .i64 8] from rfl) (Reps.one (show Kd.M (Kd.int .i64) _ _ _ 16 [.int .i64 16] from rfl) (Reps.one (show Kd.M (Kd.int .i64) _ _ _ 32 [.int .i64 32] from rfl) (Reps.one (show Kd.M (Kd.int .i64) _ _ _ 3 [.int .i64 3] from rfl) (Reps.one (show Kd.M (Kd.int .i64) _ _ _ 64 [.int .i64 64] from rfl) (Reps.one (show Kd.M (Kd.int .i64) _ _ _ 0 [.int .i64 0] from rfl) (Reps.one (show Kd.M (Kd.int .i64) _ _ _ (-1) [.int .i64 (-1)] from rfl) (Reps.none _ _))))))))))))
  intro v315 w14 ho15 hb hg_ hnew_
  clear hg_ hnew_
  (first | rw [← Ny314.out] at ho15 | (simp only [Int.reduceToNat] at ho15; rw [← Ny314.out] at ho15))
  have n0_ := Aside0.mk (Kd.R_lower ho15 (below_size Z6_8))
  have n1_ := Aside0.mk Z6_4
  have n2_ := Aside0.mk (IsS120.below Z6_7 hb)
  have n3_ := Aside0.mk (blk_below (g := gb313) (o := .cells #[.int .i64 t298, .int .i64 t299, .int .i64 t300, .int .i64 t301, .int .i64 t302, .int .i64 t303, .int .i64 t304, .int .i64 t305, .int .i64 t306, .int .i64 t307, .int .i64 t308, .bool t309, .bool t310] 25 (0, 0)) Z6_17 hb)
  have n4_ := Aside0.mk (below_step Z6_8 hb)
  clear BK293
  clear HI297
  clear BK313
  clear HB
  have HO316 := n0_
  have BK293 := n1_
  have HI297 := n2_
  have BK313 := n3_
  have HB := n4_
  clear n0_ n1_ n2_ n3_ n4_
  clear hb ho15
  obtain ⟨Ao16, co16, eo16⟩ := Kd.R_slice HO316.out
  (first | subst eo16 | (injection eo16 with f1_ f2_ f3_; have f4_ := f1_.symm; have f5_ := f3_.symm; clear f1_ f2_ f3_; subst f4_; subst f5_))
  refine hK.out _ _ (C6_13 BK313.out).1 (fun hHeld => ?_)
  clear hK K
  refine norm_ (a' := ?_) ?_ ?_
  rotate_left
  · show Act.put _ (some 12) _ = _
    simp only [Act.put, List.setIfInBounds_toArray, List.set_cons_zero, List.set_cons_succ, i64_w, i32_w]
    rfl
  refine one_ (i := 3) (N := some 13) (M6_6 15) rfl rfl (by kernel_rfl) (by decide) (fun K hK => ?_)
  refine goes_ Try.func73 (by kernel_rfl) rfl #[.pointer (some ⟨g297, 0, none⟩), .slice Ao16 y314.length co16] (by rfl) rfl rfl Z6_15 ?_
  with_reducible refine (spec_l1Int.calls g297 t294 t311 t312 _ _ y314 t317 t318 t319 w _ ?side1 ?side2 ?side3 ?side4 ?side5 A4.out).mono ?_
  (case side1 => repeat (first | (with_reducible first | exact HI297.out | apply IsS120.alloc | apply IsS120.drewN | apply IsS120.drew | apply IsS120.set_1 | apply IsS120.set_2 | refine IsS120.far ?_ NB297_293.out _ | refine IsS120.far ?_ NB297_313.out _) | exact HI297.out))
  (case side2 => repeat (first | (with_reducible first | exact HB.out | apply below_alloc | apply pw_below_drewN | apply below_drew1 | refine below_set ?_ (IsS120.ge HI297.out) | refine below_set ?_ GE293.out | refine below_set ?_ GE313.out) | exact HB.out))
  (case side3 => repeat (first | exact (Kd.R_reads' HO316.out).2.2 | (with_reducible refine Kd.C_alloc ?_ _) | (with_reducible refine Kd.C_drewN ?_ _) | (with_reducible refine Kd.C_drew ?_)))
  (case side4 => exact (Kd.R_reads' HO316.out).2.1)
  (case side5 => exact far_slice (IsS120.own_ne HI297.out HO316.out (by decide)))
  rintro e w17 ⟨rfl, hi, hb, hk⟩
  refine ⟨_, rfl, ?_⟩
  have n0_ := Aside0.mk Z6_2
  have n1_ := Aside0.mk (KeepBut.blk hk (g' := gb313) (o := .cells #[.int .i64 t298, .int .i64 t299, .int .i64 t300, .int .i64 t301, .int .i64 t302, .int .i64 t303, .int .i64 t304, .int .i64 t305, .int .i64 t306, .int .i64 t307, .int .i64 t308, .bool t309, .bool t310] 25 (0, 0)) Z6_17 NB313_297.out (by simp))
  have n2_ := Aside0.mk (Kd.R_mono (Kd.R_keep (IsS120.apart (show IsS120 w _ g297 t294 t311 t312 from by repeat (first | (with_reducible first | exact HI297.out | apply IsS120.alloc | apply IsS120.drewN | apply IsS120.drew | apply IsS120.set_1 | apply IsS120.set_2 | refine IsS120.far ?_ NB297_293.out _ | refine IsS120.far ?_ NB297_313.out _) | exact HI297.out)) (by (with_reducible repeat (first | apply Kd.R_alloc | apply Kd.R_drewN | apply Kd.R_drew)); exact HO316.out) (by decide)) hk (fun _ h => h.2)) (fun _ h => h.1))
  have n3_ := Aside0.mk (hb)
  have n4_ := Aside0.mk (hi)
  clear BK293
  clear BK313
  clear HO316
  clear HB
  clear HI297
  have BK293 := n0_
  have BK313 := n1_
  have HO316 := n2_
  have HB := n3_
  have HI297 := n4_
  clear n0_ n1_ n2_ n3_ n4_
  (try clear hb)
  (try clear hb2)
  (try clear hk)
  (try clear hi)
  refine hK.out _ _ (C6_13 BK313.out).1 (fun hHeld => ?_)
  clear hK K
  refine norm_ (a' := ?_) ?_ ?_
  rotate_left
  · show Act.put _ (some 13) _ = _
    simp only [Act.put, List.setIfInBounds_toArray, List.set_cons_zero, List.set_cons_succ, i64_w, i32_w]
    rfl
  refine last_ (i := 4) (N := none) (M6_6 31) rfl rfl (by kernel_rfl) (by decide) (fun K hK => ?_)
  obtain ⟨⟨hs18, hs19, hs20, hs21, hs22, hs23, hs24, hs25, hs26, hs27, hs28, hs29, hs30⟩, hfs18, hfs19, hfs20, hfs21, hfs22, hfs23, hfs24, hfs25, hfs26, hfs27, hfs28, hfs29, hfs30⟩ := C6_13 BK293.out
  have hns18_1 := NB313_293.out
  have hms18_1 := NB293_313.out
  refine skip_ (w1 := ?_) (by rfl) rfl ?_ ?_
  rotate_left
  · go_simp
    rfl
  refine hK.out _ _ ?_
  clear hK K
  refine pure_ (i := 5) (N := some 3) (v := _) (a' := _) (M6_6 63) rfl rfl (by kernel_rfl) (fun _ _ _ h => h) (Or.inl ⟨(by rfl), (by intro w'; go_simp; with_reducible rfl)⟩) Z6_20 ?_
  refine done_ (by kernel_rfl) ?_
  try go_wp2
  refine bodyPost_ret (results_ct rfl _ _ gb293 25 #[.int .i64 t298, .int .i64 t299, .int .i64 t300, .int .i64 t301, .int .i64 t302, .int .i64 t303, .int .i64 t304, .int .i64 t305, .int .i64 t306, .int .i64 t307, .int .i64 t308, .bool t309, .bool t310] (0, 0) _ rfl (by (with_reducible repeat (first | refine blk_drewN ?_ _ | refine blk_drew ?_ | refine blk_alloc ?_ _)); apply E6_13; (with_reducible repeat (first | refine blk_drewN ?_ _ | refine blk_drew ?_ | refine blk_alloc ?_ _)); exact BK293.out) Try.underlying25 rfl (by kernel_rfl)) rfl ?_
  exact ⟨Z6_21, Z6_8⟩

/-! ### spec_DrawMoved: function 15 -/
def spec_DrawMoved.f (k : Nat) (l0 : List Int) : Option (Int × Int × Int × Int × Int × Int × Int × Int × Int × Int × Int × Bool × Bool × Int × Int) := (spec_l1New.f k l0).bind fun bt321 => ((spec_l4Any.f k bt321.1 bt321.2.1 bt321.2.2).bind fun bt325 => ((spec_l1Below.f bt321.1 bt325.2.2.2.2.2.2.2.2.2.2.2.2.2.1 bt325.2.2.2.2.2.2.2.2.2.2.2.2.2.2 5).bind fun bt341 => ((spec_l1Below.f bt321.1 bt341.2.1 bt341.2.2 4).bind fun bt344 => (some (bt325.1, bt325.2.1, bt325.2.2.1, bt325.2.2.2.1, bt325.2.2.2.2.1, bt325.2.2.2.2.2.1, bt325.2.2.2.2.2.2.1, bt325.2.2.2.2.2.2.2.1, bt325.2.2.2.2.2.2.2.2.1, bt325.2.2.2.2.2.2.2.2.2.1, bt325.2.2.2.2.2.2.2.2.2.2.1, bt325.2.2.2.2.2.2.2.2.2.2.2.1, bt325.2.2.2.2.2.2.2.2.2.2.2.2.1, bt341.1, bt344.1)))))
theorem spec_DrawMoved.mono : ∀ a0 k, LeO (spec_DrawMoved.f k a0) (spec_DrawMoved.f (k + 1) a0) := by
  intro a0 k
  unfold spec_DrawMoved.f
  repeat' first
      | (with_reducible exact spec_l1New.mono _ _)
      | (with_reducible exact spec_l4Any.mono _ _ _ _)
      | (with_reducible exact LeO.refl _)
      | (with_reducible exact LeO.none _)
      | (with_reducible refine LeO.ite ?_ ?_)
      | (with_reducible refine LeO.bind ?_ (fun _ => ?_))
      | exact spec_l1New.mono _ _
      | exact spec_l4Any.mono _ _ _ _
      | exact LeO.none _
      | refine LeO.ite ?_ ?_
      | refine LeO.bind ?_ (fun _ => ?_)
def spec_DrawMoved.T3 : Bool × List (List Nat × List Nat) := (true, [([], []), ([], []), ([1], [1]), ([], []), ([3, 2], [3]), ([0, 4, 0], [0]), ([2, 5, 0, 1, 2, 5], [2]), ([4, 6, 0, 1, 2, 3, 4, 5, 6], [4])])
def spec_DrawMoved.B3 : List Nat := [0, 0, 2, 0, 14, 31, 63, 127]
theorem spec_DrawMoved.tab3 : rtab .any (opsOf Try.f15 3) = spec_DrawMoved.T3 := by kernel_rfl
theorem spec_DrawMoved.bits3 : waitsOk spec_DrawMoved.T3.2 spec_DrawMoved.B3 = true := by kernel_rfl
set_option maxHeartbeats 8000000 in
set_option maxRecDepth 100000 in
theorem spec_DrawMoved.calls (k : Nat) (A0 : Option Addr) (c0 : Nat) (l0 : List Int) (r1 : Int) (r2 : Int) (r3 : Int) (r4 : Int) (r5 : Int) (r6 : Int) (r7 : Int) (r8 : Int) (r9 : Int) (r10 : Int) (r11 : Int) (r12 : Bool) (r13 : Bool) (r14 : Int) (r15 : Int) (w : World) (hr0 : Kd.C (Kd.int .u8) w A0 l0.length l0) (hc0 : l0.length ≤ c0) (h : spec_DrawMoved.f k l0 = some (r1, r2, r3, r4, r5, r6, r7, r8, r9, r10, r11, r12, r13, r14, r15)) :
    Calls Try.prog 15 #[.slice A0 l0.length c0] w fun e w' => e = .returned (.tuple #[.agg #[.int .i64 r1, .int .i64 r2, .int .i64 r3, .int .i64 r4, .int .i64 r5, .int .i64 r6, .int .i64 r7, .int .i64 r8, .int .i64 r9, .int .i64 r10, .int .i64 r11, .bool r12, .bool r13], .int .i64 r14, .int .i64 r15]) ∧ Below w.heap.size w w' := by
  have hu25 := Try.underlying25
  have HR0 := Aside0.mk hr0
  have HC0 := Aside0.mk hc0
  clear hr0 hc0
  have HB := Aside0.mk (Below.refl w.heap.size w)
  have H : ((spec_l1New.f k l0).bind fun bt321 => ((spec_l4Any.f k bt321.1 bt321.2.1 bt321.2.2).bind fun bt325 => ((spec_l1Below.f bt321.1 bt325.2.2.2.2.2.2.2.2.2.2.2.2.2.1 bt325.2.2.2.2.2.2.2.2.2.2.2.2.2.2 5).bind fun bt341 => ((spec_l1Below.f bt321.1 bt341.2.1 bt341.2.2 4).bind fun bt344 => (some (bt325.1, bt325.2.1, bt325.2.2.1, bt325.2.2.2.1, bt325.2.2.2.2.1, bt325.2.2.2.2.2.1, bt325.2.2.2.2.2.2.1, bt325.2.2.2.2.2.2.2.1, bt325.2.2.2.2.2.2.2.2.1, bt325.2.2.2.2.2.2.2.2.2.1, bt325.2.2.2.2.2.2.2.2.2.2.1, bt325.2.2.2.2.2.2.2.2.2.2.2.1, bt325.2.2.2.2.2.2.2.2.2.2.2.2.1, bt341.1, bt344.1)))))) = some (r1, r2, r3, r4, r5, r6, r7, r8, r9, r10, r11, r12, r13, r14, r15) := h
  clear h
  replace H := Option.bind_eq_some_iff.mp H
  obtain ⟨⟨t321, t322, t323⟩, A20, H⟩ := H
  (try dsimp only at H)
  have A2 := Aside0.mk A20
  clear A20
  replace H := Option.bind_eq_some_iff.mp H
  obtain ⟨⟨t325, t326, t327, t328, t329, t330, t331, t332, t333, t334, t335, t336, t337, t338, t339⟩, A30, H⟩ := H
  (try dsimp only at H)
  have A3 := Aside0.mk A30
  clear A30
  replace H := Option.bind_eq_some_iff.mp H
  obtain ⟨⟨t341, t342, t343⟩, A40, H⟩ := H
  (try dsimp only at H)
  have A4 := Aside0.mk A40
  clear A40
  replace H := Option.bind_eq_some_iff.mp H
  obtain ⟨⟨t344, t345, t346⟩, A50, H⟩ := H
  replace H : (some (t325, t326, t327, t328, t329, t330, t331, t332, t333, t334, t335, t336, t337, t341, t344)) = some (r1, r2, r3, r4, r5, r6, r7, r8, r9, r10, r11, r12, r13, r14, r15) := H
  have A5 := Aside0.mk A50
  clear A50
  simp only [Option.some.injEq, Prod.mk.injEq] at H
  obtain ⟨rfl, rfl, rfl, rfl, rfl, rfl, rfl, rfl, rfl, rfl, rfl, rfl, rfl, rfl, rfl⟩ := H
  go_enter Try.func15, Try.ntmps15
  try go_wp2_with (first | ((with_reducible refine gate_dst (N := 2) rfl ?_); refine box_event ?hg (N := 2) ?hd (cs := #[.int .i64 0, .int .i64 0, .int .i64 0, .int .i64 0, .int .i64 0, .int .i64 0, .int .i64 0, .int .i64 0, .int .i64 0, .int .i64 0, .int .i64 0, .bool false, .bool false]) (t := 25) ?hr ?_; (case hd => rfl); (case hg => rfl); (case hr => first | (go_simp; done) | (go_simp; rfl)); intro gb320 hg w6 hbox hb; have n0_ := Aside0.mk Z6_14; have n1_ := Aside0.mk (hbox); have n2_ := Aside0.mk Z6_12; have n3_ := Aside0.mk Z6_12; clear HB; have HB := n0_; have BK320 := n1_; have GW320 := n2_; have GE320 := n3_; clear n0_ n1_ n2_ n3_; clear hb hbox hg) | ((with_reducible refine gate_callee (f := 71) rfl ?_); refine goesL_ (some 8) rfl rfl Try.func71 (by kernel_rfl) rfl #[.slice A0 l0.length c0] rfl Z6_15 ?_; (with_reducible refine (spec_l1New.calls k _ _ l0 t321 t322 t323 w _ ?side1 ?side2 ?side3 A2.out).mono ?_); (case side1 => repeat (first | (with_reducible first | exact HB.out | apply below_alloc | apply pw_below_drewN | apply below_drew1 | refine below_set ?_ GE320.out) | exact HB.out)); (case side2 => exact HR0.out); (case side3 => exact HC0.out); rintro e w7 ⟨g324, rfl, hi, hb, hb2⟩; refine ⟨_, rfl, ?_⟩; have n0_ := Aside0.mk (blk_below (g := gb320) (o := .cells #[.int .i64 0, .int .i64 0, .int .i64 0, .int .i64 0, .int .i64 0, .int .i64 0, .int .i64 0, .int .i64 0, .int .i64 0, .int .i64 0, .int .i64 0, .bool false, .bool false] 25 (0, 0)) Z6_18 hb2); have n1_ := Aside0.mk (hb); have n2_ := Aside0.mk (hi); have n3_ := Aside0.mk (IsS120.ne_blk hi (blk_below (g := gb320) (o := .cells #[.int .i64 0, .int .i64 0, .int .i64 0, .int .i64 0, .int .i64 0, .int .i64 0, .int .i64 0, .int .i64 0, .int .i64 0, .int .i64 0, .int .i64 0, .bool false, .bool false] 25 (0, 0)) Z6_18 hb2) (by decide)); have n4_ := Aside0.mk (Ne.symm (IsS120.ne_blk hi (blk_below (g := gb320) (o := .cells #[.int .i64 0, .int .i64 0, .int .i64 0, .int .i64 0, .int .i64 0, .int .i64 0, .int .i64 0, .int .i64 0, .int .i64 0, .int .i64 0, .int .i64 0, .bool false, .bool false] 25 (0, 0)) Z6_18 hb2) (by decide))); clear BK320; clear HB; have BK320 := n0_; have HB := n1_; have HI324 := n2_; have NB324_320 := n3_; have NB320_324 := n4_; clear n0_ n1_ n2_ n3_ n4_; (try clear hb); (try clear hb2); (try clear hk); (try clear hi)) | ((with_reducible refine gate_callee (f := 72) rfl ?_); refine goesL_ (some 10) rfl rfl Try.func72 (by kernel_rfl) rfl #[.pointer (some ⟨g324, 0, none⟩)] rfl Z6_15 ?_; (with_reducible refine (spec_l4Any.calls k g324 t321 t322 t323 t325 t326 t327 t328 t329 t330 t331 t332 t333 t334 t335 t336 t337 t338 t339 w _ ?side1 ?side2 A3.out).mono ?_); (case side1 => repeat (first | (with_reducible first | exact HI324.out | apply IsS120.alloc | apply IsS120.drewN | apply IsS120.drew | apply IsS120.set_1 | apply IsS120.set_2 | refine IsS120.far ?_ NB324_320.out _) | exact HI324.out)); (case side2 => repeat (first | (with_reducible first | exact HB.out | apply below_alloc | apply pw_below_drewN | apply below_drew1 | refine below_set ?_ (IsS120.ge HI324.out) | refine below_set ?_ GE320.out) | exact HB.out)); rintro e w8 ⟨rfl, hi, hb, hk⟩; refine ⟨_, rfl, ?_⟩; have n0_ := Aside0.mk Z6_3; have n1_ := Aside0.mk (hb); have n2_ := Aside0.mk (hi); clear BK320; clear HB; clear HI324; have BK320 := n0_; have HB := n1_; have HI324 := n2_; clear n0_ n1_ n2_; (try clear hb); (try clear hb2); (try clear hk); (try clear hi)) | ((with_reducible refine gate_dst (N := 6) rfl ?_); refine box_event ?hg (N := 6) ?hd (cs := #[.int .i64 0, .int .i64 0, .int .i64 0, .int .i64 0, .int .i64 0, .int .i64 0, .int .i64 0, .int .i64 0, .int .i64 0, .int .i64 0, .int .i64 0, .bool false, .bool false]) (t := 25) ?hr ?_; (case hd => rfl); (case hg => rfl); (case hr => first | (go_simp; done) | (go_simp; rfl)); intro gb340 hg w9 hbox hb; have n0_ := Aside0.mk (blk_below (g := gb320) (o := .cells #[.int .i64 0, .int .i64 0, .int .i64 0, .int .i64 0, .int .i64 0, .int .i64 0, .int .i64 0, .int .i64 0, .int .i64 0, .int .i64 0, .int .i64 0, .bool false, .bool false] 25 (0, 0)) Z6_18 hb); have n1_ := Aside0.mk (IsS120.below (by repeat (first | (with_reducible first | exact HI324.out | apply IsS120.alloc | apply IsS120.drewN | apply IsS120.drew | apply IsS120.set_1 | apply IsS120.set_2 | refine IsS120.far ?_ NB324_320.out _) | exact HI324.out)) hb); have n2_ := Aside0.mk (below_step (by repeat (first | (with_reducible first | exact HB.out | apply below_alloc | apply pw_below_drewN | apply below_drew1 | refine below_set ?_ (IsS120.ge HI324.out) | refine below_set ?_ GE320.out) | exact HB.out)) hb); have n3_ := Aside0.mk (hbox); have n4_ := Aside0.mk Z6_6; have n5_ := Aside0.mk Z6_6; have n6_ := Aside0.mk ((by rw [hg]; exact Nat.ne_of_lt (blk_lt (g := gb320) (o := .cells #[.int .i64 0, .int .i64 0, .int .i64 0, .int .i64 0, .int .i64 0, .int .i64 0, .int .i64 0, .int .i64 0, .int .i64 0, .int .i64 0, .int .i64 0, .bool false, .bool false] 25 (0, 0)) Z6_18) : gb320 ≠ gb340)); have n7_ := Aside0.mk ((by rw [hg]; exact Nat.ne_of_gt (blk_lt (g := gb320) (o := .cells #[.int .i64 0, .int .i64 0, .int .i64 0, .int .i64 0, .int .i64 0, .int .i64 0, .int .i64 0, .int .i64 0, .int .i64 0, .int .i64 0, .int .i64 0, .bool false, .bool false] 25 (0, 0)) Z6_18) : gb340 ≠ gb320)); have n8_ := Aside0.mk ((by rw [hg]; exact Nat.ne_of_lt (IsS120.lt (show IsS120 w _ g324 t321 t338 t339 from by repeat (first | (with_reducible first | exact HI324.out | apply IsS120.alloc | apply IsS120.drewN | apply IsS120.drew | apply IsS120.set_1 | apply IsS120.set_2 | refine IsS120.far ?_ NB324_320.out _) | exact HI324.out))) : g324 ≠ gb340)); have n9_ := Aside0.mk ((by rw [hg]; exact Nat.ne_of_gt (IsS120.lt (show IsS120 w _ g324 t321 t338 t339 from by repeat (first | (with_reducible first | exact HI324.out | apply IsS120.alloc | apply IsS120.drewN | apply IsS120.drew | apply IsS120.set_1 | apply IsS120.set_2 | refine IsS120.far ?_ NB324_320.out _) | exact HI324.out))) : gb340 ≠ g324)); clear BK320; clear HI324; clear HB; have BK320 := n0_; have HI324 := n1_; have HB := n2_; have BK340 := n3_; have GW340 := n4_; have GE340 := n5_; have NB320_340 := n6_; have NB340_320 := n7_; have NB324_340 := n8_; have NB340_324 := n9_; clear n0_ n1_ n2_ n3_ n4_ n5_ n6_ n7_ n8_ n9_; clear hb hbox hg; have hnb10 := NB340_320.out; have hnc10 := NB320_340.out; have hnb11 := NB340_324.out; have hnc11 := NB324_340.out; obtain ⟨⟨hcz12_0, hcz12_1, hcz12_2, hcz12_3, hcz12_4, hcz12_5, hcz12_6, hcz12_7, hcz12_8, hcz12_9, hcz12_10, hcz12_11, hcz12_12⟩, hfz12_0, hfz12_1, hfz12_2, hfz12_3, hfz12_4, hfz12_5, hfz12_6, hfz12_7, hfz12_8, hfz12_9, hfz12_10, hfz12_11, hfz12_12⟩ := C6_13 BK340.out))
  have n0_ : Aside0 ((((((((((((((w9.setCell ⟨gb340, 0, none⟩ (.int .i64 t325)).setCell ⟨gb340, 1, none⟩ (.int .i64 t326)).setCell ⟨gb340, 2, none⟩ (.int .i64 t327)).setCell ⟨gb340, 3, none⟩ (.int .i64 t328)).setCell ⟨gb340, 4, none⟩ (.int .i64 t329)).setCell ⟨gb340, 5, none⟩ (.int .i64 t330)).setCell ⟨gb340, 6, none⟩ (.int .i64 t331)).setCell ⟨gb340, 7, none⟩ (.int .i64 t332)).setCell ⟨gb340, 8, none⟩ (.int .i64 t333)).setCell ⟨gb340, 9, none⟩ (.int .i64 t334)).setCell ⟨gb340, 10, none⟩ (.int .i64 t335)).setCell ⟨gb340, 11, none⟩ (.bool t336)).setCell ⟨gb340, 12, none⟩ (.bool t337)).heap[gb320]? = some (.cells #[.int .i64 0, .int .i64 0, .int .i64 0, .int .i64 0, .int .i64 0, .int .i64 0, .int .i64 0, .int .i64 0, .int .i64 0, .int .i64 0, .int .i64 0, .bool false, .bool false] 25 (0, 0))) := ⟨(by (with_reducible repeat (first | refine blk_drewN ?_ _ | refine blk_drew ?_ | refine blk_alloc ?_ _)); refine blk_far ?_ NB320_340.out _; (with_reducible repeat (first | refine blk_drewN ?_ _ | refine blk_drew ?_ | refine blk_alloc ?_ _)); refine blk_far ?_ NB320_340.out _; (with_reducible repeat (first | refine blk_drewN ?_ _ | refine blk_drew ?_ | refine blk_alloc ?_ _)); refine blk_far ?_ NB320_340.out _; (with_reducible repeat (first | refine blk_drewN ?_ _ | refine blk_drew ?_ | refine blk_alloc ?_ _)); refine blk_far ?_ NB320_340.out _; (with_reducible repeat (first | refine blk_drewN ?_ _ | refine blk_drew ?_ | refine blk_alloc ?_ _)); refine blk_far ?_ NB320_340.out _; (with_reducible repeat (first | refine blk_drewN ?_ _ | refine blk_drew ?_ | refine blk_alloc ?_ _)); refine blk_far ?_ NB320_340.out _; (with_reducible repeat (first | refine blk_drewN ?_ _ | refine blk_drew ?_ | refine blk_alloc ?_ _)); refine blk_far ?_ NB320_340.out _; (with_reducible repeat (first | refine blk_drewN ?_ _ | refine blk_drew ?_ | refine blk_alloc ?_ _)); refine blk_far ?_ NB320_340.out _; (with_reducible repeat (first | refine blk_drewN ?_ _ | refine blk_drew ?_ | refine blk_alloc ?_ _)); refine blk_far ?_ NB320_340.out _; (with_reducible repeat (first | refine blk_drewN ?_ _ | refine blk_drew ?_ | refine blk_alloc ?_ _)); refine blk_far ?_ NB320_340.out _; (with_reducible repeat (first | refine blk_drewN ?_ _ | refine blk_drew ?_ | refine blk_alloc ?_ _)); refine blk_far ?_ NB320_340.out _; (with_reducible repeat (first | refine blk_drewN ?_ _ | refine blk_drew ?_ | refine blk_alloc ?_ _)); refine blk_far ?_ NB320_340.out _; (with_reducible repeat (first | refine blk_drewN ?_ _ | refine blk_drew ?_ | refine blk_alloc ?_ _)); refine blk_far ?_ NB320_340.out _; (with_reducible repeat (first | refine blk_drewN ?_ _ | refine blk_drew ?_ | refine blk_alloc ?_ _)); exact BK320.out)⟩
  have n1_ : Aside0 ((((((((((((((w9.setCell ⟨gb340, 0, none⟩ (.int .i64 t325)).setCell ⟨gb340, 1, none⟩ (.int .i64 t326)).setCell ⟨gb340, 2, none⟩ (.int .i64 t327)).setCell ⟨gb340, 3, none⟩ (.int .i64 t328)).setCell ⟨gb340, 4, none⟩ (.int .i64 t329)).setCell ⟨gb340, 5, none⟩ (.int .i64 t330)).setCell ⟨gb340, 6, none⟩ (.int .i64 t331)).setCell ⟨gb340, 7, none⟩ (.int .i64 t332)).setCell ⟨gb340, 8, none⟩ (.int .i64 t333)).setCell ⟨gb340, 9, none⟩ (.int .i64 t334)).setCell ⟨gb340, 10, none⟩ (.int .i64 t335)).setCell ⟨gb340, 11, none⟩ (.bool t336)).setCell ⟨gb340, 12, none⟩ (.bool t337)).heap[gb340]? = some (.cells #[.int .i64 t325, .int .i64 t326, .int .i64 t327, .int .i64 t328, .int .i64 t329, .int .i64 t330, .int .i64 t331, .int .i64 t332, .int .i64 t333, .int .i64 t334, .int .i64 t335, .bool t336, .bool t337] 25 (0, 0))) := ⟨(by (with_reducible repeat (first | refine blk_drewN ?_ _ | refine blk_drew ?_ | refine blk_alloc ?_ _)); apply E6_13; (with_reducible repeat (first | refine blk_drewN ?_ _ | refine blk_drew ?_ | refine blk_alloc ?_ _)); exact BK340.out)⟩
  have n2_ : Aside0 (IsS120 w (((((((((((((w9.setCell ⟨gb340, 0, none⟩ (.int .i64 t325)).setCell ⟨gb340, 1, none⟩ (.int .i64 t326)).setCell ⟨gb340, 2, none⟩ (.int .i64 t327)).setCell ⟨gb340, 3, none⟩ (.int .i64 t328)).setCell ⟨gb340, 4, none⟩ (.int .i64 t329)).setCell ⟨gb340, 5, none⟩ (.int .i64 t330)).setCell ⟨gb340, 6, none⟩ (.int .i64 t331)).setCell ⟨gb340, 7, none⟩ (.int .i64 t332)).setCell ⟨gb340, 8, none⟩ (.int .i64 t333)).setCell ⟨gb340, 9, none⟩ (.int .i64 t334)).setCell ⟨gb340, 10, none⟩ (.int .i64 t335)).setCell ⟨gb340, 11, none⟩ (.bool t336)).setCell ⟨gb340, 12, none⟩ (.bool t337)) g324 t321 t338 t339) := ⟨(by repeat (first | (with_reducible first | exact HI324.out | apply IsS120.alloc | apply IsS120.drewN | apply IsS120.drew | apply IsS120.set_1 | apply IsS120.set_2 | refine IsS120.far ?_ NB324_320.out _ | refine IsS120.far ?_ NB324_340.out _) | exact HI324.out))⟩
  have n3_ : Aside0 (Below w.heap.size w (((((((((((((w9.setCell ⟨gb340, 0, none⟩ (.int .i64 t325)).setCell ⟨gb340, 1, none⟩ (.int .i64 t326)).setCell ⟨gb340, 2, none⟩ (.int .i64 t327)).setCell ⟨gb340, 3, none⟩ (.int .i64 t328)).setCell ⟨gb340, 4, none⟩ (.int .i64 t329)).setCell ⟨gb340, 5, none⟩ (.int .i64 t330)).setCell ⟨gb340, 6, none⟩ (.int .i64 t331)).setCell ⟨gb340, 7, none⟩ (.int .i64 t332)).setCell ⟨gb340, 8, none⟩ (.int .i64 t333)).setCell ⟨gb340, 9, none⟩ (.int .i64 t334)).setCell ⟨gb340, 10, none⟩ (.int .i64 t335)).setCell ⟨gb340, 11, none⟩ (.bool t336)).setCell ⟨gb340, 12, none⟩ (.bool t337))) := ⟨Z6_9⟩
  (try clear BK320)
  (try clear BK340)
  (try clear HI324)
  (try clear HB)
  generalize (((((((((((((w9.setCell ⟨gb340, 0, none⟩ (.int .i64 t325)).setCell ⟨gb340, 1, none⟩ (.int .i64 t326)).setCell ⟨gb340, 2, none⟩ (.int .i64 t327)).setCell ⟨gb340, 3, none⟩ (.int .i64 t328)).setCell ⟨gb340, 4, none⟩ (.int .i64 t329)).setCell ⟨gb340, 5, none⟩ (.int .i64 t330)).setCell ⟨gb340, 6, none⟩ (.int .i64 t331)).setCell ⟨gb340, 7, none⟩ (.int .i64 t332)).setCell ⟨gb340, 8, none⟩ (.int .i64 t333)).setCell ⟨gb340, 9, none⟩ (.int .i64 t334)).setCell ⟨gb340, 10, none⟩ (.int .i64 t335)).setCell ⟨gb340, 11, none⟩ (.bool t336)).setCell ⟨gb340, 12, none⟩ (.bool t337)) = w13 at n0_ n1_ n2_ n3_ ⊢
  have BK320 := n0_
  have BK340 := n1_
  have HI324 := n2_
  have HB := n3_
  clear n0_ n1_ n2_ n3_
  have n0_ := Aside0.mk (blk_drew BK320.out)
  have n1_ := Aside0.mk (blk_drew BK340.out)
  have n2_ := Aside0.mk (IsS120.drew HI324.out)
  have n3_ := Aside0.mk (below_drew1 HB.out)
  clear BK320
  clear BK340
  clear HI324
  clear HB
  have BK320 := n0_
  have BK340 := n1_
  have HI324 := n2_
  have HB := n3_
  clear n0_ n1_ n2_ n3_
  refine start_ (n := 8) (S := fun w' => w'.cell? ⟨gb340, 0, none⟩ = some (.int .i64 t325) ∧ w'.cell? ⟨gb340, 1, none⟩ = some (.int .i64 t326) ∧ w'.cell? ⟨gb340, 2, none⟩ = some (.int .i64 t327) ∧ w'.cell? ⟨gb340, 3, none⟩ = some (.int .i64 t328) ∧ w'.cell? ⟨gb340, 4, none⟩ = some (.int .i64 t329) ∧ w'.cell? ⟨gb340, 5, none⟩ = some (.int .i64 t330) ∧ w'.cell? ⟨gb340, 6, none⟩ = some (.int .i64 t331) ∧ w'.cell? ⟨gb340, 7, none⟩ = some (.int .i64 t332) ∧ w'.cell? ⟨gb340, 8, none⟩ = some (.int .i64 t333) ∧ w'.cell? ⟨gb340, 9, none⟩ = some (.int .i64 t334) ∧ w'.cell? ⟨gb340, 10, none⟩ = some (.int .i64 t335) ∧ w'.cell? ⟨gb340, 11, none⟩ = some (.bool t336) ∧ w'.cell? ⟨gb340, 12, none⟩ = some (.bool t337)) (ds := [5]) #[false, false, false, false, false, false, false, false] (by kernel_rfl) rfl rfl ⟨(blk_cell BK340.out 0).trans rfl, (blk_cell BK340.out 1).trans rfl, (blk_cell BK340.out 2).trans rfl, (blk_cell BK340.out 3).trans rfl, (blk_cell BK340.out 4).trans rfl, (blk_cell BK340.out 5).trans rfl, (blk_cell BK340.out 6).trans rfl, (blk_cell BK340.out 7).trans rfl, (blk_cell BK340.out 8).trans rfl, (blk_cell BK340.out 9).trans rfl, (blk_cell BK340.out 10).trans rfl, (blk_cell BK340.out 11).trans rfl, (blk_cell BK340.out 12).trans rfl⟩ (fun hHeld => ?_); refine with_tabW spec_DrawMoved.tab3 spec_DrawMoved.bits3 (fun HT_ HW_ => ?_)
  generalize w13.drew = w14 at BK320 BK340 HI324 HB hHeld ⊢
  refine pure_ (i := 1) (N := some 12) (v := _) (a' := _) (M6_8 2) rfl rfl (any_of HT_.out (by kernel_rfl)) (fun _ _ _ h => h) (Or.inl ⟨(by rfl), (by intro w'; go_simp; with_reducible rfl)⟩) Z6_20 ?_
  refine pure_ (i := 3) (N := some 14) (v := _) (a' := _) (M6_8 10) rfl rfl (any_of HT_.out (by kernel_rfl)) (fun _ _ _ h => h) (Or.inl ⟨(by rfl), (by intro w'; go_simp; with_reducible rfl)⟩) Z6_20 ?_
  refine take_ (i := 0) (N := some 11) (v := _) (a' := _) (M6_8 11) rfl rfl (take_ofW HT_.out HW_.out (by kernel_rfl)) (fun _ _ _ h => h) (Or.inl ⟨(by rfl), (by rintro w' ⟨s0, s1, s2, s3, s4, s5, s6, s7, s8, s9, s10, s11, s12⟩; go_simp; with_reducible rfl)⟩) hHeld Z6_20 ?_
  refine one_ (i := 2) (N := some 13) (M6_8 15) rfl rfl (one_of HT_.out (by kernel_rfl)) (by decide) (fun K hK => ?_)
  refine goes_ Try.func74 (by kernel_rfl) rfl #[.pointer (some ⟨g324, 0, none⟩), .int .i64 5] (by rfl) rfl rfl Z6_15 ?_
  with_reducible refine (spec_l1Below.calls g324 t321 t338 t339 5 t341 t342 t343 w _ ?side1 ?side2 A4.out).mono ?_
  (case side1 => repeat (first | (with_reducible first | exact HI324.out | apply IsS120.alloc | apply IsS120.drewN | apply IsS120.drew | apply IsS120.set_1 | apply IsS120.set_2 | refine IsS120.far ?_ NB324_320.out _ | refine IsS120.far ?_ NB324_340.out _) | exact HI324.out))
  (case side2 => repeat (first | (with_reducible first | exact HB.out | apply below_alloc | apply pw_below_drewN | apply below_drew1 | refine below_set ?_ (IsS120.ge HI324.out) | refine below_set ?_ GE320.out | refine below_set ?_ GE340.out) | exact HB.out))
  rintro e w15 ⟨rfl, hi, hb, hk⟩
  refine ⟨_, rfl, ?_⟩
  have n0_ := Aside0.mk Z6_3
  have n1_ := Aside0.mk Z6_1
  have n2_ := Aside0.mk (hb)
  have n3_ := Aside0.mk (hi)
  clear BK320
  clear BK340
  clear HB
  clear HI324
  have BK320 := n0_
  have BK340 := n1_
  have HB := n2_
  have HI324 := n3_
  clear n0_ n1_ n2_ n3_
  (try clear hb)
  (try clear hb2)
  (try clear hk)
  (try clear hi)
  refine hK.out _ _ (C6_13 BK340.out).1 (fun hHeld => ?_)
  clear hK K
  refine norm_ (a' := ?_) ?_ ?_
  rotate_left
  · show Act.put _ (some 13) _ = _
    simp only [Act.put, List.setIfInBounds_toArray, List.set_cons_zero, List.set_cons_succ, i64_w, i32_w]
    rfl
  refine one_ (i := 4) (N := some 15) (M6_8 31) rfl rfl (one_of HT_.out (by kernel_rfl)) (by decide) (fun K hK => ?_)
  refine goes_ Try.func74 (by kernel_rfl) rfl #[.pointer (some ⟨g324, 0, none⟩), .int .i64 4] (by rfl) rfl rfl Z6_15 ?_
  with_reducible refine (spec_l1Below.calls g324 t321 t342 t343 4 t344 t345 t346 w _ ?side1 ?side2 A5.out).mono ?_
  (case side1 => repeat (first | (with_reducible first | exact HI324.out | apply IsS120.alloc | apply IsS120.drewN | apply IsS120.drew | apply IsS120.set_1 | apply IsS120.set_2 | refine IsS120.far ?_ NB324_320.out _ | refine IsS120.far ?_ NB324_340.out _) | exact HI324.out))
  (case side2 => repeat (first | (with_reducible first | exact HB.out | apply below_alloc | apply pw_below_drewN | apply below_drew1 | refine below_set ?_ (IsS120.ge HI324.out) | refine below_set ?_ GE320.out | refine below_set ?_ GE340.out) | exact HB.out))
  rintro e w16 ⟨rfl, hi, hb, hk⟩
  refine ⟨_, rfl, ?_⟩
  have n0_ := Aside0.mk Z6_3
  have n1_ := Aside0.mk Z6_1
  have n2_ := Aside0.mk (hb)
  have n3_ := Aside0.mk (hi)
  clear BK320
  clear BK340
  clear HB
  clear HI324
  have BK320 := n0_
  have BK340 := n1_
  have HB := n2_
  have HI324 := n3_
  clear n0_ n1_ n2_ n3_
  (try clear hb)
  (try clear hb2)
  (try clear hk)
  (try clear hi)
  refine hK.out _ _ (C6_13 BK340.out).1 (fun hHeld => ?_)
  clear hK K
  refine norm_ (a' := ?_) ?_ ?_
  rotate_left
  · show Act.put _ (some 15) _ = _
    simp only [Act.put, List.setIfInBounds_toArray, List.set_cons_zero, List.set_cons_succ, i64_w, i32_w]
    rfl
  refine last_ (i := 5) (N := none) (M6_8 63) rfl rfl (one_of HT_.out (by kernel_rfl)) (by decide) (fun K hK => ?_)
  obtain ⟨⟨hs17, hs18, hs19, hs20, hs21, hs22, hs23, hs24, hs25, hs26, hs27, hs28, hs29⟩, hfs17, hfs18, hfs19, hfs20, hfs21, hfs22, hfs23, hfs24, hfs25, hfs26, hfs27, hfs28, hfs29⟩ := C6_13 BK320.out
  have hns17_1 := NB340_320.out
  have hms17_1 := NB320_340.out
  refine skip_ (w1 := ?_) (by rfl) rfl ?_ ?_
  rotate_left
  · go_simp
    rfl
  refine hK.out _ _ ?_
  clear hK K
  refine pure_ (i := 6) (N := some 3) (v := _) (a' := _) (M6_8 127) rfl rfl (any_of HT_.out (by kernel_rfl)) (fun _ _ _ h => h) (Or.inl ⟨(by rfl), (by intro w'; go_simp; with_reducible rfl)⟩) Z6_20 ?_
  refine pure_ (i := 7) (N := some 4) (v := _) (a' := _) (M6_8 255) rfl rfl (any_of HT_.out (by kernel_rfl)) (fun _ _ _ h => h) (Or.inl ⟨(by rfl), (by intro w'; go_simp; with_reducible rfl)⟩) Z6_20 ?_
  refine done_ (done_of HT_.out (by kernel_rfl)) ?_
  try go_wp2
  refine bodyPost_ret (results_ctt rfl _ _ gb320 25 #[.int .i64 t325, .int .i64 t326, .int .i64 t327, .int .i64 t328, .int .i64 t329, .int .i64 t330, .int .i64 t331, .int .i64 t332, .int .i64 t333, .int .i64 t334, .int .i64 t335, .bool t336, .bool t337] (0, 0) _ rfl (by (with_reducible repeat (first | refine blk_drewN ?_ _ | refine blk_drew ?_ | refine blk_alloc ?_ _)); apply E6_13; (with_reducible repeat (first | refine blk_drewN ?_ _ | refine blk_drew ?_ | refine blk_alloc ?_ _)); exact BK320.out) Try.underlying25 rfl (by kernel_rfl)) rfl ?_
  exact ⟨Z6_21, Z6_9⟩

/-! ### impl_Moved: function 16 -/
def impl_Moved.f (a0_0 : Int) (a0_1 : Int) (a0_2 : Int) (a0_3 : Int) (a0_4 : Int) (a0_5 : Int) (a0_6 : Int) (a0_7 : Int) (a0_8 : Int) (a0_9 : Int) (a0_10 : Int) (a0_11 : Bool) (a0_12 : Bool) (a1 : Int) (a2 : Int) : Option (Int × Int × Int × Int × Int × Int × Int × Int × Int × Int × Int × Bool × Bool) := some (a0_0, a0_1, a0_1, a1, a2, a0_5, a0_6, a0_7, 0, 0, 0, false, false)
set_option maxHeartbeats 8000000 in
set_option maxRecDepth 100000 in
theorem impl_Moved.calls (a0_0 : Int) (a0_1 : Int) (a0_2 : Int) (a0_3 : Int) (a0_4 : Int) (a0_5 : Int) (a0_6 : Int) (a0_7 : Int) (a0_8 : Int) (a0_9 : Int) (a0_10 : Int) (a0_11 : Bool) (a0_12 : Bool) (a1 : Int) (a2 : Int) (r1 : Int) (r2 : Int) (r3 : Int) (r4 : Int) (r5 : Int) (r6 : Int) (r7 : Int) (r8 : Int) (r9 : Int) (r10 : Int) (r11 : Int) (r12 : Bool) (r13 : Bool) (w : World) (h : impl_Moved.f a0_0 a0_1 a0_2 a0_3 a0_4 a0_5 a0_6 a0_7 a0_8 a0_9 a0_10 a0_11 a0_12 a1 a2 = some (r1, r2, r3, r4, r5, r6, r7, r8, r9, r10, r11, r12, r13)) :
    Calls Try.prog 16 #[.agg #[.int .i64 a0_0, .int .i64 a0_1, .int .i64 a0_2, .int .i64 a0_3, .int .i64 a0_4, .int .i64 a0_5, .int .i64 a0_6, .int .i64 a0_7, .int .i64 a0_8, .int .i64 a0_9, .int .i64 a0_10, .bool a0_11, .bool a0_12], .int .i64 a1, .int .i64 a2] w fun e w' => e = .returned (.agg #[.int .i64 r1, .int .i64 r2, .int .i64 r3, .int .i64 r4, .int .i64 r5, .int .i64 r6, .int .i64 r7, .int .i64 r8, .int .i64 r9, .int .i64 r10, .int .i64 r11, .bool r12, .bool r13]) ∧ Below w.heap.size w w' := by
  have hu25 := Try.underlying25
  have HB := Aside0.mk (Below.refl w.heap.size w)
  have H : (some (a0_0, a0_1, a0_1, a1, a2, a0_5, a0_6, a0_7, 0, 0, 0, false, false)) = some (r1, r2, r3, r4, r5, r6, r7, r8, r9, r10, r11, r12, r13) := h
  clear h
  simp only [Option.some.injEq, Prod.mk.injEq] at H
  obtain ⟨rfl, rfl, rfl, rfl, rfl, rfl, rfl, rfl, rfl, rfl, rfl, rfl, rfl⟩ := H
  go_enter Try.func16, Try.ntmps16
  go_wp2_with (first | ((with_reducible refine gate_dst (N := 3) rfl ?_); refine box_event ?hg (N := 3) ?hd (cs := #[.int .i64 a0_0, .int .i64 a0_1, .int .i64 a0_2, .int .i64 a0_3, .int .i64 a0_4, .int .i64 a0_5, .int .i64 a0_6, .int .i64 a0_7, .int .i64 a0_8, .int .i64 a0_9, .int .i64 a0_10, .bool a0_11, .bool a0_12]) (t := 25) ?hr ?_; (case hd => rfl); (case hg => rfl); (case hr => first | (go_simp; done) | (go_simp; rfl)); intro gb347 hg w4 hbox hb; have n0_ := Aside0.mk Z6_14; have n1_ := Aside0.mk (hbox); have n2_ := Aside0.mk Z6_13; have n3_ := Aside0.mk Z6_13; clear HB; have HB := n0_; have BK347 := n1_; have GW347 := n2_; have GE347 := n3_; clear n0_ n1_ n2_ n3_; clear hb hbox hg) | ((with_reducible refine gate_dst (N := 6) rfl ?_); refine box_event ?hg (N := 6) ?hd (cs := #[.int .i64 0, .int .i64 0, .int .i64 0, .int .i64 0, .int .i64 0, .int .i64 0, .int .i64 0, .int .i64 0, .int .i64 0, .int .i64 0, .int .i64 0, .bool false, .bool false]) (t := 25) ?hr ?_; (case hd => rfl); (case hg => rfl); (case hr => first | (go_simp; done) | (go_simp; rfl)); intro gb348 hg w5 hbox hb; have n0_ := Aside0.mk (blk_below (g := gb347) (o := .cells #[.int .i64 a0_0, .int .i64 a0_1, .int .i64 a0_2, .int .i64 a0_3, .int .i64 a0_4, .int .i64 a0_5, .int .i64 a0_6, .int .i64 a0_7, .int .i64 a0_8, .int .i64 a0_9, .int .i64 a0_10, .bool a0_11, .bool a0_12] 25 (0, 0)) Z6_19 hb); have n1_ := Aside0.mk (below_step (by repeat (first | (with_reducible first | exact HB.out | apply below_alloc | apply pw_below_drewN | apply below_drew1 | refine below_set ?_ GE347.out) | exact HB.out)) hb); have n2_ := Aside0.mk (hbox); have n3_ := Aside0.mk Z6_10; have n4_ := Aside0.mk Z6_10; have n5_ := Aside0.mk ((by rw [hg]; exact Nat.ne_of_lt (blk_lt (g := gb347) (o := .cells #[.int .i64 a0_0, .int .i64 a0_1, .int .i64 a0_2, .int .i64 a0_3, .int .i64 a0_4, .int .i64 a0_5, .int .i64 a0_6, .int .i64 a0_7, .int .i64 a0_8, .int .i64 a0_9, .int .i64 a0_10, .bool a0_11, .bool a0_12] 25 (0, 0)) Z6_19) : gb347 ≠ gb348)); have n6_ := Aside0.mk ((by rw [hg]; exact Nat.ne_of_gt (blk_lt (g := gb347) (o := .cells #[.int .i64 a0_0, .int .i64 a0_1, .int .i64 a0_2, .int .i64 a0_3, .int .i64 a0_4, .int .i64 a0_5, .int .i64 a0_6, .int .i64 a0_7, .int .i64 a0_8, .int .i64 a0_9, .int .i64 a0_10, .bool a0_11, .bool a0_12] 25 (0, 0)) Z6_19) : gb348 ≠ gb347)); clear BK347; clear HB; have BK347 := n0_; have HB := n1_; have BK348 := n2_; have GW348 := n3_; have GE348 := n4_; have NB347_348 := n5_; have NB348_347 := n6_; clear n0_ n1_ n2_ n3_ n4_ n5_ n6_; clear hb hbox hg; have hnb6 := NB347_348.out; have hnc6 := NB348_347.out; obtain ⟨⟨hcz7_0, hcz7_1, hcz7_2, hcz7_3, hcz7_4, hcz7_5, hcz7_6, hcz7_7, hcz7_8, hcz7_9, hcz7_10, hcz7_11, hcz7_12⟩, hfz7_0, hfz7_1, hfz7_2, hfz7_3, hfz7_4, hfz7_5, hfz7_6, hfz7_7, hfz7_8, hfz7_9, hfz7_10, hfz7_11, hfz7_12⟩ := C6_13 BK347.out; obtain ⟨⟨hcz8_0, hcz8_1, hcz8_2, hcz8_3, hcz8_4, hcz8_5, hcz8_6, hcz8_7, hcz8_8, hcz8_9, hcz8_10, hcz8_11, hcz8_12⟩, hfz8_0, hfz8_1, hfz8_2, hfz8_3, hfz8_4, hfz8_5, hfz8_6, hfz8_7, hfz8_8, hfz8_9, hfz8_10, hfz8_11, hfz8_12⟩ := C6_13 BK348.out))
  refine bodyPost_ret (results_cell_row rfl _ _ gb348 25 #[.int .i64 a0_0, .int .i64 a0_1, .int .i64 a0_1, .int .i64 a1, .int .i64 a2, .int .i64 a0_5, .int .i64 a0_6, .int .i64 a0_7, .int .i64 0, .int .i64 0, .int .i64 0, .bool false, .bool false] (0, 0) _ rfl (by (with_reducible repeat (first | refine blk_drewN ?_ _ | refine blk_drew ?_ | refine blk_alloc ?_ _)); apply E6_13; (with_reducible repeat (first | refine blk_drewN ?_ _ | refine blk_drew ?_ | refine blk_alloc ?_ _)); exact BK348.out) Try.underlying25 rfl (by kernel_rfl)) rfl ?_
  exact ⟨Z6_21, (by repeat (first | (with_reducible first | exact HB.out | apply below_alloc | apply pw_below_drewN | apply below_drew1 | refine below_set ?_ GE347.out | refine below_set ?_ GE348.out) | exact HB.out))⟩

end Go.Proofs.Ytfkidiagmekleaa.QAll
