-- Written by a program of this session (patch_print.py over the print).
import Derived.Test.YtfkidiagmekleaaQAllx0
import Derived.Test.YtfkidiagmekleaaQAllx1
import Derived.Test.YtfkidiagmekleaaQAllx3
import Derived.Test.YtfkidiagmekleaaQAllx5
import Derived.Test.YtfkidiagmekleaaQAllx6
import Derived.Test.YtfkidiagmekleaaQAllx7
import Derived.Test.YtfkidiagmekleaaQAllx9
import Derived.Test.YtfkidiagmekleaaQAllx11
import Derived.Test.YtfkidiagmekleaaQAllx12
import Derived.Test.YtfkidiagmekleaaQAllx13
namespace Go.Proofs.Ytfkidiagmekleaa.QAll
open Go.RowKit Go.Proofs.YtfkidiagmekleaaW.PrintWords Go.Proofs.YtfkidiagmekleaaW.PrintLast Go.Proofs.YtfkidiagmekleaaW.PrintMore
attribute [local go_sem] max2_int min2_int max_two min_two max_three min_three max_four min_four   -- for this text's walks alone
set_option linter.unusedVariables false
set_option linter.unusedSimpArgs false
attribute [local go_sem high] eqA25

def M14_39 (k : Nat) : Array Bool := ((List.range 39).map fun j => k.testBit j).toArray
def M14_45 (k : Nat) : Array Bool := ((List.range 45).map fun j => k.testBit j).toArray
theorem C14_13 {W : World} {g : Nat} {T : TypeId} {v0 v1 v2 v3 v4 v5 v6 v7 v8 v9 v10 v11 v12 : Value} (h : W.heap[g]? = some (.cells #[v0, v1, v2, v3, v4, v5, v6, v7, v8, v9, v10, v11, v12] T (0, 0))) : (W.cell? ⟨g, 0, none⟩ = some v0 ∧ W.cell? ⟨g, 1, none⟩ = some v1 ∧ W.cell? ⟨g, 2, none⟩ = some v2 ∧ W.cell? ⟨g, 3, none⟩ = some v3 ∧ W.cell? ⟨g, 4, none⟩ = some v4 ∧ W.cell? ⟨g, 5, none⟩ = some v5 ∧ W.cell? ⟨g, 6, none⟩ = some v6 ∧ W.cell? ⟨g, 7, none⟩ = some v7 ∧ W.cell? ⟨g, 8, none⟩ = some v8 ∧ W.cell? ⟨g, 9, none⟩ = some v9 ∧ W.cell? ⟨g, 10, none⟩ = some v10 ∧ W.cell? ⟨g, 11, none⟩ = some v11 ∧ W.cell? ⟨g, 12, none⟩ = some v12) ∧ W.frozen? ⟨g, 0, none⟩ = false ∧ W.frozen? ⟨g, 1, none⟩ = false ∧ W.frozen? ⟨g, 2, none⟩ = false ∧ W.frozen? ⟨g, 3, none⟩ = false ∧ W.frozen? ⟨g, 4, none⟩ = false ∧ W.frozen? ⟨g, 5, none⟩ = false ∧ W.frozen? ⟨g, 6, none⟩ = false ∧ W.frozen? ⟨g, 7, none⟩ = false ∧ W.frozen? ⟨g, 8, none⟩ = false ∧ W.frozen? ⟨g, 9, none⟩ = false ∧ W.frozen? ⟨g, 10, none⟩ = false ∧ W.frozen? ⟨g, 11, none⟩ = false ∧ W.frozen? ⟨g, 12, none⟩ = false := ⟨⟨(blk_cell h 0).trans rfl, (blk_cell h 1).trans rfl, (blk_cell h 2).trans rfl, (blk_cell h 3).trans rfl, (blk_cell h 4).trans rfl, (blk_cell h 5).trans rfl, (blk_cell h 6).trans rfl, (blk_cell h 7).trans rfl, (blk_cell h 8).trans rfl, (blk_cell h 9).trans rfl, (blk_cell h 10).trans rfl, (blk_cell h 11).trans rfl, (blk_cell h 12).trans rfl⟩, blk_frozen h 0, blk_frozen h 1, blk_frozen h 2, blk_frozen h 3, blk_frozen h 4, blk_frozen h 5, blk_frozen h 6, blk_frozen h 7, blk_frozen h 8, blk_frozen h 9, blk_frozen h 10, blk_frozen h 11, blk_frozen h 12⟩
theorem D14_13 {W : World} {g : Nat} {T : TypeId} {v0 v1 v2 v3 v4 v5 v6 v7 v8 v9 v10 v11 v12 : Value} (h : W.heap[g]? = some (.cells #[v0, v1, v2, v3, v4, v5, v6, v7, v8, v9, v10, v11, v12] T (0, 0))) {R : Prop} (r : R) : W.cell? ⟨g, 0, none⟩ = some v0 ∧ W.cell? ⟨g, 1, none⟩ = some v1 ∧ W.cell? ⟨g, 2, none⟩ = some v2 ∧ W.cell? ⟨g, 3, none⟩ = some v3 ∧ W.cell? ⟨g, 4, none⟩ = some v4 ∧ W.cell? ⟨g, 5, none⟩ = some v5 ∧ W.cell? ⟨g, 6, none⟩ = some v6 ∧ W.cell? ⟨g, 7, none⟩ = some v7 ∧ W.cell? ⟨g, 8, none⟩ = some v8 ∧ W.cell? ⟨g, 9, none⟩ = some v9 ∧ W.cell? ⟨g, 10, none⟩ = some v10 ∧ W.cell? ⟨g, 11, none⟩ = some v11 ∧ W.cell? ⟨g, 12, none⟩ = some v12 ∧ R := ⟨(blk_cell h 0).trans rfl, (blk_cell h 1).trans rfl, (blk_cell h 2).trans rfl, (blk_cell h 3).trans rfl, (blk_cell h 4).trans rfl, (blk_cell h 5).trans rfl, (blk_cell h 6).trans rfl, (blk_cell h 7).trans rfl, (blk_cell h 8).trans rfl, (blk_cell h 9).trans rfl, (blk_cell h 10).trans rfl, (blk_cell h 11).trans rfl, (blk_cell h 12).trans rfl, r⟩
theorem E14_13 {W : World} {g : Nat} {T : TypeId} {v0 v1 v2 v3 v4 v5 v6 v7 v8 v9 v10 v11 v12 o0 o1 o2 o3 o4 o5 o6 o7 o8 o9 o10 o11 o12 : Value} (h : W.heap[g]? = some (.cells #[o0, o1, o2, o3, o4, o5, o6, o7, o8, o9, o10, o11, o12] T (0, 0))) : (((((((((((((W.setCell ⟨g, 0, none⟩ v0).setCell ⟨g, 1, none⟩ v1).setCell ⟨g, 2, none⟩ v2).setCell ⟨g, 3, none⟩ v3).setCell ⟨g, 4, none⟩ v4).setCell ⟨g, 5, none⟩ v5).setCell ⟨g, 6, none⟩ v6).setCell ⟨g, 7, none⟩ v7).setCell ⟨g, 8, none⟩ v8).setCell ⟨g, 9, none⟩ v9).setCell ⟨g, 10, none⟩ v10).setCell ⟨g, 11, none⟩ v11).setCell ⟨g, 12, none⟩ v12).heap[g]? = some (.cells #[v0, v1, v2, v3, v4, v5, v6, v7, v8, v9, v10, v11, v12] T (0, 0)) := (blk_put (cs := #[v0, v1, v2, v3, v4, v5, v6, v7, v8, v9, v10, v11, o12]) (blk_put (cs := #[v0, v1, v2, v3, v4, v5, v6, v7, v8, v9, v10, o11, o12]) (blk_put (cs := #[v0, v1, v2, v3, v4, v5, v6, v7, v8, v9, o10, o11, o12]) (blk_put (cs := #[v0, v1, v2, v3, v4, v5, v6, v7, v8, o9, o10, o11, o12]) (blk_put (cs := #[v0, v1, v2, v3, v4, v5, v6, v7, o8, o9, o10, o11, o12]) (blk_put (cs := #[v0, v1, v2, v3, v4, v5, v6, o7, o8, o9, o10, o11, o12]) (blk_put (cs := #[v0, v1, v2, v3, v4, v5, o6, o7, o8, o9, o10, o11, o12]) (blk_put (cs := #[v0, v1, v2, v3, v4, o5, o6, o7, o8, o9, o10, o11, o12]) (blk_put (cs := #[v0, v1, v2, v3, o4, o5, o6, o7, o8, o9, o10, o11, o12]) (blk_put (cs := #[v0, v1, v2, o3, o4, o5, o6, o7, o8, o9, o10, o11, o12]) (blk_put (cs := #[v0, v1, o2, o3, o4, o5, o6, o7, o8, o9, o10, o11, o12]) (blk_put (cs := #[v0, o1, o2, o3, o4, o5, o6, o7, o8, o9, o10, o11, o12]) (blk_put (cs := #[o0, o1, o2, o3, o4, o5, o6, o7, o8, o9, o10, o11, o12]) h 0 _ rfl) 1 _ rfl) 2 _ rfl) 3 _ rfl) 4 _ rfl) 5 _ rfl) 6 _ rfl) 7 _ rfl) 8 _ rfl) 9 _ rfl) 10 _ rfl) 11 _ rfl) 12 _ rfl)
theorem F14_13 {W : World} {g : Nat} {v0 v1 v2 v3 v4 v5 v6 v7 v8 v9 v10 v11 v12 : Value} {a : Addr} (h : a.block ≠ g) : (((((((((((((W.setCell ⟨g, 0, none⟩ v0).setCell ⟨g, 1, none⟩ v1).setCell ⟨g, 2, none⟩ v2).setCell ⟨g, 3, none⟩ v3).setCell ⟨g, 4, none⟩ v4).setCell ⟨g, 5, none⟩ v5).setCell ⟨g, 6, none⟩ v6).setCell ⟨g, 7, none⟩ v7).setCell ⟨g, 8, none⟩ v8).setCell ⟨g, 9, none⟩ v9).setCell ⟨g, 10, none⟩ v10).setCell ⟨g, 11, none⟩ v11).setCell ⟨g, 12, none⟩ v12).cell? a = W.cell? a := by rw [cell_far (p := ⟨g, 12, none⟩) h, cell_far (p := ⟨g, 11, none⟩) h, cell_far (p := ⟨g, 10, none⟩) h, cell_far (p := ⟨g, 9, none⟩) h, cell_far (p := ⟨g, 8, none⟩) h, cell_far (p := ⟨g, 7, none⟩) h, cell_far (p := ⟨g, 6, none⟩) h, cell_far (p := ⟨g, 5, none⟩) h, cell_far (p := ⟨g, 4, none⟩) h, cell_far (p := ⟨g, 3, none⟩) h, cell_far (p := ⟨g, 2, none⟩) h, cell_far (p := ⟨g, 1, none⟩) h, cell_far (p := ⟨g, 0, none⟩) h]
theorem Z14_1 {p : Prop} (h : p := by rintro w' ⟨s0, s1, s2, s3, s4, s5, s6, s7, s8, s9, s10, s11, s12, s13, s14, s15, s16, s17, s18, s19, s20, s21, s22, s23, s24, s25, s26, s27, s28, s29, s30, s31, s32, s33, s34, s35, s36, s37, s38, s39, s40, s41, s42, s43, s44, s45, s46, s47, s48, s49, s50, s51, s52, s53, s54, s55, s56, s57, s58, s59, s60, s61, s62, s63, s64, s65, s66, s67, s68, s69, s70, s71, s72, s73, s74, s75, s76, s77⟩; go_simp; with_reducible rfl) : p := h
theorem Z14_23 {p : Prop} (h : p := by (with_reducible repeat (first | refine blk_drewN ?_ _ | refine blk_drew ?_ | refine blk_alloc ?_ _)); exact BK463.out) : p := h
theorem Z14_2 {p : Prop} (h : p := by exact (blk_below (g := gb463) (o := .cells #[.int .i64 t450, .int .i64 t451, .int .i64 t452, .int .i64 t453, .int .i64 t454, .int .i64 t455, .int .i64 t456, .int .i64 t457, .int .i64 t458, .int .i64 t459, .int .i64 t460, .bool t461, .bool t462] 25 (0, 0)) Z14_23 hb)) : p := h
theorem Z14_24 {p : Prop} (h : p := by (with_reducible repeat (first | refine blk_drewN ?_ _ | refine blk_drew ?_ | refine blk_alloc ?_ _)); exact BK478.out) : p := h
theorem Z14_3 {p : Prop} (h : p := by exact (blk_below (g := gb478) (o := .cells #[.int .i64 t464, .int .i64 t465, .int .i64 t466, .int .i64 t467, .int .i64 t468, .int .i64 t469, .int .i64 t470, .int .i64 t471, .int .i64 t472, .int .i64 t473, .int .i64 t474, .bool t475, .bool t476] 25 (0, 0)) Z14_24 hb)) : p := h
theorem Z14_25 {p : Prop} (h : p := by (with_reducible repeat (first | refine blk_drewN ?_ _ | refine blk_drew ?_ | refine blk_alloc ?_ _)); exact BK494.out) : p := h
theorem Z14_4 {p : Prop} (h : p := by exact (blk_below (g := gb494) (o := .cells #[.int .i64 t479, .int .i64 t480, .int .i64 t481, .int .i64 t482, .int .i64 t483, .int .i64 t484, .int .i64 t485, .int .i64 t486, .int .i64 t487, .int .i64 t488, .int .i64 t489, .bool t490, .bool t491] 25 (0, 0)) Z14_25 hb)) : p := h
theorem Z14_26 {p : Prop} (h : p := by (with_reducible repeat (first | refine blk_drewN ?_ _ | refine blk_drew ?_ | refine blk_alloc ?_ _)); exact BK508.out) : p := h
theorem Z14_5 {p : Prop} (h : p := by exact (blk_below (g := gb508) (o := .cells #[.int .i64 t495, .int .i64 t496, .int .i64 t497, .int .i64 t498, .int .i64 t499, .int .i64 t500, .int .i64 t501, .int .i64 t502, .int .i64 t503, .int .i64 t504, .int .i64 t505, .bool t506, .bool t507] 25 (0, 0)) Z14_26 hb)) : p := h
theorem Z14_27 {p : Prop} (h : p := by (with_reducible repeat (first | refine blk_drewN ?_ _ | refine blk_drew ?_ | refine blk_alloc ?_ _)); exact BK535.out) : p := h
theorem Z14_6 {p : Prop} (h : p := by exact (blk_below (g := gb535) (o := .cells #[.int .i64 t509, .int .i64 t510, .int .i64 t511, .int .i64 t512, .int .i64 t513, .int .i64 t514, .int .i64 t515, .int .i64 t516, .int .i64 t517, .int .i64 t518, .int .i64 t519, .bool t520, .bool t521] 25 (0, 0)) Z14_27 hb)) : p := h
theorem Z14_7 {p : Prop} (h : p := by exact (blk_below (g := gb536) (o := .cells #[.int .i64 t522, .int .i64 t523, .int .i64 t524, .int .i64 t525, .int .i64 t526, .int .i64 t527, .int .i64 t528, .int .i64 t529, .int .i64 t530, .int .i64 t531, .int .i64 t532, .bool t533, .bool t534] 25 (0, 0)) (by (with_reducible repeat (first | refine blk_drewN ?_ _ | refine blk_drew ?_ | refine blk_alloc ?_ _)); exact BK536.out) hb)) : p := h
theorem Z14_8 {p : Prop} (h : p := by exact ((by rw [hg]; exact (below_size (by repeat (first | (with_reducible first | exact HB.out | apply below_alloc | apply pw_below_drewN | apply below_drew1 | refine below_set ?_ GE463.out | refine below_set ?_ GE478.out | refine below_set ?_ GE494.out | refine below_set ?_ GE508.out | refine below_set ?_ GE535.out) | exact HB.out))) : w.heap.size ≤ gb536))) : p := h
theorem Z14_10 {p : Prop} (h : p := by repeat (first | (with_reducible first | exact HB.out | apply below_alloc | apply pw_below_drewN | apply below_drew1 | refine below_set ?_ GE463.out | refine below_set ?_ GE478.out | refine below_set ?_ GE494.out | refine below_set ?_ GE508.out | refine below_set ?_ GE535.out | refine below_set ?_ GE536.out) | exact HB.out)) : p := h
theorem Z14_9 {p : Prop} (h : p := by exact (below_step Z14_10 hb)) : p := h
theorem Z14_11 {p : Prop} (h : p := by exact ((by rw [hg]; exact (below_size (by repeat (first | (with_reducible first | exact HB.out | apply below_alloc | apply pw_below_drewN | apply below_drew1 | refine below_set ?_ GE463.out | refine below_set ?_ GE478.out | refine below_set ?_ GE494.out | refine below_set ?_ GE508.out) | exact HB.out))) : w.heap.size ≤ gb535))) : p := h
theorem Z14_12 {p : Prop} (h : p := by exact ((by rw [hg]; exact (below_size (by repeat (first | (with_reducible first | exact HB.out | apply below_alloc | apply pw_below_drewN | apply below_drew1 | refine below_set ?_ GE463.out | refine below_set ?_ GE478.out | refine below_set ?_ GE494.out) | exact HB.out))) : w.heap.size ≤ gb508))) : p := h
theorem Z14_13 {p : Prop} (h : p := by exact (below_step (by repeat (first | (with_reducible first | exact HB.out | apply below_alloc | apply pw_below_drewN | apply below_drew1 | refine below_set ?_ GE463.out | refine below_set ?_ GE478.out | refine below_set ?_ GE494.out | refine below_set ?_ GE508.out) | exact HB.out)) hb)) : p := h
theorem Z14_14 {p : Prop} (h : p := by exact ((by rw [hg]; exact (below_size (by repeat (first | (with_reducible first | exact HB.out | apply below_alloc | apply pw_below_drewN | apply below_drew1 | refine below_set ?_ GE463.out | refine below_set ?_ GE478.out) | exact HB.out))) : w.heap.size ≤ gb494))) : p := h
theorem Z14_15 {p : Prop} (h : p := by exact (below_step (by repeat (first | (with_reducible first | exact HB.out | apply below_alloc | apply pw_below_drewN | apply below_drew1 | refine below_set ?_ GE463.out | refine below_set ?_ GE478.out | refine below_set ?_ GE494.out) | exact HB.out)) hb)) : p := h
theorem Z14_16 {p : Prop} (h : p := by exact ((by rw [hg]; exact (below_size (by repeat (first | (with_reducible first | exact HB.out | apply below_alloc | apply pw_below_drewN | apply below_drew1 | refine below_set ?_ GE463.out) | exact HB.out))) : w.heap.size ≤ gb478))) : p := h
theorem Z14_17 {p : Prop} (h : p := by exact (below_step (by repeat (first | (with_reducible first | exact HB.out | apply below_alloc | apply pw_below_drewN | apply below_drew1 | refine below_set ?_ GE463.out | refine below_set ?_ GE478.out) | exact HB.out)) hb)) : p := h
theorem Z14_18 {p : Prop} (h : p := by exact ((by rw [hg]; exact (below_size (by repeat (first | (with_reducible first | exact HB.out | apply below_alloc | apply pw_below_drewN | apply below_drew1) | exact HB.out))) : w.heap.size ≤ gb463))) : p := h
theorem Z14_19 {p : Prop} (h : p := by exact (below_step (by repeat (first | (with_reducible first | exact HB.out | apply below_alloc | apply pw_below_drewN | apply below_drew1 | refine below_set ?_ GE463.out) | exact HB.out)) hb)) : p := h
theorem Z14_20 {p : Prop} (h : p := by rintro w' ⟨s0, s1, s2, s3, s4, s5, s6, s7, s8, s9, s10, s11, s12, s13, s14, s15, s16, s17, s18, s19, s20, s21, s22, s23, s24, s25⟩; go_simp; with_reducible rfl) : p := h
theorem Z14_21 {p : Prop} (h : p := by exact (below_step (by repeat (first | (with_reducible first | exact HB.out | apply below_alloc | apply pw_below_drewN | apply below_drew1) | exact HB.out)) hb)) : p := h
theorem Z14_22 {p : Prop} (h : p := by (try simp only [List.map_toArray, List.map_cons, List.map_nil]); first | done | rfl | (simp only [List.length_drop, List.length_take]; rfl)) : p := h
theorem Z14_28 {p : Prop} (h : p := by simp only [Act.put, List.setIfInBounds_toArray, List.set_cons_zero, List.set_cons_succ, i64_w, i32_w]; rfl) : p := h
theorem Z14_29 {p : Prop} (h : p := by first | rfl | (simp [errW_none, errW_some] <;> rfl) | (simp [*, errW_none, errW_some] <;> rfl)) : p := h
/-! ### laws_FnPieces: function 3 -/
def laws_FnPieces.f (k : Nat) (l0 : List Int) : Option (Bool) := (laws_big.f l0).bind fun t449 => (if t449 = true then (some true) else ((spec_DrawPieceOk.f k l0).bind fun bt450 => ((spec_DrawHasTrait.f k l0).bind fun bt464 => ((spec_DrawMoved.f k l0).bind fun bt479 => ((impl_Moved.f bt479.1 bt479.2.1 bt479.2.2.1 bt479.2.2.2.1 bt479.2.2.2.2.1 bt479.2.2.2.2.2.1 bt479.2.2.2.2.2.2.1 bt479.2.2.2.2.2.2.2.1 bt479.2.2.2.2.2.2.2.2.1 bt479.2.2.2.2.2.2.2.2.2.1 bt479.2.2.2.2.2.2.2.2.2.2.1 bt479.2.2.2.2.2.2.2.2.2.2.2.1 bt479.2.2.2.2.2.2.2.2.2.2.2.2.1 bt479.2.2.2.2.2.2.2.2.2.2.2.2.2.1 bt479.2.2.2.2.2.2.2.2.2.2.2.2.2.2).bind fun bt495 => ((spec_DrawSamePiece.f k l0).bind fun bt509 => ((impl_PieceOk.f k bt450.1 bt450.2.1 bt450.2.2.1 bt450.2.2.2.1 bt450.2.2.2.2.1 bt450.2.2.2.2.2.1 bt450.2.2.2.2.2.2.1 bt450.2.2.2.2.2.2.2.1 bt450.2.2.2.2.2.2.2.2.1 bt450.2.2.2.2.2.2.2.2.2.1 bt450.2.2.2.2.2.2.2.2.2.2.1 bt450.2.2.2.2.2.2.2.2.2.2.2.1 bt450.2.2.2.2.2.2.2.2.2.2.2.2).bind fun t537 => ((spec_PieceOk.f k bt450.1 bt450.2.1 bt450.2.2.1 bt450.2.2.2.1 bt450.2.2.2.2.1 bt450.2.2.2.2.2.1 bt450.2.2.2.2.2.2.1 bt450.2.2.2.2.2.2.2.1 bt450.2.2.2.2.2.2.2.2.1 bt450.2.2.2.2.2.2.2.2.2.1 bt450.2.2.2.2.2.2.2.2.2.2.1 bt450.2.2.2.2.2.2.2.2.2.2.2.1 bt450.2.2.2.2.2.2.2.2.2.2.2.2).bind fun t538 => (if (t537 != t538) = true then (some false) else ((impl_HasTrait.f bt464.1 bt464.2.1 bt464.2.2.1 bt464.2.2.2.1 bt464.2.2.2.2.1 bt464.2.2.2.2.2.1 bt464.2.2.2.2.2.2.1 bt464.2.2.2.2.2.2.2.1 bt464.2.2.2.2.2.2.2.2.1 bt464.2.2.2.2.2.2.2.2.2.1 bt464.2.2.2.2.2.2.2.2.2.2.1 bt464.2.2.2.2.2.2.2.2.2.2.2.1 bt464.2.2.2.2.2.2.2.2.2.2.2.2.1 bt464.2.2.2.2.2.2.2.2.2.2.2.2.2).bind fun t539 => ((spec_HasTrait.f bt464.1 bt464.2.1 bt464.2.2.1 bt464.2.2.2.1 bt464.2.2.2.2.1 bt464.2.2.2.2.2.1 bt464.2.2.2.2.2.2.1 bt464.2.2.2.2.2.2.2.1 bt464.2.2.2.2.2.2.2.2.1 bt464.2.2.2.2.2.2.2.2.2.1 bt464.2.2.2.2.2.2.2.2.2.2.1 bt464.2.2.2.2.2.2.2.2.2.2.2.1 bt464.2.2.2.2.2.2.2.2.2.2.2.2.1 bt464.2.2.2.2.2.2.2.2.2.2.2.2.2).bind fun t540 => (if (t539 != t540) = true then (some false) else ((impl_PowerOf.f bt450.1 bt450.2.1 bt450.2.2.1 bt450.2.2.2.1 bt450.2.2.2.2.1 bt450.2.2.2.2.2.1 bt450.2.2.2.2.2.2.1 bt450.2.2.2.2.2.2.2.1 bt450.2.2.2.2.2.2.2.2.1 bt450.2.2.2.2.2.2.2.2.2.1 bt450.2.2.2.2.2.2.2.2.2.2.1 bt450.2.2.2.2.2.2.2.2.2.2.2.1 bt450.2.2.2.2.2.2.2.2.2.2.2.2).bind fun t541 => ((spec_PowerOf.f bt450.1 bt450.2.1 bt450.2.2.1 bt450.2.2.2.1 bt450.2.2.2.2.1 bt450.2.2.2.2.2.1 bt450.2.2.2.2.2.2.1 bt450.2.2.2.2.2.2.2.1 bt450.2.2.2.2.2.2.2.2.1 bt450.2.2.2.2.2.2.2.2.2.1 bt450.2.2.2.2.2.2.2.2.2.2.1 bt450.2.2.2.2.2.2.2.2.2.2.2.1 bt450.2.2.2.2.2.2.2.2.2.2.2.2).bind fun t542 => (if t541 = t542 then ((impl_ToughOf.f bt450.1 bt450.2.1 bt450.2.2.1 bt450.2.2.2.1 bt450.2.2.2.2.1 bt450.2.2.2.2.2.1 bt450.2.2.2.2.2.2.1 bt450.2.2.2.2.2.2.2.1 bt450.2.2.2.2.2.2.2.2.1 bt450.2.2.2.2.2.2.2.2.2.1 bt450.2.2.2.2.2.2.2.2.2.2.1 bt450.2.2.2.2.2.2.2.2.2.2.2.1 bt450.2.2.2.2.2.2.2.2.2.2.2.2).bind fun t543 => ((spec_ToughOf.f bt450.1 bt450.2.1 bt450.2.2.1 bt450.2.2.2.1 bt450.2.2.2.2.1 bt450.2.2.2.2.2.1 bt450.2.2.2.2.2.2.1 bt450.2.2.2.2.2.2.2.1 bt450.2.2.2.2.2.2.2.2.1 bt450.2.2.2.2.2.2.2.2.2.1 bt450.2.2.2.2.2.2.2.2.2.2.1 bt450.2.2.2.2.2.2.2.2.2.2.2.1 bt450.2.2.2.2.2.2.2.2.2.2.2.2).bind fun t544 => (if t543 = t544 then ((spec_Moved.f bt479.1 bt479.2.1 bt479.2.2.1 bt479.2.2.2.1 bt479.2.2.2.2.1 bt479.2.2.2.2.2.1 bt479.2.2.2.2.2.2.1 bt479.2.2.2.2.2.2.2.1 bt479.2.2.2.2.2.2.2.2.1 bt479.2.2.2.2.2.2.2.2.2.1 bt479.2.2.2.2.2.2.2.2.2.2.1 bt479.2.2.2.2.2.2.2.2.2.2.2.1 bt479.2.2.2.2.2.2.2.2.2.2.2.2.1 bt479.2.2.2.2.2.2.2.2.2.2.2.2.2.1 bt479.2.2.2.2.2.2.2.2.2.2.2.2.2.2).bind fun bt545 => (if (!(bt495.1 == bt545.1) || (!(bt495.2.1 == bt545.2.1) || (!(bt495.2.2.1 == bt545.2.2.1) || (!(bt495.2.2.2.1 == bt545.2.2.2.1) || (!(bt495.2.2.2.2.1 == bt545.2.2.2.2.1) || (!(bt495.2.2.2.2.2.1 == bt545.2.2.2.2.2.1) || (!(bt495.2.2.2.2.2.2.1 == bt545.2.2.2.2.2.2.1) || (!(bt495.2.2.2.2.2.2.2.1 == bt545.2.2.2.2.2.2.2.1) || (!(bt495.2.2.2.2.2.2.2.2.1 == bt545.2.2.2.2.2.2.2.2.1) || (!(bt495.2.2.2.2.2.2.2.2.2.1 == bt545.2.2.2.2.2.2.2.2.2.1) || (!(bt495.2.2.2.2.2.2.2.2.2.2.1 == bt545.2.2.2.2.2.2.2.2.2.2.1) || (!(bt495.2.2.2.2.2.2.2.2.2.2.2.1 == bt545.2.2.2.2.2.2.2.2.2.2.2.1) || (!(bt495.2.2.2.2.2.2.2.2.2.2.2.2 == bt545.2.2.2.2.2.2.2.2.2.2.2.2)))))))))))))) = true then (some false) else ((impl_SamePiece.f bt509.1 bt509.2.1 bt509.2.2.1 bt509.2.2.2.1 bt509.2.2.2.2.1 bt509.2.2.2.2.2.1 bt509.2.2.2.2.2.2.1 bt509.2.2.2.2.2.2.2.1 bt509.2.2.2.2.2.2.2.2.1 bt509.2.2.2.2.2.2.2.2.2.1 bt509.2.2.2.2.2.2.2.2.2.2.1 bt509.2.2.2.2.2.2.2.2.2.2.2.1 bt509.2.2.2.2.2.2.2.2.2.2.2.2.1 bt509.2.2.2.2.2.2.2.2.2.2.2.2.2.1 bt509.2.2.2.2.2.2.2.2.2.2.2.2.2.2.1 bt509.2.2.2.2.2.2.2.2.2.2.2.2.2.2.2.1 bt509.2.2.2.2.2.2.2.2.2.2.2.2.2.2.2.2.1 bt509.2.2.2.2.2.2.2.2.2.2.2.2.2.2.2.2.2.1 bt509.2.2.2.2.2.2.2.2.2.2.2.2.2.2.2.2.2.2.1 bt509.2.2.2.2.2.2.2.2.2.2.2.2.2.2.2.2.2.2.2.1 bt509.2.2.2.2.2.2.2.2.2.2.2.2.2.2.2.2.2.2.2.2.1 bt509.2.2.2.2.2.2.2.2.2.2.2.2.2.2.2.2.2.2.2.2.2.1 bt509.2.2.2.2.2.2.2.2.2.2.2.2.2.2.2.2.2.2.2.2.2.2.1 bt509.2.2.2.2.2.2.2.2.2.2.2.2.2.2.2.2.2.2.2.2.2.2.2.1 bt509.2.2.2.2.2.2.2.2.2.2.2.2.2.2.2.2.2.2.2.2.2.2.2.2.1 bt509.2.2.2.2.2.2.2.2.2.2.2.2.2.2.2.2.2.2.2.2.2.2.2.2.2).bind fun t558 => (if (t558 != (bt509.1 == bt509.2.2.2.2.2.2.2.2.2.2.2.2.2.1 && (bt509.2.1 == bt509.2.2.2.2.2.2.2.2.2.2.2.2.2.2.1 && (bt509.2.2.1 == bt509.2.2.2.2.2.2.2.2.2.2.2.2.2.2.2.1 && (bt509.2.2.2.1 == bt509.2.2.2.2.2.2.2.2.2.2.2.2.2.2.2.2.1 && (bt509.2.2.2.2.1 == bt509.2.2.2.2.2.2.2.2.2.2.2.2.2.2.2.2.2.1 && (bt509.2.2.2.2.2.1 == bt509.2.2.2.2.2.2.2.2.2.2.2.2.2.2.2.2.2.2.1 && (bt509.2.2.2.2.2.2.1 == bt509.2.2.2.2.2.2.2.2.2.2.2.2.2.2.2.2.2.2.2.1 && (bt509.2.2.2.2.2.2.2.1 == bt509.2.2.2.2.2.2.2.2.2.2.2.2.2.2.2.2.2.2.2.2.1 && (bt509.2.2.2.2.2.2.2.2.1 == bt509.2.2.2.2.2.2.2.2.2.2.2.2.2.2.2.2.2.2.2.2.2.1 && (bt509.2.2.2.2.2.2.2.2.2.1 == bt509.2.2.2.2.2.2.2.2.2.2.2.2.2.2.2.2.2.2.2.2.2.2.1 && (bt509.2.2.2.2.2.2.2.2.2.2.1 == bt509.2.2.2.2.2.2.2.2.2.2.2.2.2.2.2.2.2.2.2.2.2.2.2.1 && (bt509.2.2.2.2.2.2.2.2.2.2.2.1 == bt509.2.2.2.2.2.2.2.2.2.2.2.2.2.2.2.2.2.2.2.2.2.2.2.2.1 && (bt509.2.2.2.2.2.2.2.2.2.2.2.2.1 == bt509.2.2.2.2.2.2.2.2.2.2.2.2.2.2.2.2.2.2.2.2.2.2.2.2.2)))))))))))))) = true then (some false) else ((impl_PowerOf.f bt495.1 bt495.2.1 bt495.2.2.1 bt495.2.2.2.1 bt495.2.2.2.2.1 bt495.2.2.2.2.2.1 bt495.2.2.2.2.2.2.1 bt495.2.2.2.2.2.2.2.1 bt495.2.2.2.2.2.2.2.2.1 bt495.2.2.2.2.2.2.2.2.2.1 bt495.2.2.2.2.2.2.2.2.2.2.1 bt495.2.2.2.2.2.2.2.2.2.2.2.1 bt495.2.2.2.2.2.2.2.2.2.2.2.2).bind fun t559 => ((impl_Bound.f bt479.2.2.2.2.2.1).bind fun t560 => (if t559 = t560 then (if bt495.2.2.1 = bt479.2.1 then ((impl_Moved.f bt495.1 bt495.2.1 bt495.2.2.1 bt495.2.2.2.1 bt495.2.2.2.2.1 bt495.2.2.2.2.2.1 bt495.2.2.2.2.2.2.1 bt495.2.2.2.2.2.2.2.1 bt495.2.2.2.2.2.2.2.2.1 bt495.2.2.2.2.2.2.2.2.2.1 bt495.2.2.2.2.2.2.2.2.2.2.1 bt495.2.2.2.2.2.2.2.2.2.2.2.1 bt495.2.2.2.2.2.2.2.2.2.2.2.2 bt479.2.2.2.2.2.2.2.2.2.2.2.2.2.1 bt479.2.2.2.2.2.2.2.2.2.2.2.2.2.2).bind fun bt561 => (if (bt561.1 == bt495.1 && (bt561.2.1 == bt495.2.1 && (bt561.2.2.1 == bt495.2.2.1 && (bt561.2.2.2.1 == bt495.2.2.2.1 && (bt561.2.2.2.2.1 == bt495.2.2.2.2.1 && (bt561.2.2.2.2.2.1 == bt495.2.2.2.2.2.1 && (bt561.2.2.2.2.2.2.1 == bt495.2.2.2.2.2.2.1 && (bt561.2.2.2.2.2.2.2.1 == bt495.2.2.2.2.2.2.2.1 && (bt561.2.2.2.2.2.2.2.2.1 == bt495.2.2.2.2.2.2.2.2.1 && (bt561.2.2.2.2.2.2.2.2.2.1 == bt495.2.2.2.2.2.2.2.2.2.1 && (bt561.2.2.2.2.2.2.2.2.2.2.1 == bt495.2.2.2.2.2.2.2.2.2.2.1 && (bt561.2.2.2.2.2.2.2.2.2.2.2.1 == bt495.2.2.2.2.2.2.2.2.2.2.2.1 && (bt561.2.2.2.2.2.2.2.2.2.2.2.2 == bt495.2.2.2.2.2.2.2.2.2.2.2.2))))))))))))) = true then ((impl_PieceOk.f k bt479.1 bt479.2.1 bt479.2.2.1 bt479.2.2.2.1 bt479.2.2.2.2.1 bt479.2.2.2.2.2.1 bt479.2.2.2.2.2.2.1 bt479.2.2.2.2.2.2.2.1 bt479.2.2.2.2.2.2.2.2.1 bt479.2.2.2.2.2.2.2.2.2.1 bt479.2.2.2.2.2.2.2.2.2.2.1 bt479.2.2.2.2.2.2.2.2.2.2.2.1 bt479.2.2.2.2.2.2.2.2.2.2.2.2.1).bind fun t574 => (if t574 = true then (if bt479.2.2.2.2.2.2.2.2.2.2.2.2.2.1 < 1 then (some true) else (if bt479.2.2.2.2.2.2.2.2.2.2.2.2.2.1 > 4 then (some true) else ((impl_PieceOk.f k bt495.1 bt495.2.1 bt495.2.2.1 bt495.2.2.2.1 bt495.2.2.2.2.1 bt495.2.2.2.2.2.1 bt495.2.2.2.2.2.2.1 bt495.2.2.2.2.2.2.2.1 bt495.2.2.2.2.2.2.2.2.1 bt495.2.2.2.2.2.2.2.2.2.1 bt495.2.2.2.2.2.2.2.2.2.2.1 bt495.2.2.2.2.2.2.2.2.2.2.2.1 bt495.2.2.2.2.2.2.2.2.2.2.2.2).bind fun t575 => (some t575)))) else (some true))) else (some false))) else (some false)) else (some false)))))))) else (some false)))) else (some false))))))))))))))))
theorem laws_FnPieces.mono : ∀ a0 k, LeO (laws_FnPieces.f k a0) (laws_FnPieces.f (k + 1) a0) := by
  intro a0 k
  unfold laws_FnPieces.f
  repeat' first
      | (with_reducible exact impl_PieceOk.mono _ _ _ _ _ _ _ _ _ _ _ _ _ _)
      | (with_reducible exact spec_DrawHasTrait.mono _ _)
      | (with_reducible exact spec_DrawMoved.mono _ _)
      | (with_reducible exact spec_DrawPieceOk.mono _ _)
      | (with_reducible exact spec_DrawSamePiece.mono _ _)
      | (with_reducible exact spec_PieceOk.mono _ _ _ _ _ _ _ _ _ _ _ _ _ _)
      | (with_reducible exact LeO.refl _)
      | (with_reducible exact LeO.none _)
      | (with_reducible refine LeO.ite ?_ ?_)
      | (with_reducible refine LeO.bind ?_ (fun _ => ?_))
      | exact impl_PieceOk.mono _ _ _ _ _ _ _ _ _ _ _ _ _ _
      | exact spec_DrawHasTrait.mono _ _
      | exact spec_DrawMoved.mono _ _
      | exact spec_DrawPieceOk.mono _ _
      | exact spec_DrawSamePiece.mono _ _
      | exact spec_PieceOk.mono _ _ _ _ _ _ _ _ _ _ _ _ _ _
      | exact LeO.none _
      | refine LeO.ite ?_ ?_
      | refine LeO.bind ?_ (fun _ => ?_)
def laws_FnPieces.T8 : Bool × List (List Nat × List Nat) := (true, [([], []), ([0], [0]), ([], []), ([2, 1], [2]), ([1, 3], [1, 3]), ([4, 3], [4]), ([5], [5]), ([5], [5]), ([6, 7, 5, 5], [5, 6, 7]), ([5], [5]), ([5], [5]), ([9, 10, 8, 5], [5, 9, 10]), ([8, 11, 5], [5, 8, 11]), ([5, 12], [5, 12]), ([13, 11], [13]), ([14], [14]), ([15, 14, 14], [14, 15]), ([14], [14]), ([17, 16, 14], [14, 17]), ([16, 18, 14], [14, 16, 18]), ([14, 19], [14, 19]), ([20, 18], [20]), ([21], [21]), ([22, 21, 21], [21, 22]), ([21], [21]), ([24, 23, 21], [21, 24]), ([23, 25, 21], [21, 23, 25]), ([21, 26], [21, 26]), ([27, 25], [27]), ([28], [28]), ([28], [28]), ([28], [28]), ([28], [28]), ([30, 31, 32, 28, 28], [28, 30, 31, 32]), ([29, 33, 28], [28, 29, 33]), ([28, 34], [28, 34]), ([35, 33], [35]), ([36], [36]), ([36], [36]), ([37, 38, 36, 36], [36, 37, 38]), ([36], [36]), ([36], [36]), ([40, 41, 36], [36, 40, 41]), ([39, 42, 36], [36, 39, 42]), ([36, 43], [36, 43])])
def laws_FnPieces.B8 : List Nat := [0, 1, 0, 7, 15, 31, 63, 63, 255, 63, 63, 2047, 4095, 8191, 16383, 32767, 65535, 32767, 262143, 524287, 1048575, 2097151, 4194303, 8388607, 4194303, 33554431, 67108863, 134217727, 268435455, 536870911, 536870911, 536870911, 536870911, 8053063679, 17179869183, 34359738367, 68719476735, 137438953471, 137438953471, 549755813887, 137438953471, 137438953471, 3435973836799, 8796093022207, 17592186044415]
theorem laws_FnPieces.tab8 : rtab .any (opsOf Try.f3 8) = laws_FnPieces.T8 := by kernel_rfl
theorem laws_FnPieces.bits8 : waitsOk laws_FnPieces.T8.2 laws_FnPieces.B8 = true := by kernel_rfl
def laws_FnPieces.T10 : Bool × List (List Nat × List Nat) := (true, [([], []), ([0], [0]), ([], []), ([2], [2]), ([3, 1], [3]), ([1, 4], [1, 4]), ([5, 4], [5]), ([6], [6]), ([7, 6], [6, 7]), ([6], [6]), ([9, 6], [6, 9]), ([8, 10, 6], [6, 8, 10]), ([6, 11], [6, 11]), ([12, 6], [12]), ([13], [13]), ([13], [13]), ([13], [13]), ([14, 15, 16, 13, 13], [13, 14, 15, 16]), ([13], [13]), ([17, 18, 13], [13, 17, 18]), ([13, 19], [13, 19]), ([20, 17], [20]), ([21], [21]), ([22, 21, 21], [21, 22]), ([23, 21], [21, 23]), ([24, 23, 21], [21, 24]), ([25], [25]), ([26, 25], [25, 26]), ([25, 27, 21], [21, 25, 27]), ([28, 25, 21], [21, 28]), ([29], [29]), ([30, 29], [29, 30]), ([29, 31, 21], [21, 29, 31]), ([32, 29, 21], [21, 32]), ([33], [33]), ([34, 33, 33], [33, 34]), ([33, 35, 21], [21, 33, 35]), ([21, 36], [21, 36]), ([37, 35, 0, 1, 2, 3, 4, 5, 6, 7, 8, 9, 10, 11, 12, 13, 14, 15, 16, 17, 18, 19, 20, 21, 22, 23, 24, 25, 26, 27, 28, 29, 30, 31, 32, 33, 34, 35, 36, 37], [37])])
def laws_FnPieces.B10 : List Nat := [0, 1, 0, 4, 15, 31, 63, 127, 255, 127, 639, 2047, 4095, 8191, 16383, 16383, 16383, 131071, 16383, 524287, 1048575, 2097151, 4194303, 8388607, 16777215, 33554431, 67108863, 134217727, 268435455, 536870911, 1073741823, 2147483647, 4294967295, 8589934591, 17179869183, 34359738367, 68719476735, 137438953471, 274877906943]
theorem laws_FnPieces.tab10 : rtab .any (opsOf Try.f3 10) = laws_FnPieces.T10 := by kernel_rfl
theorem laws_FnPieces.bits10 : waitsOk laws_FnPieces.T10.2 laws_FnPieces.B10 = true := by kernel_rfl
set_option maxHeartbeats 8000000 in
set_option maxRecDepth 100000 in
theorem laws_FnPieces.calls (k : Nat) (A0 : Option Addr) (c0 : Nat) (l0 : List Int) (r : Bool) (w : World) (hr0 : Kd.C (Kd.int .u8) w A0 l0.length l0) (hc0 : l0.length ≤ c0) (hrt : r = true) (h : laws_FnPieces.f k l0 = some r) :
    Calls Try.prog 3 #[.slice A0 l0.length c0] w fun e w' => e = .returned (.bool r) ∧ Below w.heap.size w w' := by
  have hu25 := Try.underlying25
  have HRT := Aside0.mk hrt
  clear hrt
  have HR0 := Aside0.mk hr0
  have HC0 := Aside0.mk hc0
  clear hr0 hc0
  have HB := Aside0.mk (Below.refl w.heap.size w)
  have H : ((laws_big.f l0).bind fun t449 => (if t449 = true then (some true) else ((spec_DrawPieceOk.f k l0).bind fun bt450 => ((spec_DrawHasTrait.f k l0).bind fun bt464 => ((spec_DrawMoved.f k l0).bind fun bt479 => ((impl_Moved.f bt479.1 bt479.2.1 bt479.2.2.1 bt479.2.2.2.1 bt479.2.2.2.2.1 bt479.2.2.2.2.2.1 bt479.2.2.2.2.2.2.1 bt479.2.2.2.2.2.2.2.1 bt479.2.2.2.2.2.2.2.2.1 bt479.2.2.2.2.2.2.2.2.2.1 bt479.2.2.2.2.2.2.2.2.2.2.1 bt479.2.2.2.2.2.2.2.2.2.2.2.1 bt479.2.2.2.2.2.2.2.2.2.2.2.2.1 bt479.2.2.2.2.2.2.2.2.2.2.2.2.2.1 bt479.2.2.2.2.2.2.2.2.2.2.2.2.2.2).bind fun bt495 => ((spec_DrawSamePiece.f k l0).bind fun bt509 => ((impl_PieceOk.f k bt450.1 bt450.2.1 bt450.2.2.1 bt450.2.2.2.1 bt450.2.2.2.2.1 bt450.2.2.2.2.2.1 bt450.2.2.2.2.2.2.1 bt450.2.2.2.2.2.2.2.1 bt450.2.2.2.2.2.2.2.2.1 bt450.2.2.2.2.2.2.2.2.2.1 bt450.2.2.2.2.2.2.2.2.2.2.1 bt450.2.2.2.2.2.2.2.2.2.2.2.1 bt450.2.2.2.2.2.2.2.2.2.2.2.2).bind fun t537 => ((spec_PieceOk.f k bt450.1 bt450.2.1 bt450.2.2.1 bt450.2.2.2.1 bt450.2.2.2.2.1 bt450.2.2.2.2.2.1 bt450.2.2.2.2.2.2.1 bt450.2.2.2.2.2.2.2.1 bt450.2.2.2.2.2.2.2.2.1 bt450.2.2.2.2.2.2.2.2.2.1 bt450.2.2.2.2.2.2.2.2.2.2.1 bt450.2.2.2.2.2.2.2.2.2.2.2.1 bt450.2.2.2.2.2.2.2.2.2.2.2.2).bind fun t538 => (if (t537 != t538) = true then (some false) else ((impl_HasTrait.f bt464.1 bt464.2.1 bt464.2.2.1 bt464.2.2.2.1 bt464.2.2.2.2.1 bt464.2.2.2.2.2.1 bt464.2.2.2.2.2.2.1 bt464.2.2.2.2.2.2.2.1 bt464.2.2.2.2.2.2.2.2.1 bt464.2.2.2.2.2.2.2.2.2.1 bt464.2.2.2.2.2.2.2.2.2.2.1 bt464.2.2.2.2.2.2.2.2.2.2.2.1 bt464.2.2.2.2.2.2.2.2.2.2.2.2.1 bt464.2.2.2.2.2.2.2.2.2.2.2.2.2).bind fun t539 => ((spec_HasTrait.f bt464.1 bt464.2.1 bt464.2.2.1 bt464.2.2.2.1 bt464.2.2.2.2.1 bt464.2.2.2.2.2.1 bt464.2.2.2.2.2.2.1 bt464.2.2.2.2.2.2.2.1 bt464.2.2.2.2.2.2.2.2.1 bt464.2.2.2.2.2.2.2.2.2.1 bt464.2.2.2.2.2.2.2.2.2.2.1 bt464.2.2.2.2.2.2.2.2.2.2.2.1 bt464.2.2.2.2.2.2.2.2.2.2.2.2.1 bt464.2.2.2.2.2.2.2.2.2.2.2.2.2).bind fun t540 => (if (t539 != t540) = true then (some false) else ((impl_PowerOf.f bt450.1 bt450.2.1 bt450.2.2.1 bt450.2.2.2.1 bt450.2.2.2.2.1 bt450.2.2.2.2.2.1 bt450.2.2.2.2.2.2.1 bt450.2.2.2.2.2.2.2.1 bt450.2.2.2.2.2.2.2.2.1 bt450.2.2.2.2.2.2.2.2.2.1 bt450.2.2.2.2.2.2.2.2.2.2.1 bt450.2.2.2.2.2.2.2.2.2.2.2.1 bt450.2.2.2.2.2.2.2.2.2.2.2.2).bind fun t541 => ((spec_PowerOf.f bt450.1 bt450.2.1 bt450.2.2.1 bt450.2.2.2.1 bt450.2.2.2.2.1 bt450.2.2.2.2.2.1 bt450.2.2.2.2.2.2.1 bt450.2.2.2.2.2.2.2.1 bt450.2.2.2.2.2.2.2.2.1 bt450.2.2.2.2.2.2.2.2.2.1 bt450.2.2.2.2.2.2.2.2.2.2.1 bt450.2.2.2.2.2.2.2.2.2.2.2.1 bt450.2.2.2.2.2.2.2.2.2.2.2.2).bind fun t542 => (if t541 = t542 then ((impl_ToughOf.f bt450.1 bt450.2.1 bt450.2.2.1 bt450.2.2.2.1 bt450.2.2.2.2.1 bt450.2.2.2.2.2.1 bt450.2.2.2.2.2.2.1 bt450.2.2.2.2.2.2.2.1 bt450.2.2.2.2.2.2.2.2.1 bt450.2.2.2.2.2.2.2.2.2.1 bt450.2.2.2.2.2.2.2.2.2.2.1 bt450.2.2.2.2.2.2.2.2.2.2.2.1 bt450.2.2.2.2.2.2.2.2.2.2.2.2).bind fun t543 => ((spec_ToughOf.f bt450.1 bt450.2.1 bt450.2.2.1 bt450.2.2.2.1 bt450.2.2.2.2.1 bt450.2.2.2.2.2.1 bt450.2.2.2.2.2.2.1 bt450.2.2.2.2.2.2.2.1 bt450.2.2.2.2.2.2.2.2.1 bt450.2.2.2.2.2.2.2.2.2.1 bt450.2.2.2.2.2.2.2.2.2.2.1 bt450.2.2.2.2.2.2.2.2.2.2.2.1 bt450.2.2.2.2.2.2.2.2.2.2.2.2).bind fun t544 => (if t543 = t544 then ((spec_Moved.f bt479.1 bt479.2.1 bt479.2.2.1 bt479.2.2.2.1 bt479.2.2.2.2.1 bt479.2.2.2.2.2.1 bt479.2.2.2.2.2.2.1 bt479.2.2.2.2.2.2.2.1 bt479.2.2.2.2.2.2.2.2.1 bt479.2.2.2.2.2.2.2.2.2.1 bt479.2.2.2.2.2.2.2.2.2.2.1 bt479.2.2.2.2.2.2.2.2.2.2.2.1 bt479.2.2.2.2.2.2.2.2.2.2.2.2.1 bt479.2.2.2.2.2.2.2.2.2.2.2.2.2.1 bt479.2.2.2.2.2.2.2.2.2.2.2.2.2.2).bind fun bt545 => (if (!(bt495.1 == bt545.1) || (!(bt495.2.1 == bt545.2.1) || (!(bt495.2.2.1 == bt545.2.2.1) || (!(bt495.2.2.2.1 == bt545.2.2.2.1) || (!(bt495.2.2.2.2.1 == bt545.2.2.2.2.1) || (!(bt495.2.2.2.2.2.1 == bt545.2.2.2.2.2.1) || (!(bt495.2.2.2.2.2.2.1 == bt545.2.2.2.2.2.2.1) || (!(bt495.2.2.2.2.2.2.2.1 == bt545.2.2.2.2.2.2.2.1) || (!(bt495.2.2.2.2.2.2.2.2.1 == bt545.2.2.2.2.2.2.2.2.1) || (!(bt495.2.2.2.2.2.2.2.2.2.1 == bt545.2.2.2.2.2.2.2.2.2.1) || (!(bt495.2.2.2.2.2.2.2.2.2.2.1 == bt545.2.2.2.2.2.2.2.2.2.2.1) || (!(bt495.2.2.2.2.2.2.2.2.2.2.2.1 == bt545.2.2.2.2.2.2.2.2.2.2.2.1) || (!(bt495.2.2.2.2.2.2.2.2.2.2.2.2 == bt545.2.2.2.2.2.2.2.2.2.2.2.2)))))))))))))) = true then (some false) else ((impl_SamePiece.f bt509.1 bt509.2.1 bt509.2.2.1 bt509.2.2.2.1 bt509.2.2.2.2.1 bt509.2.2.2.2.2.1 bt509.2.2.2.2.2.2.1 bt509.2.2.2.2.2.2.2.1 bt509.2.2.2.2.2.2.2.2.1 bt509.2.2.2.2.2.2.2.2.2.1 bt509.2.2.2.2.2.2.2.2.2.2.1 bt509.2.2.2.2.2.2.2.2.2.2.2.1 bt509.2.2.2.2.2.2.2.2.2.2.2.2.1 bt509.2.2.2.2.2.2.2.2.2.2.2.2.2.1 bt509.2.2.2.2.2.2.2.2.2.2.2.2.2.2.1 bt509.2.2.2.2.2.2.2.2.2.2.2.2.2.2.2.1 bt509.2.2.2.2.2.2.2.2.2.2.2.2.2.2.2.2.1 bt509.2.2.2.2.2.2.2.2.2.2.2.2.2.2.2.2.2.1 bt509.2.2.2.2.2.2.2.2.2.2.2.2.2.2.2.2.2.2.1 bt509.2.2.2.2.2.2.2.2.2.2.2.2.2.2.2.2.2.2.2.1 bt509.2.2.2.2.2.2.2.2.2.2.2.2.2.2.2.2.2.2.2.2.1 bt509.2.2.2.2.2.2.2.2.2.2.2.2.2.2.2.2.2.2.2.2.2.1 bt509.2.2.2.2.2.2.2.2.2.2.2.2.2.2.2.2.2.2.2.2.2.2.1 bt509.2.2.2.2.2.2.2.2.2.2.2.2.2.2.2.2.2.2.2.2.2.2.2.1 bt509.2.2.2.2.2.2.2.2.2.2.2.2.2.2.2.2.2.2.2.2.2.2.2.2.1 bt509.2.2.2.2.2.2.2.2.2.2.2.2.2.2.2.2.2.2.2.2.2.2.2.2.2).bind fun t558 => (if (t558 != (bt509.1 == bt509.2.2.2.2.2.2.2.2.2.2.2.2.2.1 && (bt509.2.1 == bt509.2.2.2.2.2.2.2.2.2.2.2.2.2.2.1 && (bt509.2.2.1 == bt509.2.2.2.2.2.2.2.2.2.2.2.2.2.2.2.1 && (bt509.2.2.2.1 == bt509.2.2.2.2.2.2.2.2.2.2.2.2.2.2.2.2.1 && (bt509.2.2.2.2.1 == bt509.2.2.2.2.2.2.2.2.2.2.2.2.2.2.2.2.2.1 && (bt509.2.2.2.2.2.1 == bt509.2.2.2.2.2.2.2.2.2.2.2.2.2.2.2.2.2.2.1 && (bt509.2.2.2.2.2.2.1 == bt509.2.2.2.2.2.2.2.2.2.2.2.2.2.2.2.2.2.2.2.1 && (bt509.2.2.2.2.2.2.2.1 == bt509.2.2.2.2.2.2.2.2.2.2.2.2.2.2.2.2.2.2.2.2.1 && (bt509.2.2.2.2.2.2.2.2.1 == bt509.2.2.2.2.2.2.2.2.2.2.2.2.2.2.2.2.2.2.2.2.2.1 && (bt509.2.2.2.2.2.2.2.2.2.1 == bt509.2.2.2.2.2.2.2.2.2.2.2.2.2.2.2.2.2.2.2.2.2.2.1 && (bt509.2.2.2.2.2.2.2.2.2.2.1 == bt509.2.2.2.2.2.2.2.2.2.2.2.2.2.2.2.2.2.2.2.2.2.2.2.1 && (bt509.2.2.2.2.2.2.2.2.2.2.2.1 == bt509.2.2.2.2.2.2.2.2.2.2.2.2.2.2.2.2.2.2.2.2.2.2.2.2.1 && (bt509.2.2.2.2.2.2.2.2.2.2.2.2.1 == bt509.2.2.2.2.2.2.2.2.2.2.2.2.2.2.2.2.2.2.2.2.2.2.2.2.2)))))))))))))) = true then (some false) else ((impl_PowerOf.f bt495.1 bt495.2.1 bt495.2.2.1 bt495.2.2.2.1 bt495.2.2.2.2.1 bt495.2.2.2.2.2.1 bt495.2.2.2.2.2.2.1 bt495.2.2.2.2.2.2.2.1 bt495.2.2.2.2.2.2.2.2.1 bt495.2.2.2.2.2.2.2.2.2.1 bt495.2.2.2.2.2.2.2.2.2.2.1 bt495.2.2.2.2.2.2.2.2.2.2.2.1 bt495.2.2.2.2.2.2.2.2.2.2.2.2).bind fun t559 => ((impl_Bound.f bt479.2.2.2.2.2.1).bind fun t560 => (if t559 = t560 then (if bt495.2.2.1 = bt479.2.1 then ((impl_Moved.f bt495.1 bt495.2.1 bt495.2.2.1 bt495.2.2.2.1 bt495.2.2.2.2.1 bt495.2.2.2.2.2.1 bt495.2.2.2.2.2.2.1 bt495.2.2.2.2.2.2.2.1 bt495.2.2.2.2.2.2.2.2.1 bt495.2.2.2.2.2.2.2.2.2.1 bt495.2.2.2.2.2.2.2.2.2.2.1 bt495.2.2.2.2.2.2.2.2.2.2.2.1 bt495.2.2.2.2.2.2.2.2.2.2.2.2 bt479.2.2.2.2.2.2.2.2.2.2.2.2.2.1 bt479.2.2.2.2.2.2.2.2.2.2.2.2.2.2).bind fun bt561 => (if (bt561.1 == bt495.1 && (bt561.2.1 == bt495.2.1 && (bt561.2.2.1 == bt495.2.2.1 && (bt561.2.2.2.1 == bt495.2.2.2.1 && (bt561.2.2.2.2.1 == bt495.2.2.2.2.1 && (bt561.2.2.2.2.2.1 == bt495.2.2.2.2.2.1 && (bt561.2.2.2.2.2.2.1 == bt495.2.2.2.2.2.2.1 && (bt561.2.2.2.2.2.2.2.1 == bt495.2.2.2.2.2.2.2.1 && (bt561.2.2.2.2.2.2.2.2.1 == bt495.2.2.2.2.2.2.2.2.1 && (bt561.2.2.2.2.2.2.2.2.2.1 == bt495.2.2.2.2.2.2.2.2.2.1 && (bt561.2.2.2.2.2.2.2.2.2.2.1 == bt495.2.2.2.2.2.2.2.2.2.2.1 && (bt561.2.2.2.2.2.2.2.2.2.2.2.1 == bt495.2.2.2.2.2.2.2.2.2.2.2.1 && (bt561.2.2.2.2.2.2.2.2.2.2.2.2 == bt495.2.2.2.2.2.2.2.2.2.2.2.2))))))))))))) = true then ((impl_PieceOk.f k bt479.1 bt479.2.1 bt479.2.2.1 bt479.2.2.2.1 bt479.2.2.2.2.1 bt479.2.2.2.2.2.1 bt479.2.2.2.2.2.2.1 bt479.2.2.2.2.2.2.2.1 bt479.2.2.2.2.2.2.2.2.1 bt479.2.2.2.2.2.2.2.2.2.1 bt479.2.2.2.2.2.2.2.2.2.2.1 bt479.2.2.2.2.2.2.2.2.2.2.2.1 bt479.2.2.2.2.2.2.2.2.2.2.2.2.1).bind fun t574 => (if t574 = true then (if bt479.2.2.2.2.2.2.2.2.2.2.2.2.2.1 < 1 then (some true) else (if bt479.2.2.2.2.2.2.2.2.2.2.2.2.2.1 > 4 then (some true) else ((impl_PieceOk.f k bt495.1 bt495.2.1 bt495.2.2.1 bt495.2.2.2.1 bt495.2.2.2.2.1 bt495.2.2.2.2.2.1 bt495.2.2.2.2.2.2.1 bt495.2.2.2.2.2.2.2.1 bt495.2.2.2.2.2.2.2.2.1 bt495.2.2.2.2.2.2.2.2.2.1 bt495.2.2.2.2.2.2.2.2.2.2.1 bt495.2.2.2.2.2.2.2.2.2.2.2.1 bt495.2.2.2.2.2.2.2.2.2.2.2.2).bind fun t575 => (some t575)))) else (some true))) else (some false))) else (some false)) else (some false)))))))) else (some false)))) else (some false))))))))))))))))) = some r := h
  clear h
  replace H := Option.bind_eq_some_iff.mp H
  obtain ⟨t449, A20, H⟩ := H
  (try dsimp only at H)
  have A2 := Aside0.mk A20
  clear A20
  by_cases c3 : t449 = true
  · subst c3
    have H1 : (some true) = some r := by rw [if_pos rfl] at H; exact H
    clear H
    have H := H1
    clear H1
    obtain rfl := Option.some.inj H
    go_enter Try.func3, Try.ntmps3
    go_wp2_with (first | ((with_reducible refine gate_callee (f := 12) rfl ?_); refine goesL_ (some 13) rfl rfl Try.func12 (by kernel_rfl) rfl #[.slice A0 l0.length c0] rfl Z14_22 ?_; (with_reducible refine (laws_big.calls _ _ l0 true _ ?side1 ?side2 A2.out).mono ?_); (case side1 => repeat (first | exact HR0.out | (with_reducible refine Kd.C_alloc ?_ _) | (with_reducible refine Kd.C_drewN ?_ _) | (with_reducible refine Kd.C_drew ?_))); (case side2 => exact HC0.out); rintro e w' ⟨rfl, ⟨nd, rfl⟩⟩; refine ⟨_, rfl, ?_⟩))
    go_ret
    exact ⟨Z14_29, (by repeat (first | (with_reducible first | exact HB.out | apply below_alloc | apply pw_below_drewN | apply below_drew1) | exact HB.out))⟩
  replace c3 := Bool.eq_false_iff.mpr c3
  subst c3
  rw [if_neg (show ¬ (false = true) by decide)] at H
  replace H := Option.bind_eq_some_iff.mp H
  obtain ⟨⟨t450, t451, t452, t453, t454, t455, t456, t457, t458, t459, t460, t461, t462⟩, A40, H⟩ := H
  (try dsimp only at H)
  have A4 := Aside0.mk A40
  clear A40
  replace H := Option.bind_eq_some_iff.mp H
  obtain ⟨⟨t464, t465, t466, t467, t468, t469, t470, t471, t472, t473, t474, t475, t476, t477⟩, A50, H⟩ := H
  (try dsimp only at H)
  have A5 := Aside0.mk A50
  clear A50
  replace H := Option.bind_eq_some_iff.mp H
  obtain ⟨⟨t479, t480, t481, t482, t483, t484, t485, t486, t487, t488, t489, t490, t491, t492, t493⟩, A60, H⟩ := H
  (try dsimp only at H)
  have A6 := Aside0.mk A60
  clear A60
  replace H := Option.bind_eq_some_iff.mp H
  obtain ⟨⟨t495, t496, t497, t498, t499, t500, t501, t502, t503, t504, t505, t506, t507⟩, A70, H⟩ := H
  (try dsimp only at H)
  have A7 := Aside0.mk A70
  clear A70
  replace H := Option.bind_eq_some_iff.mp H
  obtain ⟨⟨t509, t510, t511, t512, t513, t514, t515, t516, t517, t518, t519, t520, t521, t522, t523, t524, t525, t526, t527, t528, t529, t530, t531, t532, t533, t534⟩, A80, H⟩ := H
  (try dsimp only at H)
  have A8 := Aside0.mk A80
  clear A80
  replace H := Option.bind_eq_some_iff.mp H
  obtain ⟨t537, A90, H⟩ := H
  (try dsimp only at H)
  have A9 := Aside0.mk A90
  clear A90
  replace H := Option.bind_eq_some_iff.mp H
  obtain ⟨t538, A100, H⟩ := H
  (try dsimp only at H)
  have A10 := Aside0.mk A100
  clear A100
  by_cases c11 : (t537 != t538) = true
  · rw [if_pos c11] at H
    have c11b0 : (t537 != t538) = true := c11
    (try (have c11b1 : decide (t537 = t538) = false := by simpa using c11))
    (try (have c11b2 : (t537 == t538) = false := by simpa using c11))
    (try (have c11b3 : ¬ (t537 = t538) := by simpa using c11))
    clear c11
    exact absurd (H.trans (congrArg some HRT.out)) (by simp)
  rw [if_neg c11] at H
  have c11b0 : (t537 != t538) = false := by simpa using c11
  (try (have c11b1 : decide (t537 = t538) = true := by simpa using c11))
  (try (have c11b2 : (t537 == t538) = true := by simpa using c11))
  clear c11
  replace H := Option.bind_eq_some_iff.mp H
  obtain ⟨t539, A120, H⟩ := H
  (try dsimp only at H)
  have A12 := Aside0.mk A120
  clear A120
  replace H := Option.bind_eq_some_iff.mp H
  obtain ⟨t540, A130, H⟩ := H
  (try dsimp only at H)
  have A13 := Aside0.mk A130
  clear A130
  by_cases c14 : (t539 != t540) = true
  · rw [if_pos c14] at H
    have c14b0 : (t539 != t540) = true := c14
    (try (have c14b1 : decide (t539 = t540) = false := by simpa using c14))
    (try (have c14b2 : (t539 == t540) = false := by simpa using c14))
    (try (have c14b3 : ¬ (t539 = t540) := by simpa using c14))
    clear c14
    exact absurd (H.trans (congrArg some HRT.out)) (by simp)
  rw [if_neg c14] at H
  have c14b0 : (t539 != t540) = false := by simpa using c14
  (try (have c14b1 : decide (t539 = t540) = true := by simpa using c14))
  (try (have c14b2 : (t539 == t540) = true := by simpa using c14))
  clear c14
  replace H := Option.bind_eq_some_iff.mp H
  obtain ⟨t541, A150, H⟩ := H
  (try dsimp only at H)
  have A15 := Aside0.mk A150
  clear A150
  replace H := Option.bind_eq_some_iff.mp H
  obtain ⟨t542, A160, H⟩ := H
  (try dsimp only at H)
  have A16 := Aside0.mk A160
  clear A160
  by_cases c17 : t541 = t542
  rotate_left
  · rw [if_neg c17] at H
    have c17b0 : (t541 == t542) = false := beq_eq_false_iff_ne.mpr c17
    have c17b1 : (t541 != t542) = true := bne_iff_ne.mpr c17
    exact absurd (H.trans (congrArg some HRT.out)) (by simp)
  rw [if_pos c17] at H
  have c17b0 : (t541 == t542) = true := beq_iff_eq.mpr c17
  have c17b1 : (t541 != t542) = false := bne_eq_false_iff_eq.mpr c17
  clear c17
  replace H := Option.bind_eq_some_iff.mp H
  obtain ⟨t543, A180, H⟩ := H
  (try dsimp only at H)
  have A18 := Aside0.mk A180
  clear A180
  replace H := Option.bind_eq_some_iff.mp H
  obtain ⟨t544, A190, H⟩ := H
  (try dsimp only at H)
  have A19 := Aside0.mk A190
  clear A190
  by_cases c20 : t543 = t544
  rotate_left
  · rw [if_neg c20] at H
    have c20b0 : (t543 == t544) = false := beq_eq_false_iff_ne.mpr c20
    have c20b1 : (t543 != t544) = true := bne_iff_ne.mpr c20
    exact absurd (H.trans (congrArg some HRT.out)) (by simp)
  rw [if_pos c20] at H
  have c20b0 : (t543 == t544) = true := beq_iff_eq.mpr c20
  have c20b1 : (t543 != t544) = false := bne_eq_false_iff_eq.mpr c20
  clear c20
  replace H := Option.bind_eq_some_iff.mp H
  obtain ⟨⟨t545, t546, t547, t548, t549, t550, t551, t552, t553, t554, t555, t556, t557⟩, A210, H⟩ := H
  (try dsimp only at H)
  have A21 := Aside0.mk A210
  clear A210
  by_cases c22 : (!(t495 == t545) || (!(t496 == t546) || (!(t497 == t547) || (!(t498 == t548) || (!(t499 == t549) || (!(t500 == t550) || (!(t501 == t551) || (!(t502 == t552) || (!(t503 == t553) || (!(t504 == t554) || (!(t505 == t555) || (!(t506 == t556) || (!(t507 == t557)))))))))))))) = true
  · rw [if_pos c22] at H
    have c22b0 : (!(t495 == t545) || (!(t496 == t546) || (!(t497 == t547) || (!(t498 == t548) || (!(t499 == t549) || (!(t500 == t550) || (!(t501 == t551) || (!(t502 == t552) || (!(t503 == t553) || (!(t504 == t554) || (!(t505 == t555) || (!(t506 == t556) || (!(t507 == t557)))))))))))))) = true := c22
    clear c22
    exact absurd (H.trans (congrArg some HRT.out)) (by simp)
  rw [if_neg c22] at H
  have c22b0 : (!(t495 == t545) || (!(t496 == t546) || (!(t497 == t547) || (!(t498 == t548) || (!(t499 == t549) || (!(t500 == t550) || (!(t501 == t551) || (!(t502 == t552) || (!(t503 == t553) || (!(t504 == t554) || (!(t505 == t555) || (!(t506 == t556) || (!(t507 == t557)))))))))))))) = false := by simpa using c22
  clear c22
  replace H := Option.bind_eq_some_iff.mp H
  obtain ⟨t558, A230, H⟩ := H
  (try dsimp only at H)
  have A23 := Aside0.mk A230
  clear A230
  by_cases c24 : (t558 != (t509 == t522 && (t510 == t523 && (t511 == t524 && (t512 == t525 && (t513 == t526 && (t514 == t527 && (t515 == t528 && (t516 == t529 && (t517 == t530 && (t518 == t531 && (t519 == t532 && (t520 == t533 && (t521 == t534)))))))))))))) = true
  · rw [if_pos c24] at H
    exact absurd (H.trans (congrArg some HRT.out)) (by simp)
  rw [if_neg c24] at H
  have c24b0 : (t558 != (t509 == t522 && (t510 == t523 && (t511 == t524 && (t512 == t525 && (t513 == t526 && (t514 == t527 && (t515 == t528 && (t516 == t529 && (t517 == t530 && (t518 == t531 && (t519 == t532 && (t520 == t533 && (t521 == t534)))))))))))))) = false := by simpa using c24
  (try (have c24b1 : decide (t558 = (t509 == t522 && (t510 == t523 && (t511 == t524 && (t512 == t525 && (t513 == t526 && (t514 == t527 && (t515 == t528 && (t516 == t529 && (t517 == t530 && (t518 == t531 && (t519 == t532 && (t520 == t533 && (t521 == t534)))))))))))))) = true := by simpa using c24))
  (try (have c24b2 : (t558 == (t509 == t522 && (t510 == t523 && (t511 == t524 && (t512 == t525 && (t513 == t526 && (t514 == t527 && (t515 == t528 && (t516 == t529 && (t517 == t530 && (t518 == t531 && (t519 == t532 && (t520 == t533 && (t521 == t534)))))))))))))) = true := by simpa using c24))
  clear c24
  replace H := Option.bind_eq_some_iff.mp H
  obtain ⟨t559, A250, H⟩ := H
  (try dsimp only at H)
  have A25 := Aside0.mk A250
  clear A250
  replace H := Option.bind_eq_some_iff.mp H
  obtain ⟨t560, A260, H⟩ := H
  (try dsimp only at H)
  have A26 := Aside0.mk A260
  clear A260
  by_cases c27 : t559 = t560
  rotate_left
  · rw [if_neg c27] at H
    have c27b0 : (t559 == t560) = false := beq_eq_false_iff_ne.mpr c27
    have c27b1 : (t559 != t560) = true := bne_iff_ne.mpr c27
    exact absurd (H.trans (congrArg some HRT.out)) (by simp)
  rw [if_pos c27] at H
  have c27b0 : (t559 == t560) = true := beq_iff_eq.mpr c27
  have c27b1 : (t559 != t560) = false := bne_eq_false_iff_eq.mpr c27
  clear c27
  by_cases c28 : t497 = t480
  rotate_left
  · rw [if_neg c28] at H
    have c28b0 : (t497 == t480) = false := beq_eq_false_iff_ne.mpr c28
    have c28b1 : (t497 != t480) = true := bne_iff_ne.mpr c28
    exact absurd (H.trans (congrArg some HRT.out)) (by simp)
  rw [if_pos c28] at H
  have c28b0 : (t497 == t480) = true := beq_iff_eq.mpr c28
  have c28b1 : (t497 != t480) = false := bne_eq_false_iff_eq.mpr c28
  clear c28
  replace H := Option.bind_eq_some_iff.mp H
  obtain ⟨⟨t561, t562, t563, t564, t565, t566, t567, t568, t569, t570, t571, t572, t573⟩, A290, H⟩ := H
  (try dsimp only at H)
  have A29 := Aside0.mk A290
  clear A290
  by_cases c30 : (t561 == t495 && (t562 == t496 && (t563 == t497 && (t564 == t498 && (t565 == t499 && (t566 == t500 && (t567 == t501 && (t568 == t502 && (t569 == t503 && (t570 == t504 && (t571 == t505 && (t572 == t506 && (t573 == t507))))))))))))) = true
  rotate_left
  · rw [if_neg c30] at H
    have c30b0 : (t561 == t495 && (t562 == t496 && (t563 == t497 && (t564 == t498 && (t565 == t499 && (t566 == t500 && (t567 == t501 && (t568 == t502 && (t569 == t503 && (t570 == t504 && (t571 == t505 && (t572 == t506 && (t573 == t507))))))))))))) = false := by simpa using c30
    (try (have c30b1 : decide (t561 = t495 && (t562 == t496 && (t563 == t497 && (t564 == t498 && (t565 == t499 && (t566 == t500 && (t567 == t501 && (t568 == t502 && (t569 == t503 && (t570 == t504 && (t571 == t505 && (t572 == t506 && (t573 == t507))))))))))))) = false := by simpa using c30))
    (try (have c30b2 : (t561 == t495 && (t562 == t496 && (t563 == t497 && (t564 == t498 && (t565 == t499 && (t566 == t500 && (t567 == t501 && (t568 == t502 && (t569 == t503 && (t570 == t504 && (t571 == t505 && (t572 == t506 && (t573 == t507))))))))))))) = false := by simpa using c30))
    (try (have c30b3 : ¬ (t561 = t495 && (t562 == t496 && (t563 == t497 && (t564 == t498 && (t565 == t499 && (t566 == t500 && (t567 == t501 && (t568 == t502 && (t569 == t503 && (t570 == t504 && (t571 == t505 && (t572 == t506 && (t573 == t507))))))))))))) := by simpa using c30))
    clear c30
    exact absurd (H.trans (congrArg some HRT.out)) (by simp)
  rw [if_pos c30] at H
  have c30b0 : (t561 == t495 && (t562 == t496 && (t563 == t497 && (t564 == t498 && (t565 == t499 && (t566 == t500 && (t567 == t501 && (t568 == t502 && (t569 == t503 && (t570 == t504 && (t571 == t505 && (t572 == t506 && (t573 == t507))))))))))))) = true := c30
  (try (have c30b1 : decide (t561 = t495 && (t562 == t496 && (t563 == t497 && (t564 == t498 && (t565 == t499 && (t566 == t500 && (t567 == t501 && (t568 == t502 && (t569 == t503 && (t570 == t504 && (t571 == t505 && (t572 == t506 && (t573 == t507))))))))))))) = true := by simpa using c30))
  (try (have c30b2 : (t561 == t495 && (t562 == t496 && (t563 == t497 && (t564 == t498 && (t565 == t499 && (t566 == t500 && (t567 == t501 && (t568 == t502 && (t569 == t503 && (t570 == t504 && (t571 == t505 && (t572 == t506 && (t573 == t507))))))))))))) = true := by simpa using c30))
  clear c30
  replace H := Option.bind_eq_some_iff.mp H
  obtain ⟨t574, A310, H⟩ := H
  (try dsimp only at H)
  have A31 := Aside0.mk A310
  clear A310
  go_enter Try.func3, Try.ntmps3
  try go_wp2_with (first | ((with_reducible refine gate_callee (f := 12) rfl ?_); refine goesL_ (some 13) rfl rfl Try.func12 (by kernel_rfl) rfl #[.slice A0 l0.length c0] rfl Z14_22 ?_; (with_reducible refine (laws_big.calls _ _ l0 false _ ?side1 ?side2 A2.out).mono ?_); (case side1 => repeat (first | exact HR0.out | (with_reducible refine Kd.C_alloc ?_ _) | (with_reducible refine Kd.C_drewN ?_ _) | (with_reducible refine Kd.C_drew ?_))); (case side2 => exact HC0.out); rintro e w' ⟨rfl, ⟨nd, rfl⟩⟩; refine ⟨_, rfl, ?_⟩) | ((with_reducible refine gate_callee (f := 13) rfl ?_); refine goesL_ (some 15) rfl rfl Try.func13 (by kernel_rfl) rfl #[.slice A0 l0.length c0] rfl Z14_22 ?_; (with_reducible refine (spec_DrawPieceOk.calls k _ _ l0 t450 t451 t452 t453 t454 t455 t456 t457 t458 t459 t460 t461 t462 _ ?side1 ?side2 A4.out).mono ?_); (case side1 => repeat (first | exact HR0.out | (with_reducible refine Kd.C_alloc ?_ _) | (with_reducible refine Kd.C_drewN ?_ _) | (with_reducible refine Kd.C_drew ?_))); (case side2 => exact HC0.out); rintro e w34 ⟨rfl, hb⟩; refine ⟨_, rfl, ?_⟩; have n0_ := Aside0.mk Z14_21; clear HB; have HB := n0_; clear n0_; (try clear hb); (try clear hb2); (try clear hk); (try clear hi)) | ((with_reducible refine gate_dst (N := 3) rfl ?_); refine box_event ?hg (N := 3) ?hd (cs := #[.int .i64 0, .int .i64 0, .int .i64 0, .int .i64 0, .int .i64 0, .int .i64 0, .int .i64 0, .int .i64 0, .int .i64 0, .int .i64 0, .int .i64 0, .bool false, .bool false]) (t := 25) ?hr ?_; (case hd => rfl); (case hg => rfl); (case hr => first | (go_simp; done) | (go_simp; rfl)); intro gb463 hg w35 hbox hb; have n0_ := Aside0.mk Z14_21; have n1_ := Aside0.mk (hbox); have n2_ := Aside0.mk Z14_18; have n3_ := Aside0.mk Z14_18; clear HB; have HB := n0_; have BK463 := n1_; have GW463 := n2_; have GE463 := n3_; clear n0_ n1_ n2_ n3_; clear hb hbox hg; obtain ⟨⟨hcz36_0, hcz36_1, hcz36_2, hcz36_3, hcz36_4, hcz36_5, hcz36_6, hcz36_7, hcz36_8, hcz36_9, hcz36_10, hcz36_11, hcz36_12⟩, hfz36_0, hfz36_1, hfz36_2, hfz36_3, hfz36_4, hfz36_5, hfz36_6, hfz36_7, hfz36_8, hfz36_9, hfz36_10, hfz36_11, hfz36_12⟩ := C14_13 BK463.out) | ((with_reducible refine gate_callee (f := 14) rfl ?_); refine goesL_ (some 18) rfl rfl Try.func14 (by kernel_rfl) rfl #[.slice A0 l0.length c0] rfl Z14_22 ?_; (with_reducible refine (spec_DrawHasTrait.calls k _ _ l0 t464 t465 t466 t467 t468 t469 t470 t471 t472 t473 t474 t475 t476 t477 _ ?side1 ?side2 A5.out).mono ?_); (case side1 => exact Kd.C_below HR0.out (by repeat (first | (with_reducible first | exact HB.out | apply below_alloc | apply pw_below_drewN | apply below_drew1 | refine below_set ?_ GE463.out) | exact HB.out))); (case side2 => exact HC0.out); rintro e w37 ⟨rfl, hb⟩; refine ⟨_, rfl, ?_⟩; have n0_ := Aside0.mk (blk_below (g := gb463) (o := .cells #[.int .i64 t450, .int .i64 t451, .int .i64 t452, .int .i64 t453, .int .i64 t454, .int .i64 t455, .int .i64 t456, .int .i64 t457, .int .i64 t458, .int .i64 t459, .int .i64 t460, .bool t461, .bool t462] 25 (0, 0)) (by (with_reducible repeat (first | refine blk_drewN ?_ _ | refine blk_drew ?_ | refine blk_alloc ?_ _)); apply E14_13; (with_reducible repeat (first | refine blk_drewN ?_ _ | refine blk_drew ?_ | refine blk_alloc ?_ _)); exact BK463.out) hb); have n1_ := Aside0.mk Z14_19; clear BK463; clear HB; have BK463 := n0_; have HB := n1_; clear n0_ n1_; (try clear hb); (try clear hb2); (try clear hk); (try clear hi)) | ((with_reducible refine gate_dst (N := 4) rfl ?_); refine box_event ?hg (N := 4) ?hd (cs := #[.int .i64 0, .int .i64 0, .int .i64 0, .int .i64 0, .int .i64 0, .int .i64 0, .int .i64 0, .int .i64 0, .int .i64 0, .int .i64 0, .int .i64 0, .bool false, .bool false]) (t := 25) ?hr ?_; (case hd => rfl); (case hg => rfl); (case hr => first | (go_simp; done) | (go_simp; rfl)); intro gb478 hg w38 hbox hb; have n0_ := Aside0.mk Z14_2; have n1_ := Aside0.mk Z14_19; have n2_ := Aside0.mk (hbox); have n3_ := Aside0.mk Z14_16; have n4_ := Aside0.mk Z14_16; have n5_ := Aside0.mk ((by rw [hg]; exact Nat.ne_of_lt (blk_lt (g := gb463) (o := .cells #[.int .i64 t450, .int .i64 t451, .int .i64 t452, .int .i64 t453, .int .i64 t454, .int .i64 t455, .int .i64 t456, .int .i64 t457, .int .i64 t458, .int .i64 t459, .int .i64 t460, .bool t461, .bool t462] 25 (0, 0)) Z14_23) : gb463 ≠ gb478)); have n6_ := Aside0.mk ((by rw [hg]; exact Nat.ne_of_gt (blk_lt (g := gb463) (o := .cells #[.int .i64 t450, .int .i64 t451, .int .i64 t452, .int .i64 t453, .int .i64 t454, .int .i64 t455, .int .i64 t456, .int .i64 t457, .int .i64 t458, .int .i64 t459, .int .i64 t460, .bool t461, .bool t462] 25 (0, 0)) Z14_23) : gb478 ≠ gb463)); clear BK463; clear HB; have BK463 := n0_; have HB := n1_; have BK478 := n2_; have GW478 := n3_; have GE478 := n4_; have NB463_478 := n5_; have NB478_463 := n6_; clear n0_ n1_ n2_ n3_ n4_ n5_ n6_; clear hb hbox hg; have hnb39 := NB478_463.out; have hnc39 := NB463_478.out; obtain ⟨⟨hcz40_0, hcz40_1, hcz40_2, hcz40_3, hcz40_4, hcz40_5, hcz40_6, hcz40_7, hcz40_8, hcz40_9, hcz40_10, hcz40_11, hcz40_12⟩, hfz40_0, hfz40_1, hfz40_2, hfz40_3, hfz40_4, hfz40_5, hfz40_6, hfz40_7, hfz40_8, hfz40_9, hfz40_10, hfz40_11, hfz40_12⟩ := C14_13 BK478.out) | ((with_reducible refine gate_callee (f := 15) rfl ?_); refine goesL_ (some 23) rfl rfl Try.func15 (by kernel_rfl) rfl #[.slice A0 l0.length c0] rfl Z14_22 ?_; (with_reducible refine (spec_DrawMoved.calls k _ _ l0 t479 t480 t481 t482 t483 t484 t485 t486 t487 t488 t489 t490 t491 t492 t493 _ ?side1 ?side2 A6.out).mono ?_); (case side1 => exact Kd.C_below HR0.out (by repeat (first | (with_reducible first | exact HB.out | apply below_alloc | apply pw_below_drewN | apply below_drew1 | refine below_set ?_ GE463.out | refine below_set ?_ GE478.out) | exact HB.out))); (case side2 => exact HC0.out); rintro e w41 ⟨rfl, hb⟩; refine ⟨_, rfl, ?_⟩; have n0_ := Aside0.mk (blk_below (g := gb463) (o := .cells #[.int .i64 t450, .int .i64 t451, .int .i64 t452, .int .i64 t453, .int .i64 t454, .int .i64 t455, .int .i64 t456, .int .i64 t457, .int .i64 t458, .int .i64 t459, .int .i64 t460, .bool t461, .bool t462] 25 (0, 0)) (by (with_reducible repeat (first | refine blk_drewN ?_ _ | refine blk_drew ?_ | refine blk_alloc ?_ _)); refine blk_far ?_ NB463_478.out _; (with_reducible repeat (first | refine blk_drewN ?_ _ | refine blk_drew ?_ | refine blk_alloc ?_ _)); refine blk_far ?_ NB463_478.out _; (with_reducible repeat (first | refine blk_drewN ?_ _ | refine blk_drew ?_ | refine blk_alloc ?_ _)); refine blk_far ?_ NB463_478.out _; (with_reducible repeat (first | refine blk_drewN ?_ _ | refine blk_drew ?_ | refine blk_alloc ?_ _)); refine blk_far ?_ NB463_478.out _; (with_reducible repeat (first | refine blk_drewN ?_ _ | refine blk_drew ?_ | refine blk_alloc ?_ _)); refine blk_far ?_ NB463_478.out _; (with_reducible repeat (first | refine blk_drewN ?_ _ | refine blk_drew ?_ | refine blk_alloc ?_ _)); refine blk_far ?_ NB463_478.out _; (with_reducible repeat (first | refine blk_drewN ?_ _ | refine blk_drew ?_ | refine blk_alloc ?_ _)); refine blk_far ?_ NB463_478.out _; (with_reducible repeat (first | refine blk_drewN ?_ _ | refine blk_drew ?_ | refine blk_alloc ?_ _)); refine blk_far ?_ NB463_478.out _; (with_reducible repeat (first | refine blk_drewN ?_ _ | refine blk_drew ?_ | refine blk_alloc ?_ _)); refine blk_far ?_ NB463_478.out _; (with_reducible repeat (first | refine blk_drewN ?_ _ | refine blk_drew ?_ | refine blk_alloc ?_ _)); refine blk_far ?_ NB463_478.out _; (with_reducible repeat (first | refine blk_drewN ?_ _ | refine blk_drew ?_ | refine blk_alloc ?_ _)); refine blk_far ?_ NB463_478.out _; (with_reducible repeat (first | refine blk_drewN ?_ _ | refine blk_drew ?_ | refine blk_alloc ?_ _)); refine blk_far ?_ NB463_478.out _; (with_reducible repeat (first | refine blk_drewN ?_ _ | refine blk_drew ?_ | refine blk_alloc ?_ _)); refine blk_far ?_ NB463_478.out _; (with_reducible repeat (first | refine blk_drewN ?_ _ | refine blk_drew ?_ | refine blk_alloc ?_ _)); exact BK463.out) hb); have n1_ := Aside0.mk (blk_below (g := gb478) (o := .cells #[.int .i64 t464, .int .i64 t465, .int .i64 t466, .int .i64 t467, .int .i64 t468, .int .i64 t469, .int .i64 t470, .int .i64 t471, .int .i64 t472, .int .i64 t473, .int .i64 t474, .bool t475, .bool t476] 25 (0, 0)) (by (with_reducible repeat (first | refine blk_drewN ?_ _ | refine blk_drew ?_ | refine blk_alloc ?_ _)); apply E14_13; (with_reducible repeat (first | refine blk_drewN ?_ _ | refine blk_drew ?_ | refine blk_alloc ?_ _)); exact BK478.out) hb); have n2_ := Aside0.mk Z14_17; clear BK463; clear BK478; clear HB; have BK463 := n0_; have BK478 := n1_; have HB := n2_; clear n0_ n1_ n2_; (try clear hb); (try clear hb2); (try clear hk); (try clear hi)) | ((with_reducible refine gate_dst (N := 6) rfl ?_); refine box_event ?hg (N := 6) ?hd (cs := #[.int .i64 0, .int .i64 0, .int .i64 0, .int .i64 0, .int .i64 0, .int .i64 0, .int .i64 0, .int .i64 0, .int .i64 0, .int .i64 0, .int .i64 0, .bool false, .bool false]) (t := 25) ?hr ?_; (case hd => rfl); (case hg => rfl); (case hr => first | (go_simp; done) | (go_simp; rfl)); intro gb494 hg w42 hbox hb; have n0_ := Aside0.mk Z14_2; have n1_ := Aside0.mk Z14_3; have n2_ := Aside0.mk Z14_17; have n3_ := Aside0.mk (hbox); have n4_ := Aside0.mk Z14_14; have n5_ := Aside0.mk Z14_14; have n6_ := Aside0.mk ((by rw [hg]; exact Nat.ne_of_lt (blk_lt (g := gb463) (o := .cells #[.int .i64 t450, .int .i64 t451, .int .i64 t452, .int .i64 t453, .int .i64 t454, .int .i64 t455, .int .i64 t456, .int .i64 t457, .int .i64 t458, .int .i64 t459, .int .i64 t460, .bool t461, .bool t462] 25 (0, 0)) Z14_23) : gb463 ≠ gb494)); have n7_ := Aside0.mk ((by rw [hg]; exact Nat.ne_of_gt (blk_lt (g := gb463) (o := .cells #[.int .i64 t450, .int .i64 t451, .int .i64 t452, .int .i64 t453, .int .i64 t454, .int .i64 t455, .int .i64 t456, .int .i64 t457, .int .i64 t458, .int .i64 t459, .int .i64 t460, .bool t461, .bool t462] 25 (0, 0)) Z14_23) : gb494 ≠ gb463)); have n8_ := Aside0.mk ((by rw [hg]; exact Nat.ne_of_lt (blk_lt (g := gb478) (o := .cells #[.int .i64 t464, .int .i64 t465, .int .i64 t466, .int .i64 t467, .int .i64 t468, .int .i64 t469, .int .i64 t470, .int .i64 t471, .int .i64 t472, .int .i64 t473, .int .i64 t474, .bool t475, .bool t476] 25 (0, 0)) Z14_24) : gb478 ≠ gb494)); have n9_ := Aside0.mk ((by rw [hg]; exact Nat.ne_of_gt (blk_lt (g := gb478) (o := .cells #[.int .i64 t464, .int .i64 t465, .int .i64 t466, .int .i64 t467, .int .i64 t468, .int .i64 t469, .int .i64 t470, .int .i64 t471, .int .i64 t472, .int .i64 t473, .int .i64 t474, .bool t475, .bool t476] 25 (0, 0)) Z14_24) : gb494 ≠ gb478)); clear BK463; clear BK478; clear HB; have BK463 := n0_; have BK478 := n1_; have HB := n2_; have BK494 := n3_; have GW494 := n4_; have GE494 := n5_; have NB463_494 := n6_; have NB494_463 := n7_; have NB478_494 := n8_; have NB494_478 := n9_; clear n0_ n1_ n2_ n3_ n4_ n5_ n6_ n7_ n8_ n9_; clear hb hbox hg; have hnb43 := NB494_463.out; have hnc43 := NB463_494.out; have hnb44 := NB494_478.out; have hnc44 := NB478_494.out; obtain ⟨⟨hcz45_0, hcz45_1, hcz45_2, hcz45_3, hcz45_4, hcz45_5, hcz45_6, hcz45_7, hcz45_8, hcz45_9, hcz45_10, hcz45_11, hcz45_12⟩, hfz45_0, hfz45_1, hfz45_2, hfz45_3, hfz45_4, hfz45_5, hfz45_6, hfz45_7, hfz45_8, hfz45_9, hfz45_10, hfz45_11, hfz45_12⟩ := C14_13 BK494.out) | ((with_reducible refine gate_callee (f := 16) rfl ?_); refine goesL_ (some 30) rfl rfl Try.func16 (by kernel_rfl) rfl #[.agg #[.int .i64 t479, .int .i64 t480, .int .i64 t481, .int .i64 t482, .int .i64 t483, .int .i64 t484, .int .i64 t485, .int .i64 t486, .int .i64 t487, .int .i64 t488, .int .i64 t489, .bool t490, .bool t491], .int .i64 t492, .int .i64 t493] rfl Z14_22 ?_; (with_reducible refine (impl_Moved.calls t479 t480 t481 t482 t483 t484 t485 t486 t487 t488 t489 t490 t491 t492 t493 t495 t496 t497 t498 t499 t500 t501 t502 t503 t504 t505 t506 t507 _ A7.out).mono ?_); rintro e w46 ⟨rfl, hb⟩; refine ⟨_, rfl, ?_⟩; have n0_ := Aside0.mk (blk_below (g := gb463) (o := .cells #[.int .i64 t450, .int .i64 t451, .int .i64 t452, .int .i64 t453, .int .i64 t454, .int .i64 t455, .int .i64 t456, .int .i64 t457, .int .i64 t458, .int .i64 t459, .int .i64 t460, .bool t461, .bool t462] 25 (0, 0)) (by (with_reducible repeat (first | refine blk_drewN ?_ _ | refine blk_drew ?_ | refine blk_alloc ?_ _)); refine blk_far ?_ NB463_494.out _; (with_reducible repeat (first | refine blk_drewN ?_ _ | refine blk_drew ?_ | refine blk_alloc ?_ _)); refine blk_far ?_ NB463_494.out _; (with_reducible repeat (first | refine blk_drewN ?_ _ | refine blk_drew ?_ | refine blk_alloc ?_ _)); refine blk_far ?_ NB463_494.out _; (with_reducible repeat (first | refine blk_drewN ?_ _ | refine blk_drew ?_ | refine blk_alloc ?_ _)); refine blk_far ?_ NB463_494.out _; (with_reducible repeat (first | refine blk_drewN ?_ _ | refine blk_drew ?_ | refine blk_alloc ?_ _)); refine blk_far ?_ NB463_494.out _; (with_reducible repeat (first | refine blk_drewN ?_ _ | refine blk_drew ?_ | refine blk_alloc ?_ _)); refine blk_far ?_ NB463_494.out _; (with_reducible repeat (first | refine blk_drewN ?_ _ | refine blk_drew ?_ | refine blk_alloc ?_ _)); refine blk_far ?_ NB463_494.out _; (with_reducible repeat (first | refine blk_drewN ?_ _ | refine blk_drew ?_ | refine blk_alloc ?_ _)); refine blk_far ?_ NB463_494.out _; (with_reducible repeat (first | refine blk_drewN ?_ _ | refine blk_drew ?_ | refine blk_alloc ?_ _)); refine blk_far ?_ NB463_494.out _; (with_reducible repeat (first | refine blk_drewN ?_ _ | refine blk_drew ?_ | refine blk_alloc ?_ _)); refine blk_far ?_ NB463_494.out _; (with_reducible repeat (first | refine blk_drewN ?_ _ | refine blk_drew ?_ | refine blk_alloc ?_ _)); refine blk_far ?_ NB463_494.out _; (with_reducible repeat (first | refine blk_drewN ?_ _ | refine blk_drew ?_ | refine blk_alloc ?_ _)); refine blk_far ?_ NB463_494.out _; (with_reducible repeat (first | refine blk_drewN ?_ _ | refine blk_drew ?_ | refine blk_alloc ?_ _)); refine blk_far ?_ NB463_494.out _; (with_reducible repeat (first | refine blk_drewN ?_ _ | refine blk_drew ?_ | refine blk_alloc ?_ _)); exact BK463.out) hb); have n1_ := Aside0.mk (blk_below (g := gb478) (o := .cells #[.int .i64 t464, .int .i64 t465, .int .i64 t466, .int .i64 t467, .int .i64 t468, .int .i64 t469, .int .i64 t470, .int .i64 t471, .int .i64 t472, .int .i64 t473, .int .i64 t474, .bool t475, .bool t476] 25 (0, 0)) (by (with_reducible repeat (first | refine blk_drewN ?_ _ | refine blk_drew ?_ | refine blk_alloc ?_ _)); refine blk_far ?_ NB478_494.out _; (with_reducible repeat (first | refine blk_drewN ?_ _ | refine blk_drew ?_ | refine blk_alloc ?_ _)); refine blk_far ?_ NB478_494.out _; (with_reducible repeat (first | refine blk_drewN ?_ _ | refine blk_drew ?_ | refine blk_alloc ?_ _)); refine blk_far ?_ NB478_494.out _; (with_reducible repeat (first | refine blk_drewN ?_ _ | refine blk_drew ?_ | refine blk_alloc ?_ _)); refine blk_far ?_ NB478_494.out _; (with_reducible repeat (first | refine blk_drewN ?_ _ | refine blk_drew ?_ | refine blk_alloc ?_ _)); refine blk_far ?_ NB478_494.out _; (with_reducible repeat (first | refine blk_drewN ?_ _ | refine blk_drew ?_ | refine blk_alloc ?_ _)); refine blk_far ?_ NB478_494.out _; (with_reducible repeat (first | refine blk_drewN ?_ _ | refine blk_drew ?_ | refine blk_alloc ?_ _)); refine blk_far ?_ NB478_494.out _; (with_reducible repeat (first | refine blk_drewN ?_ _ | refine blk_drew ?_ | refine blk_alloc ?_ _)); refine blk_far ?_ NB478_494.out _; (with_reducible repeat (first | refine blk_drewN ?_ _ | refine blk_drew ?_ | refine blk_alloc ?_ _)); refine blk_far ?_ NB478_494.out _; (with_reducible repeat (first | refine blk_drewN ?_ _ | refine blk_drew ?_ | refine blk_alloc ?_ _)); refine blk_far ?_ NB478_494.out _; (with_reducible repeat (first | refine blk_drewN ?_ _ | refine blk_drew ?_ | refine blk_alloc ?_ _)); refine blk_far ?_ NB478_494.out _; (with_reducible repeat (first | refine blk_drewN ?_ _ | refine blk_drew ?_ | refine blk_alloc ?_ _)); refine blk_far ?_ NB478_494.out _; (with_reducible repeat (first | refine blk_drewN ?_ _ | refine blk_drew ?_ | refine blk_alloc ?_ _)); refine blk_far ?_ NB478_494.out _; (with_reducible repeat (first | refine blk_drewN ?_ _ | refine blk_drew ?_ | refine blk_alloc ?_ _)); exact BK478.out) hb); have n2_ := Aside0.mk (blk_below (g := gb494) (o := .cells #[.int .i64 t479, .int .i64 t480, .int .i64 t481, .int .i64 t482, .int .i64 t483, .int .i64 t484, .int .i64 t485, .int .i64 t486, .int .i64 t487, .int .i64 t488, .int .i64 t489, .bool t490, .bool t491] 25 (0, 0)) (by (with_reducible repeat (first | refine blk_drewN ?_ _ | refine blk_drew ?_ | refine blk_alloc ?_ _)); apply E14_13; (with_reducible repeat (first | refine blk_drewN ?_ _ | refine blk_drew ?_ | refine blk_alloc ?_ _)); exact BK494.out) hb); have n3_ := Aside0.mk Z14_15; clear BK463; clear BK478; clear BK494; clear HB; have BK463 := n0_; have BK478 := n1_; have BK494 := n2_; have HB := n3_; clear n0_ n1_ n2_ n3_; (try clear hb); (try clear hb2); (try clear hk); (try clear hi)) | ((with_reducible refine gate_dst (N := 9) rfl ?_); refine box_event ?hg (N := 9) ?hd (cs := #[.int .i64 0, .int .i64 0, .int .i64 0, .int .i64 0, .int .i64 0, .int .i64 0, .int .i64 0, .int .i64 0, .int .i64 0, .int .i64 0, .int .i64 0, .bool false, .bool false]) (t := 25) ?hr ?_; (case hd => rfl); (case hg => rfl); (case hr => first | (go_simp; done) | (go_simp; rfl)); intro gb508 hg w47 hbox hb; have n0_ := Aside0.mk Z14_2; have n1_ := Aside0.mk Z14_3; have n2_ := Aside0.mk Z14_4; have n3_ := Aside0.mk Z14_15; have n4_ := Aside0.mk (hbox); have n5_ := Aside0.mk Z14_12; have n6_ := Aside0.mk Z14_12; have n7_ := Aside0.mk ((by rw [hg]; exact Nat.ne_of_lt (blk_lt (g := gb463) (o := .cells #[.int .i64 t450, .int .i64 t451, .int .i64 t452, .int .i64 t453, .int .i64 t454, .int .i64 t455, .int .i64 t456, .int .i64 t457, .int .i64 t458, .int .i64 t459, .int .i64 t460, .bool t461, .bool t462] 25 (0, 0)) Z14_23) : gb463 ≠ gb508)); have n8_ := Aside0.mk ((by rw [hg]; exact Nat.ne_of_gt (blk_lt (g := gb463) (o := .cells #[.int .i64 t450, .int .i64 t451, .int .i64 t452, .int .i64 t453, .int .i64 t454, .int .i64 t455, .int .i64 t456, .int .i64 t457, .int .i64 t458, .int .i64 t459, .int .i64 t460, .bool t461, .bool t462] 25 (0, 0)) Z14_23) : gb508 ≠ gb463)); have n9_ := Aside0.mk ((by rw [hg]; exact Nat.ne_of_lt (blk_lt (g := gb478) (o := .cells #[.int .i64 t464, .int .i64 t465, .int .i64 t466, .int .i64 t467, .int .i64 t468, .int .i64 t469, .int .i64 t470, .int .i64 t471, .int .i64 t472, .int .i64 t473, .int .i64 t474, .bool t475, .bool t476] 25 (0, 0)) Z14_24) : gb478 ≠ gb508)); have n10_ := Aside0.mk ((by rw [hg]; exact Nat.ne_of_gt (blk_lt (g := gb478) (o := .cells #[.int .i64 t464, .int .i64 t465, .int .i64 t466, .int .i64 t467, .int .i64 t468, .int .i64 t469, .int .i64 t470, .int .i64 t471, .int .i64 t472, .int .i64 t473, .int .i64 t474, .bool t475, .bool t476] 25 (0, 0)) Z14_24) : gb508 ≠ gb478)); have n11_ := Aside0.mk ((by rw [hg]; exact Nat.ne_of_lt (blk_lt (g := gb494) (o := .cells #[.int .i64 t479, .int .i64 t480, .int .i64 t481, .int .i64 t482, .int .i64 t483, .int .i64 t484, .int .i64 t485, .int .i64 t486, .int .i64 t487, .int .i64 t488, .int .i64 t489, .bool t490, .bool t491] 25 (0, 0)) Z14_25) : gb494 ≠ gb508)); have n12_ := Aside0.mk ((by rw [hg]; exact Nat.ne_of_gt (blk_lt (g := gb494) (o := .cells #[.int .i64 t479, .int .i64 t480, .int .i64 t481, .int .i64 t482, .int .i64 t483, .int .i64 t484, .int .i64 t485, .int .i64 t486, .int .i64 t487, .int .i64 t488, .int .i64 t489, .bool t490, .bool t491] 25 (0, 0)) Z14_25) : gb508 ≠ gb494)); clear BK463; clear BK478; clear BK494; clear HB; have BK463 := n0_; have BK478 := n1_; have BK494 := n2_; have HB := n3_; have BK508 := n4_; have GW508 := n5_; have GE508 := n6_; have NB463_508 := n7_; have NB508_463 := n8_; have NB478_508 := n9_; have NB508_478 := n10_; have NB494_508 := n11_; have NB508_494 := n12_; clear n0_ n1_ n2_ n3_ n4_ n5_ n6_ n7_ n8_ n9_ n10_ n11_ n12_; clear hb hbox hg; have hnb48 := NB508_463.out; have hnc48 := NB463_508.out; have hnb49 := NB508_478.out; have hnc49 := NB478_508.out; have hnb50 := NB508_494.out; have hnc50 := NB494_508.out; obtain ⟨⟨hcz51_0, hcz51_1, hcz51_2, hcz51_3, hcz51_4, hcz51_5, hcz51_6, hcz51_7, hcz51_8, hcz51_9, hcz51_10, hcz51_11, hcz51_12⟩, hfz51_0, hfz51_1, hfz51_2, hfz51_3, hfz51_4, hfz51_5, hfz51_6, hfz51_7, hfz51_8, hfz51_9, hfz51_10, hfz51_11, hfz51_12⟩ := C14_13 BK508.out) | ((with_reducible refine gate_callee (f := 17) rfl ?_); refine goesL_ (some 33) rfl rfl Try.func17 (by kernel_rfl) rfl #[.slice A0 l0.length c0] rfl Z14_22 ?_; (with_reducible refine (spec_DrawSamePiece.calls k _ _ l0 t509 t510 t511 t512 t513 t514 t515 t516 t517 t518 t519 t520 t521 t522 t523 t524 t525 t526 t527 t528 t529 t530 t531 t532 t533 t534 _ ?side1 ?side2 A8.out).mono ?_); (case side1 => exact Kd.C_below HR0.out (by repeat (first | (with_reducible first | exact HB.out | apply below_alloc | apply pw_below_drewN | apply below_drew1 | refine below_set ?_ GE463.out | refine below_set ?_ GE478.out | refine below_set ?_ GE494.out | refine below_set ?_ GE508.out) | exact HB.out))); (case side2 => exact HC0.out); rintro e w52 ⟨rfl, hb⟩; refine ⟨_, rfl, ?_⟩; have n0_ := Aside0.mk (blk_below (g := gb463) (o := .cells #[.int .i64 t450, .int .i64 t451, .int .i64 t452, .int .i64 t453, .int .i64 t454, .int .i64 t455, .int .i64 t456, .int .i64 t457, .int .i64 t458, .int .i64 t459, .int .i64 t460, .bool t461, .bool t462] 25 (0, 0)) (by (with_reducible repeat (first | refine blk_drewN ?_ _ | refine blk_drew ?_ | refine blk_alloc ?_ _)); refine blk_far ?_ NB463_508.out _; (with_reducible repeat (first | refine blk_drewN ?_ _ | refine blk_drew ?_ | refine blk_alloc ?_ _)); refine blk_far ?_ NB463_508.out _; (with_reducible repeat (first | refine blk_drewN ?_ _ | refine blk_drew ?_ | refine blk_alloc ?_ _)); refine blk_far ?_ NB463_508.out _; (with_reducible repeat (first | refine blk_drewN ?_ _ | refine blk_drew ?_ | refine blk_alloc ?_ _)); refine blk_far ?_ NB463_508.out _; (with_reducible repeat (first | refine blk_drewN ?_ _ | refine blk_drew ?_ | refine blk_alloc ?_ _)); refine blk_far ?_ NB463_508.out _; (with_reducible repeat (first | refine blk_drewN ?_ _ | refine blk_drew ?_ | refine blk_alloc ?_ _)); refine blk_far ?_ NB463_508.out _; (with_reducible repeat (first | refine blk_drewN ?_ _ | refine blk_drew ?_ | refine blk_alloc ?_ _)); refine blk_far ?_ NB463_508.out _; (with_reducible repeat (first | refine blk_drewN ?_ _ | refine blk_drew ?_ | refine blk_alloc ?_ _)); refine blk_far ?_ NB463_508.out _; (with_reducible repeat (first | refine blk_drewN ?_ _ | refine blk_drew ?_ | refine blk_alloc ?_ _)); refine blk_far ?_ NB463_508.out _; (with_reducible repeat (first | refine blk_drewN ?_ _ | refine blk_drew ?_ | refine blk_alloc ?_ _)); refine blk_far ?_ NB463_508.out _; (with_reducible repeat (first | refine blk_drewN ?_ _ | refine blk_drew ?_ | refine blk_alloc ?_ _)); refine blk_far ?_ NB463_508.out _; (with_reducible repeat (first | refine blk_drewN ?_ _ | refine blk_drew ?_ | refine blk_alloc ?_ _)); refine blk_far ?_ NB463_508.out _; (with_reducible repeat (first | refine blk_drewN ?_ _ | refine blk_drew ?_ | refine blk_alloc ?_ _)); refine blk_far ?_ NB463_508.out _; (with_reducible repeat (first | refine blk_drewN ?_ _ | refine blk_drew ?_ | refine blk_alloc ?_ _)); exact BK463.out) hb); have n1_ := Aside0.mk (blk_below (g := gb478) (o := .cells #[.int .i64 t464, .int .i64 t465, .int .i64 t466, .int .i64 t467, .int .i64 t468, .int .i64 t469, .int .i64 t470, .int .i64 t471, .int .i64 t472, .int .i64 t473, .int .i64 t474, .bool t475, .bool t476] 25 (0, 0)) (by (with_reducible repeat (first | refine blk_drewN ?_ _ | refine blk_drew ?_ | refine blk_alloc ?_ _)); refine blk_far ?_ NB478_508.out _; (with_reducible repeat (first | refine blk_drewN ?_ _ | refine blk_drew ?_ | refine blk_alloc ?_ _)); refine blk_far ?_ NB478_508.out _; (with_reducible repeat (first | refine blk_drewN ?_ _ | refine blk_drew ?_ | refine blk_alloc ?_ _)); refine blk_far ?_ NB478_508.out _; (with_reducible repeat (first | refine blk_drewN ?_ _ | refine blk_drew ?_ | refine blk_alloc ?_ _)); refine blk_far ?_ NB478_508.out _; (with_reducible repeat (first | refine blk_drewN ?_ _ | refine blk_drew ?_ | refine blk_alloc ?_ _)); refine blk_far ?_ NB478_508.out _; (with_reducible repeat (first | refine blk_drewN ?_ _ | refine blk_drew ?_ | refine blk_alloc ?_ _)); refine blk_far ?_ NB478_508.out _; (with_reducible repeat (first | refine blk_drewN ?_ _ | refine blk_drew ?_ | refine blk_alloc ?_ _)); refine blk_far ?_ NB478_508.out _; (with_reducible repeat (first | refine blk_drewN ?_ _ | refine blk_drew ?_ | refine blk_alloc ?_ _)); refine blk_far ?_ NB478_508.out _; (with_reducible repeat (first | refine blk_drewN ?_ _ | refine blk_drew ?_ | refine blk_alloc ?_ _)); refine blk_far ?_ NB478_508.out _; (with_reducible repeat (first | refine blk_drewN ?_ _ | refine blk_drew ?_ | refine blk_alloc ?_ _)); refine blk_far ?_ NB478_508.out _; (with_reducible repeat (first | refine blk_drewN ?_ _ | refine blk_drew ?_ | refine blk_alloc ?_ _)); refine blk_far ?_ NB478_508.out _; (with_reducible repeat (first | refine blk_drewN ?_ _ | refine blk_drew ?_ | refine blk_alloc ?_ _)); refine blk_far ?_ NB478_508.out _; (with_reducible repeat (first | refine blk_drewN ?_ _ | refine blk_drew ?_ | refine blk_alloc ?_ _)); refine blk_far ?_ NB478_508.out _; (with_reducible repeat (first | refine blk_drewN ?_ _ | refine blk_drew ?_ | refine blk_alloc ?_ _)); exact BK478.out) hb); have n2_ := Aside0.mk (blk_below (g := gb494) (o := .cells #[.int .i64 t479, .int .i64 t480, .int .i64 t481, .int .i64 t482, .int .i64 t483, .int .i64 t484, .int .i64 t485, .int .i64 t486, .int .i64 t487, .int .i64 t488, .int .i64 t489, .bool t490, .bool t491] 25 (0, 0)) (by (with_reducible repeat (first | refine blk_drewN ?_ _ | refine blk_drew ?_ | refine blk_alloc ?_ _)); refine blk_far ?_ NB494_508.out _; (with_reducible repeat (first | refine blk_drewN ?_ _ | refine blk_drew ?_ | refine blk_alloc ?_ _)); refine blk_far ?_ NB494_508.out _; (with_reducible repeat (first | refine blk_drewN ?_ _ | refine blk_drew ?_ | refine blk_alloc ?_ _)); refine blk_far ?_ NB494_508.out _; (with_reducible repeat (first | refine blk_drewN ?_ _ | refine blk_drew ?_ | refine blk_alloc ?_ _)); refine blk_far ?_ NB494_508.out _; (with_reducible repeat (first | refine blk_drewN ?_ _ | refine blk_drew ?_ | refine blk_alloc ?_ _)); refine blk_far ?_ NB494_508.out _; (with_reducible repeat (first | refine blk_drewN ?_ _ | refine blk_drew ?_ | refine blk_alloc ?_ _)); refine blk_far ?_ NB494_508.out _; (with_reducible repeat (first | refine blk_drewN ?_ _ | refine blk_drew ?_ | refine blk_alloc ?_ _)); refine blk_far ?_ NB494_508.out _; (with_reducible repeat (first | refine blk_drewN ?_ _ | refine blk_drew ?_ | refine blk_alloc ?_ _)); refine blk_far ?_ NB494_508.out _; (with_reducible repeat (first | refine blk_drewN ?_ _ | refine blk_drew ?_ | refine blk_alloc ?_ _)); refine blk_far ?_ NB494_508.out _; (with_reducible repeat (first | refine blk_drewN ?_ _ | refine blk_drew ?_ | refine blk_alloc ?_ _)); refine blk_far ?_ NB494_508.out _; (with_reducible repeat (first | refine blk_drewN ?_ _ | refine blk_drew ?_ | refine blk_alloc ?_ _)); refine blk_far ?_ NB494_508.out _; (with_reducible repeat (first | refine blk_drewN ?_ _ | refine blk_drew ?_ | refine blk_alloc ?_ _)); refine blk_far ?_ NB494_508.out _; (with_reducible repeat (first | refine blk_drewN ?_ _ | refine blk_drew ?_ | refine blk_alloc ?_ _)); refine blk_far ?_ NB494_508.out _; (with_reducible repeat (first | refine blk_drewN ?_ _ | refine blk_drew ?_ | refine blk_alloc ?_ _)); exact BK494.out) hb); have n3_ := Aside0.mk (blk_below (g := gb508) (o := .cells #[.int .i64 t495, .int .i64 t496, .int .i64 t497, .int .i64 t498, .int .i64 t499, .int .i64 t500, .int .i64 t501, .int .i64 t502, .int .i64 t503, .int .i64 t504, .int .i64 t505, .bool t506, .bool t507] 25 (0, 0)) (by (with_reducible repeat (first | refine blk_drewN ?_ _ | refine blk_drew ?_ | refine blk_alloc ?_ _)); apply E14_13; (with_reducible repeat (first | refine blk_drewN ?_ _ | refine blk_drew ?_ | refine blk_alloc ?_ _)); exact BK508.out) hb); have n4_ := Aside0.mk Z14_13; clear BK463; clear BK478; clear BK494; clear BK508; clear HB; have BK463 := n0_; have BK478 := n1_; have BK494 := n2_; have BK508 := n3_; have HB := n4_; clear n0_ n1_ n2_ n3_ n4_; (try clear hb); (try clear hb2); (try clear hk); (try clear hi)) | ((with_reducible refine gate_dst (N := 10) rfl ?_); refine box_event ?hg (N := 10) ?hd (cs := #[.int .i64 0, .int .i64 0, .int .i64 0, .int .i64 0, .int .i64 0, .int .i64 0, .int .i64 0, .int .i64 0, .int .i64 0, .int .i64 0, .int .i64 0, .bool false, .bool false]) (t := 25) ?hr ?_; (case hd => rfl); (case hg => rfl); (case hr => first | (go_simp; done) | (go_simp; rfl)); intro gb535 hg w53 hbox hb; have n0_ := Aside0.mk Z14_2; have n1_ := Aside0.mk Z14_3; have n2_ := Aside0.mk Z14_4; have n3_ := Aside0.mk Z14_5; have n4_ := Aside0.mk Z14_13; have n5_ := Aside0.mk (hbox); have n6_ := Aside0.mk Z14_11; have n7_ := Aside0.mk Z14_11; have n8_ := Aside0.mk ((by rw [hg]; exact Nat.ne_of_lt (blk_lt (g := gb463) (o := .cells #[.int .i64 t450, .int .i64 t451, .int .i64 t452, .int .i64 t453, .int .i64 t454, .int .i64 t455, .int .i64 t456, .int .i64 t457, .int .i64 t458, .int .i64 t459, .int .i64 t460, .bool t461, .bool t462] 25 (0, 0)) Z14_23) : gb463 ≠ gb535)); have n9_ := Aside0.mk ((by rw [hg]; exact Nat.ne_of_gt (blk_lt (g := gb463) (o := .cells #[.int .i64 t450, .int .i64 t451, .int .i64 t452, .int .i64 t453, .int .i64 t454, .int .i64 t455, .int .i64 t456, .int .i64 t457, .int .i64 t458, .int .i64 t459, .int .i64 t460, .bool t461, .bool t462] 25 (0, 0)) Z14_23) : gb535 ≠ gb463)); have n10_ := Aside0.mk ((by rw [hg]; exact Nat.ne_of_lt (blk_lt (g := gb478) (o := .cells #[.int .i64 t464, .int .i64 t465, .int .i64 t466, .int .i64 t467, .int .i64 t468, .int .i64 t469, .int .i64 t470, .int .i64 t471, .int .i64 t472, .int .i64 t473, .int .i64 t474, .bool t475, .bool t476] 25 (0, 0)) Z14_24) : gb478 ≠ gb535)); have n11_ := Aside0.mk ((by rw [hg]; exact Nat.ne_of_gt (blk_lt (g := gb478) (o := .cells #[.int .i64 t464, .int .i64 t465, .int .i64 t466, .int .i64 t467, .int .i64 t468, .int .i64 t469, .int .i64 t470, .int .i64 t471, .int .i64 t472, .int .i64 t473, .int .i64 t474, .bool t475, .bool t476] 25 (0, 0)) Z14_24) : gb535 ≠ gb478)); have n12_ := Aside0.mk ((by rw [hg]; exact Nat.ne_of_lt (blk_lt (g := gb494) (o := .cells #[.int .i64 t479, .int .i64 t480, .int .i64 t481, .int .i64 t482, .int .i64 t483, .int .i64 t484, .int .i64 t485, .int .i64 t486, .int .i64 t487, .int .i64 t488, .int .i64 t489, .bool t490, .bool t491] 25 (0, 0)) Z14_25) : gb494 ≠ gb535)); have n13_ := Aside0.mk ((by rw [hg]; exact Nat.ne_of_gt (blk_lt (g := gb494) (o := .cells #[.int .i64 t479, .int .i64 t480, .int .i64 t481, .int .i64 t482, .int .i64 t483, .int .i64 t484, .int .i64 t485, .int .i64 t486, .int .i64 t487, .int .i64 t488, .int .i64 t489, .bool t490, .bool t491] 25 (0, 0)) Z14_25) : gb535 ≠ gb494)); have n14_ := Aside0.mk ((by rw [hg]; exact Nat.ne_of_lt (blk_lt (g := gb508) (o := .cells #[.int .i64 t495, .int .i64 t496, .int .i64 t497, .int .i64 t498, .int .i64 t499, .int .i64 t500, .int .i64 t501, .int .i64 t502, .int .i64 t503, .int .i64 t504, .int .i64 t505, .bool t506, .bool t507] 25 (0, 0)) Z14_26) : gb508 ≠ gb535)); have n15_ := Aside0.mk ((by rw [hg]; exact Nat.ne_of_gt (blk_lt (g := gb508) (o := .cells #[.int .i64 t495, .int .i64 t496, .int .i64 t497, .int .i64 t498, .int .i64 t499, .int .i64 t500, .int .i64 t501, .int .i64 t502, .int .i64 t503, .int .i64 t504, .int .i64 t505, .bool t506, .bool t507] 25 (0, 0)) Z14_26) : gb535 ≠ gb508)); clear BK463; clear BK478; clear BK494; clear BK508; clear HB; have BK463 := n0_; have BK478 := n1_; have BK494 := n2_; have BK508 := n3_; have HB := n4_; have BK535 := n5_; have GW535 := n6_; have GE535 := n7_; have NB463_535 := n8_; have NB535_463 := n9_; have NB478_535 := n10_; have NB535_478 := n11_; have NB494_535 := n12_; have NB535_494 := n13_; have NB508_535 := n14_; have NB535_508 := n15_; clear n0_ n1_ n2_ n3_ n4_ n5_ n6_ n7_ n8_ n9_ n10_ n11_ n12_ n13_ n14_ n15_; clear hb hbox hg) | ((with_reducible refine gate_dst (N := 11) rfl ?_); refine box_event ?hg (N := 11) ?hd (cs := #[.int .i64 0, .int .i64 0, .int .i64 0, .int .i64 0, .int .i64 0, .int .i64 0, .int .i64 0, .int .i64 0, .int .i64 0, .int .i64 0, .int .i64 0, .bool false, .bool false]) (t := 25) ?hr ?_; (case hd => rfl); (case hg => rfl); (case hr => first | (go_simp; done) | (go_simp; rfl)); intro gb536 hg w54 hbox hb; have n0_ := Aside0.mk Z14_2; have n1_ := Aside0.mk Z14_3; have n2_ := Aside0.mk Z14_4; have n3_ := Aside0.mk Z14_5; have n4_ := Aside0.mk (blk_below (g := gb535) (o := .cells #[.int .i64 0, .int .i64 0, .int .i64 0, .int .i64 0, .int .i64 0, .int .i64 0, .int .i64 0, .int .i64 0, .int .i64 0, .int .i64 0, .int .i64 0, .bool false, .bool false] 25 (0, 0)) Z14_27 hb); have n5_ := Aside0.mk (below_step (by repeat (first | (with_reducible first | exact HB.out | apply below_alloc | apply pw_below_drewN | apply below_drew1 | refine below_set ?_ GE463.out | refine below_set ?_ GE478.out | refine below_set ?_ GE494.out | refine below_set ?_ GE508.out | refine below_set ?_ GE535.out) | exact HB.out)) hb); have n6_ := Aside0.mk (hbox); have n7_ := Aside0.mk Z14_8; have n8_ := Aside0.mk Z14_8; have n9_ := Aside0.mk ((by rw [hg]; exact Nat.ne_of_lt (blk_lt (g := gb463) (o := .cells #[.int .i64 t450, .int .i64 t451, .int .i64 t452, .int .i64 t453, .int .i64 t454, .int .i64 t455, .int .i64 t456, .int .i64 t457, .int .i64 t458, .int .i64 t459, .int .i64 t460, .bool t461, .bool t462] 25 (0, 0)) Z14_23) : gb463 ≠ gb536)); have n10_ := Aside0.mk ((by rw [hg]; exact Nat.ne_of_gt (blk_lt (g := gb463) (o := .cells #[.int .i64 t450, .int .i64 t451, .int .i64 t452, .int .i64 t453, .int .i64 t454, .int .i64 t455, .int .i64 t456, .int .i64 t457, .int .i64 t458, .int .i64 t459, .int .i64 t460, .bool t461, .bool t462] 25 (0, 0)) Z14_23) : gb536 ≠ gb463)); have n11_ := Aside0.mk ((by rw [hg]; exact Nat.ne_of_lt (blk_lt (g := gb478) (o := .cells #[.int .i64 t464, .int .i64 t465, .int .i64 t466, .int .i64 t467, .int .i64 t468, .int .i64 t469, .int .i64 t470, .int .i64 t471, .int .i64 t472, .int .i64 t473, .int .i64 t474, .bool t475, .bool t476] 25 (0, 0)) Z14_24) : gb478 ≠ gb536)); have n12_ := Aside0.mk ((by rw [hg]; exact Nat.ne_of_gt (blk_lt (g := gb478) (o := .cells #[.int .i64 t464, .int .i64 t465, .int .i64 t466, .int .i64 t467, .int .i64 t468, .int .i64 t469, .int .i64 t470, .int .i64 t471, .int .i64 t472, .int .i64 t473, .int .i64 t474, .bool t475, .bool t476] 25 (0, 0)) Z14_24) : gb536 ≠ gb478)); have n13_ := Aside0.mk ((by rw [hg]; exact Nat.ne_of_lt (blk_lt (g := gb494) (o := .cells #[.int .i64 t479, .int .i64 t480, .int .i64 t481, .int .i64 t482, .int .i64 t483, .int .i64 t484, .int .i64 t485, .int .i64 t486, .int .i64 t487, .int .i64 t488, .int .i64 t489, .bool t490, .bool t491] 25 (0, 0)) Z14_25) : gb494 ≠ gb536)); have n14_ := Aside0.mk ((by rw [hg]; exact Nat.ne_of_gt (blk_lt (g := gb494) (o := .cells #[.int .i64 t479, .int .i64 t480, .int .i64 t481, .int .i64 t482, .int .i64 t483, .int .i64 t484, .int .i64 t485, .int .i64 t486, .int .i64 t487, .int .i64 t488, .int .i64 t489, .bool t490, .bool t491] 25 (0, 0)) Z14_25) : gb536 ≠ gb494)); have n15_ := Aside0.mk ((by rw [hg]; exact Nat.ne_of_lt (blk_lt (g := gb508) (o := .cells #[.int .i64 t495, .int .i64 t496, .int .i64 t497, .int .i64 t498, .int .i64 t499, .int .i64 t500, .int .i64 t501, .int .i64 t502, .int .i64 t503, .int .i64 t504, .int .i64 t505, .bool t506, .bool t507] 25 (0, 0)) Z14_26) : gb508 ≠ gb536)); have n16_ := Aside0.mk ((by rw [hg]; exact Nat.ne_of_gt (blk_lt (g := gb508) (o := .cells #[.int .i64 t495, .int .i64 t496, .int .i64 t497, .int .i64 t498, .int .i64 t499, .int .i64 t500, .int .i64 t501, .int .i64 t502, .int .i64 t503, .int .i64 t504, .int .i64 t505, .bool t506, .bool t507] 25 (0, 0)) Z14_26) : gb536 ≠ gb508)); have n17_ := Aside0.mk ((by rw [hg]; exact Nat.ne_of_lt (blk_lt (g := gb535) (o := .cells #[.int .i64 0, .int .i64 0, .int .i64 0, .int .i64 0, .int .i64 0, .int .i64 0, .int .i64 0, .int .i64 0, .int .i64 0, .int .i64 0, .int .i64 0, .bool false, .bool false] 25 (0, 0)) Z14_27) : gb535 ≠ gb536)); have n18_ := Aside0.mk ((by rw [hg]; exact Nat.ne_of_gt (blk_lt (g := gb535) (o := .cells #[.int .i64 0, .int .i64 0, .int .i64 0, .int .i64 0, .int .i64 0, .int .i64 0, .int .i64 0, .int .i64 0, .int .i64 0, .int .i64 0, .int .i64 0, .bool false, .bool false] 25 (0, 0)) Z14_27) : gb536 ≠ gb535)); clear BK463; clear BK478; clear BK494; clear BK508; clear BK535; clear HB; have BK463 := n0_; have BK478 := n1_; have BK494 := n2_; have BK508 := n3_; have BK535 := n4_; have HB := n5_; have BK536 := n6_; have GW536 := n7_; have GE536 := n8_; have NB463_536 := n9_; have NB536_463 := n10_; have NB478_536 := n11_; have NB536_478 := n12_; have NB494_536 := n13_; have NB536_494 := n14_; have NB508_536 := n15_; have NB536_508 := n16_; have NB535_536 := n17_; have NB536_535 := n18_; clear n0_ n1_ n2_ n3_ n4_ n5_ n6_ n7_ n8_ n9_ n10_ n11_ n12_ n13_ n14_ n15_ n16_ n17_ n18_; clear hb hbox hg; have hnb55 := NB535_463.out; have hnc55 := NB463_535.out; have hnb56 := NB535_478.out; have hnc56 := NB478_535.out; have hnb57 := NB535_494.out; have hnc57 := NB494_535.out; have hnb58 := NB535_508.out; have hnc58 := NB508_535.out; have hnb59 := NB535_536.out; have hnc59 := NB536_535.out; obtain ⟨⟨hcz60_0, hcz60_1, hcz60_2, hcz60_3, hcz60_4, hcz60_5, hcz60_6, hcz60_7, hcz60_8, hcz60_9, hcz60_10, hcz60_11, hcz60_12⟩, hfz60_0, hfz60_1, hfz60_2, hfz60_3, hfz60_4, hfz60_5, hfz60_6, hfz60_7, hfz60_8, hfz60_9, hfz60_10, hfz60_11, hfz60_12⟩ := C14_13 BK535.out; have hnb61 := NB536_463.out; have hnc61 := NB463_536.out; have hnb62 := NB536_478.out; have hnc62 := NB478_536.out; have hnb63 := NB536_494.out; have hnc63 := NB494_536.out; have hnb64 := NB536_508.out; have hnc64 := NB508_536.out; obtain ⟨⟨hcz65_0, hcz65_1, hcz65_2, hcz65_3, hcz65_4, hcz65_5, hcz65_6, hcz65_7, hcz65_8, hcz65_9, hcz65_10, hcz65_11, hcz65_12⟩, hfz65_0, hfz65_1, hfz65_2, hfz65_3, hfz65_4, hfz65_5, hfz65_6, hfz65_7, hfz65_8, hfz65_9, hfz65_10, hfz65_11, hfz65_12⟩ := C14_13 BK536.out))
  have n0_ : Aside0 (((((((((((((((((((((((((((w54.setCell ⟨gb535, 0, none⟩ (.int .i64 t509)).setCell ⟨gb535, 1, none⟩ (.int .i64 t510)).setCell ⟨gb535, 2, none⟩ (.int .i64 t511)).setCell ⟨gb535, 3, none⟩ (.int .i64 t512)).setCell ⟨gb535, 4, none⟩ (.int .i64 t513)).setCell ⟨gb535, 5, none⟩ (.int .i64 t514)).setCell ⟨gb535, 6, none⟩ (.int .i64 t515)).setCell ⟨gb535, 7, none⟩ (.int .i64 t516)).setCell ⟨gb535, 8, none⟩ (.int .i64 t517)).setCell ⟨gb535, 9, none⟩ (.int .i64 t518)).setCell ⟨gb535, 10, none⟩ (.int .i64 t519)).setCell ⟨gb535, 11, none⟩ (.bool t520)).setCell ⟨gb535, 12, none⟩ (.bool t521)).setCell ⟨gb536, 0, none⟩ (.int .i64 t522)).setCell ⟨gb536, 1, none⟩ (.int .i64 t523)).setCell ⟨gb536, 2, none⟩ (.int .i64 t524)).setCell ⟨gb536, 3, none⟩ (.int .i64 t525)).setCell ⟨gb536, 4, none⟩ (.int .i64 t526)).setCell ⟨gb536, 5, none⟩ (.int .i64 t527)).setCell ⟨gb536, 6, none⟩ (.int .i64 t528)).setCell ⟨gb536, 7, none⟩ (.int .i64 t529)).setCell ⟨gb536, 8, none⟩ (.int .i64 t530)).setCell ⟨gb536, 9, none⟩ (.int .i64 t531)).setCell ⟨gb536, 10, none⟩ (.int .i64 t532)).setCell ⟨gb536, 11, none⟩ (.bool t533)).setCell ⟨gb536, 12, none⟩ (.bool t534)).heap[gb463]? = some (.cells #[.int .i64 t450, .int .i64 t451, .int .i64 t452, .int .i64 t453, .int .i64 t454, .int .i64 t455, .int .i64 t456, .int .i64 t457, .int .i64 t458, .int .i64 t459, .int .i64 t460, .bool t461, .bool t462] 25 (0, 0))) := ⟨(by (with_reducible repeat (first | refine blk_drewN ?_ _ | refine blk_drew ?_ | refine blk_alloc ?_ _)); refine blk_far ?_ NB463_536.out _; (with_reducible repeat (first | refine blk_drewN ?_ _ | refine blk_drew ?_ | refine blk_alloc ?_ _)); refine blk_far ?_ NB463_536.out _; (with_reducible repeat (first | refine blk_drewN ?_ _ | refine blk_drew ?_ | refine blk_alloc ?_ _)); refine blk_far ?_ NB463_536.out _; (with_reducible repeat (first | refine blk_drewN ?_ _ | refine blk_drew ?_ | refine blk_alloc ?_ _)); refine blk_far ?_ NB463_536.out _; (with_reducible repeat (first | refine blk_drewN ?_ _ | refine blk_drew ?_ | refine blk_alloc ?_ _)); refine blk_far ?_ NB463_536.out _; (with_reducible repeat (first | refine blk_drewN ?_ _ | refine blk_drew ?_ | refine blk_alloc ?_ _)); refine blk_far ?_ NB463_536.out _; (with_reducible repeat (first | refine blk_drewN ?_ _ | refine blk_drew ?_ | refine blk_alloc ?_ _)); refine blk_far ?_ NB463_536.out _; (with_reducible repeat (first | refine blk_drewN ?_ _ | refine blk_drew ?_ | refine blk_alloc ?_ _)); refine blk_far ?_ NB463_536.out _; (with_reducible repeat (first | refine blk_drewN ?_ _ | refine blk_drew ?_ | refine blk_alloc ?_ _)); refine blk_far ?_ NB463_536.out _; (with_reducible repeat (first | refine blk_drewN ?_ _ | refine blk_drew ?_ | refine blk_alloc ?_ _)); refine blk_far ?_ NB463_536.out _; (with_reducible repeat (first | refine blk_drewN ?_ _ | refine blk_drew ?_ | refine blk_alloc ?_ _)); refine blk_far ?_ NB463_536.out _; (with_reducible repeat (first | refine blk_drewN ?_ _ | refine blk_drew ?_ | refine blk_alloc ?_ _)); refine blk_far ?_ NB463_536.out _; (with_reducible repeat (first | refine blk_drewN ?_ _ | refine blk_drew ?_ | refine blk_alloc ?_ _)); refine blk_far ?_ NB463_536.out _; (with_reducible repeat (first | refine blk_drewN ?_ _ | refine blk_drew ?_ | refine blk_alloc ?_ _)); refine blk_far ?_ NB463_535.out _; (with_reducible repeat (first | refine blk_drewN ?_ _ | refine blk_drew ?_ | refine blk_alloc ?_ _)); refine blk_far ?_ NB463_535.out _; (with_reducible repeat (first | refine blk_drewN ?_ _ | refine blk_drew ?_ | refine blk_alloc ?_ _)); refine blk_far ?_ NB463_535.out _; (with_reducible repeat (first | refine blk_drewN ?_ _ | refine blk_drew ?_ | refine blk_alloc ?_ _)); refine blk_far ?_ NB463_535.out _; (with_reducible repeat (first | refine blk_drewN ?_ _ | refine blk_drew ?_ | refine blk_alloc ?_ _)); refine blk_far ?_ NB463_535.out _; (with_reducible repeat (first | refine blk_drewN ?_ _ | refine blk_drew ?_ | refine blk_alloc ?_ _)); refine blk_far ?_ NB463_535.out _; (with_reducible repeat (first | refine blk_drewN ?_ _ | refine blk_drew ?_ | refine blk_alloc ?_ _)); refine blk_far ?_ NB463_535.out _; (with_reducible repeat (first | refine blk_drewN ?_ _ | refine blk_drew ?_ | refine blk_alloc ?_ _)); refine blk_far ?_ NB463_535.out _; (with_reducible repeat (first | refine blk_drewN ?_ _ | refine blk_drew ?_ | refine blk_alloc ?_ _)); refine blk_far ?_ NB463_535.out _; (with_reducible repeat (first | refine blk_drewN ?_ _ | refine blk_drew ?_ | refine blk_alloc ?_ _)); refine blk_far ?_ NB463_535.out _; (with_reducible repeat (first | refine blk_drewN ?_ _ | refine blk_drew ?_ | refine blk_alloc ?_ _)); refine blk_far ?_ NB463_535.out _; (with_reducible repeat (first | refine blk_drewN ?_ _ | refine blk_drew ?_ | refine blk_alloc ?_ _)); refine blk_far ?_ NB463_535.out _; (with_reducible repeat (first | refine blk_drewN ?_ _ | refine blk_drew ?_ | refine blk_alloc ?_ _)); refine blk_far ?_ NB463_535.out _; (with_reducible repeat (first | refine blk_drewN ?_ _ | refine blk_drew ?_ | refine blk_alloc ?_ _)); exact BK463.out)⟩
  have n1_ : Aside0 (((((((((((((((((((((((((((w54.setCell ⟨gb535, 0, none⟩ (.int .i64 t509)).setCell ⟨gb535, 1, none⟩ (.int .i64 t510)).setCell ⟨gb535, 2, none⟩ (.int .i64 t511)).setCell ⟨gb535, 3, none⟩ (.int .i64 t512)).setCell ⟨gb535, 4, none⟩ (.int .i64 t513)).setCell ⟨gb535, 5, none⟩ (.int .i64 t514)).setCell ⟨gb535, 6, none⟩ (.int .i64 t515)).setCell ⟨gb535, 7, none⟩ (.int .i64 t516)).setCell ⟨gb535, 8, none⟩ (.int .i64 t517)).setCell ⟨gb535, 9, none⟩ (.int .i64 t518)).setCell ⟨gb535, 10, none⟩ (.int .i64 t519)).setCell ⟨gb535, 11, none⟩ (.bool t520)).setCell ⟨gb535, 12, none⟩ (.bool t521)).setCell ⟨gb536, 0, none⟩ (.int .i64 t522)).setCell ⟨gb536, 1, none⟩ (.int .i64 t523)).setCell ⟨gb536, 2, none⟩ (.int .i64 t524)).setCell ⟨gb536, 3, none⟩ (.int .i64 t525)).setCell ⟨gb536, 4, none⟩ (.int .i64 t526)).setCell ⟨gb536, 5, none⟩ (.int .i64 t527)).setCell ⟨gb536, 6, none⟩ (.int .i64 t528)).setCell ⟨gb536, 7, none⟩ (.int .i64 t529)).setCell ⟨gb536, 8, none⟩ (.int .i64 t530)).setCell ⟨gb536, 9, none⟩ (.int .i64 t531)).setCell ⟨gb536, 10, none⟩ (.int .i64 t532)).setCell ⟨gb536, 11, none⟩ (.bool t533)).setCell ⟨gb536, 12, none⟩ (.bool t534)).heap[gb478]? = some (.cells #[.int .i64 t464, .int .i64 t465, .int .i64 t466, .int .i64 t467, .int .i64 t468, .int .i64 t469, .int .i64 t470, .int .i64 t471, .int .i64 t472, .int .i64 t473, .int .i64 t474, .bool t475, .bool t476] 25 (0, 0))) := ⟨(by (with_reducible repeat (first | refine blk_drewN ?_ _ | refine blk_drew ?_ | refine blk_alloc ?_ _)); refine blk_far ?_ NB478_536.out _; (with_reducible repeat (first | refine blk_drewN ?_ _ | refine blk_drew ?_ | refine blk_alloc ?_ _)); refine blk_far ?_ NB478_536.out _; (with_reducible repeat (first | refine blk_drewN ?_ _ | refine blk_drew ?_ | refine blk_alloc ?_ _)); refine blk_far ?_ NB478_536.out _; (with_reducible repeat (first | refine blk_drewN ?_ _ | refine blk_drew ?_ | refine blk_alloc ?_ _)); refine blk_far ?_ NB478_536.out _; (with_reducible repeat (first | refine blk_drewN ?_ _ | refine blk_drew ?_ | refine blk_alloc ?_ _)); refine blk_far ?_ NB478_536.out _; (with_reducible repeat (first | refine blk_drewN ?_ _ | refine blk_drew ?_ | refine blk_alloc ?_ _)); refine blk_far ?_ NB478_536.out _; (with_reducible repeat (first | refine blk_drewN ?_ _ | refine blk_drew ?_ | refine blk_alloc ?_ _)); refine blk_far ?_ NB478_536.out _; (with_reducible repeat (first | refine blk_drewN ?_ _ | refine blk_drew ?_ | refine blk_alloc ?_ _)); refine blk_far ?_ NB478_536.out _; (with_reducible repeat (first | refine blk_drewN ?_ _ | refine blk_drew ?_ | refine blk_alloc ?_ _)); refine blk_far ?_ NB478_536.out _; (with_reducible repeat (first | refine blk_drewN ?_ _ | refine blk_drew ?_ | refine blk_alloc ?_ _)); refine blk_far ?_ NB478_536.out _; (with_reducible repeat (first | refine blk_drewN ?_ _ | refine blk_drew ?_ | refine blk_alloc ?_ _)); refine blk_far ?_ NB478_536.out _; (with_reducible repeat (first | refine blk_drewN ?_ _ | refine blk_drew ?_ | refine blk_alloc ?_ _)); refine blk_far ?_ NB478_536.out _; (with_reducible repeat (first | refine blk_drewN ?_ _ | refine blk_drew ?_ | refine blk_alloc ?_ _)); refine blk_far ?_ NB478_536.out _; (with_reducible repeat (first | refine blk_drewN ?_ _ | refine blk_drew ?_ | refine blk_alloc ?_ _)); refine blk_far ?_ NB478_535.out _; (with_reducible repeat (first | refine blk_drewN ?_ _ | refine blk_drew ?_ | refine blk_alloc ?_ _)); refine blk_far ?_ NB478_535.out _; (with_reducible repeat (first | refine blk_drewN ?_ _ | refine blk_drew ?_ | refine blk_alloc ?_ _)); refine blk_far ?_ NB478_535.out _; (with_reducible repeat (first | refine blk_drewN ?_ _ | refine blk_drew ?_ | refine blk_alloc ?_ _)); refine blk_far ?_ NB478_535.out _; (with_reducible repeat (first | refine blk_drewN ?_ _ | refine blk_drew ?_ | refine blk_alloc ?_ _)); refine blk_far ?_ NB478_535.out _; (with_reducible repeat (first | refine blk_drewN ?_ _ | refine blk_drew ?_ | refine blk_alloc ?_ _)); refine blk_far ?_ NB478_535.out _; (with_reducible repeat (first | refine blk_drewN ?_ _ | refine blk_drew ?_ | refine blk_alloc ?_ _)); refine blk_far ?_ NB478_535.out _; (with_reducible repeat (first | refine blk_drewN ?_ _ | refine blk_drew ?_ | refine blk_alloc ?_ _)); refine blk_far ?_ NB478_535.out _; (with_reducible repeat (first | refine blk_drewN ?_ _ | refine blk_drew ?_ | refine blk_alloc ?_ _)); refine blk_far ?_ NB478_535.out _; (with_reducible repeat (first | refine blk_drewN ?_ _ | refine blk_drew ?_ | refine blk_alloc ?_ _)); refine blk_far ?_ NB478_535.out _; (with_reducible repeat (first | refine blk_drewN ?_ _ | refine blk_drew ?_ | refine blk_alloc ?_ _)); refine blk_far ?_ NB478_535.out _; (with_reducible repeat (first | refine blk_drewN ?_ _ | refine blk_drew ?_ | refine blk_alloc ?_ _)); refine blk_far ?_ NB478_535.out _; (with_reducible repeat (first | refine blk_drewN ?_ _ | refine blk_drew ?_ | refine blk_alloc ?_ _)); refine blk_far ?_ NB478_535.out _; (with_reducible repeat (first | refine blk_drewN ?_ _ | refine blk_drew ?_ | refine blk_alloc ?_ _)); exact BK478.out)⟩
  have n2_ : Aside0 (((((((((((((((((((((((((((w54.setCell ⟨gb535, 0, none⟩ (.int .i64 t509)).setCell ⟨gb535, 1, none⟩ (.int .i64 t510)).setCell ⟨gb535, 2, none⟩ (.int .i64 t511)).setCell ⟨gb535, 3, none⟩ (.int .i64 t512)).setCell ⟨gb535, 4, none⟩ (.int .i64 t513)).setCell ⟨gb535, 5, none⟩ (.int .i64 t514)).setCell ⟨gb535, 6, none⟩ (.int .i64 t515)).setCell ⟨gb535, 7, none⟩ (.int .i64 t516)).setCell ⟨gb535, 8, none⟩ (.int .i64 t517)).setCell ⟨gb535, 9, none⟩ (.int .i64 t518)).setCell ⟨gb535, 10, none⟩ (.int .i64 t519)).setCell ⟨gb535, 11, none⟩ (.bool t520)).setCell ⟨gb535, 12, none⟩ (.bool t521)).setCell ⟨gb536, 0, none⟩ (.int .i64 t522)).setCell ⟨gb536, 1, none⟩ (.int .i64 t523)).setCell ⟨gb536, 2, none⟩ (.int .i64 t524)).setCell ⟨gb536, 3, none⟩ (.int .i64 t525)).setCell ⟨gb536, 4, none⟩ (.int .i64 t526)).setCell ⟨gb536, 5, none⟩ (.int .i64 t527)).setCell ⟨gb536, 6, none⟩ (.int .i64 t528)).setCell ⟨gb536, 7, none⟩ (.int .i64 t529)).setCell ⟨gb536, 8, none⟩ (.int .i64 t530)).setCell ⟨gb536, 9, none⟩ (.int .i64 t531)).setCell ⟨gb536, 10, none⟩ (.int .i64 t532)).setCell ⟨gb536, 11, none⟩ (.bool t533)).setCell ⟨gb536, 12, none⟩ (.bool t534)).heap[gb494]? = some (.cells #[.int .i64 t479, .int .i64 t480, .int .i64 t481, .int .i64 t482, .int .i64 t483, .int .i64 t484, .int .i64 t485, .int .i64 t486, .int .i64 t487, .int .i64 t488, .int .i64 t489, .bool t490, .bool t491] 25 (0, 0))) := ⟨(by (with_reducible repeat (first | refine blk_drewN ?_ _ | refine blk_drew ?_ | refine blk_alloc ?_ _)); refine blk_far ?_ NB494_536.out _; (with_reducible repeat (first | refine blk_drewN ?_ _ | refine blk_drew ?_ | refine blk_alloc ?_ _)); refine blk_far ?_ NB494_536.out _; (with_reducible repeat (first | refine blk_drewN ?_ _ | refine blk_drew ?_ | refine blk_alloc ?_ _)); refine blk_far ?_ NB494_536.out _; (with_reducible repeat (first | refine blk_drewN ?_ _ | refine blk_drew ?_ | refine blk_alloc ?_ _)); refine blk_far ?_ NB494_536.out _; (with_reducible repeat (first | refine blk_drewN ?_ _ | refine blk_drew ?_ | refine blk_alloc ?_ _)); refine blk_far ?_ NB494_536.out _; (with_reducible repeat (first | refine blk_drewN ?_ _ | refine blk_drew ?_ | refine blk_alloc ?_ _)); refine blk_far ?_ NB494_536.out _; (with_reducible repeat (first | refine blk_drewN ?_ _ | refine blk_drew ?_ | refine blk_alloc ?_ _)); refine blk_far ?_ NB494_536.out _; (with_reducible repeat (first | refine blk_drewN ?_ _ | refine blk_drew ?_ | refine blk_alloc ?_ _)); refine blk_far ?_ NB494_536.out _; (with_reducible repeat (first | refine blk_drewN ?_ _ | refine blk_drew ?_ | refine blk_alloc ?_ _)); refine blk_far ?_ NB494_536.out _; (with_reducible repeat (first | refine blk_drewN ?_ _ | refine blk_drew ?_ | refine blk_alloc ?_ _)); refine blk_far ?_ NB494_536.out _; (with_reducible repeat (first | refine blk_drewN ?_ _ | refine blk_drew ?_ | refine blk_alloc ?_ _)); refine blk_far ?_ NB494_536.out _; (with_reducible repeat (first | refine blk_drewN ?_ _ | refine blk_drew ?_ | refine blk_alloc ?_ _)); refine blk_far ?_ NB494_536.out _; (with_reducible repeat (first | refine blk_drewN ?_ _ | refine blk_drew ?_ | refine blk_alloc ?_ _)); refine blk_far ?_ NB494_536.out _; (with_reducible repeat (first | refine blk_drewN ?_ _ | refine blk_drew ?_ | refine blk_alloc ?_ _)); refine blk_far ?_ NB494_535.out _; (with_reducible repeat (first | refine blk_drewN ?_ _ | refine blk_drew ?_ | refine blk_alloc ?_ _)); refine blk_far ?_ NB494_535.out _; (with_reducible repeat (first | refine blk_drewN ?_ _ | refine blk_drew ?_ | refine blk_alloc ?_ _)); refine blk_far ?_ NB494_535.out _; (with_reducible repeat (first | refine blk_drewN ?_ _ | refine blk_drew ?_ | refine blk_alloc ?_ _)); refine blk_far ?_ NB494_535.out _; (with_reducible repeat (first | refine blk_drewN ?_ _ | refine blk_drew ?_ | refine blk_alloc ?_ _)); refine blk_far ?_ NB494_535.out _; (with_reducible repeat (first | refine blk_drewN ?_ _ | refine blk_drew ?_ | refine blk_alloc ?_ _)); refine blk_far ?_ NB494_535.out _; (with_reducible repeat (first | refine blk_drewN ?_ _ | refine blk_drew ?_ | refine blk_alloc ?_ _)); refine blk_far ?_ NB494_535.out _; (with_reducible repeat (first | refine blk_drewN ?_ _ | refine blk_drew ?_ | refine blk_alloc ?_ _)); refine blk_far ?_ NB494_535.out _; (with_reducible repeat (first | refine blk_drewN ?_ _ | refine blk_drew ?_ | refine blk_alloc ?_ _)); refine blk_far ?_ NB494_535.out _; (with_reducible repeat (first | refine blk_drewN ?_ _ | refine blk_drew ?_ | refine blk_alloc ?_ _)); refine blk_far ?_ NB494_535.out _; (with_reducible repeat (first | refine blk_drewN ?_ _ | refine blk_drew ?_ | refine blk_alloc ?_ _)); refine blk_far ?_ NB494_535.out _; (with_reducible repeat (first | refine blk_drewN ?_ _ | refine blk_drew ?_ | refine blk_alloc ?_ _)); refine blk_far ?_ NB494_535.out _; (with_reducible repeat (first | refine blk_drewN ?_ _ | refine blk_drew ?_ | refine blk_alloc ?_ _)); refine blk_far ?_ NB494_535.out _; (with_reducible repeat (first | refine blk_drewN ?_ _ | refine blk_drew ?_ | refine blk_alloc ?_ _)); exact BK494.out)⟩
  have n3_ : Aside0 (((((((((((((((((((((((((((w54.setCell ⟨gb535, 0, none⟩ (.int .i64 t509)).setCell ⟨gb535, 1, none⟩ (.int .i64 t510)).setCell ⟨gb535, 2, none⟩ (.int .i64 t511)).setCell ⟨gb535, 3, none⟩ (.int .i64 t512)).setCell ⟨gb535, 4, none⟩ (.int .i64 t513)).setCell ⟨gb535, 5, none⟩ (.int .i64 t514)).setCell ⟨gb535, 6, none⟩ (.int .i64 t515)).setCell ⟨gb535, 7, none⟩ (.int .i64 t516)).setCell ⟨gb535, 8, none⟩ (.int .i64 t517)).setCell ⟨gb535, 9, none⟩ (.int .i64 t518)).setCell ⟨gb535, 10, none⟩ (.int .i64 t519)).setCell ⟨gb535, 11, none⟩ (.bool t520)).setCell ⟨gb535, 12, none⟩ (.bool t521)).setCell ⟨gb536, 0, none⟩ (.int .i64 t522)).setCell ⟨gb536, 1, none⟩ (.int .i64 t523)).setCell ⟨gb536, 2, none⟩ (.int .i64 t524)).setCell ⟨gb536, 3, none⟩ (.int .i64 t525)).setCell ⟨gb536, 4, none⟩ (.int .i64 t526)).setCell ⟨gb536, 5, none⟩ (.int .i64 t527)).setCell ⟨gb536, 6, none⟩ (.int .i64 t528)).setCell ⟨gb536, 7, none⟩ (.int .i64 t529)).setCell ⟨gb536, 8, none⟩ (.int .i64 t530)).setCell ⟨gb536, 9, none⟩ (.int .i64 t531)).setCell ⟨gb536, 10, none⟩ (.int .i64 t532)).setCell ⟨gb536, 11, none⟩ (.bool t533)).setCell ⟨gb536, 12, none⟩ (.bool t534)).heap[gb508]? = some (.cells #[.int .i64 t495, .int .i64 t496, .int .i64 t497, .int .i64 t498, .int .i64 t499, .int .i64 t500, .int .i64 t501, .int .i64 t502, .int .i64 t503, .int .i64 t504, .int .i64 t505, .bool t506, .bool t507] 25 (0, 0))) := ⟨(by (with_reducible repeat (first | refine blk_drewN ?_ _ | refine blk_drew ?_ | refine blk_alloc ?_ _)); refine blk_far ?_ NB508_536.out _; (with_reducible repeat (first | refine blk_drewN ?_ _ | refine blk_drew ?_ | refine blk_alloc ?_ _)); refine blk_far ?_ NB508_536.out _; (with_reducible repeat (first | refine blk_drewN ?_ _ | refine blk_drew ?_ | refine blk_alloc ?_ _)); refine blk_far ?_ NB508_536.out _; (with_reducible repeat (first | refine blk_drewN ?_ _ | refine blk_drew ?_ | refine blk_alloc ?_ _)); refine blk_far ?_ NB508_536.out _; (with_reducible repeat (first | refine blk_drewN ?_ _ | refine blk_drew ?_ | refine blk_alloc ?_ _)); refine blk_far ?_ NB508_536.out _; (with_reducible repeat (first | refine blk_drewN ?_ _ | refine blk_drew ?_ | refine blk_alloc ?_ _)); refine blk_far ?_ NB508_536.out _; (with_reducible repeat (first | refine blk_drewN ?_ _ | refine blk_drew ?_ | refine blk_alloc ?_ _)); refine blk_far ?_ NB508_536.out _; (with_reducible repeat (first | refine blk_drewN ?_ _ | refine blk_drew ?_ | refine blk_alloc ?_ _)); refine blk_far ?_ NB508_536.out _; (with_reducible repeat (first | refine blk_drewN ?_ _ | refine blk_drew ?_ | refine blk_alloc ?_ _)); refine blk_far ?_ NB508_536.out _; (with_reducible repeat (first | refine blk_drewN ?_ _ | refine blk_drew ?_ | refine blk_alloc ?_ _)); refine blk_far ?_ NB508_536.out _; (with_reducible repeat (first | refine blk_drewN ?_ _ | refine blk_drew ?_ | refine blk_alloc ?_ _)); refine blk_far ?_ NB508_536.out _; (with_reducible repeat (first | refine blk_drewN ?_ _ | refine blk_drew ?_ | refine blk_alloc ?_ _)); refine blk_far ?_ NB508_536.out _; (with_reducible repeat (first | refine blk_drewN ?_ _ | refine blk_drew ?_ | refine blk_alloc ?_ _)); refine blk_far ?_ NB508_536.out _; (with_reducible repeat (first | refine blk_drewN ?_ _ | refine blk_drew ?_ | refine blk_alloc ?_ _)); refine blk_far ?_ NB508_535.out _; (with_reducible repeat (first | refine blk_drewN ?_ _ | refine blk_drew ?_ | refine blk_alloc ?_ _)); refine blk_far ?_ NB508_535.out _; (with_reducible repeat (first | refine blk_drewN ?_ _ | refine blk_drew ?_ | refine blk_alloc ?_ _)); refine blk_far ?_ NB508_535.out _; (with_reducible repeat (first | refine blk_drewN ?_ _ | refine blk_drew ?_ | refine blk_alloc ?_ _)); refine blk_far ?_ NB508_535.out _; (with_reducible repeat (first | refine blk_drewN ?_ _ | refine blk_drew ?_ | refine blk_alloc ?_ _)); refine blk_far ?_ NB508_535.out _; (with_reducible repeat (first | refine blk_drewN ?_ _ | refine blk_drew ?_ | refine blk_alloc ?_ _)); refine blk_far ?_ NB508_535.out _; (with_reducible repeat (first | refine blk_drewN ?_ _ | refine blk_drew ?_ | refine blk_alloc ?_ _)); refine blk_far ?_ NB508_535.out _; (with_reducible repeat (first | refine blk_drewN ?_ _ | refine blk_drew ?_ | refine blk_alloc ?_ _)); refine blk_far ?_ NB508_535.out _; (with_reducible repeat (first | refine blk_drewN ?_ _ | refine blk_drew ?_ | refine blk_alloc ?_ _)); refine blk_far ?_ NB508_535.out _; (with_reducible repeat (first | refine blk_drewN ?_ _ | refine blk_drew ?_ | refine blk_alloc ?_ _)); refine blk_far ?_ NB508_535.out _; (with_reducible repeat (first | refine blk_drewN ?_ _ | refine blk_drew ?_ | refine blk_alloc ?_ _)); refine blk_far ?_ NB508_535.out _; (with_reducible repeat (first | refine blk_drewN ?_ _ | refine blk_drew ?_ | refine blk_alloc ?_ _)); refine blk_far ?_ NB508_535.out _; (with_reducible repeat (first | refine blk_drewN ?_ _ | refine blk_drew ?_ | refine blk_alloc ?_ _)); refine blk_far ?_ NB508_535.out _; (with_reducible repeat (first | refine blk_drewN ?_ _ | refine blk_drew ?_ | refine blk_alloc ?_ _)); exact BK508.out)⟩
  have n4_ : Aside0 (((((((((((((((((((((((((((w54.setCell ⟨gb535, 0, none⟩ (.int .i64 t509)).setCell ⟨gb535, 1, none⟩ (.int .i64 t510)).setCell ⟨gb535, 2, none⟩ (.int .i64 t511)).setCell ⟨gb535, 3, none⟩ (.int .i64 t512)).setCell ⟨gb535, 4, none⟩ (.int .i64 t513)).setCell ⟨gb535, 5, none⟩ (.int .i64 t514)).setCell ⟨gb535, 6, none⟩ (.int .i64 t515)).setCell ⟨gb535, 7, none⟩ (.int .i64 t516)).setCell ⟨gb535, 8, none⟩ (.int .i64 t517)).setCell ⟨gb535, 9, none⟩ (.int .i64 t518)).setCell ⟨gb535, 10, none⟩ (.int .i64 t519)).setCell ⟨gb535, 11, none⟩ (.bool t520)).setCell ⟨gb535, 12, none⟩ (.bool t521)).setCell ⟨gb536, 0, none⟩ (.int .i64 t522)).setCell ⟨gb536, 1, none⟩ (.int .i64 t523)).setCell ⟨gb536, 2, none⟩ (.int .i64 t524)).setCell ⟨gb536, 3, none⟩ (.int .i64 t525)).setCell ⟨gb536, 4, none⟩ (.int .i64 t526)).setCell ⟨gb536, 5, none⟩ (.int .i64 t527)).setCell ⟨gb536, 6, none⟩ (.int .i64 t528)).setCell ⟨gb536, 7, none⟩ (.int .i64 t529)).setCell ⟨gb536, 8, none⟩ (.int .i64 t530)).setCell ⟨gb536, 9, none⟩ (.int .i64 t531)).setCell ⟨gb536, 10, none⟩ (.int .i64 t532)).setCell ⟨gb536, 11, none⟩ (.bool t533)).setCell ⟨gb536, 12, none⟩ (.bool t534)).heap[gb535]? = some (.cells #[.int .i64 t509, .int .i64 t510, .int .i64 t511, .int .i64 t512, .int .i64 t513, .int .i64 t514, .int .i64 t515, .int .i64 t516, .int .i64 t517, .int .i64 t518, .int .i64 t519, .bool t520, .bool t521] 25 (0, 0))) := ⟨(by (with_reducible repeat (first | refine blk_drewN ?_ _ | refine blk_drew ?_ | refine blk_alloc ?_ _)); refine blk_far ?_ NB535_536.out _; (with_reducible repeat (first | refine blk_drewN ?_ _ | refine blk_drew ?_ | refine blk_alloc ?_ _)); refine blk_far ?_ NB535_536.out _; (with_reducible repeat (first | refine blk_drewN ?_ _ | refine blk_drew ?_ | refine blk_alloc ?_ _)); refine blk_far ?_ NB535_536.out _; (with_reducible repeat (first | refine blk_drewN ?_ _ | refine blk_drew ?_ | refine blk_alloc ?_ _)); refine blk_far ?_ NB535_536.out _; (with_reducible repeat (first | refine blk_drewN ?_ _ | refine blk_drew ?_ | refine blk_alloc ?_ _)); refine blk_far ?_ NB535_536.out _; (with_reducible repeat (first | refine blk_drewN ?_ _ | refine blk_drew ?_ | refine blk_alloc ?_ _)); refine blk_far ?_ NB535_536.out _; (with_reducible repeat (first | refine blk_drewN ?_ _ | refine blk_drew ?_ | refine blk_alloc ?_ _)); refine blk_far ?_ NB535_536.out _; (with_reducible repeat (first | refine blk_drewN ?_ _ | refine blk_drew ?_ | refine blk_alloc ?_ _)); refine blk_far ?_ NB535_536.out _; (with_reducible repeat (first | refine blk_drewN ?_ _ | refine blk_drew ?_ | refine blk_alloc ?_ _)); refine blk_far ?_ NB535_536.out _; (with_reducible repeat (first | refine blk_drewN ?_ _ | refine blk_drew ?_ | refine blk_alloc ?_ _)); refine blk_far ?_ NB535_536.out _; (with_reducible repeat (first | refine blk_drewN ?_ _ | refine blk_drew ?_ | refine blk_alloc ?_ _)); refine blk_far ?_ NB535_536.out _; (with_reducible repeat (first | refine blk_drewN ?_ _ | refine blk_drew ?_ | refine blk_alloc ?_ _)); refine blk_far ?_ NB535_536.out _; (with_reducible repeat (first | refine blk_drewN ?_ _ | refine blk_drew ?_ | refine blk_alloc ?_ _)); refine blk_far ?_ NB535_536.out _; (with_reducible repeat (first | refine blk_drewN ?_ _ | refine blk_drew ?_ | refine blk_alloc ?_ _)); apply E14_13; (with_reducible repeat (first | refine blk_drewN ?_ _ | refine blk_drew ?_ | refine blk_alloc ?_ _)); exact BK535.out)⟩
  have n5_ : Aside0 (((((((((((((((((((((((((((w54.setCell ⟨gb535, 0, none⟩ (.int .i64 t509)).setCell ⟨gb535, 1, none⟩ (.int .i64 t510)).setCell ⟨gb535, 2, none⟩ (.int .i64 t511)).setCell ⟨gb535, 3, none⟩ (.int .i64 t512)).setCell ⟨gb535, 4, none⟩ (.int .i64 t513)).setCell ⟨gb535, 5, none⟩ (.int .i64 t514)).setCell ⟨gb535, 6, none⟩ (.int .i64 t515)).setCell ⟨gb535, 7, none⟩ (.int .i64 t516)).setCell ⟨gb535, 8, none⟩ (.int .i64 t517)).setCell ⟨gb535, 9, none⟩ (.int .i64 t518)).setCell ⟨gb535, 10, none⟩ (.int .i64 t519)).setCell ⟨gb535, 11, none⟩ (.bool t520)).setCell ⟨gb535, 12, none⟩ (.bool t521)).setCell ⟨gb536, 0, none⟩ (.int .i64 t522)).setCell ⟨gb536, 1, none⟩ (.int .i64 t523)).setCell ⟨gb536, 2, none⟩ (.int .i64 t524)).setCell ⟨gb536, 3, none⟩ (.int .i64 t525)).setCell ⟨gb536, 4, none⟩ (.int .i64 t526)).setCell ⟨gb536, 5, none⟩ (.int .i64 t527)).setCell ⟨gb536, 6, none⟩ (.int .i64 t528)).setCell ⟨gb536, 7, none⟩ (.int .i64 t529)).setCell ⟨gb536, 8, none⟩ (.int .i64 t530)).setCell ⟨gb536, 9, none⟩ (.int .i64 t531)).setCell ⟨gb536, 10, none⟩ (.int .i64 t532)).setCell ⟨gb536, 11, none⟩ (.bool t533)).setCell ⟨gb536, 12, none⟩ (.bool t534)).heap[gb536]? = some (.cells #[.int .i64 t522, .int .i64 t523, .int .i64 t524, .int .i64 t525, .int .i64 t526, .int .i64 t527, .int .i64 t528, .int .i64 t529, .int .i64 t530, .int .i64 t531, .int .i64 t532, .bool t533, .bool t534] 25 (0, 0))) := ⟨(by (with_reducible repeat (first | refine blk_drewN ?_ _ | refine blk_drew ?_ | refine blk_alloc ?_ _)); apply E14_13; (with_reducible repeat (first | refine blk_drewN ?_ _ | refine blk_drew ?_ | refine blk_alloc ?_ _)); refine blk_far ?_ NB536_535.out _; (with_reducible repeat (first | refine blk_drewN ?_ _ | refine blk_drew ?_ | refine blk_alloc ?_ _)); refine blk_far ?_ NB536_535.out _; (with_reducible repeat (first | refine blk_drewN ?_ _ | refine blk_drew ?_ | refine blk_alloc ?_ _)); refine blk_far ?_ NB536_535.out _; (with_reducible repeat (first | refine blk_drewN ?_ _ | refine blk_drew ?_ | refine blk_alloc ?_ _)); refine blk_far ?_ NB536_535.out _; (with_reducible repeat (first | refine blk_drewN ?_ _ | refine blk_drew ?_ | refine blk_alloc ?_ _)); refine blk_far ?_ NB536_535.out _; (with_reducible repeat (first | refine blk_drewN ?_ _ | refine blk_drew ?_ | refine blk_alloc ?_ _)); refine blk_far ?_ NB536_535.out _; (with_reducible repeat (first | refine blk_drewN ?_ _ | refine blk_drew ?_ | refine blk_alloc ?_ _)); refine blk_far ?_ NB536_535.out _; (with_reducible repeat (first | refine blk_drewN ?_ _ | refine blk_drew ?_ | refine blk_alloc ?_ _)); refine blk_far ?_ NB536_535.out _; (with_reducible repeat (first | refine blk_drewN ?_ _ | refine blk_drew ?_ | refine blk_alloc ?_ _)); refine blk_far ?_ NB536_535.out _; (with_reducible repeat (first | refine blk_drewN ?_ _ | refine blk_drew ?_ | refine blk_alloc ?_ _)); refine blk_far ?_ NB536_535.out _; (with_reducible repeat (first | refine blk_drewN ?_ _ | refine blk_drew ?_ | refine blk_alloc ?_ _)); refine blk_far ?_ NB536_535.out _; (with_reducible repeat (first | refine blk_drewN ?_ _ | refine blk_drew ?_ | refine blk_alloc ?_ _)); refine blk_far ?_ NB536_535.out _; (with_reducible repeat (first | refine blk_drewN ?_ _ | refine blk_drew ?_ | refine blk_alloc ?_ _)); refine blk_far ?_ NB536_535.out _; (with_reducible repeat (first | refine blk_drewN ?_ _ | refine blk_drew ?_ | refine blk_alloc ?_ _)); exact BK536.out)⟩
  have n6_ : Aside0 (Below w.heap.size w ((((((((((((((((((((((((((w54.setCell ⟨gb535, 0, none⟩ (.int .i64 t509)).setCell ⟨gb535, 1, none⟩ (.int .i64 t510)).setCell ⟨gb535, 2, none⟩ (.int .i64 t511)).setCell ⟨gb535, 3, none⟩ (.int .i64 t512)).setCell ⟨gb535, 4, none⟩ (.int .i64 t513)).setCell ⟨gb535, 5, none⟩ (.int .i64 t514)).setCell ⟨gb535, 6, none⟩ (.int .i64 t515)).setCell ⟨gb535, 7, none⟩ (.int .i64 t516)).setCell ⟨gb535, 8, none⟩ (.int .i64 t517)).setCell ⟨gb535, 9, none⟩ (.int .i64 t518)).setCell ⟨gb535, 10, none⟩ (.int .i64 t519)).setCell ⟨gb535, 11, none⟩ (.bool t520)).setCell ⟨gb535, 12, none⟩ (.bool t521)).setCell ⟨gb536, 0, none⟩ (.int .i64 t522)).setCell ⟨gb536, 1, none⟩ (.int .i64 t523)).setCell ⟨gb536, 2, none⟩ (.int .i64 t524)).setCell ⟨gb536, 3, none⟩ (.int .i64 t525)).setCell ⟨gb536, 4, none⟩ (.int .i64 t526)).setCell ⟨gb536, 5, none⟩ (.int .i64 t527)).setCell ⟨gb536, 6, none⟩ (.int .i64 t528)).setCell ⟨gb536, 7, none⟩ (.int .i64 t529)).setCell ⟨gb536, 8, none⟩ (.int .i64 t530)).setCell ⟨gb536, 9, none⟩ (.int .i64 t531)).setCell ⟨gb536, 10, none⟩ (.int .i64 t532)).setCell ⟨gb536, 11, none⟩ (.bool t533)).setCell ⟨gb536, 12, none⟩ (.bool t534))) := ⟨Z14_10⟩
  (try clear BK463)
  (try clear BK478)
  (try clear BK494)
  (try clear BK508)
  (try clear BK535)
  (try clear BK536)
  (try clear HB)
  generalize ((((((((((((((((((((((((((w54.setCell ⟨gb535, 0, none⟩ (.int .i64 t509)).setCell ⟨gb535, 1, none⟩ (.int .i64 t510)).setCell ⟨gb535, 2, none⟩ (.int .i64 t511)).setCell ⟨gb535, 3, none⟩ (.int .i64 t512)).setCell ⟨gb535, 4, none⟩ (.int .i64 t513)).setCell ⟨gb535, 5, none⟩ (.int .i64 t514)).setCell ⟨gb535, 6, none⟩ (.int .i64 t515)).setCell ⟨gb535, 7, none⟩ (.int .i64 t516)).setCell ⟨gb535, 8, none⟩ (.int .i64 t517)).setCell ⟨gb535, 9, none⟩ (.int .i64 t518)).setCell ⟨gb535, 10, none⟩ (.int .i64 t519)).setCell ⟨gb535, 11, none⟩ (.bool t520)).setCell ⟨gb535, 12, none⟩ (.bool t521)).setCell ⟨gb536, 0, none⟩ (.int .i64 t522)).setCell ⟨gb536, 1, none⟩ (.int .i64 t523)).setCell ⟨gb536, 2, none⟩ (.int .i64 t524)).setCell ⟨gb536, 3, none⟩ (.int .i64 t525)).setCell ⟨gb536, 4, none⟩ (.int .i64 t526)).setCell ⟨gb536, 5, none⟩ (.int .i64 t527)).setCell ⟨gb536, 6, none⟩ (.int .i64 t528)).setCell ⟨gb536, 7, none⟩ (.int .i64 t529)).setCell ⟨gb536, 8, none⟩ (.int .i64 t530)).setCell ⟨gb536, 9, none⟩ (.int .i64 t531)).setCell ⟨gb536, 10, none⟩ (.int .i64 t532)).setCell ⟨gb536, 11, none⟩ (.bool t533)).setCell ⟨gb536, 12, none⟩ (.bool t534)) = w66 at n0_ n1_ n2_ n3_ n4_ n5_ n6_ ⊢
  have BK463 := n0_
  have BK478 := n1_
  have BK494 := n2_
  have BK508 := n3_
  have BK535 := n4_
  have BK536 := n5_
  have HB := n6_
  clear n0_ n1_ n2_ n3_ n4_ n5_ n6_
  have n0_ := Aside0.mk (blk_drew BK463.out)
  have n1_ := Aside0.mk (blk_drew BK478.out)
  have n2_ := Aside0.mk (blk_drew BK494.out)
  have n3_ := Aside0.mk (blk_drew BK508.out)
  have n4_ := Aside0.mk (blk_drew BK535.out)
  have n5_ := Aside0.mk (blk_drew BK536.out)
  have n6_ := Aside0.mk (below_drew1 HB.out)
  clear BK463
  clear BK478
  clear BK494
  clear BK508
  clear BK535
  clear BK536
  clear HB
  have BK463 := n0_
  have BK478 := n1_
  have BK494 := n2_
  have BK508 := n3_
  have BK535 := n4_
  have BK536 := n5_
  have HB := n6_
  clear n0_ n1_ n2_ n3_ n4_ n5_ n6_
  as_aux_lemma =>
   refine start_ (n := 45) (S := fun w' => w'.cell? ⟨gb463, 0, none⟩ = some (.int .i64 t450) ∧ w'.cell? ⟨gb463, 1, none⟩ = some (.int .i64 t451) ∧ w'.cell? ⟨gb463, 2, none⟩ = some (.int .i64 t452) ∧ w'.cell? ⟨gb463, 3, none⟩ = some (.int .i64 t453) ∧ w'.cell? ⟨gb463, 4, none⟩ = some (.int .i64 t454) ∧ w'.cell? ⟨gb463, 5, none⟩ = some (.int .i64 t455) ∧ w'.cell? ⟨gb463, 6, none⟩ = some (.int .i64 t456) ∧ w'.cell? ⟨gb463, 7, none⟩ = some (.int .i64 t457) ∧ w'.cell? ⟨gb463, 8, none⟩ = some (.int .i64 t458) ∧ w'.cell? ⟨gb463, 9, none⟩ = some (.int .i64 t459) ∧ w'.cell? ⟨gb463, 10, none⟩ = some (.int .i64 t460) ∧ w'.cell? ⟨gb463, 11, none⟩ = some (.bool t461) ∧ w'.cell? ⟨gb463, 12, none⟩ = some (.bool t462) ∧ w'.cell? ⟨gb478, 0, none⟩ = some (.int .i64 t464) ∧ w'.cell? ⟨gb478, 1, none⟩ = some (.int .i64 t465) ∧ w'.cell? ⟨gb478, 2, none⟩ = some (.int .i64 t466) ∧ w'.cell? ⟨gb478, 3, none⟩ = some (.int .i64 t467) ∧ w'.cell? ⟨gb478, 4, none⟩ = some (.int .i64 t468) ∧ w'.cell? ⟨gb478, 5, none⟩ = some (.int .i64 t469) ∧ w'.cell? ⟨gb478, 6, none⟩ = some (.int .i64 t470) ∧ w'.cell? ⟨gb478, 7, none⟩ = some (.int .i64 t471) ∧ w'.cell? ⟨gb478, 8, none⟩ = some (.int .i64 t472) ∧ w'.cell? ⟨gb478, 9, none⟩ = some (.int .i64 t473) ∧ w'.cell? ⟨gb478, 10, none⟩ = some (.int .i64 t474) ∧ w'.cell? ⟨gb478, 11, none⟩ = some (.bool t475) ∧ w'.cell? ⟨gb478, 12, none⟩ = some (.bool t476) ∧ w'.cell? ⟨gb508, 0, none⟩ = some (.int .i64 t495) ∧ w'.cell? ⟨gb508, 1, none⟩ = some (.int .i64 t496) ∧ w'.cell? ⟨gb508, 2, none⟩ = some (.int .i64 t497) ∧ w'.cell? ⟨gb508, 3, none⟩ = some (.int .i64 t498) ∧ w'.cell? ⟨gb508, 4, none⟩ = some (.int .i64 t499) ∧ w'.cell? ⟨gb508, 5, none⟩ = some (.int .i64 t500) ∧ w'.cell? ⟨gb508, 6, none⟩ = some (.int .i64 t501) ∧ w'.cell? ⟨gb508, 7, none⟩ = some (.int .i64 t502) ∧ w'.cell? ⟨gb508, 8, none⟩ = some (.int .i64 t503) ∧ w'.cell? ⟨gb508, 9, none⟩ = some (.int .i64 t504) ∧ w'.cell? ⟨gb508, 10, none⟩ = some (.int .i64 t505) ∧ w'.cell? ⟨gb508, 11, none⟩ = some (.bool t506) ∧ w'.cell? ⟨gb508, 12, none⟩ = some (.bool t507) ∧ w'.cell? ⟨gb494, 0, none⟩ = some (.int .i64 t479) ∧ w'.cell? ⟨gb494, 1, none⟩ = some (.int .i64 t480) ∧ w'.cell? ⟨gb494, 2, none⟩ = some (.int .i64 t481) ∧ w'.cell? ⟨gb494, 3, none⟩ = some (.int .i64 t482) ∧ w'.cell? ⟨gb494, 4, none⟩ = some (.int .i64 t483) ∧ w'.cell? ⟨gb494, 5, none⟩ = some (.int .i64 t484) ∧ w'.cell? ⟨gb494, 6, none⟩ = some (.int .i64 t485) ∧ w'.cell? ⟨gb494, 7, none⟩ = some (.int .i64 t486) ∧ w'.cell? ⟨gb494, 8, none⟩ = some (.int .i64 t487) ∧ w'.cell? ⟨gb494, 9, none⟩ = some (.int .i64 t488) ∧ w'.cell? ⟨gb494, 10, none⟩ = some (.int .i64 t489) ∧ w'.cell? ⟨gb494, 11, none⟩ = some (.bool t490) ∧ w'.cell? ⟨gb494, 12, none⟩ = some (.bool t491) ∧ w'.cell? ⟨gb535, 0, none⟩ = some (.int .i64 t509) ∧ w'.cell? ⟨gb535, 1, none⟩ = some (.int .i64 t510) ∧ w'.cell? ⟨gb535, 2, none⟩ = some (.int .i64 t511) ∧ w'.cell? ⟨gb535, 3, none⟩ = some (.int .i64 t512) ∧ w'.cell? ⟨gb535, 4, none⟩ = some (.int .i64 t513) ∧ w'.cell? ⟨gb535, 5, none⟩ = some (.int .i64 t514) ∧ w'.cell? ⟨gb535, 6, none⟩ = some (.int .i64 t515) ∧ w'.cell? ⟨gb535, 7, none⟩ = some (.int .i64 t516) ∧ w'.cell? ⟨gb535, 8, none⟩ = some (.int .i64 t517) ∧ w'.cell? ⟨gb535, 9, none⟩ = some (.int .i64 t518) ∧ w'.cell? ⟨gb535, 10, none⟩ = some (.int .i64 t519) ∧ w'.cell? ⟨gb535, 11, none⟩ = some (.bool t520) ∧ w'.cell? ⟨gb535, 12, none⟩ = some (.bool t521) ∧ w'.cell? ⟨gb536, 0, none⟩ = some (.int .i64 t522) ∧ w'.cell? ⟨gb536, 1, none⟩ = some (.int .i64 t523) ∧ w'.cell? ⟨gb536, 2, none⟩ = some (.int .i64 t524) ∧ w'.cell? ⟨gb536, 3, none⟩ = some (.int .i64 t525) ∧ w'.cell? ⟨gb536, 4, none⟩ = some (.int .i64 t526) ∧ w'.cell? ⟨gb536, 5, none⟩ = some (.int .i64 t527) ∧ w'.cell? ⟨gb536, 6, none⟩ = some (.int .i64 t528) ∧ w'.cell? ⟨gb536, 7, none⟩ = some (.int .i64 t529) ∧ w'.cell? ⟨gb536, 8, none⟩ = some (.int .i64 t530) ∧ w'.cell? ⟨gb536, 9, none⟩ = some (.int .i64 t531) ∧ w'.cell? ⟨gb536, 10, none⟩ = some (.int .i64 t532) ∧ w'.cell? ⟨gb536, 11, none⟩ = some (.bool t533) ∧ w'.cell? ⟨gb536, 12, none⟩ = some (.bool t534)) (ds := []) #[false, false, false, false, false, false, false, false, false, false, false, false, false, false, false, false, false, false, false, false, false, false, false, false, false, false, false, false, false, false, false, false, false, false, false, false, false, false, false, false, false, false, false, false, false] (by kernel_rfl) rfl rfl ⟨(blk_cell BK463.out 0).trans rfl, (blk_cell BK463.out 1).trans rfl, (blk_cell BK463.out 2).trans rfl, (blk_cell BK463.out 3).trans rfl, (blk_cell BK463.out 4).trans rfl, (blk_cell BK463.out 5).trans rfl, (blk_cell BK463.out 6).trans rfl, (blk_cell BK463.out 7).trans rfl, (blk_cell BK463.out 8).trans rfl, (blk_cell BK463.out 9).trans rfl, (blk_cell BK463.out 10).trans rfl, (blk_cell BK463.out 11).trans rfl, (blk_cell BK463.out 12).trans rfl, (blk_cell BK478.out 0).trans rfl, (blk_cell BK478.out 1).trans rfl, (blk_cell BK478.out 2).trans rfl, (blk_cell BK478.out 3).trans rfl, (blk_cell BK478.out 4).trans rfl, (blk_cell BK478.out 5).trans rfl, (blk_cell BK478.out 6).trans rfl, (blk_cell BK478.out 7).trans rfl, (blk_cell BK478.out 8).trans rfl, (blk_cell BK478.out 9).trans rfl, (blk_cell BK478.out 10).trans rfl, (blk_cell BK478.out 11).trans rfl, (blk_cell BK478.out 12).trans rfl, (blk_cell BK508.out 0).trans rfl, (blk_cell BK508.out 1).trans rfl, (blk_cell BK508.out 2).trans rfl, (blk_cell BK508.out 3).trans rfl, (blk_cell BK508.out 4).trans rfl, (blk_cell BK508.out 5).trans rfl, (blk_cell BK508.out 6).trans rfl, (blk_cell BK508.out 7).trans rfl, (blk_cell BK508.out 8).trans rfl, (blk_cell BK508.out 9).trans rfl, (blk_cell BK508.out 10).trans rfl, (blk_cell BK508.out 11).trans rfl, (blk_cell BK508.out 12).trans rfl, (blk_cell BK494.out 0).trans rfl, (blk_cell BK494.out 1).trans rfl, (blk_cell BK494.out 2).trans rfl, (blk_cell BK494.out 3).trans rfl, (blk_cell BK494.out 4).trans rfl, (blk_cell BK494.out 5).trans rfl, (blk_cell BK494.out 6).trans rfl, (blk_cell BK494.out 7).trans rfl, (blk_cell BK494.out 8).trans rfl, (blk_cell BK494.out 9).trans rfl, (blk_cell BK494.out 10).trans rfl, (blk_cell BK494.out 11).trans rfl, (blk_cell BK494.out 12).trans rfl, (blk_cell BK535.out 0).trans rfl, (blk_cell BK535.out 1).trans rfl, (blk_cell BK535.out 2).trans rfl, (blk_cell BK535.out 3).trans rfl, (blk_cell BK535.out 4).trans rfl, (blk_cell BK535.out 5).trans rfl, (blk_cell BK535.out 6).trans rfl, (blk_cell BK535.out 7).trans rfl, (blk_cell BK535.out 8).trans rfl, (blk_cell BK535.out 9).trans rfl, (blk_cell BK535.out 10).trans rfl, (blk_cell BK535.out 11).trans rfl, (blk_cell BK535.out 12).trans rfl, (blk_cell BK536.out 0).trans rfl, (blk_cell BK536.out 1).trans rfl, (blk_cell BK536.out 2).trans rfl, (blk_cell BK536.out 3).trans rfl, (blk_cell BK536.out 4).trans rfl, (blk_cell BK536.out 5).trans rfl, (blk_cell BK536.out 6).trans rfl, (blk_cell BK536.out 7).trans rfl, (blk_cell BK536.out 8).trans rfl, (blk_cell BK536.out 9).trans rfl, (blk_cell BK536.out 10).trans rfl, (blk_cell BK536.out 11).trans rfl, (blk_cell BK536.out 12).trans rfl⟩ (fun hHeld => ?_); refine with_tabW laws_FnPieces.tab8 laws_FnPieces.bits8 (fun HT_ HW_ => ?_)
   generalize w66.drew = w67 at BK463 BK478 BK494 BK508 BK535 BK536 HB hHeld ⊢
   refine take_ (i := 0) (N := some 36) (v := _) (a' := _) (M14_45 1) rfl rfl (take_ofW HT_.out HW_.out (by kernel_rfl)) (fun _ _ _ h => h) (Or.inl ⟨(by rfl), Z14_1⟩) hHeld Z14_28 ?_
   refine take_ (i := 2) (N := some 38) (v := _) (a' := _) (M14_45 5) rfl rfl (take_ofW HT_.out HW_.out (by kernel_rfl)) (fun _ _ _ h => h) (Or.inl ⟨(by rfl), Z14_1⟩) hHeld Z14_28 ?_
   refine one_ (i := 1) (N := some 37) (M14_45 7) rfl rfl (one_of HT_.out (by kernel_rfl)) (by decide) (fun K hK => ?_)
   refine goes_ Try.func18 (by kernel_rfl) rfl #[.agg #[.int .i64 t450, .int .i64 t451, .int .i64 t452, .int .i64 t453, .int .i64 t454, .int .i64 t455, .int .i64 t456, .int .i64 t457, .int .i64 t458, .int .i64 t459, .int .i64 t460, .bool t461, .bool t462]] (by rfl) rfl rfl Z14_22 ?_
   with_reducible refine (impl_PieceOk.calls k t450 t451 t452 t453 t454 t455 t456 t457 t458 t459 t460 t461 t462 t537 _ A9.out).mono ?_
   rintro e w68 ⟨rfl, hb⟩
   refine ⟨_, rfl, ?_⟩
   have n0_ := Aside0.mk Z14_2
   have n1_ := Aside0.mk Z14_3
   have n2_ := Aside0.mk Z14_4
   have n3_ := Aside0.mk Z14_5
   have n4_ := Aside0.mk Z14_6
   have n5_ := Aside0.mk Z14_7
   have n6_ := Aside0.mk Z14_9
   clear BK463
   clear BK478
   clear BK494
   clear BK508
   clear BK535
   clear BK536
   clear HB
   have BK463 := n0_
   have BK478 := n1_
   have BK494 := n2_
   have BK508 := n3_
   have BK535 := n4_
   have BK536 := n5_
   have HB := n6_
   clear n0_ n1_ n2_ n3_ n4_ n5_ n6_
   (try clear hb)
   (try clear hb2)
   (try clear hk)
   (try clear hi)
   refine hK.out _ _ (D14_13 BK463.out (D14_13 BK478.out (D14_13 BK508.out (D14_13 BK494.out (D14_13 BK535.out (C14_13 BK536.out).1))))) (fun hHeld => ?_)
   clear hK K
   refine norm_ (a' := ?_) ?_ ?_
   rotate_left
   · show Act.put _ (some 37) _ = _
     simp only [Act.put, List.setIfInBounds_toArray, List.set_cons_zero, List.set_cons_succ, i64_w, i32_w]
     rfl
   refine one_ (i := 3) (N := some 39) (M14_45 15) rfl rfl (one_of HT_.out (by kernel_rfl)) (by decide) (fun K hK => ?_)
   refine goes_ Try.func19 (by kernel_rfl) rfl #[.agg #[.int .i64 t450, .int .i64 t451, .int .i64 t452, .int .i64 t453, .int .i64 t454, .int .i64 t455, .int .i64 t456, .int .i64 t457, .int .i64 t458, .int .i64 t459, .int .i64 t460, .bool t461, .bool t462]] (by rfl) rfl rfl Z14_22 ?_
   with_reducible refine (spec_PieceOk.calls k t450 t451 t452 t453 t454 t455 t456 t457 t458 t459 t460 t461 t462 t538 _ A10.out).mono ?_
   rintro e w69 ⟨rfl, hb⟩
   refine ⟨_, rfl, ?_⟩
   have n0_ := Aside0.mk Z14_2
   have n1_ := Aside0.mk Z14_3
   have n2_ := Aside0.mk Z14_4
   have n3_ := Aside0.mk Z14_5
   have n4_ := Aside0.mk Z14_6
   have n5_ := Aside0.mk Z14_7
   have n6_ := Aside0.mk Z14_9
   clear BK463
   clear BK478
   clear BK494
   clear BK508
   clear BK535
   clear BK536
   clear HB
   have BK463 := n0_
   have BK478 := n1_
   have BK494 := n2_
   have BK508 := n3_
   have BK535 := n4_
   have BK536 := n5_
   have HB := n6_
   clear n0_ n1_ n2_ n3_ n4_ n5_ n6_
   (try clear hb)
   (try clear hb2)
   (try clear hk)
   (try clear hi)
   refine hK.out _ _ (D14_13 BK463.out (D14_13 BK478.out (D14_13 BK508.out (D14_13 BK494.out (D14_13 BK535.out (C14_13 BK536.out).1))))) (fun hHeld => ?_)
   clear hK K
   refine norm_ (a' := ?_) ?_ ?_
   rotate_left
   · show Act.put _ (some 39) _ = _
     simp only [Act.put, List.setIfInBounds_toArray, List.set_cons_zero, List.set_cons_succ, i64_w, i32_w]
     rfl
   refine pure_ (i := 4) (N := some 40) (v := _) (a' := _) (M14_45 31) rfl rfl (any_of HT_.out (by kernel_rfl)) (fun _ _ _ h => h) (Or.inl ⟨(by rfl), (by intro w'; go_simp; with_reducible rfl)⟩) Z14_28 ?_
   refine pure_ (i := 5) (N := some 41) (v := _) (a' := _) (M14_45 63) rfl rfl (any_of HT_.out (by kernel_rfl)) (fun _ _ _ h => h) (Or.inl ⟨(by rfl), (by intro w'; go_simp; with_reducible rfl)⟩) Z14_28 ?_
   refine pure_ (i := 7) (N := some 43) (v := _) (a' := _) (M14_45 191) rfl rfl (any_of HT_.out (by kernel_rfl)) (fun _ _ _ h => h) (Or.inl ⟨(by rfl), (by intro w'; go_simp; with_reducible rfl)⟩) Z14_28 ?_
   as_aux_lemma =>
    refine pure_ (i := 10) (N := some 46) (v := _) (a' := _) (M14_45 1215) rfl rfl (any_of HT_.out (by kernel_rfl)) (fun _ _ _ h => h) (Or.inl ⟨(by rfl), (by intro w'; go_simp; with_reducible rfl)⟩) Z14_28 ?_
    refine take_ (i := 6) (N := some 42) (v := _) (a' := _) (M14_45 1279) rfl rfl (take_ofW HT_.out HW_.out (by kernel_rfl)) (fun _ _ _ h => h) (Or.inl ⟨(by rfl), Z14_1⟩) hHeld Z14_28 ?_
    refine take_ (i := 9) (N := some 45) (v := _) (a' := _) (M14_45 1791) rfl rfl (take_ofW HT_.out HW_.out (by kernel_rfl)) (fun _ _ _ h => h) (Or.inl ⟨(by rfl), Z14_1⟩) hHeld Z14_28 ?_
    refine one_ (i := 8) (N := some 44) (M14_45 2047) rfl rfl (one_of HT_.out (by kernel_rfl)) (by decide) (fun K hK => ?_)
    refine goes_ Try.func20 (by kernel_rfl) rfl #[.agg #[.int .i64 t464, .int .i64 t465, .int .i64 t466, .int .i64 t467, .int .i64 t468, .int .i64 t469, .int .i64 t470, .int .i64 t471, .int .i64 t472, .int .i64 t473, .int .i64 t474, .bool t475, .bool t476], .int .i64 t477] (by rfl) rfl rfl Z14_22 ?_
    with_reducible refine (impl_HasTrait.calls t464 t465 t466 t467 t468 t469 t470 t471 t472 t473 t474 t475 t476 t477 t539 _ A12.out).mono ?_
    rintro e w70 ⟨rfl, hb⟩
    refine ⟨_, rfl, ?_⟩
    have n0_ := Aside0.mk Z14_2
    have n1_ := Aside0.mk Z14_3
    have n2_ := Aside0.mk Z14_4
    have n3_ := Aside0.mk Z14_5
    have n4_ := Aside0.mk Z14_6
    have n5_ := Aside0.mk Z14_7
    have n6_ := Aside0.mk Z14_9
    clear BK463
    clear BK478
    clear BK494
    clear BK508
    clear BK535
    clear BK536
    clear HB
    have BK463 := n0_
    have BK478 := n1_
    have BK494 := n2_
    have BK508 := n3_
    have BK535 := n4_
    have BK536 := n5_
    have HB := n6_
    clear n0_ n1_ n2_ n3_ n4_ n5_ n6_
    (try clear hb)
    (try clear hb2)
    (try clear hk)
    (try clear hi)
    refine hK.out _ _ (D14_13 BK463.out (D14_13 BK478.out (D14_13 BK508.out (D14_13 BK494.out (D14_13 BK535.out (C14_13 BK536.out).1))))) (fun hHeld => ?_)
    clear hK K
    refine norm_ (a' := ?_) ?_ ?_
    rotate_left
    · show Act.put _ (some 44) _ = _
      simp only [Act.put, List.setIfInBounds_toArray, List.set_cons_zero, List.set_cons_succ, i64_w, i32_w]
      rfl
    refine one_ (i := 11) (N := some 47) (M14_45 4095) rfl rfl (one_of HT_.out (by kernel_rfl)) (by decide) (fun K hK => ?_)
    refine goes_ Try.func21 (by kernel_rfl) rfl #[.agg #[.int .i64 t464, .int .i64 t465, .int .i64 t466, .int .i64 t467, .int .i64 t468, .int .i64 t469, .int .i64 t470, .int .i64 t471, .int .i64 t472, .int .i64 t473, .int .i64 t474, .bool t475, .bool t476], .int .i64 t477] (by rfl) rfl rfl Z14_22 ?_
    with_reducible refine (spec_HasTrait.calls t464 t465 t466 t467 t468 t469 t470 t471 t472 t473 t474 t475 t476 t477 t540 _ A13.out).mono ?_
    rintro e w71 ⟨rfl, hb⟩
    refine ⟨_, rfl, ?_⟩
    have n0_ := Aside0.mk Z14_2
    have n1_ := Aside0.mk Z14_3
    have n2_ := Aside0.mk Z14_4
    have n3_ := Aside0.mk Z14_5
    have n4_ := Aside0.mk Z14_6
    have n5_ := Aside0.mk Z14_7
    have n6_ := Aside0.mk Z14_9
    clear BK463
    clear BK478
    clear BK494
    clear BK508
    clear BK535
    clear BK536
    clear HB
    have BK463 := n0_
    have BK478 := n1_
    have BK494 := n2_
    have BK508 := n3_
    have BK535 := n4_
    have BK536 := n5_
    have HB := n6_
    clear n0_ n1_ n2_ n3_ n4_ n5_ n6_
    (try clear hb)
    (try clear hb2)
    (try clear hk)
    (try clear hi)
    refine hK.out _ _ (D14_13 BK463.out (D14_13 BK478.out (D14_13 BK508.out (D14_13 BK494.out (D14_13 BK535.out (C14_13 BK536.out).1))))) (fun hHeld => ?_)
    clear hK K
    refine norm_ (a' := ?_) ?_ ?_
    rotate_left
    · show Act.put _ (some 47) _ = _
      simp only [Act.put, List.setIfInBounds_toArray, List.set_cons_zero, List.set_cons_succ, i64_w, i32_w]
      rfl
    refine pure_ (i := 12) (N := some 48) (v := _) (a' := _) (M14_45 8191) rfl rfl (any_of HT_.out (by kernel_rfl)) (fun _ _ _ h => h) (Or.inl ⟨(by rfl), (by intro w'; go_simp; with_reducible rfl)⟩) Z14_28 ?_
    refine pure_ (i := 13) (N := some 49) (v := _) (a' := _) (M14_45 16383) rfl rfl (any_of HT_.out (by kernel_rfl)) (fun _ _ _ h => h) (Or.inl ⟨(by rfl), (by intro w'; go_simp; with_reducible rfl)⟩) Z14_28 ?_
    refine pure_ (i := 14) (N := some 50) (v := _) (a' := _) (M14_45 32767) rfl rfl (any_of HT_.out (by kernel_rfl)) (fun _ _ _ h => h) (Or.inl ⟨(by rfl), (by intro w'; go_simp; with_reducible rfl)⟩) Z14_28 ?_
    as_aux_lemma =>
     refine take_ (i := 15) (N := some 51) (v := _) (a' := _) (M14_45 65535) rfl rfl (take_ofW HT_.out HW_.out (by kernel_rfl)) (fun _ _ _ h => h) (Or.inl ⟨(by rfl), Z14_1⟩) hHeld Z14_28 ?_
     refine take_ (i := 17) (N := some 53) (v := _) (a' := _) (M14_45 196607) rfl rfl (take_ofW HT_.out HW_.out (by kernel_rfl)) (fun _ _ _ h => h) (Or.inl ⟨(by rfl), Z14_1⟩) hHeld Z14_28 ?_
     refine one_ (i := 16) (N := some 52) (M14_45 262143) rfl rfl (one_of HT_.out (by kernel_rfl)) (by decide) (fun K hK => ?_)
     refine goes_ Try.func22 (by kernel_rfl) rfl #[.agg #[.int .i64 t450, .int .i64 t451, .int .i64 t452, .int .i64 t453, .int .i64 t454, .int .i64 t455, .int .i64 t456, .int .i64 t457, .int .i64 t458, .int .i64 t459, .int .i64 t460, .bool t461, .bool t462]] (by rfl) rfl rfl Z14_22 ?_
     with_reducible refine (impl_PowerOf.calls t450 t451 t452 t453 t454 t455 t456 t457 t458 t459 t460 t461 t462 t541 _ A15.out).mono ?_
     rintro e w72 ⟨rfl, hb⟩
     refine ⟨_, rfl, ?_⟩
     have n0_ := Aside0.mk Z14_2
     have n1_ := Aside0.mk Z14_3
     have n2_ := Aside0.mk Z14_4
     have n3_ := Aside0.mk Z14_5
     have n4_ := Aside0.mk Z14_6
     have n5_ := Aside0.mk Z14_7
     have n6_ := Aside0.mk Z14_9
     clear BK463
     clear BK478
     clear BK494
     clear BK508
     clear BK535
     clear BK536
     clear HB
     have BK463 := n0_
     have BK478 := n1_
     have BK494 := n2_
     have BK508 := n3_
     have BK535 := n4_
     have BK536 := n5_
     have HB := n6_
     clear n0_ n1_ n2_ n3_ n4_ n5_ n6_
     (try clear hb)
     (try clear hb2)
     (try clear hk)
     (try clear hi)
     refine hK.out _ _ (D14_13 BK463.out (D14_13 BK478.out (D14_13 BK508.out (D14_13 BK494.out (D14_13 BK535.out (C14_13 BK536.out).1))))) (fun hHeld => ?_)
     clear hK K
     refine norm_ (a' := ?_) ?_ ?_
     rotate_left
     · show Act.put _ (some 52) _ = _
       simp only [Act.put, List.setIfInBounds_toArray, List.set_cons_zero, List.set_cons_succ, i64_w, i32_w]
       rfl
     refine one_ (i := 18) (N := some 54) (M14_45 524287) rfl rfl (one_of HT_.out (by kernel_rfl)) (by decide) (fun K hK => ?_)
     refine goes_ Try.func23 (by kernel_rfl) rfl #[.agg #[.int .i64 t450, .int .i64 t451, .int .i64 t452, .int .i64 t453, .int .i64 t454, .int .i64 t455, .int .i64 t456, .int .i64 t457, .int .i64 t458, .int .i64 t459, .int .i64 t460, .bool t461, .bool t462]] (by rfl) rfl rfl Z14_22 ?_
     with_reducible refine (spec_PowerOf.calls t450 t451 t452 t453 t454 t455 t456 t457 t458 t459 t460 t461 t462 t542 _ A16.out).mono ?_
     rintro e w73 ⟨rfl, hb⟩
     refine ⟨_, rfl, ?_⟩
     have n0_ := Aside0.mk Z14_2
     have n1_ := Aside0.mk Z14_3
     have n2_ := Aside0.mk Z14_4
     have n3_ := Aside0.mk Z14_5
     have n4_ := Aside0.mk Z14_6
     have n5_ := Aside0.mk Z14_7
     have n6_ := Aside0.mk Z14_9
     clear BK463
     clear BK478
     clear BK494
     clear BK508
     clear BK535
     clear BK536
     clear HB
     have BK463 := n0_
     have BK478 := n1_
     have BK494 := n2_
     have BK508 := n3_
     have BK535 := n4_
     have BK536 := n5_
     have HB := n6_
     clear n0_ n1_ n2_ n3_ n4_ n5_ n6_
     (try clear hb)
     (try clear hb2)
     (try clear hk)
     (try clear hi)
     refine hK.out _ _ (D14_13 BK463.out (D14_13 BK478.out (D14_13 BK508.out (D14_13 BK494.out (D14_13 BK535.out (C14_13 BK536.out).1))))) (fun hHeld => ?_)
     clear hK K
     refine norm_ (a' := ?_) ?_ ?_
     rotate_left
     · show Act.put _ (some 54) _ = _
       simp only [Act.put, List.setIfInBounds_toArray, List.set_cons_zero, List.set_cons_succ, i64_w, i32_w]
       rfl
     refine pure_ (i := 19) (N := some 55) (v := _) (a' := _) (M14_45 1048575) rfl rfl (any_of HT_.out (by kernel_rfl)) (fun _ _ _ h => h) (Or.inl ⟨(by rfl), (by intro w'; go_simp; with_reducible rfl)⟩) Z14_28 ?_
     refine pure_ (i := 20) (N := some 56) (v := _) (a' := _) (M14_45 2097151) rfl rfl (any_of HT_.out (by kernel_rfl)) (fun _ _ _ h => h) (Or.inl ⟨(by rfl), (by intro w'; go_simp; with_reducible rfl)⟩) Z14_28 ?_
     refine pure_ (i := 21) (N := some 57) (v := _) (a' := _) (M14_45 4194303) rfl rfl (any_of HT_.out (by kernel_rfl)) (fun _ _ _ h => h) (Or.inl ⟨(by rfl), (by intro w'; go_simp; with_reducible rfl)⟩) Z14_28 ?_
     refine take_ (i := 22) (N := some 58) (v := _) (a' := _) (M14_45 8388607) rfl rfl (take_ofW HT_.out HW_.out (by kernel_rfl)) (fun _ _ _ h => h) (Or.inl ⟨(by rfl), Z14_1⟩) hHeld Z14_28 ?_
     as_aux_lemma =>
      refine take_ (i := 24) (N := some 60) (v := _) (a' := _) (M14_45 25165823) rfl rfl (take_ofW HT_.out HW_.out (by kernel_rfl)) (fun _ _ _ h => h) (Or.inl ⟨(by rfl), Z14_1⟩) hHeld Z14_28 ?_
      refine one_ (i := 23) (N := some 59) (M14_45 33554431) rfl rfl (one_of HT_.out (by kernel_rfl)) (by decide) (fun K hK => ?_)
      refine goes_ Try.func24 (by kernel_rfl) rfl #[.agg #[.int .i64 t450, .int .i64 t451, .int .i64 t452, .int .i64 t453, .int .i64 t454, .int .i64 t455, .int .i64 t456, .int .i64 t457, .int .i64 t458, .int .i64 t459, .int .i64 t460, .bool t461, .bool t462]] (by rfl) rfl rfl Z14_22 ?_
      with_reducible refine (impl_ToughOf.calls t450 t451 t452 t453 t454 t455 t456 t457 t458 t459 t460 t461 t462 t543 _ A18.out).mono ?_
      rintro e w74 ⟨rfl, hb⟩
      refine ⟨_, rfl, ?_⟩
      have n0_ := Aside0.mk Z14_2
      have n1_ := Aside0.mk Z14_3
      have n2_ := Aside0.mk Z14_4
      have n3_ := Aside0.mk Z14_5
      have n4_ := Aside0.mk Z14_6
      have n5_ := Aside0.mk Z14_7
      have n6_ := Aside0.mk Z14_9
      clear BK463
      clear BK478
      clear BK494
      clear BK508
      clear BK535
      clear BK536
      clear HB
      have BK463 := n0_
      have BK478 := n1_
      have BK494 := n2_
      have BK508 := n3_
      have BK535 := n4_
      have BK536 := n5_
      have HB := n6_
      clear n0_ n1_ n2_ n3_ n4_ n5_ n6_
      (try clear hb)
      (try clear hb2)
      (try clear hk)
      (try clear hi)
      refine hK.out _ _ (D14_13 BK463.out (D14_13 BK478.out (D14_13 BK508.out (D14_13 BK494.out (D14_13 BK535.out (C14_13 BK536.out).1))))) (fun hHeld => ?_)
      clear hK K
      refine norm_ (a' := ?_) ?_ ?_
      rotate_left
      · show Act.put _ (some 59) _ = _
        simp only [Act.put, List.setIfInBounds_toArray, List.set_cons_zero, List.set_cons_succ, i64_w, i32_w]
        rfl
      refine one_ (i := 25) (N := some 61) (M14_45 67108863) rfl rfl (one_of HT_.out (by kernel_rfl)) (by decide) (fun K hK => ?_)
      refine goes_ Try.func25 (by kernel_rfl) rfl #[.agg #[.int .i64 t450, .int .i64 t451, .int .i64 t452, .int .i64 t453, .int .i64 t454, .int .i64 t455, .int .i64 t456, .int .i64 t457, .int .i64 t458, .int .i64 t459, .int .i64 t460, .bool t461, .bool t462]] (by rfl) rfl rfl Z14_22 ?_
      with_reducible refine (spec_ToughOf.calls t450 t451 t452 t453 t454 t455 t456 t457 t458 t459 t460 t461 t462 t544 _ A19.out).mono ?_
      rintro e w75 ⟨rfl, hb⟩
      refine ⟨_, rfl, ?_⟩
      have n0_ := Aside0.mk Z14_2
      have n1_ := Aside0.mk Z14_3
      have n2_ := Aside0.mk Z14_4
      have n3_ := Aside0.mk Z14_5
      have n4_ := Aside0.mk Z14_6
      have n5_ := Aside0.mk Z14_7
      have n6_ := Aside0.mk Z14_9
      clear BK463
      clear BK478
      clear BK494
      clear BK508
      clear BK535
      clear BK536
      clear HB
      have BK463 := n0_
      have BK478 := n1_
      have BK494 := n2_
      have BK508 := n3_
      have BK535 := n4_
      have BK536 := n5_
      have HB := n6_
      clear n0_ n1_ n2_ n3_ n4_ n5_ n6_
      (try clear hb)
      (try clear hb2)
      (try clear hk)
      (try clear hi)
      refine hK.out _ _ (D14_13 BK463.out (D14_13 BK478.out (D14_13 BK508.out (D14_13 BK494.out (D14_13 BK535.out (C14_13 BK536.out).1))))) (fun hHeld => ?_)
      clear hK K
      refine norm_ (a' := ?_) ?_ ?_
      rotate_left
      · show Act.put _ (some 61) _ = _
        simp only [Act.put, List.setIfInBounds_toArray, List.set_cons_zero, List.set_cons_succ, i64_w, i32_w]
        rfl
      refine pure_ (i := 26) (N := some 62) (v := _) (a' := _) (M14_45 134217727) rfl rfl (any_of HT_.out (by kernel_rfl)) (fun _ _ _ h => h) (Or.inl ⟨(by rfl), (by intro w'; go_simp; with_reducible rfl)⟩) Z14_28 ?_
      refine pure_ (i := 27) (N := some 63) (v := _) (a' := _) (M14_45 268435455) rfl rfl (any_of HT_.out (by kernel_rfl)) (fun _ _ _ h => h) (Or.inl ⟨(by rfl), (by intro w'; go_simp; with_reducible rfl)⟩) Z14_28 ?_
      refine pure_ (i := 28) (N := some 64) (v := _) (a' := _) (M14_45 536870911) rfl rfl (any_of HT_.out (by kernel_rfl)) (fun _ _ _ h => h) (Or.inl ⟨(by rfl), (by intro w'; go_simp; with_reducible rfl)⟩) Z14_28 ?_
      refine pure_ (i := 31) (N := some 67) (v := _) (a' := _) (M14_45 2684354559) rfl rfl (any_of HT_.out (by kernel_rfl)) (fun _ _ _ h => h) (Or.inl ⟨(by rfl), (by intro w'; go_simp; with_reducible rfl)⟩) Z14_28 ?_
      refine pure_ (i := 32) (N := some 68) (v := _) (a' := _) (M14_45 6979321855) rfl rfl (any_of HT_.out (by kernel_rfl)) (fun _ _ _ h => h) (Or.inl ⟨(by rfl), (by intro w'; go_simp; with_reducible rfl)⟩) Z14_28 ?_
      as_aux_lemma =>
       refine take_ (i := 29) (N := some 65) (v := _) (a' := _) (M14_45 7516192767) rfl rfl (take_ofW HT_.out HW_.out (by kernel_rfl)) (fun _ _ _ h => h) (Or.inl ⟨(by rfl), Z14_1⟩) hHeld Z14_28 ?_
       refine take_ (i := 30) (N := some 66) (v := _) (a' := _) (M14_45 8589934591) rfl rfl (take_ofW HT_.out HW_.out (by kernel_rfl)) (fun _ _ _ h => h) (Or.inl ⟨(by rfl), Z14_1⟩) hHeld Z14_28 ?_
       refine one_ (i := 33) (N := some 69) (M14_45 17179869183) rfl rfl (one_of HT_.out (by kernel_rfl)) (by decide) (fun K hK => ?_)
       refine goes_ Try.func26 (by kernel_rfl) rfl #[.agg #[.int .i64 t479, .int .i64 t480, .int .i64 t481, .int .i64 t482, .int .i64 t483, .int .i64 t484, .int .i64 t485, .int .i64 t486, .int .i64 t487, .int .i64 t488, .int .i64 t489, .bool t490, .bool t491], .int .i64 t492, .int .i64 t493] (by rfl) rfl rfl Z14_22 ?_
       with_reducible refine (spec_Moved.calls t479 t480 t481 t482 t483 t484 t485 t486 t487 t488 t489 t490 t491 t492 t493 t545 t546 t547 t548 t549 t550 t551 t552 t553 t554 t555 t556 t557 _ A21.out).mono ?_
       rintro e w76 ⟨rfl, hb⟩
       refine ⟨_, rfl, ?_⟩
       have n0_ := Aside0.mk Z14_2
       have n1_ := Aside0.mk Z14_3
       have n2_ := Aside0.mk Z14_4
       have n3_ := Aside0.mk Z14_5
       have n4_ := Aside0.mk Z14_6
       have n5_ := Aside0.mk Z14_7
       have n6_ := Aside0.mk Z14_9
       clear BK463
       clear BK478
       clear BK494
       clear BK508
       clear BK535
       clear BK536
       clear HB
       have BK463 := n0_
       have BK478 := n1_
       have BK494 := n2_
       have BK508 := n3_
       have BK535 := n4_
       have BK536 := n5_
       have HB := n6_
       clear n0_ n1_ n2_ n3_ n4_ n5_ n6_
       (try clear hb)
       (try clear hb2)
       (try clear hk)
       (try clear hi)
       refine hK.out _ _ (D14_13 BK463.out (D14_13 BK478.out (D14_13 BK508.out (D14_13 BK494.out (D14_13 BK535.out (C14_13 BK536.out).1))))) (fun hHeld => ?_)
       clear hK K
       refine norm_ (a' := ?_) ?_ ?_
       rotate_left
       · show Act.put _ (some 69) _ = _
         simp only [Act.put, List.setIfInBounds_toArray, List.set_cons_zero, List.set_cons_succ, i64_w, i32_w]
         rfl
       refine pure_ (i := 34) (N := some 70) (v := _) (a' := _) (M14_45 34359738367) rfl rfl (any_of HT_.out (by kernel_rfl)) (fun _ _ _ h => h) (Or.inl ⟨(by rfl), (by intro w'; go_simp; with_reducible rfl)⟩) Z14_28 ?_
       refine pure_ (i := 35) (N := some 71) (v := _) (a' := _) (M14_45 68719476735) rfl rfl (any_of HT_.out (by kernel_rfl)) (fun _ _ _ h => h) (Or.inl ⟨(by rfl), (by intro w'; go_simp; with_reducible rfl)⟩) Z14_28 ?_
       refine pure_ (i := 36) (N := some 72) (v := _) (a' := _) (M14_45 137438953471) rfl rfl (any_of HT_.out (by kernel_rfl)) (fun _ _ _ h => h) (Or.inl ⟨(by rfl), (by intro w'; go_simp; with_reducible rfl)⟩) Z14_28 ?_
       refine take_ (i := 37) (N := some 73) (v := _) (a' := _) (M14_45 274877906943) rfl rfl (take_ofW HT_.out HW_.out (by kernel_rfl)) (fun _ _ _ h => h) (Or.inl ⟨(by rfl), Z14_1⟩) hHeld Z14_28 ?_
       refine take_ (i := 38) (N := some 74) (v := _) (a' := _) (M14_45 549755813887) rfl rfl (take_ofW HT_.out HW_.out (by kernel_rfl)) (fun _ _ _ h => h) (Or.inl ⟨(by rfl), Z14_1⟩) hHeld Z14_28 ?_
       as_aux_lemma =>
        refine take_ (i := 40) (N := some 76) (v := _) (a' := _) (M14_45 1649267441663) rfl rfl (take_ofW HT_.out HW_.out (by kernel_rfl)) (fun _ _ _ h => h) (Or.inl ⟨(by rfl), Z14_1⟩) hHeld Z14_28 ?_
        refine take_ (i := 41) (N := some 77) (v := _) (a' := _) (M14_45 3848290697215) rfl rfl (take_ofW HT_.out HW_.out (by kernel_rfl)) (fun _ _ _ h => h) (Or.inl ⟨(by rfl), Z14_1⟩) hHeld Z14_28 ?_
        refine pure_ (i := 42) (N := some 78) (v := _) (a' := _) (M14_45 8246337208319) rfl rfl (any_of HT_.out (by kernel_rfl)) (fun _ _ _ h => h) (Or.inl ⟨(by rfl), (by intro w'; go_simp; with_reducible rfl)⟩) Z14_28 ?_
        refine one_ (i := 39) (N := some 75) (M14_45 8796093022207) rfl rfl (one_of HT_.out (by kernel_rfl)) (by decide) (fun K hK => ?_)
        refine goes_ Try.func27 (by kernel_rfl) rfl #[.agg #[.int .i64 t509, .int .i64 t510, .int .i64 t511, .int .i64 t512, .int .i64 t513, .int .i64 t514, .int .i64 t515, .int .i64 t516, .int .i64 t517, .int .i64 t518, .int .i64 t519, .bool t520, .bool t521], .agg #[.int .i64 t522, .int .i64 t523, .int .i64 t524, .int .i64 t525, .int .i64 t526, .int .i64 t527, .int .i64 t528, .int .i64 t529, .int .i64 t530, .int .i64 t531, .int .i64 t532, .bool t533, .bool t534]] (by rfl) rfl rfl Z14_22 ?_
        with_reducible refine (impl_SamePiece.calls t509 t510 t511 t512 t513 t514 t515 t516 t517 t518 t519 t520 t521 t522 t523 t524 t525 t526 t527 t528 t529 t530 t531 t532 t533 t534 t558 _ A23.out).mono ?_
        rintro e w77 ⟨rfl, hb⟩
        refine ⟨_, rfl, ?_⟩
        have n0_ := Aside0.mk Z14_2
        have n1_ := Aside0.mk Z14_3
        have n2_ := Aside0.mk Z14_4
        have n3_ := Aside0.mk Z14_5
        have n4_ := Aside0.mk Z14_6
        have n5_ := Aside0.mk Z14_7
        have n6_ := Aside0.mk Z14_9
        clear BK463
        clear BK478
        clear BK494
        clear BK508
        clear BK535
        clear BK536
        clear HB
        have BK463 := n0_
        have BK478 := n1_
        have BK494 := n2_
        have BK508 := n3_
        have BK535 := n4_
        have BK536 := n5_
        have HB := n6_
        clear n0_ n1_ n2_ n3_ n4_ n5_ n6_
        (try clear hb)
        (try clear hb2)
        (try clear hk)
        (try clear hi)
        refine hK.out _ _ (D14_13 BK463.out (D14_13 BK478.out (D14_13 BK508.out (D14_13 BK494.out (D14_13 BK535.out (C14_13 BK536.out).1))))) (fun hHeld => ?_)
        clear hK K
        refine norm_ (a' := ?_) ?_ ?_
        rotate_left
        · show Act.put _ (some 75) _ = _
          simp only [Act.put, List.setIfInBounds_toArray, List.set_cons_zero, List.set_cons_succ, i64_w, i32_w]
          rfl
        refine pure_ (i := 43) (N := some 79) (v := _) (a' := _) (M14_45 17592186044415) rfl rfl (any_of HT_.out (by kernel_rfl)) (fun _ _ _ h => h) (Or.inl ⟨(by rfl), (by intro w'; go_simp; with_reducible rfl)⟩) Z14_28 ?_
        refine pure_ (i := 44) (N := some 80) (v := _) (a' := _) (M14_45 35184372088831) rfl rfl (any_of HT_.out (by kernel_rfl)) (fun _ _ _ h => h) (Or.inl ⟨(by rfl), (by intro w'; go_simp; with_reducible rfl)⟩) Z14_28 ?_
        refine done_ (done_of HT_.out (by kernel_rfl)) ?_
        by_cases c32 : t574 = true
        rotate_left
        · replace c32 := Bool.eq_false_iff.mpr c32
          subst c32
          have H1 : (some true) = some r := by rw [if_neg (show ¬ (false = true) by decide)] at H; exact H
          clear H
          have H := H1
          clear H1
          obtain rfl := Option.some.inj H
          try go_wp2
          have n0_ := Aside0.mk (blk_drew BK463.out)
          have n1_ := Aside0.mk (blk_drew BK478.out)
          have n2_ := Aside0.mk (blk_drew BK494.out)
          have n3_ := Aside0.mk (blk_drew BK508.out)
          have n4_ := Aside0.mk (blk_drew BK535.out)
          have n5_ := Aside0.mk (blk_drew BK536.out)
          have n6_ := Aside0.mk (below_drew1 HB.out)
          clear BK463
          clear BK478
          clear BK494
          clear BK508
          clear BK535
          clear BK536
          clear HB
          have BK463 := n0_
          have BK478 := n1_
          have BK494 := n2_
          have BK508 := n3_
          have BK535 := n4_
          have BK536 := n5_
          have HB := n6_
          clear n0_ n1_ n2_ n3_ n4_ n5_ n6_
          as_aux_lemma =>
           refine start_ (n := 39) (S := fun w' => w'.cell? ⟨gb508, 0, none⟩ = some (.int .i64 t495) ∧ w'.cell? ⟨gb508, 1, none⟩ = some (.int .i64 t496) ∧ w'.cell? ⟨gb508, 2, none⟩ = some (.int .i64 t497) ∧ w'.cell? ⟨gb508, 3, none⟩ = some (.int .i64 t498) ∧ w'.cell? ⟨gb508, 4, none⟩ = some (.int .i64 t499) ∧ w'.cell? ⟨gb508, 5, none⟩ = some (.int .i64 t500) ∧ w'.cell? ⟨gb508, 6, none⟩ = some (.int .i64 t501) ∧ w'.cell? ⟨gb508, 7, none⟩ = some (.int .i64 t502) ∧ w'.cell? ⟨gb508, 8, none⟩ = some (.int .i64 t503) ∧ w'.cell? ⟨gb508, 9, none⟩ = some (.int .i64 t504) ∧ w'.cell? ⟨gb508, 10, none⟩ = some (.int .i64 t505) ∧ w'.cell? ⟨gb508, 11, none⟩ = some (.bool t506) ∧ w'.cell? ⟨gb508, 12, none⟩ = some (.bool t507) ∧ w'.cell? ⟨gb494, 0, none⟩ = some (.int .i64 t479) ∧ w'.cell? ⟨gb494, 1, none⟩ = some (.int .i64 t480) ∧ w'.cell? ⟨gb494, 2, none⟩ = some (.int .i64 t481) ∧ w'.cell? ⟨gb494, 3, none⟩ = some (.int .i64 t482) ∧ w'.cell? ⟨gb494, 4, none⟩ = some (.int .i64 t483) ∧ w'.cell? ⟨gb494, 5, none⟩ = some (.int .i64 t484) ∧ w'.cell? ⟨gb494, 6, none⟩ = some (.int .i64 t485) ∧ w'.cell? ⟨gb494, 7, none⟩ = some (.int .i64 t486) ∧ w'.cell? ⟨gb494, 8, none⟩ = some (.int .i64 t487) ∧ w'.cell? ⟨gb494, 9, none⟩ = some (.int .i64 t488) ∧ w'.cell? ⟨gb494, 10, none⟩ = some (.int .i64 t489) ∧ w'.cell? ⟨gb494, 11, none⟩ = some (.bool t490) ∧ w'.cell? ⟨gb494, 12, none⟩ = some (.bool t491)) (ds := []) #[false, false, false, false, false, false, false, false, false, false, false, false, false, false, false, false, false, false, false, false, false, false, false, false, false, false, false, false, false, false, false, false, false, false, false, false, false, false, false] (by kernel_rfl) rfl rfl ⟨(blk_cell BK508.out 0).trans rfl, (blk_cell BK508.out 1).trans rfl, (blk_cell BK508.out 2).trans rfl, (blk_cell BK508.out 3).trans rfl, (blk_cell BK508.out 4).trans rfl, (blk_cell BK508.out 5).trans rfl, (blk_cell BK508.out 6).trans rfl, (blk_cell BK508.out 7).trans rfl, (blk_cell BK508.out 8).trans rfl, (blk_cell BK508.out 9).trans rfl, (blk_cell BK508.out 10).trans rfl, (blk_cell BK508.out 11).trans rfl, (blk_cell BK508.out 12).trans rfl, (blk_cell BK494.out 0).trans rfl, (blk_cell BK494.out 1).trans rfl, (blk_cell BK494.out 2).trans rfl, (blk_cell BK494.out 3).trans rfl, (blk_cell BK494.out 4).trans rfl, (blk_cell BK494.out 5).trans rfl, (blk_cell BK494.out 6).trans rfl, (blk_cell BK494.out 7).trans rfl, (blk_cell BK494.out 8).trans rfl, (blk_cell BK494.out 9).trans rfl, (blk_cell BK494.out 10).trans rfl, (blk_cell BK494.out 11).trans rfl, (blk_cell BK494.out 12).trans rfl⟩ (fun hHeld => ?_); refine with_tabW laws_FnPieces.tab10 laws_FnPieces.bits10 (fun HT_ HW_ => ?_)
           generalize w77.drew = w228 at BK463 BK478 BK494 BK508 BK535 BK536 HB hHeld ⊢
           refine pure_ (i := 2) (N := some 83) (v := _) (a' := _) (M14_39 4) rfl rfl (any_of HT_.out (by kernel_rfl)) (fun _ _ _ h => h) (Or.inl ⟨(by rfl), (by intro w'; go_simp; with_reducible rfl)⟩) Z14_28 ?_
           refine take_ (i := 0) (N := some 81) (v := _) (a' := _) (M14_39 5) rfl rfl (take_ofW HT_.out HW_.out (by kernel_rfl)) (fun _ _ _ h => h) (Or.inl ⟨(by rfl), Z14_20⟩) hHeld Z14_28 ?_
           refine take_ (i := 3) (N := some 84) (v := _) (a' := _) (M14_39 13) rfl rfl (take_ofW HT_.out HW_.out (by kernel_rfl)) (fun _ _ _ h => h) (Or.inl ⟨(by rfl), Z14_20⟩) hHeld Z14_28 ?_
           refine one_ (i := 1) (N := some 82) (M14_39 15) rfl rfl (one_of HT_.out (by kernel_rfl)) (by decide) (fun K hK => ?_)
           refine goes_ Try.func22 (by kernel_rfl) rfl #[.agg #[.int .i64 t495, .int .i64 t496, .int .i64 t497, .int .i64 t498, .int .i64 t499, .int .i64 t500, .int .i64 t501, .int .i64 t502, .int .i64 t503, .int .i64 t504, .int .i64 t505, .bool t506, .bool t507]] (by rfl) rfl rfl Z14_22 ?_
           with_reducible refine (impl_PowerOf.calls t495 t496 t497 t498 t499 t500 t501 t502 t503 t504 t505 t506 t507 t559 _ A25.out).mono ?_
           rintro e w229 ⟨rfl, hb⟩
           refine ⟨_, rfl, ?_⟩
           have n0_ := Aside0.mk Z14_2
           have n1_ := Aside0.mk Z14_3
           have n2_ := Aside0.mk Z14_4
           have n3_ := Aside0.mk Z14_5
           have n4_ := Aside0.mk Z14_6
           have n5_ := Aside0.mk Z14_7
           have n6_ := Aside0.mk Z14_9
           clear BK463
           clear BK478
           clear BK494
           clear BK508
           clear BK535
           clear BK536
           clear HB
           have BK463 := n0_
           have BK478 := n1_
           have BK494 := n2_
           have BK508 := n3_
           have BK535 := n4_
           have BK536 := n5_
           have HB := n6_
           clear n0_ n1_ n2_ n3_ n4_ n5_ n6_
           (try clear hb)
           (try clear hb2)
           (try clear hk)
           (try clear hi)
           refine hK.out _ _ (D14_13 BK508.out (C14_13 BK494.out).1) (fun hHeld => ?_)
           clear hK K
           refine norm_ (a' := ?_) ?_ ?_
           rotate_left
           · show Act.put _ (some 82) _ = _
             simp only [Act.put, List.setIfInBounds_toArray, List.set_cons_zero, List.set_cons_succ, i64_w, i32_w]
             rfl
           refine one_ (i := 4) (N := some 85) (M14_39 31) rfl rfl (one_of HT_.out (by kernel_rfl)) (by decide) (fun K hK => ?_)
           refine goes_ Try.func28 (by kernel_rfl) rfl #[.int .i64 t484] (by rfl) rfl rfl Z14_22 ?_
           with_reducible refine (impl_Bound.calls t484 t560 _ A26.out).mono ?_
           rintro e w230 ⟨rfl, hb⟩
           refine ⟨_, rfl, ?_⟩
           have n0_ := Aside0.mk Z14_2
           have n1_ := Aside0.mk Z14_3
           have n2_ := Aside0.mk Z14_4
           have n3_ := Aside0.mk Z14_5
           have n4_ := Aside0.mk Z14_6
           have n5_ := Aside0.mk Z14_7
           have n6_ := Aside0.mk Z14_9
           clear BK463
           clear BK478
           clear BK494
           clear BK508
           clear BK535
           clear BK536
           clear HB
           have BK463 := n0_
           have BK478 := n1_
           have BK494 := n2_
           have BK508 := n3_
           have BK535 := n4_
           have BK536 := n5_
           have HB := n6_
           clear n0_ n1_ n2_ n3_ n4_ n5_ n6_
           (try clear hb)
           (try clear hb2)
           (try clear hk)
           (try clear hi)
           refine hK.out _ _ (D14_13 BK508.out (C14_13 BK494.out).1) (fun hHeld => ?_)
           clear hK K
           refine norm_ (a' := ?_) ?_ ?_
           rotate_left
           · show Act.put _ (some 85) _ = _
             simp only [Act.put, List.setIfInBounds_toArray, List.set_cons_zero, List.set_cons_succ, i64_w, i32_w]
             rfl
           refine pure_ (i := 5) (N := some 86) (v := _) (a' := _) (M14_39 63) rfl rfl (any_of HT_.out (by kernel_rfl)) (fun _ _ _ h => h) (Or.inl ⟨(by rfl), (by intro w'; go_simp; with_reducible rfl)⟩) Z14_28 ?_
           refine pure_ (i := 6) (N := some 87) (v := _) (a' := _) (M14_39 127) rfl rfl (any_of HT_.out (by kernel_rfl)) (fun _ _ _ h => h) (Or.inl ⟨(by rfl), (by intro w'; go_simp; with_reducible rfl)⟩) Z14_28 ?_
           as_aux_lemma =>
            refine pure_ (i := 7) (N := some 88) (v := _) (a' := _) (M14_39 255) rfl rfl (any_of HT_.out (by kernel_rfl)) (fun _ _ _ h => h) (Or.inl ⟨(by rfl), (by intro w'; go_simp; with_reducible rfl)⟩) Z14_28 ?_
            refine pure_ (i := 9) (N := some 90) (v := _) (a' := _) (M14_39 767) rfl rfl (any_of HT_.out (by kernel_rfl)) (fun _ _ _ h => h) (Or.inl ⟨(by rfl), (by intro w'; go_simp; with_reducible rfl)⟩) Z14_28 ?_
            refine take_ (i := 8) (N := some 89) (v := _) (a' := _) (M14_39 1023) rfl rfl (take_ofW HT_.out HW_.out (by kernel_rfl)) (fun _ _ _ h => h) (Or.inl ⟨(by rfl), Z14_20⟩) hHeld Z14_28 ?_
            refine take_ (i := 10) (N := some 91) (v := _) (a' := _) (M14_39 2047) rfl rfl (take_ofW HT_.out HW_.out (by kernel_rfl)) (fun _ _ _ h => h) (Or.inl ⟨(by rfl), Z14_20⟩) hHeld Z14_28 ?_
            refine pure_ (i := 11) (N := some 92) (v := _) (a' := _) (M14_39 4095) rfl rfl (any_of HT_.out (by kernel_rfl)) (fun _ _ _ h => h) (Or.inl ⟨(by rfl), (by intro w'; go_simp; with_reducible rfl)⟩) Z14_28 ?_
            refine pure_ (i := 12) (N := some 93) (v := _) (a' := _) (M14_39 8191) rfl rfl (any_of HT_.out (by kernel_rfl)) (fun _ _ _ h => h) (Or.inl ⟨(by rfl), (by intro w'; go_simp; with_reducible rfl)⟩) Z14_28 ?_
            refine pure_ (i := 13) (N := some 94) (v := _) (a' := _) (M14_39 16383) rfl rfl (any_of HT_.out (by kernel_rfl)) (fun _ _ _ h => h) (Or.inl ⟨(by rfl), (by intro w'; go_simp; with_reducible rfl)⟩) Z14_28 ?_
            refine pure_ (i := 15) (N := some 96) (v := _) (a' := _) (M14_39 49151) rfl rfl (any_of HT_.out (by kernel_rfl)) (fun _ _ _ h => h) (Or.inl ⟨(by rfl), (by intro w'; go_simp; with_reducible rfl)⟩) Z14_28 ?_
            as_aux_lemma =>
             refine pure_ (i := 16) (N := some 97) (v := _) (a' := _) (M14_39 114687) rfl rfl (any_of HT_.out (by kernel_rfl)) (fun _ _ _ h => h) (Or.inl ⟨(by rfl), (by intro w'; go_simp; with_reducible rfl)⟩) Z14_28 ?_
             refine take_ (i := 14) (N := some 95) (v := _) (a' := _) (M14_39 131071) rfl rfl (take_ofW HT_.out HW_.out (by kernel_rfl)) (fun _ _ _ h => h) (Or.inl ⟨(by rfl), Z14_20⟩) hHeld Z14_28 ?_
             refine take_ (i := 18) (N := some 99) (v := _) (a' := _) (M14_39 393215) rfl rfl (take_ofW HT_.out HW_.out (by kernel_rfl)) (fun _ _ _ h => h) (Or.inl ⟨(by rfl), Z14_20⟩) hHeld Z14_28 ?_
             refine one_ (i := 17) (N := some 98) (M14_39 524287) rfl rfl (one_of HT_.out (by kernel_rfl)) (by decide) (fun K hK => ?_)
             refine goes_ Try.func16 (by kernel_rfl) rfl #[.agg #[.int .i64 t495, .int .i64 t496, .int .i64 t497, .int .i64 t498, .int .i64 t499, .int .i64 t500, .int .i64 t501, .int .i64 t502, .int .i64 t503, .int .i64 t504, .int .i64 t505, .bool t506, .bool t507], .int .i64 t492, .int .i64 t493] (by rfl) rfl rfl Z14_22 ?_
             with_reducible refine (impl_Moved.calls t495 t496 t497 t498 t499 t500 t501 t502 t503 t504 t505 t506 t507 t492 t493 t561 t562 t563 t564 t565 t566 t567 t568 t569 t570 t571 t572 t573 _ A29.out).mono ?_
             rintro e w231 ⟨rfl, hb⟩
             refine ⟨_, rfl, ?_⟩
             have n0_ := Aside0.mk Z14_2
             have n1_ := Aside0.mk Z14_3
             have n2_ := Aside0.mk Z14_4
             have n3_ := Aside0.mk Z14_5
             have n4_ := Aside0.mk Z14_6
             have n5_ := Aside0.mk Z14_7
             have n6_ := Aside0.mk Z14_9
             clear BK463
             clear BK478
             clear BK494
             clear BK508
             clear BK535
             clear BK536
             clear HB
             have BK463 := n0_
             have BK478 := n1_
             have BK494 := n2_
             have BK508 := n3_
             have BK535 := n4_
             have BK536 := n5_
             have HB := n6_
             clear n0_ n1_ n2_ n3_ n4_ n5_ n6_
             (try clear hb)
             (try clear hb2)
             (try clear hk)
             (try clear hi)
             refine hK.out _ _ (D14_13 BK508.out (C14_13 BK494.out).1) (fun hHeld => ?_)
             clear hK K
             refine norm_ (a' := ?_) ?_ ?_
             rotate_left
             · show Act.put _ (some 98) _ = _
               simp only [Act.put, List.setIfInBounds_toArray, List.set_cons_zero, List.set_cons_succ, i64_w, i32_w]
               rfl
             refine pure_ (i := 19) (N := some 100) (v := _) (a' := _) (M14_39 1048575) rfl rfl (any_of HT_.out (by kernel_rfl)) (fun _ _ _ h => h) (Or.inl ⟨(by rfl), (by intro w'; go_simp; with_reducible rfl)⟩) Z14_28 ?_
             refine pure_ (i := 20) (N := some 101) (v := _) (a' := _) (M14_39 2097151) rfl rfl (any_of HT_.out (by kernel_rfl)) (fun _ _ _ h => h) (Or.inl ⟨(by rfl), (by intro w'; go_simp; with_reducible rfl)⟩) Z14_28 ?_
             refine pure_ (i := 21) (N := some 102) (v := _) (a' := _) (M14_39 4194303) rfl rfl (any_of HT_.out (by kernel_rfl)) (fun _ _ _ h => h) (Or.inl ⟨(by rfl), (by intro w'; go_simp; with_reducible rfl)⟩) Z14_28 ?_
             refine take_ (i := 22) (N := some 103) (v := _) (a' := _) (M14_39 8388607) rfl rfl (take_ofW HT_.out HW_.out (by kernel_rfl)) (fun _ _ _ h => h) (Or.inl ⟨(by rfl), Z14_20⟩) hHeld Z14_28 ?_
             as_aux_lemma =>
              refine one_ (i := 23) (N := some 104) (M14_39 16777215) rfl rfl (one_of HT_.out (by kernel_rfl)) (by decide) (fun K hK => ?_)
              refine goes_ Try.func18 (by kernel_rfl) rfl #[.agg #[.int .i64 t479, .int .i64 t480, .int .i64 t481, .int .i64 t482, .int .i64 t483, .int .i64 t484, .int .i64 t485, .int .i64 t486, .int .i64 t487, .int .i64 t488, .int .i64 t489, .bool t490, .bool t491]] (by rfl) rfl rfl Z14_22 ?_
              with_reducible refine (impl_PieceOk.calls k t479 t480 t481 t482 t483 t484 t485 t486 t487 t488 t489 t490 t491 false _ A31.out).mono ?_
              rintro e w232 ⟨rfl, hb⟩
              refine ⟨_, rfl, ?_⟩
              have n0_ := Aside0.mk Z14_2
              have n1_ := Aside0.mk Z14_3
              have n2_ := Aside0.mk Z14_4
              have n3_ := Aside0.mk Z14_5
              have n4_ := Aside0.mk Z14_6
              have n5_ := Aside0.mk Z14_7
              have n6_ := Aside0.mk Z14_9
              clear BK463
              clear BK478
              clear BK494
              clear BK508
              clear BK535
              clear BK536
              clear HB
              have BK463 := n0_
              have BK478 := n1_
              have BK494 := n2_
              have BK508 := n3_
              have BK535 := n4_
              have BK536 := n5_
              have HB := n6_
              clear n0_ n1_ n2_ n3_ n4_ n5_ n6_
              (try clear hb)
              (try clear hb2)
              (try clear hk)
              (try clear hi)
              refine hK.out _ _ (D14_13 BK508.out (C14_13 BK494.out).1) (fun hHeld => ?_)
              clear hK K
              refine norm_ (a' := ?_) ?_ ?_
              rotate_left
              · show Act.put _ (some 104) _ = _
                simp only [Act.put, List.setIfInBounds_toArray, List.set_cons_zero, List.set_cons_succ, i64_w, i32_w]
                rfl
              refine pure_ (i := 24) (N := some 105) (v := _) (a' := _) (M14_39 33554431) rfl rfl (any_of HT_.out (by kernel_rfl)) (fun _ _ _ h => h) (Or.inl ⟨(by rfl), (by intro w'; go_simp; with_reducible rfl)⟩) Z14_28 ?_
              refine pure_ (i := 25) (N := some 106) (v := _) (a' := _) (M14_39 67108863) rfl rfl (any_of HT_.out (by kernel_rfl)) (fun _ _ _ h => h) (Or.inl ⟨(by rfl), (by intro w'; go_simp; with_reducible rfl)⟩) Z14_28 ?_
              refine pure_ (i := 26) (N := some 107) (v := undef) (a' := ?_) (M14_39 134217727) rfl rfl (any_of HT_.out (by kernel_rfl)) (fun _ _ _ h => h) (Or.inr ⟨(by rfl), rfl⟩) ?_ ?_
              rotate_left
              · simp only [Act.put, List.setIfInBounds_toArray, List.set_cons_zero, List.set_cons_succ, i64_w, i32_w]
                rfl
              refine pure_ (i := 27) (N := some 108) (v := undef) (a' := ?_) (M14_39 268435455) rfl rfl (any_of HT_.out (by kernel_rfl)) (fun _ _ _ h => h) (Or.inr ⟨(by rfl), rfl⟩) ?_ ?_
              rotate_left
              · simp only [Act.put, List.setIfInBounds_toArray, List.set_cons_zero, List.set_cons_succ, i64_w, i32_w]
                rfl
              refine pure_ (i := 28) (N := some 109) (v := _) (a' := _) (M14_39 536870911) rfl rfl (any_of HT_.out (by kernel_rfl)) (fun _ _ _ h => h) (Or.inl ⟨(by rfl), (by intro w'; go_simp; with_reducible rfl)⟩) Z14_28 ?_
              refine pure_ (i := 29) (N := some 110) (v := _) (a' := _) (M14_39 1073741823) rfl rfl (any_of HT_.out (by kernel_rfl)) (fun _ _ _ h => h) (Or.inl ⟨(by rfl), (by intro w'; go_simp; with_reducible rfl)⟩) Z14_28 ?_
              refine pure_ (i := 30) (N := some 111) (v := undef) (a' := ?_) (M14_39 2147483647) rfl rfl (any_of HT_.out (by kernel_rfl)) (fun _ _ _ h => h) (Or.inr ⟨(by rfl), rfl⟩) ?_ ?_
              rotate_left
              · simp only [Act.put, List.setIfInBounds_toArray, List.set_cons_zero, List.set_cons_succ, i64_w, i32_w]
                rfl
              as_aux_lemma =>
               refine pure_ (i := 31) (N := some 112) (v := undef) (a' := ?_) (M14_39 4294967295) rfl rfl (any_of HT_.out (by kernel_rfl)) (fun _ _ _ h => h) (Or.inr ⟨(by rfl), rfl⟩) ?_ ?_
               rotate_left
               · simp only [Act.put, List.setIfInBounds_toArray, List.set_cons_zero, List.set_cons_succ, i64_w, i32_w]
                 rfl
               refine pure_ (i := 32) (N := some 113) (v := _) (a' := _) (M14_39 8589934591) rfl rfl (any_of HT_.out (by kernel_rfl)) (fun _ _ _ h => h) (Or.inl ⟨(by rfl), (by intro w'; go_simp; with_reducible rfl)⟩) Z14_28 ?_
               refine pure_ (i := 33) (N := some 114) (v := _) (a' := _) (M14_39 17179869183) rfl rfl (any_of HT_.out (by kernel_rfl)) (fun _ _ _ h => h) (Or.inl ⟨(by rfl), (by intro w'; go_simp; with_reducible rfl)⟩) Z14_28 ?_
               refine pure_ (i := 34) (N := some 115) (v := undef) (a' := ?_) (M14_39 34359738367) rfl rfl (any_of HT_.out (by kernel_rfl)) (fun _ _ _ h => h) (Or.inr ⟨(by rfl), rfl⟩) ?_ ?_
               rotate_left
               · simp only [Act.put, List.setIfInBounds_toArray, List.set_cons_zero, List.set_cons_succ, i64_w, i32_w]
                 rfl
               refine pure_ (i := 35) (N := some 116) (v := undef) (a' := ?_) (M14_39 68719476735) rfl rfl (any_of HT_.out (by kernel_rfl)) (fun _ _ _ h => h) (Or.inr ⟨(by rfl), rfl⟩) ?_ ?_
               rotate_left
               · simp only [Act.put, List.setIfInBounds_toArray, List.set_cons_zero, List.set_cons_succ, i64_w, i32_w]
                 rfl
               refine pure_ (i := 36) (N := some 117) (v := _) (a' := _) (M14_39 137438953471) rfl rfl (any_of HT_.out (by kernel_rfl)) (fun _ _ _ h => h) (Or.inl ⟨(by rfl), (by intro w'; go_simp; with_reducible rfl)⟩) Z14_28 ?_
               refine pure_ (i := 37) (N := some 118) (v := _) (a' := _) (M14_39 274877906943) rfl rfl (any_of HT_.out (by kernel_rfl)) (fun _ _ _ h => h) (Or.inl ⟨(by rfl), (by intro w'; go_simp; with_reducible rfl)⟩) Z14_28 ?_
               refine pure_ (i := 38) (N := some 2) (v := _) (a' := _) (M14_39 549755813887) rfl rfl (any_of HT_.out (by kernel_rfl)) (fun _ _ _ h => h) (Or.inl ⟨(by rfl), (by intro w'; go_simp; with_reducible rfl)⟩) Z14_28 ?_
               refine done_ (done_of HT_.out (by kernel_rfl)) ?_
               try go_wp2
               go_ret
               exact ⟨Z14_29, Z14_10⟩
        subst c32
        rw [if_pos rfl] at H
        by_cases c33 : t492 < 1
        · rw [if_pos c33] at H
          have c33b0 : decide (t492 < 1) = true := decide_eq_true c33
          clear c33
          obtain rfl := Option.some.inj H
          try go_wp2
          have n0_ := Aside0.mk (blk_drew BK463.out)
          have n1_ := Aside0.mk (blk_drew BK478.out)
          have n2_ := Aside0.mk (blk_drew BK494.out)
          have n3_ := Aside0.mk (blk_drew BK508.out)
          have n4_ := Aside0.mk (blk_drew BK535.out)
          have n5_ := Aside0.mk (blk_drew BK536.out)
          have n6_ := Aside0.mk (below_drew1 HB.out)
          clear BK463
          clear BK478
          clear BK494
          clear BK508
          clear BK535
          clear BK536
          clear HB
          have BK463 := n0_
          have BK478 := n1_
          have BK494 := n2_
          have BK508 := n3_
          have BK535 := n4_
          have BK536 := n5_
          have HB := n6_
          clear n0_ n1_ n2_ n3_ n4_ n5_ n6_
          as_aux_lemma =>
           refine start_ (n := 39) (S := fun w' => w'.cell? ⟨gb508, 0, none⟩ = some (.int .i64 t495) ∧ w'.cell? ⟨gb508, 1, none⟩ = some (.int .i64 t496) ∧ w'.cell? ⟨gb508, 2, none⟩ = some (.int .i64 t497) ∧ w'.cell? ⟨gb508, 3, none⟩ = some (.int .i64 t498) ∧ w'.cell? ⟨gb508, 4, none⟩ = some (.int .i64 t499) ∧ w'.cell? ⟨gb508, 5, none⟩ = some (.int .i64 t500) ∧ w'.cell? ⟨gb508, 6, none⟩ = some (.int .i64 t501) ∧ w'.cell? ⟨gb508, 7, none⟩ = some (.int .i64 t502) ∧ w'.cell? ⟨gb508, 8, none⟩ = some (.int .i64 t503) ∧ w'.cell? ⟨gb508, 9, none⟩ = some (.int .i64 t504) ∧ w'.cell? ⟨gb508, 10, none⟩ = some (.int .i64 t505) ∧ w'.cell? ⟨gb508, 11, none⟩ = some (.bool t506) ∧ w'.cell? ⟨gb508, 12, none⟩ = some (.bool t507) ∧ w'.cell? ⟨gb494, 0, none⟩ = some (.int .i64 t479) ∧ w'.cell? ⟨gb494, 1, none⟩ = some (.int .i64 t480) ∧ w'.cell? ⟨gb494, 2, none⟩ = some (.int .i64 t481) ∧ w'.cell? ⟨gb494, 3, none⟩ = some (.int .i64 t482) ∧ w'.cell? ⟨gb494, 4, none⟩ = some (.int .i64 t483) ∧ w'.cell? ⟨gb494, 5, none⟩ = some (.int .i64 t484) ∧ w'.cell? ⟨gb494, 6, none⟩ = some (.int .i64 t485) ∧ w'.cell? ⟨gb494, 7, none⟩ = some (.int .i64 t486) ∧ w'.cell? ⟨gb494, 8, none⟩ = some (.int .i64 t487) ∧ w'.cell? ⟨gb494, 9, none⟩ = some (.int .i64 t488) ∧ w'.cell? ⟨gb494, 10, none⟩ = some (.int .i64 t489) ∧ w'.cell? ⟨gb494, 11, none⟩ = some (.bool t490) ∧ w'.cell? ⟨gb494, 12, none⟩ = some (.bool t491)) (ds := []) #[false, false, false, false, false, false, false, false, false, false, false, false, false, false, false, false, false, false, false, false, false, false, false, false, false, false, false, false, false, false, false, false, false, false, false, false, false, false, false] (by kernel_rfl) rfl rfl ⟨(blk_cell BK508.out 0).trans rfl, (blk_cell BK508.out 1).trans rfl, (blk_cell BK508.out 2).trans rfl, (blk_cell BK508.out 3).trans rfl, (blk_cell BK508.out 4).trans rfl, (blk_cell BK508.out 5).trans rfl, (blk_cell BK508.out 6).trans rfl, (blk_cell BK508.out 7).trans rfl, (blk_cell BK508.out 8).trans rfl, (blk_cell BK508.out 9).trans rfl, (blk_cell BK508.out 10).trans rfl, (blk_cell BK508.out 11).trans rfl, (blk_cell BK508.out 12).trans rfl, (blk_cell BK494.out 0).trans rfl, (blk_cell BK494.out 1).trans rfl, (blk_cell BK494.out 2).trans rfl, (blk_cell BK494.out 3).trans rfl, (blk_cell BK494.out 4).trans rfl, (blk_cell BK494.out 5).trans rfl, (blk_cell BK494.out 6).trans rfl, (blk_cell BK494.out 7).trans rfl, (blk_cell BK494.out 8).trans rfl, (blk_cell BK494.out 9).trans rfl, (blk_cell BK494.out 10).trans rfl, (blk_cell BK494.out 11).trans rfl, (blk_cell BK494.out 12).trans rfl⟩ (fun hHeld => ?_); refine with_tabW laws_FnPieces.tab10 laws_FnPieces.bits10 (fun HT_ HW_ => ?_)
           generalize w77.drew = w78 at BK463 BK478 BK494 BK508 BK535 BK536 HB hHeld ⊢
           refine pure_ (i := 2) (N := some 83) (v := _) (a' := _) (M14_39 4) rfl rfl (any_of HT_.out (by kernel_rfl)) (fun _ _ _ h => h) (Or.inl ⟨(by rfl), (by intro w'; go_simp; with_reducible rfl)⟩) Z14_28 ?_
           refine take_ (i := 0) (N := some 81) (v := _) (a' := _) (M14_39 5) rfl rfl (take_ofW HT_.out HW_.out (by kernel_rfl)) (fun _ _ _ h => h) (Or.inl ⟨(by rfl), Z14_20⟩) hHeld Z14_28 ?_
           refine take_ (i := 3) (N := some 84) (v := _) (a' := _) (M14_39 13) rfl rfl (take_ofW HT_.out HW_.out (by kernel_rfl)) (fun _ _ _ h => h) (Or.inl ⟨(by rfl), Z14_20⟩) hHeld Z14_28 ?_
           refine one_ (i := 1) (N := some 82) (M14_39 15) rfl rfl (one_of HT_.out (by kernel_rfl)) (by decide) (fun K hK => ?_)
           refine goes_ Try.func22 (by kernel_rfl) rfl #[.agg #[.int .i64 t495, .int .i64 t496, .int .i64 t497, .int .i64 t498, .int .i64 t499, .int .i64 t500, .int .i64 t501, .int .i64 t502, .int .i64 t503, .int .i64 t504, .int .i64 t505, .bool t506, .bool t507]] (by rfl) rfl rfl Z14_22 ?_
           with_reducible refine (impl_PowerOf.calls t495 t496 t497 t498 t499 t500 t501 t502 t503 t504 t505 t506 t507 t559 _ A25.out).mono ?_
           rintro e w79 ⟨rfl, hb⟩
           refine ⟨_, rfl, ?_⟩
           have n0_ := Aside0.mk Z14_2
           have n1_ := Aside0.mk Z14_3
           have n2_ := Aside0.mk Z14_4
           have n3_ := Aside0.mk Z14_5
           have n4_ := Aside0.mk Z14_6
           have n5_ := Aside0.mk Z14_7
           have n6_ := Aside0.mk Z14_9
           clear BK463
           clear BK478
           clear BK494
           clear BK508
           clear BK535
           clear BK536
           clear HB
           have BK463 := n0_
           have BK478 := n1_
           have BK494 := n2_
           have BK508 := n3_
           have BK535 := n4_
           have BK536 := n5_
           have HB := n6_
           clear n0_ n1_ n2_ n3_ n4_ n5_ n6_
           (try clear hb)
           (try clear hb2)
           (try clear hk)
           (try clear hi)
           refine hK.out _ _ (D14_13 BK508.out (C14_13 BK494.out).1) (fun hHeld => ?_)
           clear hK K
           refine norm_ (a' := ?_) ?_ ?_
           rotate_left
           · show Act.put _ (some 82) _ = _
             simp only [Act.put, List.setIfInBounds_toArray, List.set_cons_zero, List.set_cons_succ, i64_w, i32_w]
             rfl
           refine one_ (i := 4) (N := some 85) (M14_39 31) rfl rfl (one_of HT_.out (by kernel_rfl)) (by decide) (fun K hK => ?_)
           refine goes_ Try.func28 (by kernel_rfl) rfl #[.int .i64 t484] (by rfl) rfl rfl Z14_22 ?_
           with_reducible refine (impl_Bound.calls t484 t560 _ A26.out).mono ?_
           rintro e w80 ⟨rfl, hb⟩
           refine ⟨_, rfl, ?_⟩
           have n0_ := Aside0.mk Z14_2
           have n1_ := Aside0.mk Z14_3
           have n2_ := Aside0.mk Z14_4
           have n3_ := Aside0.mk Z14_5
           have n4_ := Aside0.mk Z14_6
           have n5_ := Aside0.mk Z14_7
           have n6_ := Aside0.mk Z14_9
           clear BK463
           clear BK478
           clear BK494
           clear BK508
           clear BK535
           clear BK536
           clear HB
           have BK463 := n0_
           have BK478 := n1_
           have BK494 := n2_
           have BK508 := n3_
           have BK535 := n4_
           have BK536 := n5_
           have HB := n6_
           clear n0_ n1_ n2_ n3_ n4_ n5_ n6_
           (try clear hb)
           (try clear hb2)
           (try clear hk)
           (try clear hi)
           refine hK.out _ _ (D14_13 BK508.out (C14_13 BK494.out).1) (fun hHeld => ?_)
           clear hK K
           refine norm_ (a' := ?_) ?_ ?_
           rotate_left
           · show Act.put _ (some 85) _ = _
             simp only [Act.put, List.setIfInBounds_toArray, List.set_cons_zero, List.set_cons_succ, i64_w, i32_w]
             rfl
           refine pure_ (i := 5) (N := some 86) (v := _) (a' := _) (M14_39 63) rfl rfl (any_of HT_.out (by kernel_rfl)) (fun _ _ _ h => h) (Or.inl ⟨(by rfl), (by intro w'; go_simp; with_reducible rfl)⟩) Z14_28 ?_
           refine pure_ (i := 6) (N := some 87) (v := _) (a' := _) (M14_39 127) rfl rfl (any_of HT_.out (by kernel_rfl)) (fun _ _ _ h => h) (Or.inl ⟨(by rfl), (by intro w'; go_simp; with_reducible rfl)⟩) Z14_28 ?_
           as_aux_lemma =>
            refine pure_ (i := 7) (N := some 88) (v := _) (a' := _) (M14_39 255) rfl rfl (any_of HT_.out (by kernel_rfl)) (fun _ _ _ h => h) (Or.inl ⟨(by rfl), (by intro w'; go_simp; with_reducible rfl)⟩) Z14_28 ?_
            refine pure_ (i := 9) (N := some 90) (v := _) (a' := _) (M14_39 767) rfl rfl (any_of HT_.out (by kernel_rfl)) (fun _ _ _ h => h) (Or.inl ⟨(by rfl), (by intro w'; go_simp; with_reducible rfl)⟩) Z14_28 ?_
            refine take_ (i := 8) (N := some 89) (v := _) (a' := _) (M14_39 1023) rfl rfl (take_ofW HT_.out HW_.out (by kernel_rfl)) (fun _ _ _ h => h) (Or.inl ⟨(by rfl), Z14_20⟩) hHeld Z14_28 ?_
            refine take_ (i := 10) (N := some 91) (v := _) (a' := _) (M14_39 2047) rfl rfl (take_ofW HT_.out HW_.out (by kernel_rfl)) (fun _ _ _ h => h) (Or.inl ⟨(by rfl), Z14_20⟩) hHeld Z14_28 ?_
            refine pure_ (i := 11) (N := some 92) (v := _) (a' := _) (M14_39 4095) rfl rfl (any_of HT_.out (by kernel_rfl)) (fun _ _ _ h => h) (Or.inl ⟨(by rfl), (by intro w'; go_simp; with_reducible rfl)⟩) Z14_28 ?_
            refine pure_ (i := 12) (N := some 93) (v := _) (a' := _) (M14_39 8191) rfl rfl (any_of HT_.out (by kernel_rfl)) (fun _ _ _ h => h) (Or.inl ⟨(by rfl), (by intro w'; go_simp; with_reducible rfl)⟩) Z14_28 ?_
            refine pure_ (i := 13) (N := some 94) (v := _) (a' := _) (M14_39 16383) rfl rfl (any_of HT_.out (by kernel_rfl)) (fun _ _ _ h => h) (Or.inl ⟨(by rfl), (by intro w'; go_simp; with_reducible rfl)⟩) Z14_28 ?_
            refine pure_ (i := 15) (N := some 96) (v := _) (a' := _) (M14_39 49151) rfl rfl (any_of HT_.out (by kernel_rfl)) (fun _ _ _ h => h) (Or.inl ⟨(by rfl), (by intro w'; go_simp; with_reducible rfl)⟩) Z14_28 ?_
            as_aux_lemma =>
             refine pure_ (i := 16) (N := some 97) (v := _) (a' := _) (M14_39 114687) rfl rfl (any_of HT_.out (by kernel_rfl)) (fun _ _ _ h => h) (Or.inl ⟨(by rfl), (by intro w'; go_simp; with_reducible rfl)⟩) Z14_28 ?_
             refine take_ (i := 14) (N := some 95) (v := _) (a' := _) (M14_39 131071) rfl rfl (take_ofW HT_.out HW_.out (by kernel_rfl)) (fun _ _ _ h => h) (Or.inl ⟨(by rfl), Z14_20⟩) hHeld Z14_28 ?_
             refine take_ (i := 18) (N := some 99) (v := _) (a' := _) (M14_39 393215) rfl rfl (take_ofW HT_.out HW_.out (by kernel_rfl)) (fun _ _ _ h => h) (Or.inl ⟨(by rfl), Z14_20⟩) hHeld Z14_28 ?_
             refine one_ (i := 17) (N := some 98) (M14_39 524287) rfl rfl (one_of HT_.out (by kernel_rfl)) (by decide) (fun K hK => ?_)
             refine goes_ Try.func16 (by kernel_rfl) rfl #[.agg #[.int .i64 t495, .int .i64 t496, .int .i64 t497, .int .i64 t498, .int .i64 t499, .int .i64 t500, .int .i64 t501, .int .i64 t502, .int .i64 t503, .int .i64 t504, .int .i64 t505, .bool t506, .bool t507], .int .i64 t492, .int .i64 t493] (by rfl) rfl rfl Z14_22 ?_
             with_reducible refine (impl_Moved.calls t495 t496 t497 t498 t499 t500 t501 t502 t503 t504 t505 t506 t507 t492 t493 t561 t562 t563 t564 t565 t566 t567 t568 t569 t570 t571 t572 t573 _ A29.out).mono ?_
             rintro e w81 ⟨rfl, hb⟩
             refine ⟨_, rfl, ?_⟩
             have n0_ := Aside0.mk Z14_2
             have n1_ := Aside0.mk Z14_3
             have n2_ := Aside0.mk Z14_4
             have n3_ := Aside0.mk Z14_5
             have n4_ := Aside0.mk Z14_6
             have n5_ := Aside0.mk Z14_7
             have n6_ := Aside0.mk Z14_9
             clear BK463
             clear BK478
             clear BK494
             clear BK508
             clear BK535
             clear BK536
             clear HB
             have BK463 := n0_
             have BK478 := n1_
             have BK494 := n2_
             have BK508 := n3_
             have BK535 := n4_
             have BK536 := n5_
             have HB := n6_
             clear n0_ n1_ n2_ n3_ n4_ n5_ n6_
             (try clear hb)
             (try clear hb2)
             (try clear hk)
             (try clear hi)
             refine hK.out _ _ (D14_13 BK508.out (C14_13 BK494.out).1) (fun hHeld => ?_)
             clear hK K
             refine norm_ (a' := ?_) ?_ ?_
             rotate_left
             · show Act.put _ (some 98) _ = _
               simp only [Act.put, List.setIfInBounds_toArray, List.set_cons_zero, List.set_cons_succ, i64_w, i32_w]
               rfl
             refine pure_ (i := 19) (N := some 100) (v := _) (a' := _) (M14_39 1048575) rfl rfl (any_of HT_.out (by kernel_rfl)) (fun _ _ _ h => h) (Or.inl ⟨(by rfl), (by intro w'; go_simp; with_reducible rfl)⟩) Z14_28 ?_
             refine pure_ (i := 20) (N := some 101) (v := _) (a' := _) (M14_39 2097151) rfl rfl (any_of HT_.out (by kernel_rfl)) (fun _ _ _ h => h) (Or.inl ⟨(by rfl), (by intro w'; go_simp; with_reducible rfl)⟩) Z14_28 ?_
             refine pure_ (i := 21) (N := some 102) (v := _) (a' := _) (M14_39 4194303) rfl rfl (any_of HT_.out (by kernel_rfl)) (fun _ _ _ h => h) (Or.inl ⟨(by rfl), (by intro w'; go_simp; with_reducible rfl)⟩) Z14_28 ?_
             refine take_ (i := 22) (N := some 103) (v := _) (a' := _) (M14_39 8388607) rfl rfl (take_ofW HT_.out HW_.out (by kernel_rfl)) (fun _ _ _ h => h) (Or.inl ⟨(by rfl), Z14_20⟩) hHeld Z14_28 ?_
             as_aux_lemma =>
              refine one_ (i := 23) (N := some 104) (M14_39 16777215) rfl rfl (one_of HT_.out (by kernel_rfl)) (by decide) (fun K hK => ?_)
              refine goes_ Try.func18 (by kernel_rfl) rfl #[.agg #[.int .i64 t479, .int .i64 t480, .int .i64 t481, .int .i64 t482, .int .i64 t483, .int .i64 t484, .int .i64 t485, .int .i64 t486, .int .i64 t487, .int .i64 t488, .int .i64 t489, .bool t490, .bool t491]] (by rfl) rfl rfl Z14_22 ?_
              with_reducible refine (impl_PieceOk.calls k t479 t480 t481 t482 t483 t484 t485 t486 t487 t488 t489 t490 t491 true _ A31.out).mono ?_
              rintro e w82 ⟨rfl, hb⟩
              refine ⟨_, rfl, ?_⟩
              have n0_ := Aside0.mk Z14_2
              have n1_ := Aside0.mk Z14_3
              have n2_ := Aside0.mk Z14_4
              have n3_ := Aside0.mk Z14_5
              have n4_ := Aside0.mk Z14_6
              have n5_ := Aside0.mk Z14_7
              have n6_ := Aside0.mk Z14_9
              clear BK463
              clear BK478
              clear BK494
              clear BK508
              clear BK535
              clear BK536
              clear HB
              have BK463 := n0_
              have BK478 := n1_
              have BK494 := n2_
              have BK508 := n3_
              have BK535 := n4_
              have BK536 := n5_
              have HB := n6_
              clear n0_ n1_ n2_ n3_ n4_ n5_ n6_
              (try clear hb)
              (try clear hb2)
              (try clear hk)
              (try clear hi)
              refine hK.out _ _ (D14_13 BK508.out (C14_13 BK494.out).1) (fun hHeld => ?_)
              clear hK K
              refine norm_ (a' := ?_) ?_ ?_
              rotate_left
              · show Act.put _ (some 104) _ = _
                simp only [Act.put, List.setIfInBounds_toArray, List.set_cons_zero, List.set_cons_succ, i64_w, i32_w]
                rfl
              refine pure_ (i := 24) (N := some 105) (v := _) (a' := _) (M14_39 33554431) rfl rfl (any_of HT_.out (by kernel_rfl)) (fun _ _ _ h => h) (Or.inl ⟨(by rfl), (by intro w'; go_simp; with_reducible rfl)⟩) Z14_28 ?_
              refine pure_ (i := 25) (N := some 106) (v := _) (a' := _) (M14_39 67108863) rfl rfl (any_of HT_.out (by kernel_rfl)) (fun _ _ _ h => h) (Or.inl ⟨(by rfl), (by intro w'; go_simp; with_reducible rfl)⟩) Z14_28 ?_
              refine pure_ (i := 26) (N := some 107) (v := _) (a' := _) (M14_39 134217727) rfl rfl (any_of HT_.out (by kernel_rfl)) (fun _ _ _ h => h) (Or.inl ⟨(by rfl), (by intro w'; go_simp; with_reducible rfl)⟩) Z14_28 ?_
              refine pure_ (i := 27) (N := some 108) (v := _) (a' := _) (M14_39 268435455) rfl rfl (any_of HT_.out (by kernel_rfl)) (fun _ _ _ h => h) (Or.inl ⟨(by rfl), (by intro w'; go_simp; with_reducible rfl)⟩) Z14_28 ?_
              refine pure_ (i := 28) (N := some 109) (v := _) (a' := _) (M14_39 536870911) rfl rfl (any_of HT_.out (by kernel_rfl)) (fun _ _ _ h => h) (Or.inl ⟨(by rfl), (by intro w'; go_simp; with_reducible rfl)⟩) Z14_28 ?_
              refine pure_ (i := 29) (N := some 110) (v := _) (a' := _) (M14_39 1073741823) rfl rfl (any_of HT_.out (by kernel_rfl)) (fun _ _ _ h => h) (Or.inl ⟨(by rfl), (by intro w'; go_simp; with_reducible rfl)⟩) Z14_28 ?_
              refine pure_ (i := 30) (N := some 111) (v := undef) (a' := ?_) (M14_39 2147483647) rfl rfl (any_of HT_.out (by kernel_rfl)) (fun _ _ _ h => h) (Or.inr ⟨(by rfl), rfl⟩) ?_ ?_
              rotate_left
              · simp only [Act.put, List.setIfInBounds_toArray, List.set_cons_zero, List.set_cons_succ, i64_w, i32_w]
                rfl
              as_aux_lemma =>
               refine pure_ (i := 31) (N := some 112) (v := undef) (a' := ?_) (M14_39 4294967295) rfl rfl (any_of HT_.out (by kernel_rfl)) (fun _ _ _ h => h) (Or.inr ⟨(by rfl), rfl⟩) ?_ ?_
               rotate_left
               · simp only [Act.put, List.setIfInBounds_toArray, List.set_cons_zero, List.set_cons_succ, i64_w, i32_w]
                 rfl
               refine pure_ (i := 32) (N := some 113) (v := _) (a' := _) (M14_39 8589934591) rfl rfl (any_of HT_.out (by kernel_rfl)) (fun _ _ _ h => h) (Or.inl ⟨(by rfl), (by intro w'; go_simp; with_reducible rfl)⟩) Z14_28 ?_
               refine pure_ (i := 33) (N := some 114) (v := _) (a' := _) (M14_39 17179869183) rfl rfl (any_of HT_.out (by kernel_rfl)) (fun _ _ _ h => h) (Or.inl ⟨(by rfl), (by intro w'; go_simp; with_reducible rfl)⟩) Z14_28 ?_
               refine pure_ (i := 34) (N := some 115) (v := undef) (a' := ?_) (M14_39 34359738367) rfl rfl (any_of HT_.out (by kernel_rfl)) (fun _ _ _ h => h) (Or.inr ⟨(by rfl), rfl⟩) ?_ ?_
               rotate_left
               · simp only [Act.put, List.setIfInBounds_toArray, List.set_cons_zero, List.set_cons_succ, i64_w, i32_w]
                 rfl
               refine pure_ (i := 35) (N := some 116) (v := undef) (a' := ?_) (M14_39 68719476735) rfl rfl (any_of HT_.out (by kernel_rfl)) (fun _ _ _ h => h) (Or.inr ⟨(by rfl), rfl⟩) ?_ ?_
               rotate_left
               · simp only [Act.put, List.setIfInBounds_toArray, List.set_cons_zero, List.set_cons_succ, i64_w, i32_w]
                 rfl
               refine pure_ (i := 36) (N := some 117) (v := _) (a' := _) (M14_39 137438953471) rfl rfl (any_of HT_.out (by kernel_rfl)) (fun _ _ _ h => h) (Or.inl ⟨(by rfl), (by intro w'; go_simp; with_reducible rfl)⟩) Z14_28 ?_
               refine pure_ (i := 37) (N := some 118) (v := _) (a' := _) (M14_39 274877906943) rfl rfl (any_of HT_.out (by kernel_rfl)) (fun _ _ _ h => h) (Or.inl ⟨(by rfl), (by intro w'; go_simp; with_reducible rfl)⟩) Z14_28 ?_
               refine pure_ (i := 38) (N := some 2) (v := _) (a' := _) (M14_39 549755813887) rfl rfl (any_of HT_.out (by kernel_rfl)) (fun _ _ _ h => h) (Or.inl ⟨(by rfl), (by intro w'; go_simp; with_reducible rfl)⟩) Z14_28 ?_
               refine done_ (done_of HT_.out (by kernel_rfl)) ?_
               try go_wp2
               go_ret
               exact ⟨Z14_29, Z14_10⟩
        rw [if_neg c33] at H
        have c33b0 : decide (t492 < 1) = false := decide_eq_false c33
        clear c33
        by_cases c83 : t492 > 4
        · rw [if_pos c83] at H
          have c83b0 : decide (4 < t492) = true := decide_eq_true c83
          clear c83
          obtain rfl := Option.some.inj H
          try go_wp2
          have n0_ := Aside0.mk (blk_drew BK463.out)
          have n1_ := Aside0.mk (blk_drew BK478.out)
          have n2_ := Aside0.mk (blk_drew BK494.out)
          have n3_ := Aside0.mk (blk_drew BK508.out)
          have n4_ := Aside0.mk (blk_drew BK535.out)
          have n5_ := Aside0.mk (blk_drew BK536.out)
          have n6_ := Aside0.mk (below_drew1 HB.out)
          clear BK463
          clear BK478
          clear BK494
          clear BK508
          clear BK535
          clear BK536
          clear HB
          have BK463 := n0_
          have BK478 := n1_
          have BK494 := n2_
          have BK508 := n3_
          have BK535 := n4_
          have BK536 := n5_
          have HB := n6_
          clear n0_ n1_ n2_ n3_ n4_ n5_ n6_
          as_aux_lemma =>
           refine start_ (n := 39) (S := fun w' => w'.cell? ⟨gb508, 0, none⟩ = some (.int .i64 t495) ∧ w'.cell? ⟨gb508, 1, none⟩ = some (.int .i64 t496) ∧ w'.cell? ⟨gb508, 2, none⟩ = some (.int .i64 t497) ∧ w'.cell? ⟨gb508, 3, none⟩ = some (.int .i64 t498) ∧ w'.cell? ⟨gb508, 4, none⟩ = some (.int .i64 t499) ∧ w'.cell? ⟨gb508, 5, none⟩ = some (.int .i64 t500) ∧ w'.cell? ⟨gb508, 6, none⟩ = some (.int .i64 t501) ∧ w'.cell? ⟨gb508, 7, none⟩ = some (.int .i64 t502) ∧ w'.cell? ⟨gb508, 8, none⟩ = some (.int .i64 t503) ∧ w'.cell? ⟨gb508, 9, none⟩ = some (.int .i64 t504) ∧ w'.cell? ⟨gb508, 10, none⟩ = some (.int .i64 t505) ∧ w'.cell? ⟨gb508, 11, none⟩ = some (.bool t506) ∧ w'.cell? ⟨gb508, 12, none⟩ = some (.bool t507) ∧ w'.cell? ⟨gb494, 0, none⟩ = some (.int .i64 t479) ∧ w'.cell? ⟨gb494, 1, none⟩ = some (.int .i64 t480) ∧ w'.cell? ⟨gb494, 2, none⟩ = some (.int .i64 t481) ∧ w'.cell? ⟨gb494, 3, none⟩ = some (.int .i64 t482) ∧ w'.cell? ⟨gb494, 4, none⟩ = some (.int .i64 t483) ∧ w'.cell? ⟨gb494, 5, none⟩ = some (.int .i64 t484) ∧ w'.cell? ⟨gb494, 6, none⟩ = some (.int .i64 t485) ∧ w'.cell? ⟨gb494, 7, none⟩ = some (.int .i64 t486) ∧ w'.cell? ⟨gb494, 8, none⟩ = some (.int .i64 t487) ∧ w'.cell? ⟨gb494, 9, none⟩ = some (.int .i64 t488) ∧ w'.cell? ⟨gb494, 10, none⟩ = some (.int .i64 t489) ∧ w'.cell? ⟨gb494, 11, none⟩ = some (.bool t490) ∧ w'.cell? ⟨gb494, 12, none⟩ = some (.bool t491)) (ds := []) #[false, false, false, false, false, false, false, false, false, false, false, false, false, false, false, false, false, false, false, false, false, false, false, false, false, false, false, false, false, false, false, false, false, false, false, false, false, false, false] (by kernel_rfl) rfl rfl ⟨(blk_cell BK508.out 0).trans rfl, (blk_cell BK508.out 1).trans rfl, (blk_cell BK508.out 2).trans rfl, (blk_cell BK508.out 3).trans rfl, (blk_cell BK508.out 4).trans rfl, (blk_cell BK508.out 5).trans rfl, (blk_cell BK508.out 6).trans rfl, (blk_cell BK508.out 7).trans rfl, (blk_cell BK508.out 8).trans rfl, (blk_cell BK508.out 9).trans rfl, (blk_cell BK508.out 10).trans rfl, (blk_cell BK508.out 11).trans rfl, (blk_cell BK508.out 12).trans rfl, (blk_cell BK494.out 0).trans rfl, (blk_cell BK494.out 1).trans rfl, (blk_cell BK494.out 2).trans rfl, (blk_cell BK494.out 3).trans rfl, (blk_cell BK494.out 4).trans rfl, (blk_cell BK494.out 5).trans rfl, (blk_cell BK494.out 6).trans rfl, (blk_cell BK494.out 7).trans rfl, (blk_cell BK494.out 8).trans rfl, (blk_cell BK494.out 9).trans rfl, (blk_cell BK494.out 10).trans rfl, (blk_cell BK494.out 11).trans rfl, (blk_cell BK494.out 12).trans rfl⟩ (fun hHeld => ?_); refine with_tabW laws_FnPieces.tab10 laws_FnPieces.bits10 (fun HT_ HW_ => ?_)
           generalize w77.drew = w128 at BK463 BK478 BK494 BK508 BK535 BK536 HB hHeld ⊢
           refine pure_ (i := 2) (N := some 83) (v := _) (a' := _) (M14_39 4) rfl rfl (any_of HT_.out (by kernel_rfl)) (fun _ _ _ h => h) (Or.inl ⟨(by rfl), (by intro w'; go_simp; with_reducible rfl)⟩) Z14_28 ?_
           refine take_ (i := 0) (N := some 81) (v := _) (a' := _) (M14_39 5) rfl rfl (take_ofW HT_.out HW_.out (by kernel_rfl)) (fun _ _ _ h => h) (Or.inl ⟨(by rfl), Z14_20⟩) hHeld Z14_28 ?_
           refine take_ (i := 3) (N := some 84) (v := _) (a' := _) (M14_39 13) rfl rfl (take_ofW HT_.out HW_.out (by kernel_rfl)) (fun _ _ _ h => h) (Or.inl ⟨(by rfl), Z14_20⟩) hHeld Z14_28 ?_
           refine one_ (i := 1) (N := some 82) (M14_39 15) rfl rfl (one_of HT_.out (by kernel_rfl)) (by decide) (fun K hK => ?_)
           refine goes_ Try.func22 (by kernel_rfl) rfl #[.agg #[.int .i64 t495, .int .i64 t496, .int .i64 t497, .int .i64 t498, .int .i64 t499, .int .i64 t500, .int .i64 t501, .int .i64 t502, .int .i64 t503, .int .i64 t504, .int .i64 t505, .bool t506, .bool t507]] (by rfl) rfl rfl Z14_22 ?_
           with_reducible refine (impl_PowerOf.calls t495 t496 t497 t498 t499 t500 t501 t502 t503 t504 t505 t506 t507 t559 _ A25.out).mono ?_
           rintro e w129 ⟨rfl, hb⟩
           refine ⟨_, rfl, ?_⟩
           have n0_ := Aside0.mk Z14_2
           have n1_ := Aside0.mk Z14_3
           have n2_ := Aside0.mk Z14_4
           have n3_ := Aside0.mk Z14_5
           have n4_ := Aside0.mk Z14_6
           have n5_ := Aside0.mk Z14_7
           have n6_ := Aside0.mk Z14_9
           clear BK463
           clear BK478
           clear BK494
           clear BK508
           clear BK535
           clear BK536
           clear HB
           have BK463 := n0_
           have BK478 := n1_
           have BK494 := n2_
           have BK508 := n3_
           have BK535 := n4_
           have BK536 := n5_
           have HB := n6_
           clear n0_ n1_ n2_ n3_ n4_ n5_ n6_
           (try clear hb)
           (try clear hb2)
           (try clear hk)
           (try clear hi)
           refine hK.out _ _ (D14_13 BK508.out (C14_13 BK494.out).1) (fun hHeld => ?_)
           clear hK K
           refine norm_ (a' := ?_) ?_ ?_
           rotate_left
           · show Act.put _ (some 82) _ = _
             simp only [Act.put, List.setIfInBounds_toArray, List.set_cons_zero, List.set_cons_succ, i64_w, i32_w]
             rfl
           refine one_ (i := 4) (N := some 85) (M14_39 31) rfl rfl (one_of HT_.out (by kernel_rfl)) (by decide) (fun K hK => ?_)
           refine goes_ Try.func28 (by kernel_rfl) rfl #[.int .i64 t484] (by rfl) rfl rfl Z14_22 ?_
           with_reducible refine (impl_Bound.calls t484 t560 _ A26.out).mono ?_
           rintro e w130 ⟨rfl, hb⟩
           refine ⟨_, rfl, ?_⟩
           have n0_ := Aside0.mk Z14_2
           have n1_ := Aside0.mk Z14_3
           have n2_ := Aside0.mk Z14_4
           have n3_ := Aside0.mk Z14_5
           have n4_ := Aside0.mk Z14_6
           have n5_ := Aside0.mk Z14_7
           have n6_ := Aside0.mk Z14_9
           clear BK463
           clear BK478
           clear BK494
           clear BK508
           clear BK535
           clear BK536
           clear HB
           have BK463 := n0_
           have BK478 := n1_
           have BK494 := n2_
           have BK508 := n3_
           have BK535 := n4_
           have BK536 := n5_
           have HB := n6_
           clear n0_ n1_ n2_ n3_ n4_ n5_ n6_
           (try clear hb)
           (try clear hb2)
           (try clear hk)
           (try clear hi)
           refine hK.out _ _ (D14_13 BK508.out (C14_13 BK494.out).1) (fun hHeld => ?_)
           clear hK K
           refine norm_ (a' := ?_) ?_ ?_
           rotate_left
           · show Act.put _ (some 85) _ = _
             simp only [Act.put, List.setIfInBounds_toArray, List.set_cons_zero, List.set_cons_succ, i64_w, i32_w]
             rfl
           refine pure_ (i := 5) (N := some 86) (v := _) (a' := _) (M14_39 63) rfl rfl (any_of HT_.out (by kernel_rfl)) (fun _ _ _ h => h) (Or.inl ⟨(by rfl), (by intro w'; go_simp; with_reducible rfl)⟩) Z14_28 ?_
           refine pure_ (i := 6) (N := some 87) (v := _) (a' := _) (M14_39 127) rfl rfl (any_of HT_.out (by kernel_rfl)) (fun _ _ _ h => h) (Or.inl ⟨(by rfl), (by intro w'; go_simp; with_reducible rfl)⟩) Z14_28 ?_
           as_aux_lemma =>
            refine pure_ (i := 7) (N := some 88) (v := _) (a' := _) (M14_39 255) rfl rfl (any_of HT_.out (by kernel_rfl)) (fun _ _ _ h => h) (Or.inl ⟨(by rfl), (by intro w'; go_simp; with_reducible rfl)⟩) Z14_28 ?_
            refine pure_ (i := 9) (N := some 90) (v := _) (a' := _) (M14_39 767) rfl rfl (any_of HT_.out (by kernel_rfl)) (fun _ _ _ h => h) (Or.inl ⟨(by rfl), (by intro w'; go_simp; with_reducible rfl)⟩) Z14_28 ?_
            refine take_ (i := 8) (N := some 89) (v := _) (a' := _) (M14_39 1023) rfl rfl (take_ofW HT_.out HW_.out (by kernel_rfl)) (fun _ _ _ h => h) (Or.inl ⟨(by rfl), Z14_20⟩) hHeld Z14_28 ?_
            refine take_ (i := 10) (N := some 91) (v := _) (a' := _) (M14_39 2047) rfl rfl (take_ofW HT_.out HW_.out (by kernel_rfl)) (fun _ _ _ h => h) (Or.inl ⟨(by rfl), Z14_20⟩) hHeld Z14_28 ?_
            refine pure_ (i := 11) (N := some 92) (v := _) (a' := _) (M14_39 4095) rfl rfl (any_of HT_.out (by kernel_rfl)) (fun _ _ _ h => h) (Or.inl ⟨(by rfl), (by intro w'; go_simp; with_reducible rfl)⟩) Z14_28 ?_
            refine pure_ (i := 12) (N := some 93) (v := _) (a' := _) (M14_39 8191) rfl rfl (any_of HT_.out (by kernel_rfl)) (fun _ _ _ h => h) (Or.inl ⟨(by rfl), (by intro w'; go_simp; with_reducible rfl)⟩) Z14_28 ?_
            refine pure_ (i := 13) (N := some 94) (v := _) (a' := _) (M14_39 16383) rfl rfl (any_of HT_.out (by kernel_rfl)) (fun _ _ _ h => h) (Or.inl ⟨(by rfl), (by intro w'; go_simp; with_reducible rfl)⟩) Z14_28 ?_
            refine pure_ (i := 15) (N := some 96) (v := _) (a' := _) (M14_39 49151) rfl rfl (any_of HT_.out (by kernel_rfl)) (fun _ _ _ h => h) (Or.inl ⟨(by rfl), (by intro w'; go_simp; with_reducible rfl)⟩) Z14_28 ?_
            as_aux_lemma =>
             refine pure_ (i := 16) (N := some 97) (v := _) (a' := _) (M14_39 114687) rfl rfl (any_of HT_.out (by kernel_rfl)) (fun _ _ _ h => h) (Or.inl ⟨(by rfl), (by intro w'; go_simp; with_reducible rfl)⟩) Z14_28 ?_
             refine take_ (i := 14) (N := some 95) (v := _) (a' := _) (M14_39 131071) rfl rfl (take_ofW HT_.out HW_.out (by kernel_rfl)) (fun _ _ _ h => h) (Or.inl ⟨(by rfl), Z14_20⟩) hHeld Z14_28 ?_
             refine take_ (i := 18) (N := some 99) (v := _) (a' := _) (M14_39 393215) rfl rfl (take_ofW HT_.out HW_.out (by kernel_rfl)) (fun _ _ _ h => h) (Or.inl ⟨(by rfl), Z14_20⟩) hHeld Z14_28 ?_
             refine one_ (i := 17) (N := some 98) (M14_39 524287) rfl rfl (one_of HT_.out (by kernel_rfl)) (by decide) (fun K hK => ?_)
             refine goes_ Try.func16 (by kernel_rfl) rfl #[.agg #[.int .i64 t495, .int .i64 t496, .int .i64 t497, .int .i64 t498, .int .i64 t499, .int .i64 t500, .int .i64 t501, .int .i64 t502, .int .i64 t503, .int .i64 t504, .int .i64 t505, .bool t506, .bool t507], .int .i64 t492, .int .i64 t493] (by rfl) rfl rfl Z14_22 ?_
             with_reducible refine (impl_Moved.calls t495 t496 t497 t498 t499 t500 t501 t502 t503 t504 t505 t506 t507 t492 t493 t561 t562 t563 t564 t565 t566 t567 t568 t569 t570 t571 t572 t573 _ A29.out).mono ?_
             rintro e w131 ⟨rfl, hb⟩
             refine ⟨_, rfl, ?_⟩
             have n0_ := Aside0.mk Z14_2
             have n1_ := Aside0.mk Z14_3
             have n2_ := Aside0.mk Z14_4
             have n3_ := Aside0.mk Z14_5
             have n4_ := Aside0.mk Z14_6
             have n5_ := Aside0.mk Z14_7
             have n6_ := Aside0.mk Z14_9
             clear BK463
             clear BK478
             clear BK494
             clear BK508
             clear BK535
             clear BK536
             clear HB
             have BK463 := n0_
             have BK478 := n1_
             have BK494 := n2_
             have BK508 := n3_
             have BK535 := n4_
             have BK536 := n5_
             have HB := n6_
             clear n0_ n1_ n2_ n3_ n4_ n5_ n6_
             (try clear hb)
             (try clear hb2)
             (try clear hk)
             (try clear hi)
             refine hK.out _ _ (D14_13 BK508.out (C14_13 BK494.out).1) (fun hHeld => ?_)
             clear hK K
             refine norm_ (a' := ?_) ?_ ?_
             rotate_left
             · show Act.put _ (some 98) _ = _
               simp only [Act.put, List.setIfInBounds_toArray, List.set_cons_zero, List.set_cons_succ, i64_w, i32_w]
               rfl
             refine pure_ (i := 19) (N := some 100) (v := _) (a' := _) (M14_39 1048575) rfl rfl (any_of HT_.out (by kernel_rfl)) (fun _ _ _ h => h) (Or.inl ⟨(by rfl), (by intro w'; go_simp; with_reducible rfl)⟩) Z14_28 ?_
             refine pure_ (i := 20) (N := some 101) (v := _) (a' := _) (M14_39 2097151) rfl rfl (any_of HT_.out (by kernel_rfl)) (fun _ _ _ h => h) (Or.inl ⟨(by rfl), (by intro w'; go_simp; with_reducible rfl)⟩) Z14_28 ?_
             refine pure_ (i := 21) (N := some 102) (v := _) (a' := _) (M14_39 4194303) rfl rfl (any_of HT_.out (by kernel_rfl)) (fun _ _ _ h => h) (Or.inl ⟨(by rfl), (by intro w'; go_simp; with_reducible rfl)⟩) Z14_28 ?_
             refine take_ (i := 22) (N := some 103) (v := _) (a' := _) (M14_39 8388607) rfl rfl (take_ofW HT_.out HW_.out (by kernel_rfl)) (fun _ _ _ h => h) (Or.inl ⟨(by rfl), Z14_20⟩) hHeld Z14_28 ?_
             as_aux_lemma =>
              refine one_ (i := 23) (N := some 104) (M14_39 16777215) rfl rfl (one_of HT_.out (by kernel_rfl)) (by decide) (fun K hK => ?_)
              refine goes_ Try.func18 (by kernel_rfl) rfl #[.agg #[.int .i64 t479, .int .i64 t480, .int .i64 t481, .int .i64 t482, .int .i64 t483, .int .i64 t484, .int .i64 t485, .int .i64 t486, .int .i64 t487, .int .i64 t488, .int .i64 t489, .bool t490, .bool t491]] (by rfl) rfl rfl Z14_22 ?_
              with_reducible refine (impl_PieceOk.calls k t479 t480 t481 t482 t483 t484 t485 t486 t487 t488 t489 t490 t491 true _ A31.out).mono ?_
              rintro e w132 ⟨rfl, hb⟩
              refine ⟨_, rfl, ?_⟩
              have n0_ := Aside0.mk Z14_2
              have n1_ := Aside0.mk Z14_3
              have n2_ := Aside0.mk Z14_4
              have n3_ := Aside0.mk Z14_5
              have n4_ := Aside0.mk Z14_6
              have n5_ := Aside0.mk Z14_7
              have n6_ := Aside0.mk Z14_9
              clear BK463
              clear BK478
              clear BK494
              clear BK508
              clear BK535
              clear BK536
              clear HB
              have BK463 := n0_
              have BK478 := n1_
              have BK494 := n2_
              have BK508 := n3_
              have BK535 := n4_
              have BK536 := n5_
              have HB := n6_
              clear n0_ n1_ n2_ n3_ n4_ n5_ n6_
              (try clear hb)
              (try clear hb2)
              (try clear hk)
              (try clear hi)
              refine hK.out _ _ (D14_13 BK508.out (C14_13 BK494.out).1) (fun hHeld => ?_)
              clear hK K
              refine norm_ (a' := ?_) ?_ ?_
              rotate_left
              · show Act.put _ (some 104) _ = _
                simp only [Act.put, List.setIfInBounds_toArray, List.set_cons_zero, List.set_cons_succ, i64_w, i32_w]
                rfl
              refine pure_ (i := 24) (N := some 105) (v := _) (a' := _) (M14_39 33554431) rfl rfl (any_of HT_.out (by kernel_rfl)) (fun _ _ _ h => h) (Or.inl ⟨(by rfl), (by intro w'; go_simp; with_reducible rfl)⟩) Z14_28 ?_
              refine pure_ (i := 25) (N := some 106) (v := _) (a' := _) (M14_39 67108863) rfl rfl (any_of HT_.out (by kernel_rfl)) (fun _ _ _ h => h) (Or.inl ⟨(by rfl), (by intro w'; go_simp; with_reducible rfl)⟩) Z14_28 ?_
              refine pure_ (i := 26) (N := some 107) (v := _) (a' := _) (M14_39 134217727) rfl rfl (any_of HT_.out (by kernel_rfl)) (fun _ _ _ h => h) (Or.inl ⟨(by rfl), (by intro w'; go_simp; with_reducible rfl)⟩) Z14_28 ?_
              refine pure_ (i := 27) (N := some 108) (v := _) (a' := _) (M14_39 268435455) rfl rfl (any_of HT_.out (by kernel_rfl)) (fun _ _ _ h => h) (Or.inl ⟨(by rfl), (by intro w'; go_simp; with_reducible rfl)⟩) Z14_28 ?_
              refine pure_ (i := 28) (N := some 109) (v := _) (a' := _) (M14_39 536870911) rfl rfl (any_of HT_.out (by kernel_rfl)) (fun _ _ _ h => h) (Or.inl ⟨(by rfl), (by intro w'; go_simp; with_reducible rfl)⟩) Z14_28 ?_
              refine pure_ (i := 29) (N := some 110) (v := _) (a' := _) (M14_39 1073741823) rfl rfl (any_of HT_.out (by kernel_rfl)) (fun _ _ _ h => h) (Or.inl ⟨(by rfl), (by intro w'; go_simp; with_reducible rfl)⟩) Z14_28 ?_
              refine pure_ (i := 30) (N := some 111) (v := _) (a' := _) (M14_39 2147483647) rfl rfl (any_of HT_.out (by kernel_rfl)) (fun _ _ _ h => h) (Or.inl ⟨(by rfl), (by intro w'; go_simp; with_reducible rfl)⟩) Z14_28 ?_
              as_aux_lemma =>
               refine pure_ (i := 31) (N := some 112) (v := _) (a' := _) (M14_39 4294967295) rfl rfl (any_of HT_.out (by kernel_rfl)) (fun _ _ _ h => h) (Or.inl ⟨(by rfl), (by intro w'; go_simp; with_reducible rfl)⟩) Z14_28 ?_
               refine pure_ (i := 32) (N := some 113) (v := _) (a' := _) (M14_39 8589934591) rfl rfl (any_of HT_.out (by kernel_rfl)) (fun _ _ _ h => h) (Or.inl ⟨(by rfl), (by intro w'; go_simp; with_reducible rfl)⟩) Z14_28 ?_
               refine pure_ (i := 33) (N := some 114) (v := _) (a' := _) (M14_39 17179869183) rfl rfl (any_of HT_.out (by kernel_rfl)) (fun _ _ _ h => h) (Or.inl ⟨(by rfl), (by intro w'; go_simp; with_reducible rfl)⟩) Z14_28 ?_
               refine pure_ (i := 34) (N := some 115) (v := undef) (a' := ?_) (M14_39 34359738367) rfl rfl (any_of HT_.out (by kernel_rfl)) (fun _ _ _ h => h) (Or.inr ⟨(by rfl), rfl⟩) ?_ ?_
               rotate_left
               · simp only [Act.put, List.setIfInBounds_toArray, List.set_cons_zero, List.set_cons_succ, i64_w, i32_w]
                 rfl
               refine pure_ (i := 35) (N := some 116) (v := undef) (a' := ?_) (M14_39 68719476735) rfl rfl (any_of HT_.out (by kernel_rfl)) (fun _ _ _ h => h) (Or.inr ⟨(by rfl), rfl⟩) ?_ ?_
               rotate_left
               · simp only [Act.put, List.setIfInBounds_toArray, List.set_cons_zero, List.set_cons_succ, i64_w, i32_w]
                 rfl
               refine pure_ (i := 36) (N := some 117) (v := _) (a' := _) (M14_39 137438953471) rfl rfl (any_of HT_.out (by kernel_rfl)) (fun _ _ _ h => h) (Or.inl ⟨(by rfl), (by intro w'; go_simp; with_reducible rfl)⟩) Z14_28 ?_
               refine pure_ (i := 37) (N := some 118) (v := _) (a' := _) (M14_39 274877906943) rfl rfl (any_of HT_.out (by kernel_rfl)) (fun _ _ _ h => h) (Or.inl ⟨(by rfl), (by intro w'; go_simp; with_reducible rfl)⟩) Z14_28 ?_
               refine pure_ (i := 38) (N := some 2) (v := _) (a' := _) (M14_39 549755813887) rfl rfl (any_of HT_.out (by kernel_rfl)) (fun _ _ _ h => h) (Or.inl ⟨(by rfl), (by intro w'; go_simp; with_reducible rfl)⟩) Z14_28 ?_
               refine done_ (done_of HT_.out (by kernel_rfl)) ?_
               try go_wp2
               go_ret
               exact ⟨Z14_29, Z14_10⟩
        rw [if_neg c83] at H
        have c83b0 : decide (4 < t492) = false := decide_eq_false c83
        clear c83
        replace H := Option.bind_eq_some_iff.mp H
        obtain ⟨t575, A1330, H⟩ := H
        replace H : (some t575) = some r := H
        have A133 := Aside0.mk A1330
        clear A1330
        obtain rfl := Option.some.inj H
        try go_wp2
        have n0_ := Aside0.mk (blk_drew BK463.out)
        have n1_ := Aside0.mk (blk_drew BK478.out)
        have n2_ := Aside0.mk (blk_drew BK494.out)
        have n3_ := Aside0.mk (blk_drew BK508.out)
        have n4_ := Aside0.mk (blk_drew BK535.out)
        have n5_ := Aside0.mk (blk_drew BK536.out)
        have n6_ := Aside0.mk (below_drew1 HB.out)
        clear BK463
        clear BK478
        clear BK494
        clear BK508
        clear BK535
        clear BK536
        clear HB
        have BK463 := n0_
        have BK478 := n1_
        have BK494 := n2_
        have BK508 := n3_
        have BK535 := n4_
        have BK536 := n5_
        have HB := n6_
        clear n0_ n1_ n2_ n3_ n4_ n5_ n6_
        as_aux_lemma =>
         refine start_ (n := 39) (S := fun w' => w'.cell? ⟨gb508, 0, none⟩ = some (.int .i64 t495) ∧ w'.cell? ⟨gb508, 1, none⟩ = some (.int .i64 t496) ∧ w'.cell? ⟨gb508, 2, none⟩ = some (.int .i64 t497) ∧ w'.cell? ⟨gb508, 3, none⟩ = some (.int .i64 t498) ∧ w'.cell? ⟨gb508, 4, none⟩ = some (.int .i64 t499) ∧ w'.cell? ⟨gb508, 5, none⟩ = some (.int .i64 t500) ∧ w'.cell? ⟨gb508, 6, none⟩ = some (.int .i64 t501) ∧ w'.cell? ⟨gb508, 7, none⟩ = some (.int .i64 t502) ∧ w'.cell? ⟨gb508, 8, none⟩ = some (.int .i64 t503) ∧ w'.cell? ⟨gb508, 9, none⟩ = some (.int .i64 t504) ∧ w'.cell? ⟨gb508, 10, none⟩ = some (.int .i64 t505) ∧ w'.cell? ⟨gb508, 11, none⟩ = some (.bool t506) ∧ w'.cell? ⟨gb508, 12, none⟩ = some (.bool t507) ∧ w'.cell? ⟨gb494, 0, none⟩ = some (.int .i64 t479) ∧ w'.cell? ⟨gb494, 1, none⟩ = some (.int .i64 t480) ∧ w'.cell? ⟨gb494, 2, none⟩ = some (.int .i64 t481) ∧ w'.cell? ⟨gb494, 3, none⟩ = some (.int .i64 t482) ∧ w'.cell? ⟨gb494, 4, none⟩ = some (.int .i64 t483) ∧ w'.cell? ⟨gb494, 5, none⟩ = some (.int .i64 t484) ∧ w'.cell? ⟨gb494, 6, none⟩ = some (.int .i64 t485) ∧ w'.cell? ⟨gb494, 7, none⟩ = some (.int .i64 t486) ∧ w'.cell? ⟨gb494, 8, none⟩ = some (.int .i64 t487) ∧ w'.cell? ⟨gb494, 9, none⟩ = some (.int .i64 t488) ∧ w'.cell? ⟨gb494, 10, none⟩ = some (.int .i64 t489) ∧ w'.cell? ⟨gb494, 11, none⟩ = some (.bool t490) ∧ w'.cell? ⟨gb494, 12, none⟩ = some (.bool t491)) (ds := []) #[false, false, false, false, false, false, false, false, false, false, false, false, false, false, false, false, false, false, false, false, false, false, false, false, false, false, false, false, false, false, false, false, false, false, false, false, false, false, false] (by kernel_rfl) rfl rfl ⟨(blk_cell BK508.out 0).trans rfl, (blk_cell BK508.out 1).trans rfl, (blk_cell BK508.out 2).trans rfl, (blk_cell BK508.out 3).trans rfl, (blk_cell BK508.out 4).trans rfl, (blk_cell BK508.out 5).trans rfl, (blk_cell BK508.out 6).trans rfl, (blk_cell BK508.out 7).trans rfl, (blk_cell BK508.out 8).trans rfl, (blk_cell BK508.out 9).trans rfl, (blk_cell BK508.out 10).trans rfl, (blk_cell BK508.out 11).trans rfl, (blk_cell BK508.out 12).trans rfl, (blk_cell BK494.out 0).trans rfl, (blk_cell BK494.out 1).trans rfl, (blk_cell BK494.out 2).trans rfl, (blk_cell BK494.out 3).trans rfl, (blk_cell BK494.out 4).trans rfl, (blk_cell BK494.out 5).trans rfl, (blk_cell BK494.out 6).trans rfl, (blk_cell BK494.out 7).trans rfl, (blk_cell BK494.out 8).trans rfl, (blk_cell BK494.out 9).trans rfl, (blk_cell BK494.out 10).trans rfl, (blk_cell BK494.out 11).trans rfl, (blk_cell BK494.out 12).trans rfl⟩ (fun hHeld => ?_); refine with_tabW laws_FnPieces.tab10 laws_FnPieces.bits10 (fun HT_ HW_ => ?_)
         generalize w77.drew = w178 at BK463 BK478 BK494 BK508 BK535 BK536 HB hHeld ⊢
         refine pure_ (i := 2) (N := some 83) (v := _) (a' := _) (M14_39 4) rfl rfl (any_of HT_.out (by kernel_rfl)) (fun _ _ _ h => h) (Or.inl ⟨(by rfl), (by intro w'; go_simp; with_reducible rfl)⟩) Z14_28 ?_
         refine take_ (i := 0) (N := some 81) (v := _) (a' := _) (M14_39 5) rfl rfl (take_ofW HT_.out HW_.out (by kernel_rfl)) (fun _ _ _ h => h) (Or.inl ⟨(by rfl), Z14_20⟩) hHeld Z14_28 ?_
         refine take_ (i := 3) (N := some 84) (v := _) (a' := _) (M14_39 13) rfl rfl (take_ofW HT_.out HW_.out (by kernel_rfl)) (fun _ _ _ h => h) (Or.inl ⟨(by rfl), Z14_20⟩) hHeld Z14_28 ?_
         refine one_ (i := 1) (N := some 82) (M14_39 15) rfl rfl (one_of HT_.out (by kernel_rfl)) (by decide) (fun K hK => ?_)
         refine goes_ Try.func22 (by kernel_rfl) rfl #[.agg #[.int .i64 t495, .int .i64 t496, .int .i64 t497, .int .i64 t498, .int .i64 t499, .int .i64 t500, .int .i64 t501, .int .i64 t502, .int .i64 t503, .int .i64 t504, .int .i64 t505, .bool t506, .bool t507]] (by rfl) rfl rfl Z14_22 ?_
         with_reducible refine (impl_PowerOf.calls t495 t496 t497 t498 t499 t500 t501 t502 t503 t504 t505 t506 t507 t559 _ A25.out).mono ?_
         rintro e w179 ⟨rfl, hb⟩
         refine ⟨_, rfl, ?_⟩
         have n0_ := Aside0.mk Z14_2
         have n1_ := Aside0.mk Z14_3
         have n2_ := Aside0.mk Z14_4
         have n3_ := Aside0.mk Z14_5
         have n4_ := Aside0.mk Z14_6
         have n5_ := Aside0.mk Z14_7
         have n6_ := Aside0.mk Z14_9
         clear BK463
         clear BK478
         clear BK494
         clear BK508
         clear BK535
         clear BK536
         clear HB
         have BK463 := n0_
         have BK478 := n1_
         have BK494 := n2_
         have BK508 := n3_
         have BK535 := n4_
         have BK536 := n5_
         have HB := n6_
         clear n0_ n1_ n2_ n3_ n4_ n5_ n6_
         (try clear hb)
         (try clear hb2)
         (try clear hk)
         (try clear hi)
         refine hK.out _ _ (D14_13 BK508.out (C14_13 BK494.out).1) (fun hHeld => ?_)
         clear hK K
         refine norm_ (a' := ?_) ?_ ?_
         rotate_left
         · show Act.put _ (some 82) _ = _
           simp only [Act.put, List.setIfInBounds_toArray, List.set_cons_zero, List.set_cons_succ, i64_w, i32_w]
           rfl
         refine one_ (i := 4) (N := some 85) (M14_39 31) rfl rfl (one_of HT_.out (by kernel_rfl)) (by decide) (fun K hK => ?_)
         refine goes_ Try.func28 (by kernel_rfl) rfl #[.int .i64 t484] (by rfl) rfl rfl Z14_22 ?_
         with_reducible refine (impl_Bound.calls t484 t560 _ A26.out).mono ?_
         rintro e w180 ⟨rfl, hb⟩
         refine ⟨_, rfl, ?_⟩
         have n0_ := Aside0.mk Z14_2
         have n1_ := Aside0.mk Z14_3
         have n2_ := Aside0.mk Z14_4
         have n3_ := Aside0.mk Z14_5
         have n4_ := Aside0.mk Z14_6
         have n5_ := Aside0.mk Z14_7
         have n6_ := Aside0.mk Z14_9
         clear BK463
         clear BK478
         clear BK494
         clear BK508
         clear BK535
         clear BK536
         clear HB
         have BK463 := n0_
         have BK478 := n1_
         have BK494 := n2_
         have BK508 := n3_
         have BK535 := n4_
         have BK536 := n5_
         have HB := n6_
         clear n0_ n1_ n2_ n3_ n4_ n5_ n6_
         (try clear hb)
         (try clear hb2)
         (try clear hk)
         (try clear hi)
         refine hK.out _ _ (D14_13 BK508.out (C14_13 BK494.out).1) (fun hHeld => ?_)
         clear hK K
         refine norm_ (a' := ?_) ?_ ?_
         rotate_left
         · show Act.put _ (some 85) _ = _
           simp only [Act.put, List.setIfInBounds_toArray, List.set_cons_zero, List.set_cons_succ, i64_w, i32_w]
           rfl
         refine pure_ (i := 5) (N := some 86) (v := _) (a' := _) (M14_39 63) rfl rfl (any_of HT_.out (by kernel_rfl)) (fun _ _ _ h => h) (Or.inl ⟨(by rfl), (by intro w'; go_simp; with_reducible rfl)⟩) Z14_28 ?_
         refine pure_ (i := 6) (N := some 87) (v := _) (a' := _) (M14_39 127) rfl rfl (any_of HT_.out (by kernel_rfl)) (fun _ _ _ h => h) (Or.inl ⟨(by rfl), (by intro w'; go_simp; with_reducible rfl)⟩) Z14_28 ?_
         as_aux_lemma =>
          refine pure_ (i := 7) (N := some 88) (v := _) (a' := _) (M14_39 255) rfl rfl (any_of HT_.out (by kernel_rfl)) (fun _ _ _ h => h) (Or.inl ⟨(by rfl), (by intro w'; go_simp; with_reducible rfl)⟩) Z14_28 ?_
          refine pure_ (i := 9) (N := some 90) (v := _) (a' := _) (M14_39 767) rfl rfl (any_of HT_.out (by kernel_rfl)) (fun _ _ _ h => h) (Or.inl ⟨(by rfl), (by intro w'; go_simp; with_reducible rfl)⟩) Z14_28 ?_
          refine take_ (i := 8) (N := some 89) (v := _) (a' := _) (M14_39 1023) rfl rfl (take_ofW HT_.out HW_.out (by kernel_rfl)) (fun _ _ _ h => h) (Or.inl ⟨(by rfl), Z14_20⟩) hHeld Z14_28 ?_
          refine take_ (i := 10) (N := some 91) (v := _) (a' := _) (M14_39 2047) rfl rfl (take_ofW HT_.out HW_.out (by kernel_rfl)) (fun _ _ _ h => h) (Or.inl ⟨(by rfl), Z14_20⟩) hHeld Z14_28 ?_
          refine pure_ (i := 11) (N := some 92) (v := _) (a' := _) (M14_39 4095) rfl rfl (any_of HT_.out (by kernel_rfl)) (fun _ _ _ h => h) (Or.inl ⟨(by rfl), (by intro w'; go_simp; with_reducible rfl)⟩) Z14_28 ?_
          refine pure_ (i := 12) (N := some 93) (v := _) (a' := _) (M14_39 8191) rfl rfl (any_of HT_.out (by kernel_rfl)) (fun _ _ _ h => h) (Or.inl ⟨(by rfl), (by intro w'; go_simp; with_reducible rfl)⟩) Z14_28 ?_
          refine pure_ (i := 13) (N := some 94) (v := _) (a' := _) (M14_39 16383) rfl rfl (any_of HT_.out (by kernel_rfl)) (fun _ _ _ h => h) (Or.inl ⟨(by rfl), (by intro w'; go_simp; with_reducible rfl)⟩) Z14_28 ?_
          refine pure_ (i := 15) (N := some 96) (v := _) (a' := _) (M14_39 49151) rfl rfl (any_of HT_.out (by kernel_rfl)) (fun _ _ _ h => h) (Or.inl ⟨(by rfl), (by intro w'; go_simp; with_reducible rfl)⟩) Z14_28 ?_
          as_aux_lemma =>
           refine pure_ (i := 16) (N := some 97) (v := _) (a' := _) (M14_39 114687) rfl rfl (any_of HT_.out (by kernel_rfl)) (fun _ _ _ h => h) (Or.inl ⟨(by rfl), (by intro w'; go_simp; with_reducible rfl)⟩) Z14_28 ?_
           refine take_ (i := 14) (N := some 95) (v := _) (a' := _) (M14_39 131071) rfl rfl (take_ofW HT_.out HW_.out (by kernel_rfl)) (fun _ _ _ h => h) (Or.inl ⟨(by rfl), Z14_20⟩) hHeld Z14_28 ?_
           refine take_ (i := 18) (N := some 99) (v := _) (a' := _) (M14_39 393215) rfl rfl (take_ofW HT_.out HW_.out (by kernel_rfl)) (fun _ _ _ h => h) (Or.inl ⟨(by rfl), Z14_20⟩) hHeld Z14_28 ?_
           refine one_ (i := 17) (N := some 98) (M14_39 524287) rfl rfl (one_of HT_.out (by kernel_rfl)) (by decide) (fun K hK => ?_)
           refine goes_ Try.func16 (by kernel_rfl) rfl #[.agg #[.int .i64 t495, .int .i64 t496, .int .i64 t497, .int .i64 t498, .int .i64 t499, .int .i64 t500, .int .i64 t501, .int .i64 t502, .int .i64 t503, .int .i64 t504, .int .i64 t505, .bool t506, .bool t507], .int .i64 t492, .int .i64 t493] (by rfl) rfl rfl Z14_22 ?_
           with_reducible refine (impl_Moved.calls t495 t496 t497 t498 t499 t500 t501 t502 t503 t504 t505 t506 t507 t492 t493 t561 t562 t563 t564 t565 t566 t567 t568 t569 t570 t571 t572 t573 _ A29.out).mono ?_
           rintro e w181 ⟨rfl, hb⟩
           refine ⟨_, rfl, ?_⟩
           have n0_ := Aside0.mk Z14_2
           have n1_ := Aside0.mk Z14_3
           have n2_ := Aside0.mk Z14_4
           have n3_ := Aside0.mk Z14_5
           have n4_ := Aside0.mk Z14_6
           have n5_ := Aside0.mk Z14_7
           have n6_ := Aside0.mk Z14_9
           clear BK463
           clear BK478
           clear BK494
           clear BK508
           clear BK535
           clear BK536
           clear HB
           have BK463 := n0_
           have BK478 := n1_
           have BK494 := n2_
           have BK508 := n3_
           have BK535 := n4_
           have BK536 := n5_
           have HB := n6_
           clear n0_ n1_ n2_ n3_ n4_ n5_ n6_
           (try clear hb)
           (try clear hb2)
           (try clear hk)
           (try clear hi)
           refine hK.out _ _ (D14_13 BK508.out (C14_13 BK494.out).1) (fun hHeld => ?_)
           clear hK K
           refine norm_ (a' := ?_) ?_ ?_
           rotate_left
           · show Act.put _ (some 98) _ = _
             simp only [Act.put, List.setIfInBounds_toArray, List.set_cons_zero, List.set_cons_succ, i64_w, i32_w]
             rfl
           refine pure_ (i := 19) (N := some 100) (v := _) (a' := _) (M14_39 1048575) rfl rfl (any_of HT_.out (by kernel_rfl)) (fun _ _ _ h => h) (Or.inl ⟨(by rfl), (by intro w'; go_simp; with_reducible rfl)⟩) Z14_28 ?_
           refine pure_ (i := 20) (N := some 101) (v := _) (a' := _) (M14_39 2097151) rfl rfl (any_of HT_.out (by kernel_rfl)) (fun _ _ _ h => h) (Or.inl ⟨(by rfl), (by intro w'; go_simp; with_reducible rfl)⟩) Z14_28 ?_
           refine pure_ (i := 21) (N := some 102) (v := _) (a' := _) (M14_39 4194303) rfl rfl (any_of HT_.out (by kernel_rfl)) (fun _ _ _ h => h) (Or.inl ⟨(by rfl), (by intro w'; go_simp; with_reducible rfl)⟩) Z14_28 ?_
           refine take_ (i := 22) (N := some 103) (v := _) (a' := _) (M14_39 8388607) rfl rfl (take_ofW HT_.out HW_.out (by kernel_rfl)) (fun _ _ _ h => h) (Or.inl ⟨(by rfl), Z14_20⟩) hHeld Z14_28 ?_
           as_aux_lemma =>
            refine one_ (i := 23) (N := some 104) (M14_39 16777215) rfl rfl (one_of HT_.out (by kernel_rfl)) (by decide) (fun K hK => ?_)
            refine goes_ Try.func18 (by kernel_rfl) rfl #[.agg #[.int .i64 t479, .int .i64 t480, .int .i64 t481, .int .i64 t482, .int .i64 t483, .int .i64 t484, .int .i64 t485, .int .i64 t486, .int .i64 t487, .int .i64 t488, .int .i64 t489, .bool t490, .bool t491]] (by rfl) rfl rfl Z14_22 ?_
            with_reducible refine (impl_PieceOk.calls k t479 t480 t481 t482 t483 t484 t485 t486 t487 t488 t489 t490 t491 true _ A31.out).mono ?_
            rintro e w182 ⟨rfl, hb⟩
            refine ⟨_, rfl, ?_⟩
            have n0_ := Aside0.mk Z14_2
            have n1_ := Aside0.mk Z14_3
            have n2_ := Aside0.mk Z14_4
            have n3_ := Aside0.mk Z14_5
            have n4_ := Aside0.mk Z14_6
            have n5_ := Aside0.mk Z14_7
            have n6_ := Aside0.mk Z14_9
            clear BK463
            clear BK478
            clear BK494
            clear BK508
            clear BK535
            clear BK536
            clear HB
            have BK463 := n0_
            have BK478 := n1_
            have BK494 := n2_
            have BK508 := n3_
            have BK535 := n4_
            have BK536 := n5_
            have HB := n6_
            clear n0_ n1_ n2_ n3_ n4_ n5_ n6_
            (try clear hb)
            (try clear hb2)
            (try clear hk)
            (try clear hi)
            refine hK.out _ _ (D14_13 BK508.out (C14_13 BK494.out).1) (fun hHeld => ?_)
            clear hK K
            refine norm_ (a' := ?_) ?_ ?_
            rotate_left
            · show Act.put _ (some 104) _ = _
              simp only [Act.put, List.setIfInBounds_toArray, List.set_cons_zero, List.set_cons_succ, i64_w, i32_w]
              rfl
            refine pure_ (i := 24) (N := some 105) (v := _) (a' := _) (M14_39 33554431) rfl rfl (any_of HT_.out (by kernel_rfl)) (fun _ _ _ h => h) (Or.inl ⟨(by rfl), (by intro w'; go_simp; with_reducible rfl)⟩) Z14_28 ?_
            refine pure_ (i := 25) (N := some 106) (v := _) (a' := _) (M14_39 67108863) rfl rfl (any_of HT_.out (by kernel_rfl)) (fun _ _ _ h => h) (Or.inl ⟨(by rfl), (by intro w'; go_simp; with_reducible rfl)⟩) Z14_28 ?_
            refine pure_ (i := 26) (N := some 107) (v := _) (a' := _) (M14_39 134217727) rfl rfl (any_of HT_.out (by kernel_rfl)) (fun _ _ _ h => h) (Or.inl ⟨(by rfl), (by intro w'; go_simp; with_reducible rfl)⟩) Z14_28 ?_
            refine pure_ (i := 27) (N := some 108) (v := _) (a' := _) (M14_39 268435455) rfl rfl (any_of HT_.out (by kernel_rfl)) (fun _ _ _ h => h) (Or.inl ⟨(by rfl), (by intro w'; go_simp; with_reducible rfl)⟩) Z14_28 ?_
            refine pure_ (i := 28) (N := some 109) (v := _) (a' := _) (M14_39 536870911) rfl rfl (any_of HT_.out (by kernel_rfl)) (fun _ _ _ h => h) (Or.inl ⟨(by rfl), (by intro w'; go_simp; with_reducible rfl)⟩) Z14_28 ?_
            refine pure_ (i := 29) (N := some 110) (v := _) (a' := _) (M14_39 1073741823) rfl rfl (any_of HT_.out (by kernel_rfl)) (fun _ _ _ h => h) (Or.inl ⟨(by rfl), (by intro w'; go_simp; with_reducible rfl)⟩) Z14_28 ?_
            refine pure_ (i := 30) (N := some 111) (v := _) (a' := _) (M14_39 2147483647) rfl rfl (any_of HT_.out (by kernel_rfl)) (fun _ _ _ h => h) (Or.inl ⟨(by rfl), (by intro w'; go_simp; with_reducible rfl)⟩) Z14_28 ?_
            as_aux_lemma =>
             refine pure_ (i := 31) (N := some 112) (v := _) (a' := _) (M14_39 4294967295) rfl rfl (any_of HT_.out (by kernel_rfl)) (fun _ _ _ h => h) (Or.inl ⟨(by rfl), (by intro w'; go_simp; with_reducible rfl)⟩) Z14_28 ?_
             refine pure_ (i := 32) (N := some 113) (v := _) (a' := _) (M14_39 8589934591) rfl rfl (any_of HT_.out (by kernel_rfl)) (fun _ _ _ h => h) (Or.inl ⟨(by rfl), (by intro w'; go_simp; with_reducible rfl)⟩) Z14_28 ?_
             refine pure_ (i := 33) (N := some 114) (v := _) (a' := _) (M14_39 17179869183) rfl rfl (any_of HT_.out (by kernel_rfl)) (fun _ _ _ h => h) (Or.inl ⟨(by rfl), (by intro w'; go_simp; with_reducible rfl)⟩) Z14_28 ?_
             refine take_ (i := 34) (N := some 115) (v := _) (a' := _) (M14_39 34359738367) rfl rfl (take_ofW HT_.out HW_.out (by kernel_rfl)) (fun _ _ _ h => h) (Or.inl ⟨(by rfl), Z14_20⟩) hHeld Z14_28 ?_
             refine one_ (i := 35) (N := some 116) (M14_39 68719476735) rfl rfl (one_of HT_.out (by kernel_rfl)) (by decide) (fun K hK => ?_)
             refine goes_ Try.func18 (by kernel_rfl) rfl #[.agg #[.int .i64 t495, .int .i64 t496, .int .i64 t497, .int .i64 t498, .int .i64 t499, .int .i64 t500, .int .i64 t501, .int .i64 t502, .int .i64 t503, .int .i64 t504, .int .i64 t505, .bool t506, .bool t507]] (by rfl) rfl rfl Z14_22 ?_
             with_reducible refine (impl_PieceOk.calls k t495 t496 t497 t498 t499 t500 t501 t502 t503 t504 t505 t506 t507 t575 _ A133.out).mono ?_
             rintro e w183 ⟨rfl, hb⟩
             refine ⟨_, rfl, ?_⟩
             have n0_ := Aside0.mk Z14_2
             have n1_ := Aside0.mk Z14_3
             have n2_ := Aside0.mk Z14_4
             have n3_ := Aside0.mk Z14_5
             have n4_ := Aside0.mk Z14_6
             have n5_ := Aside0.mk Z14_7
             have n6_ := Aside0.mk Z14_9
             clear BK463
             clear BK478
             clear BK494
             clear BK508
             clear BK535
             clear BK536
             clear HB
             have BK463 := n0_
             have BK478 := n1_
             have BK494 := n2_
             have BK508 := n3_
             have BK535 := n4_
             have BK536 := n5_
             have HB := n6_
             clear n0_ n1_ n2_ n3_ n4_ n5_ n6_
             (try clear hb)
             (try clear hb2)
             (try clear hk)
             (try clear hi)
             refine hK.out _ _ (D14_13 BK508.out (C14_13 BK494.out).1) (fun hHeld => ?_)
             clear hK K
             refine norm_ (a' := ?_) ?_ ?_
             rotate_left
             · show Act.put _ (some 116) _ = _
               simp only [Act.put, List.setIfInBounds_toArray, List.set_cons_zero, List.set_cons_succ, i64_w, i32_w]
               rfl
             refine pure_ (i := 36) (N := some 117) (v := _) (a' := _) (M14_39 137438953471) rfl rfl (any_of HT_.out (by kernel_rfl)) (fun _ _ _ h => h) (Or.inl ⟨(by rfl), (by intro w'; go_simp; with_reducible rfl)⟩) Z14_28 ?_
             refine pure_ (i := 37) (N := some 118) (v := _) (a' := _) (M14_39 274877906943) rfl rfl (any_of HT_.out (by kernel_rfl)) (fun _ _ _ h => h) (Or.inl ⟨(by rfl), (by intro w'; go_simp; with_reducible rfl)⟩) Z14_28 ?_
             refine pure_ (i := 38) (N := some 2) (v := _) (a' := _) (M14_39 549755813887) rfl rfl (any_of HT_.out (by kernel_rfl)) (fun _ _ _ h => h) (Or.inl ⟨(by rfl), (by intro w'; go_simp; with_reducible rfl)⟩) Z14_28 ?_
             refine done_ (done_of HT_.out (by kernel_rfl)) ?_
             try go_wp2
             go_ret
             exact ⟨Z14_29, Z14_10⟩

/-- THE ONE PURE STATEMENT of laws_FnPieces: yours. -/
def laws_FnPieces.Pure : Prop := ∀ (l0 : List Int), l0.length ≤ maxLen → l0.length * 1 ≤ 140737488351232 → (∀ x ∈ l0, (Lit.int .u8 x).wf = true) → ∃ k, laws_FnPieces.f k l0 = some true
theorem laws_FnPieces.walk (P : laws_FnPieces.Pure) (a0 : Option Addr) (len0 cap0 : Nat) (z0 : List Int) (w : World) (w0 : (a0 = none ∧ len0 = 0 ∧ cap0 = 0 ∧ z0 = []) ∨ ∃ x, a0 = some x ∧ len0 ≤ cap0 ∧ cap0 ≤ maxLen ∧ z0.length = cap0 ∧ (∀ i, i < z0.length → w.cell? (x.add i) = some (.int .u8 (z0.getD i 0))) ∧ ∀ n ∈ z0, (Lit.int .u8 n).wf = true) (y0 : len0 * 1 ≤ 140737488351232) :
    Calls Try.prog 3 #[.slice a0 len0 cap0] w fun e w' => e = .returned (.bool true) ∧ Below w.heap.size w w' := by
  obtain ⟨l0, rfl, hr0, hm0, hw0, hc0⟩ := ReadsInt.ofRowC w0
  obtain ⟨k, h⟩ := P l0 hm0 y0 hw0
  refine (laws_FnPieces.calls k _ _ l0 true w (Kd.C_of_reads (d := (0 : Int)) (h1 := fun _ => rfl) hr0) hc0 rfl h).mono ?_
  rintro e w' ⟨rfl, hd⟩
  exact ⟨rfl, hd⟩


end Go.Proofs.Ytfkidiagmekleaa.QAll
