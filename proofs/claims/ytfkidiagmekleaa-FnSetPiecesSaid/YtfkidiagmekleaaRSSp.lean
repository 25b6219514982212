-- Written by a program of this session (patch_print.py over the print).
import Derived.Test.YtfkidiagmekleaaQAllx0
import Derived.Test.YtfkidiagmekleaaRCpy
import Derived.Test.YtfkidiagmekleaaRSAt
namespace Go.Proofs.Ytfkidiagmekleaa.QAll
open Go.RowKit Go.Proofs.YtfkidiagmekleaaW.PrintWords Go.Proofs.YtfkidiagmekleaaW.PrintLast Go.Proofs.YtfkidiagmekleaaW.PrintMore
attribute [local go_sem] max2_int min2_int max_two min_two max_three min_three max_four min_four   -- for this text's walks alone
set_option linter.unusedVariables false
set_option linter.unusedSimpArgs false

def M44_16 (k : Nat) : Array Bool := ((List.range 16).map fun j => k.testBit j).toArray
theorem C44_4 {W : World} {g : Nat} {T : TypeId} {v0 v1 v2 v3 : Value} (h : W.heap[g]? = some (.cells #[v0, v1, v2, v3] T (0, 0))) : (W.cell? ⟨g, 0, none⟩ = some v0 ∧ W.cell? ⟨g, 1, none⟩ = some v1 ∧ W.cell? ⟨g, 2, none⟩ = some v2 ∧ W.cell? ⟨g, 3, none⟩ = some v3) ∧ W.frozen? ⟨g, 0, none⟩ = false ∧ W.frozen? ⟨g, 1, none⟩ = false ∧ W.frozen? ⟨g, 2, none⟩ = false ∧ W.frozen? ⟨g, 3, none⟩ = false := ⟨⟨(blk_cell h 0).trans rfl, (blk_cell h 1).trans rfl, (blk_cell h 2).trans rfl, (blk_cell h 3).trans rfl⟩, blk_frozen h 0, blk_frozen h 1, blk_frozen h 2, blk_frozen h 3⟩
theorem D44_4 {W : World} {g : Nat} {T : TypeId} {v0 v1 v2 v3 : Value} (h : W.heap[g]? = some (.cells #[v0, v1, v2, v3] T (0, 0))) {R : Prop} (r : R) : W.cell? ⟨g, 0, none⟩ = some v0 ∧ W.cell? ⟨g, 1, none⟩ = some v1 ∧ W.cell? ⟨g, 2, none⟩ = some v2 ∧ W.cell? ⟨g, 3, none⟩ = some v3 ∧ R := ⟨(blk_cell h 0).trans rfl, (blk_cell h 1).trans rfl, (blk_cell h 2).trans rfl, (blk_cell h 3).trans rfl, r⟩
theorem E44_4 {W : World} {g : Nat} {T : TypeId} {v0 v1 v2 v3 o0 o1 o2 o3 : Value} (h : W.heap[g]? = some (.cells #[o0, o1, o2, o3] T (0, 0))) : ((((W.setCell ⟨g, 0, none⟩ v0).setCell ⟨g, 1, none⟩ v1).setCell ⟨g, 2, none⟩ v2).setCell ⟨g, 3, none⟩ v3).heap[g]? = some (.cells #[v0, v1, v2, v3] T (0, 0)) := (blk_put (cs := #[v0, v1, v2, o3]) (blk_put (cs := #[v0, v1, o2, o3]) (blk_put (cs := #[v0, o1, o2, o3]) (blk_put (cs := #[o0, o1, o2, o3]) h 0 _ rfl) 1 _ rfl) 2 _ rfl) 3 _ rfl)
theorem C44_13 {W : World} {g : Nat} {T : TypeId} {v0 v1 v2 v3 v4 v5 v6 v7 v8 v9 v10 v11 v12 : Value} (h : W.heap[g]? = some (.cells #[v0, v1, v2, v3, v4, v5, v6, v7, v8, v9, v10, v11, v12] T (0, 0))) : (W.cell? ⟨g, 0, none⟩ = some v0 ∧ W.cell? ⟨g, 1, none⟩ = some v1 ∧ W.cell? ⟨g, 2, none⟩ = some v2 ∧ W.cell? ⟨g, 3, none⟩ = some v3 ∧ W.cell? ⟨g, 4, none⟩ = some v4 ∧ W.cell? ⟨g, 5, none⟩ = some v5 ∧ W.cell? ⟨g, 6, none⟩ = some v6 ∧ W.cell? ⟨g, 7, none⟩ = some v7 ∧ W.cell? ⟨g, 8, none⟩ = some v8 ∧ W.cell? ⟨g, 9, none⟩ = some v9 ∧ W.cell? ⟨g, 10, none⟩ = some v10 ∧ W.cell? ⟨g, 11, none⟩ = some v11 ∧ W.cell? ⟨g, 12, none⟩ = some v12) ∧ W.frozen? ⟨g, 0, none⟩ = false ∧ W.frozen? ⟨g, 1, none⟩ = false ∧ W.frozen? ⟨g, 2, none⟩ = false ∧ W.frozen? ⟨g, 3, none⟩ = false ∧ W.frozen? ⟨g, 4, none⟩ = false ∧ W.frozen? ⟨g, 5, none⟩ = false ∧ W.frozen? ⟨g, 6, none⟩ = false ∧ W.frozen? ⟨g, 7, none⟩ = false ∧ W.frozen? ⟨g, 8, none⟩ = false ∧ W.frozen? ⟨g, 9, none⟩ = false ∧ W.frozen? ⟨g, 10, none⟩ = false ∧ W.frozen? ⟨g, 11, none⟩ = false ∧ W.frozen? ⟨g, 12, none⟩ = false := ⟨⟨(blk_cell h 0).trans rfl, (blk_cell h 1).trans rfl, (blk_cell h 2).trans rfl, (blk_cell h 3).trans rfl, (blk_cell h 4).trans rfl, (blk_cell h 5).trans rfl, (blk_cell h 6).trans rfl, (blk_cell h 7).trans rfl, (blk_cell h 8).trans rfl, (blk_cell h 9).trans rfl, (blk_cell h 10).trans rfl, (blk_cell h 11).trans rfl, (blk_cell h 12).trans rfl⟩, blk_frozen h 0, blk_frozen h 1, blk_frozen h 2, blk_frozen h 3, blk_frozen h 4, blk_frozen h 5, blk_frozen h 6, blk_frozen h 7, blk_frozen h 8, blk_frozen h 9, blk_frozen h 10, blk_frozen h 11, blk_frozen h 12⟩
theorem Z44_1 {p : Prop} (h : p := by exact (blk_below (g := gb1197) (o := .cells #[.int .i64 a1_0, .int .i64 a1_1, .int .i64 a1_2, .int .i64 a1_3, .int .i64 a1_4, .int .i64 a1_5, .int .i64 a1_6, .int .i64 a1_7, .int .i64 a1_8, .int .i64 a1_9, .int .i64 a1_10, .bool a1_11, .bool a1_12] 25 (0, 0)) (by (with_reducible repeat (first | refine blk_drewN ?_ _ | refine blk_drew ?_ | refine blk_alloc ?_ _)); refine blk_far ?_ NB1197_1207.out _; (with_reducible repeat (first | refine blk_drewN ?_ _ | refine blk_drew ?_ | refine blk_alloc ?_ _)); refine blk_far ?_ NB1197_1207.out _; (with_reducible repeat (first | refine blk_drewN ?_ _ | refine blk_drew ?_ | refine blk_alloc ?_ _)); refine blk_far ?_ NB1197_1207.out _; (with_reducible repeat (first | refine blk_drewN ?_ _ | refine blk_drew ?_ | refine blk_alloc ?_ _)); refine blk_far ?_ NB1197_1207.out _; (with_reducible repeat (first | refine blk_drewN ?_ _ | refine blk_drew ?_ | refine blk_alloc ?_ _)); exact BK1197.out) hb)) : p := h
theorem Z44_2 {p : Prop} (h : p := by exact (blk_below (g := gb1196) (o := .cells #[.slice A0_0 l0_0.length c0_0, .slice A0_1 l0_1.length c0_1, .int .i64 a0_2, .int .i64 a0_3] 56 (0, 0)) (by (with_reducible repeat (first | refine blk_drewN ?_ _ | refine blk_drew ?_ | refine blk_alloc ?_ _)); refine blk_far ?_ NB1196_1207.out _; (with_reducible repeat (first | refine blk_drewN ?_ _ | refine blk_drew ?_ | refine blk_alloc ?_ _)); refine blk_far ?_ NB1196_1207.out _; (with_reducible repeat (first | refine blk_drewN ?_ _ | refine blk_drew ?_ | refine blk_alloc ?_ _)); refine blk_far ?_ NB1196_1207.out _; (with_reducible repeat (first | refine blk_drewN ?_ _ | refine blk_drew ?_ | refine blk_alloc ?_ _)); refine blk_far ?_ NB1196_1207.out _; (with_reducible repeat (first | refine blk_drewN ?_ _ | refine blk_drew ?_ | refine blk_alloc ?_ _)); exact BK1196.out) hb)) : p := h
theorem Z44_63 {p : Prop} (h : p := by (with_reducible repeat (first | apply Kd.R_alloc | apply Kd.R_drewN | apply Kd.R_drew)); exact HO_1208000.out) : p := h
theorem Z44_59 {p : Prop} (h : p := by (with_reducible repeat (first | refine blk_drewN ?_ _ | refine blk_drew ?_ | refine blk_alloc ?_ _)); exact BK1197.out) : p := h
theorem Z44_30 {p : Prop} (h : p := by repeat (first | (with_reducible first | exact HB.out | apply below_alloc | apply pw_below_drewN | apply below_drew1 | refine below_set ?_ GE1196.out | refine below_set ?_ GE1197.out | refine below_set ?_ GE1198.out | refine below_set ?_ GE1207.out) | exact HB.out)) : p := h
theorem Z44_3 {p : Prop} (h : p := by exact (Kd.R_lower (Kd.R_newB (Kd.R_new' ho96 (Kd.R_lt Z44_63)) (g := gb1197) (o := .cells #[.int .i64 a1_0, .int .i64 a1_1, .int .i64 a1_2, .int .i64 a1_3, .int .i64 a1_4, .int .i64 a1_5, .int .i64 a1_6, .int .i64 a1_7, .int .i64 a1_8, .int .i64 a1_9, .int .i64 a1_10, .bool a1_11, .bool a1_12] 25 (0, 0)) Z44_59) (below_size Z44_30))) : p := h
theorem Z44_4 {p : Prop} (h : p := by exact (Kd.R_lower (Kd.R_newB (Kd.R_new' ho67 (Kd.R_lt Z44_63)) (g := gb1197) (o := .cells #[.int .i64 a1_0, .int .i64 a1_1, .int .i64 a1_2, .int .i64 a1_3, .int .i64 a1_4, .int .i64 a1_5, .int .i64 a1_6, .int .i64 a1_7, .int .i64 a1_8, .int .i64 a1_9, .int .i64 a1_10, .bool a1_11, .bool a1_12] 25 (0, 0)) Z44_59) (below_size Z44_30))) : p := h
theorem Z44_5 {p : Prop} (h : p := by exact (blk_below (g := gb1198) (o := .cells #[.slice none 0 0, .slice none 0 0, .int .i64 0, .int .i64 0] 56 (0, 0)) (by (with_reducible repeat (first | refine blk_drewN ?_ _ | refine blk_drew ?_ | refine blk_alloc ?_ _)); refine blk_far ?_ NB1198_1207.out _; (with_reducible repeat (first | refine blk_drewN ?_ _ | refine blk_drew ?_ | refine blk_alloc ?_ _)); refine blk_far ?_ NB1198_1207.out _; (with_reducible repeat (first | refine blk_drewN ?_ _ | refine blk_drew ?_ | refine blk_alloc ?_ _)); refine blk_far ?_ NB1198_1207.out _; (with_reducible repeat (first | refine blk_drewN ?_ _ | refine blk_drew ?_ | refine blk_alloc ?_ _)); refine blk_far ?_ NB1198_1207.out _; (with_reducible repeat (first | refine blk_drewN ?_ _ | refine blk_drew ?_ | refine blk_alloc ?_ _)); exact BK1198.out) hb)) : p := h
theorem Z44_6 {p : Prop} (h : p := by exact (Kd.R_below (by (with_reducible repeat (first | apply Kd.R_alloc | apply Kd.R_drewN | apply Kd.R_drew)); exact (Kd.R_mono (Kd.R_far (p := ⟨gb1207, 3, none⟩) (Kd.R_far (p := ⟨gb1207, 2, none⟩) (Kd.R_far (p := ⟨gb1207, 1, none⟩) (Kd.R_far (p := ⟨gb1207, 0, none⟩) (Kd.R_types HO1201.out BK1207.out (by decide)) (fun _ hk => hk.2) (.slice Ao17 t1199.length co17)) (fun _ hk => hk.2) (.slice Ao22 t1202.length co22)) (fun _ hk => hk.2) (.int .i64 t1205)) (fun _ hk => hk.2) (.int .i64 t1206)) (fun _ h_ => h_.1))) hb)) : p := h
theorem Z44_7 {p : Prop} (h : p := by exact (Kd.R_below (by (with_reducible repeat (first | apply Kd.R_alloc | apply Kd.R_drewN | apply Kd.R_drew)); exact (Kd.R_mono (Kd.R_far (p := ⟨gb1207, 3, none⟩) (Kd.R_far (p := ⟨gb1207, 2, none⟩) (Kd.R_far (p := ⟨gb1207, 1, none⟩) (Kd.R_far (p := ⟨gb1207, 0, none⟩) (Kd.R_types HO1204.out BK1207.out (by decide)) (fun _ hk => hk.2) (.slice Ao17 t1199.length co17)) (fun _ hk => hk.2) (.slice Ao22 t1202.length co22)) (fun _ hk => hk.2) (.int .i64 t1205)) (fun _ hk => hk.2) (.int .i64 t1206)) (fun _ h_ => h_.1))) hb)) : p := h
theorem Z44_8 {p : Prop} (h : p := by exact ((by rw [hg]; exact Nat.ne_of_lt (blk_lt (g := gb1197) (o := .cells #[.int .i64 a1_0, .int .i64 a1_1, .int .i64 a1_2, .int .i64 a1_3, .int .i64 a1_4, .int .i64 a1_5, .int .i64 a1_6, .int .i64 a1_7, .int .i64 a1_8, .int .i64 a1_9, .int .i64 a1_10, .bool a1_11, .bool a1_12] 25 (0, 0)) Z44_59) : gb1197 ≠ gb1207))) : p := h
theorem Z44_9 {p : Prop} (h : p := by exact ((by rw [hg]; exact Nat.ne_of_gt (blk_lt (g := gb1197) (o := .cells #[.int .i64 a1_0, .int .i64 a1_1, .int .i64 a1_2, .int .i64 a1_3, .int .i64 a1_4, .int .i64 a1_5, .int .i64 a1_6, .int .i64 a1_7, .int .i64 a1_8, .int .i64 a1_9, .int .i64 a1_10, .bool a1_11, .bool a1_12] 25 (0, 0)) Z44_59) : gb1207 ≠ gb1197))) : p := h
theorem Z44_10 {p : Prop} (h : p := by exact (blk_grown (g := gb1197) (o := .cells #[.int .i64 a1_0, .int .i64 a1_1, .int .i64 a1_2, .int .i64 a1_3, .int .i64 a1_4, .int .i64 a1_5, .int .i64 a1_6, .int .i64 a1_7, .int .i64 a1_8, .int .i64 a1_9, .int .i64 a1_10, .bool a1_11, .bool a1_12] 25 (0, 0)) Z44_59 hg (Kd.R_away HO1236.out (fun _ hk => hk.2)))) : p := h
theorem Z44_11 {p : Prop} (h : p := by exact (blk_grown (g := gb1197) (o := .cells #[.int .i64 a1_0, .int .i64 a1_1, .int .i64 a1_2, .int .i64 a1_3, .int .i64 a1_4, .int .i64 a1_5, .int .i64 a1_6, .int .i64 a1_7, .int .i64 a1_8, .int .i64 a1_9, .int .i64 a1_10, .bool a1_11, .bool a1_12] 25 (0, 0)) Z44_59 hg (Kd.R_away HO1213.out (fun _ hk => hk.2)))) : p := h
theorem Z44_12 {p : Prop} (h : p := by exact (blk_below (g := gb1207) (o := .cells #[.slice Ao17 t1199.length co17, .slice Ao22 t1202.length co22, .int .i64 t1205, .int .i64 t1206] 56 (0, 0)) (by (with_reducible repeat (first | refine blk_drewN ?_ _ | refine blk_drew ?_ | refine blk_alloc ?_ _)); apply E44_4; (with_reducible repeat (first | refine blk_drewN ?_ _ | refine blk_drew ?_ | refine blk_alloc ?_ _)); exact BK1207.out) hb)) : p := h
theorem Z44_13 {p : Prop} (h : p := by exact (blk_below (g := gb1197) (o := .cells #[.int .i64 a1_0, .int .i64 a1_1, .int .i64 a1_2, .int .i64 a1_3, .int .i64 a1_4, .int .i64 a1_5, .int .i64 a1_6, .int .i64 a1_7, .int .i64 a1_8, .int .i64 a1_9, .int .i64 a1_10, .bool a1_11, .bool a1_12] 25 (0, 0)) Z44_59 hb)) : p := h
theorem Z44_14 {p : Prop} (h : p := by (with_reducible repeat (first | refine blk_drewN ?_ _ | refine blk_drew ?_ | refine blk_alloc ?_ _)); apply E44_4; (with_reducible repeat (first | refine blk_drewN ?_ _ | refine blk_drew ?_ | refine blk_alloc ?_ _)); refine blk_far ?_ NB1198_1207.out _; (with_reducible repeat (first | refine blk_drewN ?_ _ | refine blk_drew ?_ | refine blk_alloc ?_ _)); exact BK1198.out) : p := h
theorem Z44_58 {p : Prop} (h : p := by (with_reducible repeat (first | refine blk_drewN ?_ _ | refine blk_drew ?_ | refine blk_alloc ?_ _)); exact BK1196.out) : p := h
theorem Z44_15 {p : Prop} (h : p := by exact (blk_grown (g := gb1196) (o := .cells #[.slice (some ad1210) l0_0.length c0_0, .slice A0_1 l0_1.length c0_1, .int .i64 a0_2, .int .i64 a0_3] 56 (0, 0)) Z44_58 hg (Kd.R_ne HO1213.out BK1196.out (by decide)))) : p := h
theorem Z44_61 {p : Prop} (h : p := by (with_reducible repeat (first | refine blk_drewN ?_ _ | refine blk_drew ?_ | refine blk_alloc ?_ _)); exact BK1207.out) : p := h
theorem Z44_16 {p : Prop} (h : p := by exact (blk_grown (g := gb1207) (o := .cells #[.slice Ao17 t1199.length co17, .slice Ao22 t1202.length co22, .int .i64 t1205, .int .i64 t1206] 56 (0, 0)) Z44_61 hg (Kd.R_ne HO1236.out BK1207.out (by decide)))) : p := h
theorem Z44_17 {p : Prop} (h : p := by exact (blk_grown (g := gb1207) (o := .cells #[.slice Ao17 t1199.length co17, .slice Ao22 t1202.length co22, .int .i64 t1205, .int .i64 t1206] 56 (0, 0)) Z44_61 hg (Kd.R_ne HO1213.out BK1207.out (by decide)))) : p := h
theorem Z44_18 {p : Prop} (h : p := by exact ((by rw [hg]; exact Nat.ne_of_lt (blk_lt (g := gb1196) (o := .cells #[.slice A0_0 l0_0.length c0_0, .slice A0_1 l0_1.length c0_1, .int .i64 a0_2, .int .i64 a0_3] 56 (0, 0)) Z44_58) : gb1196 ≠ gb1207))) : p := h
theorem Z44_19 {p : Prop} (h : p := by exact ((by rw [hg]; exact Nat.ne_of_gt (blk_lt (g := gb1196) (o := .cells #[.slice A0_0 l0_0.length c0_0, .slice A0_1 l0_1.length c0_1, .int .i64 a0_2, .int .i64 a0_3] 56 (0, 0)) Z44_58) : gb1207 ≠ gb1196))) : p := h
theorem Z44_20 {p : Prop} (h : p := by exact (blk_grown (g := gb1196) (o := .cells #[.slice A0_0 l0_0.length c0_0, .slice A0_1 l0_1.length c0_1, .int .i64 a0_2, .int .i64 a0_3] 56 (0, 0)) Z44_58 hg (Kd.R_ne HO1236.out BK1196.out (by decide)))) : p := h
theorem Z44_36 {p : Prop} (h : p := by repeat (first | (with_reducible first | exact HB.out | apply below_alloc | apply pw_below_drewN | apply below_drew1 | refine below_set ?_ GE1196.out | refine below_set ?_ GE1197.out | refine below_set ?_ GE1198.out) | exact HB.out)) : p := h
theorem Z44_21 {p : Prop} (h : p := by exact ((by rw [hg]; exact (below_size Z44_36) : w.heap.size ≤ gb1207))) : p := h
theorem Z44_60 {p : Prop} (h : p := by (with_reducible repeat (first | refine blk_drewN ?_ _ | refine blk_drew ?_ | refine blk_alloc ?_ _)); exact BK1198.out) : p := h
theorem Z44_22 {p : Prop} (h : p := by exact ((by rw [hg]; exact Nat.ne_of_lt (blk_lt (g := gb1198) (o := .cells #[.slice none 0 0, .slice none 0 0, .int .i64 0, .int .i64 0] 56 (0, 0)) Z44_60) : gb1198 ≠ gb1207))) : p := h
theorem Z44_23 {p : Prop} (h : p := by exact ((by rw [hg]; exact Nat.ne_of_gt (blk_lt (g := gb1198) (o := .cells #[.slice none 0 0, .slice none 0 0, .int .i64 0, .int .i64 0] 56 (0, 0)) Z44_60) : gb1207 ≠ gb1198))) : p := h
theorem Z44_24 {p : Prop} (h : p := by exact (below_step Z44_30 hb)) : p := h
theorem Z44_25 {p : Prop} (h : p := by exact (blk_grown (g := gb1198) (o := .cells #[.slice none 0 0, .slice none 0 0, .int .i64 0, .int .i64 0] 56 (0, 0)) Z44_60 hg (Kd.R_ne HO1236.out BK1198.out (by decide)))) : p := h
theorem Z44_26 {p : Prop} (h : p := by exact (blk_grown (g := gb1198) (o := .cells #[.slice none 0 0, .slice none 0 0, .int .i64 0, .int .i64 0] 56 (0, 0)) Z44_60 hg (Kd.R_ne HO1213.out BK1198.out (by decide)))) : p := h
theorem Z44_27 {p : Prop} (h : p := by exact (blk_below (g := gb1196) (o := .cells #[.slice (some ad1210) l0_0.length c0_0, .slice A0_1 l0_1.length c0_1, .int .i64 a0_2, .int .i64 a0_3] 56 (0, 0)) Z44_58 hb)) : p := h
theorem Z44_28 {p : Prop} (h : p := by exact (blk_below (g := gb1207) (o := .cells #[.slice Ao17 t1199.length co17, .slice Ao22 t1202.length co22, .int .i64 t1205, .int .i64 t1206] 56 (0, 0)) Z44_61 hb)) : p := h
theorem Z44_29 {p : Prop} (h : p := by exact (blk_below (g := gb1196) (o := .cells #[.slice A0_0 l0_0.length c0_0, .slice A0_1 l0_1.length c0_1, .int .i64 a0_2, .int .i64 a0_3] 56 (0, 0)) Z44_58 hb)) : p := h
theorem Z44_64 {p : Prop} (h : p := by (with_reducible repeat (first | apply Kd.R_alloc | apply Kd.R_drewN | apply Kd.R_drew)); exact HO_1208001.out) : p := h
theorem Z44_67 {p : Prop} (h : p := by (with_reducible repeat (first | apply Kd.R_alloc | apply Kd.R_drewN | apply Kd.R_drew)); exact HO1236.out) : p := h
theorem Z44_31 {p : Prop} (h : p := by exact (Kd.R_over' Z44_64 (Kd.R_typed Z44_67) (by decide) hg)) : p := h
theorem Z44_71 {p : Prop} (h : p := by (with_reducible repeat (first | apply Kd.R_alloc | apply Kd.R_drewN | apply Kd.R_drew)); exact HO1213.out) : p := h
theorem Z44_32 {p : Prop} (h : p := by exact (Kd.R_over' Z44_64 (Kd.R_typed Z44_71) (by decide) hg)) : p := h
theorem Z44_33 {p : Prop} (h : p := by exact ((by rw [hg]; exact (below_size (by repeat (first | (with_reducible first | exact HB.out | apply below_alloc | apply pw_below_drewN | apply below_drew1 | refine below_set ?_ GE1196.out | refine below_set ?_ GE1197.out) | exact HB.out))) : w.heap.size ≤ gb1198))) : p := h
theorem Z44_34 {p : Prop} (h : p := by exact (below_step Z44_36 hb)) : p := h
theorem Z44_35 {p : Prop} (h : p := by exact (blk_below (g := gb1198) (o := .cells #[.slice none 0 0, .slice none 0 0, .int .i64 0, .int .i64 0] 56 (0, 0)) Z44_60 hb)) : p := h
theorem Z44_37 {p : Prop} (h : p := by exact ((by rw [hg]; exact (below_size (by repeat (first | (with_reducible first | exact HB.out | apply below_alloc | apply pw_below_drewN | apply below_drew1 | refine below_set ?_ GE1196.out) | exact HB.out))) : w.heap.size ≤ gb1197))) : p := h
theorem Z44_38 {p : Prop} (h : p := by exact ((by rw [hg]; exact (below_size (by repeat (first | (with_reducible first | exact HB.out | apply below_alloc | apply pw_below_drewN | apply below_drew1) | exact HB.out))) : w.heap.size ≤ gb1196))) : p := h
theorem Z44_39 {p : Prop} (h : p := by rintro w' ⟨s0, s1, s2, s3, s4, s5, s6, s7, s8, s9, s10, s11, s12, s13, s14, s15, s16, s17, s18, s19, s20, s21, s22, s23, s24, s25, s26, s27, s28, s29⟩; go_simp; with_reducible rfl) : p := h
theorem Z44_40 {p : Prop} (h : p := by exact (Kd.R_after (ok := (fun k_ => k_ ≠ gb1197)) Z44_63 hg hat)) : p := h
theorem Z44_41 {p : Prop} (h : p := by (with_reducible repeat (first | apply Kd.R_alloc | apply Kd.R_drewN | apply Kd.R_drew)); exact Kd.R_mono HO_1208000.out (fun _ hk => ⟨hk.1.2, ⟨hk.2, hk.1.1⟩⟩)) : p := h
theorem Z44_42 {p : Prop} (h : p := by (with_reducible repeat (first | apply Kd.R_alloc | apply Kd.R_drewN | apply Kd.R_drew)); exact Kd.R_mono HO_1208000.out (fun _ hk => ⟨⟨hk.2, hk.1.1⟩, hk.1.2⟩)) : p := h
theorem Z44_43 {p : Prop} (h : p := by (with_reducible repeat (first | apply Kd.R_alloc | apply Kd.R_drewN | apply Kd.R_drew)); exact Kd.R_mono HO_1208000.out (fun _ hk => ⟨hk.2, ⟨hk.1.1, hk.1.2⟩⟩)) : p := h
theorem Z44_44 {p : Prop} (h : p := by (with_reducible repeat (first | apply Kd.R_alloc | apply Kd.R_drewN | apply Kd.R_drew)); exact Kd.R_mono HO_1208000.out (fun _ hk => ⟨⟨hk.1.2, hk.1.1⟩, hk.2⟩)) : p := h
theorem Z44_45 {p : Prop} (h : p := by (with_reducible repeat (first | apply Kd.R_alloc | apply Kd.R_drewN | apply Kd.R_drew)); exact Kd.R_mono HO_1208000.out (fun _ hk => ⟨⟨hk.2.1, hk.2.2⟩, hk.1⟩)) : p := h
theorem Z44_46 {p : Prop} (h : p := by (with_reducible repeat (first | apply Kd.R_alloc | apply Kd.R_drewN | apply Kd.R_drew)); exact Kd.R_mono HO1243.out (fun _ hk => ⟨hk.2.1, ⟨hk.1, hk.2.2⟩⟩)) : p := h
theorem Z44_47 {p : Prop} (h : p := by (with_reducible repeat (first | apply Kd.R_alloc | apply Kd.R_drewN | apply Kd.R_drew)); exact Kd.R_mono HO1246.out (fun _ hk => ⟨hk.2, ⟨hk.1.1, hk.1.2⟩⟩)) : p := h
theorem Z44_48 {p : Prop} (h : p := by (with_reducible repeat (first | apply Kd.R_alloc | apply Kd.R_drewN | apply Kd.R_drew)); exact Kd.R_mono HO1220.out (fun _ hk => ⟨hk.2.1, ⟨hk.1, hk.2.2⟩⟩)) : p := h
theorem Z44_49 {p : Prop} (h : p := by (with_reducible repeat (first | apply Kd.R_alloc | apply Kd.R_drewN | apply Kd.R_drew)); exact Kd.R_mono HO1223.out (fun _ hk => ⟨hk.2, ⟨hk.1.1, hk.1.2⟩⟩)) : p := h
theorem Z44_50 {p : Prop} (h : p := by exact (Kd.R_elder' Z44_63 (Kd.R_base ho96) hb)) : p := h
theorem Z44_51 {p : Prop} (h : p := by exact (Kd.R_elder' Z44_63 (Kd.R_base ho98) hb)) : p := h
theorem Z44_52 {p : Prop} (h : p := by exact (Kd.R_elder' Z44_63 (Kd.R_base ho67) hb)) : p := h
theorem Z44_53 {p : Prop} (h : p := by exact (Kd.R_elder' Z44_63 (Kd.R_base ho69) hb)) : p := h
theorem Z44_54 {p : Prop} (h : p := by (try simp only [List.map_toArray, List.map_cons, List.map_nil]); first | done | rfl | (simp only [List.length_drop, List.length_take]; rfl)) : p := h
theorem Z44_55 {p : Prop} (h : p := by exact (Kd.R_below Z44_64 hb)) : p := h
theorem Z44_56 {p : Prop} (h : p := by exact (Kd.R_below (by (with_reducible repeat (first | apply Kd.R_alloc | apply Kd.R_drewN | apply Kd.R_drew)); exact HO1201.out) hb)) : p := h
theorem Z44_66 {p : Prop} (h : p := by (with_reducible repeat (first | apply Kd.R_alloc | apply Kd.R_drewN | apply Kd.R_drew)); exact HO1204.out) : p := h
theorem Z44_57 {p : Prop} (h : p := by exact (Kd.R_below Z44_66 hb)) : p := h
theorem Z44_62 {p : Prop} (h : p := by rintro w' ⟨s0, s1, s2, s3, s4, s5, s6, s7, s8, s9, s10, s11, s12, s13, s14, s15, s16⟩; go_simp; with_reducible rfl) : p := h
theorem Z44_65 {p : Prop} (h : p := by simp only [Act.put, List.setIfInBounds_toArray, List.set_cons_zero, List.set_cons_succ, i64_w, i32_w]; rfl) : p := h
theorem Z44_68 {p : Prop} (h : p := by (with_reducible repeat (first | apply Kd.R_alloc | apply Kd.R_drewN | apply Kd.R_drew)); exact HO1243.out) : p := h
theorem Z44_69 {p : Prop} (h : p := by (with_reducible repeat (first | apply Kd.R_alloc | apply Kd.R_drewN | apply Kd.R_drew)); exact HO1246.out) : p := h
theorem Z44_70 {p : Prop} (h : p := by (with_reducible repeat (first | apply Kd.R_alloc | apply Kd.R_drewN | apply Kd.R_drew)); exact HO1249.out) : p := h
theorem Z44_72 {p : Prop} (h : p := by (with_reducible repeat (first | apply Kd.R_alloc | apply Kd.R_drewN | apply Kd.R_drew)); exact HO1220.out) : p := h
theorem Z44_73 {p : Prop} (h : p := by (with_reducible repeat (first | apply Kd.R_alloc | apply Kd.R_drewN | apply Kd.R_drew)); exact HO1223.out) : p := h
theorem Z44_74 {p : Prop} (h : p := by (with_reducible repeat (first | apply Kd.R_alloc | apply Kd.R_drewN | apply Kd.R_drew)); exact HO1226.out) : p := h
theorem Z44_75 {p : Prop} (h : p := by simp only [putAll, Act.put, List.setIfInBounds_toArray, List.set_cons_zero, List.set_cons_succ]) : p := h
theorem Z44_76 {p : Prop} (h : p := by first | rfl | (simp [errW_none, errW_some] <;> rfl) | (simp [*, errW_none, errW_some] <;> rfl)) : p := h
theorem Z44_77 {p : Prop} (h : p := by first | (with_reducible assumption) | assumption) : p := h
/-! ### spec_SetPiece: function 58 -/
def spec_SetPiece.l0 : Nat → Int → List (S25) → List (S71) → Int → Int → Int → Int → Int → Int → Int → Int → Int → Int → Int → Int → Int → Bool → Bool → List (S25) → List (S71) → Int → Int → Option ((List (S25)) × (List (S71)) × Int × Int)
  | 0, _, _, _, _, _, _, _, _, _, _, _, _, _, _, _, _, _, _, _, _, _, _ => none
  | k + 1, x6, x1197000, x1197001, x1197002, x1197003, x1198000, x1198001, x1198002, x1198003, x1198004, x1198005, x1198006, x1198007, x1198008, x1198009, x1198010, x1198011, x1198012, x1208000, x1208001, x1208002, x1208003 => if x6 < (x1197000.length : Int) then (if 0 ≤ x6 then (if ((rd_T25 x1197000 x6).f0) ≤ x1198000 then (spec_SetPiece.l0 k (wrap64 (x6 + 1)) x1197000 x1197001 x1197002 x1197003 x1198000 x1198001 x1198002 x1198003 x1198004 x1198005 x1198006 x1198007 x1198008 x1198009 x1198010 x1198011 x1198012 x1208000 x1208001 x1208002 x1208003) else ((some (([] : List (S25)) : List (S25))).bind fun y1211 => (if x6 ≤ (x1197000.length : Int) then ((some (x1197000.take (x6 : Int).toNat : List (S25))).bind fun y1214 => (if y1211.length + y1214.length < 1466015503701 then ((some (y1211 ++ y1214 : List (S25))).bind fun y1218 => ((some (([(⟨x1198000, x1198001, x1198002, x1198003, x1198004, x1198005, x1198006, x1198007, x1198008, x1198009, x1198010, x1198011, x1198012⟩ : S25)] : List (S25)) : List (S25))).bind fun y1221 => (if y1218.length + y1221.length < 1466015503701 then ((some (y1218 ++ y1221 : List (S25))).bind fun y1224 => ((some (x1197000.drop (x6 : Int).toNat : List (S25))).bind fun y1227 => (if y1224.length + y1227.length < 1466015503701 then (some ((y1224 ++ y1227), x1208001, x1208002, x1208003)) else (none)))) else (none)))) else (none))) else (none)))) else (none)) else ((some (([] : List (S25)) : List (S25))).bind fun y1234 => (if 0 ≤ x6 then (if x6 ≤ (x1197000.length : Int) then ((some (x1197000.take (x6 : Int).toNat : List (S25))).bind fun y1237 => (if y1234.length + y1237.length < 1466015503701 then ((some (y1234 ++ y1237 : List (S25))).bind fun y1241 => ((some (([(⟨x1198000, x1198001, x1198002, x1198003, x1198004, x1198005, x1198006, x1198007, x1198008, x1198009, x1198010, x1198011, x1198012⟩ : S25)] : List (S25)) : List (S25))).bind fun y1244 => (if y1241.length + y1244.length < 1466015503701 then ((some (y1241 ++ y1244 : List (S25))).bind fun y1247 => ((some (x1197000.drop (x6 : Int).toNat : List (S25))).bind fun y1250 => (if y1247.length + y1250.length < 1466015503701 then (some ((y1247 ++ y1250), x1208001, x1208002, x1208003)) else (none)))) else (none)))) else (none))) else (none)) else (none)))
def spec_SetPiece.f (k : Nat) (l0_0 : List (S25)) (l0_1 : List (S71)) (a0_2 : Int) (a0_3 : Int) (a1_0 : Int) (a1_1 : Int) (a1_2 : Int) (a1_3 : Int) (a1_4 : Int) (a1_5 : Int) (a1_6 : Int) (a1_7 : Int) (a1_8 : Int) (a1_9 : Int) (a1_10 : Int) (a1_11 : Bool) (a1_12 : Bool) : Option ((List (S25)) × (List (S71)) × Int × Int) := (spec_l5Copy.f l0_0 l0_1 a0_2 a0_3).bind fun bt1199 => ((spec_PieceAt.f k l0_0 l0_1 a0_2 a0_3 a1_0).bind fun t1208 => (if t1208 ≥ 0 then (if 0 ≤ t1208 then (if t1208 < (bt1199.1.length : Int) then (some ((bt1199.1.set (t1208 : Int).toNat (⟨a1_0, a1_1, a1_2, a1_3, a1_4, a1_5, a1_6, a1_7, a1_8, a1_9, a1_10, a1_11, a1_12⟩ : S25)), bt1199.2.1, bt1199.2.2.1, bt1199.2.2.2)) else (none)) else (none)) else (spec_SetPiece.l0 k 0 l0_0 l0_1 a0_2 a0_3 a1_0 a1_1 a1_2 a1_3 a1_4 a1_5 a1_6 a1_7 a1_8 a1_9 a1_10 a1_11 a1_12 bt1199.1 bt1199.2.1 bt1199.2.2.1 bt1199.2.2.2)))
theorem spec_SetPiece.mono_l : ∀ k, (∀ y0 y1 y2 y3 y4 y5 y6 y7 y8 y9 y10 y11 y12 y13 y14 y15 y16 y17 y18 y19 y20 y21, LeO (spec_SetPiece.l0 k y0 y1 y2 y3 y4 y5 y6 y7 y8 y9 y10 y11 y12 y13 y14 y15 y16 y17 y18 y19 y20 y21) (spec_SetPiece.l0 (k + 1) y0 y1 y2 y3 y4 y5 y6 y7 y8 y9 y10 y11 y12 y13 y14 y15 y16 y17 y18 y19 y20 y21))
  | 0 => fun _ _ _ _ _ _ _ _ _ _ _ _ _ _ _ _ _ _ _ _ _ _ r h => by simp [spec_SetPiece.l0] at h
  | k + 1 => by
    have ih0 := spec_SetPiece.mono_l k
    · intro y0 y1 y2 y3 y4 y5 y6 y7 y8 y9 y10 y11 y12 y13 y14 y15 y16 y17 y18 y19 y20 y21
      unfold spec_SetPiece.l0
      repeat' first
      | (with_reducible exact ih0 _ _ _ _ _ _ _ _ _ _ _ _ _ _ _ _ _ _ _ _ _ _)
      | (with_reducible exact spec_PieceAt.mono _ _ _ _ _ _)
      | (with_reducible exact LeO.refl _)
      | (with_reducible exact LeO.none _)
      | (with_reducible refine LeO.ite ?_ ?_)
      | (with_reducible refine LeO.bind ?_ (fun _ => ?_))
      | exact ih0 _ _ _ _ _ _ _ _ _ _ _ _ _ _ _ _ _ _ _ _ _ _
      | exact spec_PieceAt.mono _ _ _ _ _ _
      | exact LeO.none _
      | refine LeO.ite ?_ ?_
      | refine LeO.bind ?_ (fun _ => ?_)
theorem spec_SetPiece.mono : ∀ a0 a1 a2 a3 a4 a5 a6 a7 a8 a9 a10 a11 a12 a13 a14 a15 a16 k, LeO (spec_SetPiece.f k a0 a1 a2 a3 a4 a5 a6 a7 a8 a9 a10 a11 a12 a13 a14 a15 a16) (spec_SetPiece.f (k + 1) a0 a1 a2 a3 a4 a5 a6 a7 a8 a9 a10 a11 a12 a13 a14 a15 a16) := by
  intro a0 a1 a2 a3 a4 a5 a6 a7 a8 a9 a10 a11 a12 a13 a14 a15 a16 k
  have ih0 := spec_SetPiece.mono_l k
  unfold spec_SetPiece.f
  repeat' first
      | (with_reducible exact ih0 _ _ _ _ _ _ _ _ _ _ _ _ _ _ _ _ _ _ _ _ _ _)
      | (with_reducible exact spec_PieceAt.mono _ _ _ _ _ _)
      | (with_reducible exact LeO.refl _)
      | (with_reducible exact LeO.none _)
      | (with_reducible refine LeO.ite ?_ ?_)
      | (with_reducible refine LeO.bind ?_ (fun _ => ?_))
      | exact ih0 _ _ _ _ _ _ _ _ _ _ _ _ _ _ _ _ _ _ _ _ _ _
      | exact spec_PieceAt.mono _ _ _ _ _ _
      | exact LeO.none _
      | refine LeO.ite ?_ ?_
      | refine LeO.bind ?_ (fun _ => ?_)
def spec_SetPiece.T7 : Bool × List (List Nat × List Nat) := (true, [([], []), ([], []), ([1], [1]), ([2], [2]), ([0, 3], [0, 3]), ([4], [4]), ([5], [5]), ([6, 5], [5, 6]), ([5], [5]), ([7, 8, 5], [5, 7, 8]), ([9, 5], [5, 9]), ([10, 5], [5, 10]), ([5], [5]), ([12, 5], [5, 12]), ([11, 13, 5], [5, 11, 13]), ([5, 14], [5, 14])])
def spec_SetPiece.B7 : List Nat := [0, 0, 2, 6, 15, 31, 63, 127, 63, 511, 1023, 2047, 63, 4159, 16383, 32767]
theorem spec_SetPiece.tab7 : rtab .any (opsOf Try.f58 7) = spec_SetPiece.T7 := by kernel_rfl
theorem spec_SetPiece.bits7 : waitsOk spec_SetPiece.T7.2 spec_SetPiece.B7 = true := by kernel_rfl
def spec_SetPiece.T9 : Bool × List (List Nat × List Nat) := (true, [([], []), ([], []), ([1], [1]), ([], []), ([2, 3], [2, 3]), ([0, 4], [0, 4]), ([], []), ([6], [6]), ([5, 7, 5], [5, 7]), ([], []), ([9], [9]), ([], []), ([10, 11], [10, 11]), ([8, 12, 8], [8, 12]), ([0, 1, 2, 3, 4, 5, 6, 7, 8, 9, 10, 11, 12, 13], []), ([14, 13, 13, 0, 1, 2, 3, 4, 5, 6, 7, 8, 9, 10, 11, 12, 13], [13, 14])])
def spec_SetPiece.B9 : List Nat := [0, 0, 2, 0, 14, 31, 0, 64, 255, 0, 512, 0, 3584, 8191, 16383, 32767]
theorem spec_SetPiece.tab9 : rtab .any (opsOf Try.f58 9) = spec_SetPiece.T9 := by kernel_rfl
theorem spec_SetPiece.bits9 : waitsOk spec_SetPiece.T9.2 spec_SetPiece.B9 = true := by kernel_rfl
set_option maxHeartbeats 8000000 in
set_option maxRecDepth 100000 in
theorem spec_SetPiece.calls (k : Nat) (A0_0 : Option Addr) (c0_0 : Nat) (l0_0 : List (S25)) (A0_1 : Option Addr) (c0_1 : Nat) (l0_1 : List (S71)) (a0_2 : Int) (a0_3 : Int) (a1_0 : Int) (a1_1 : Int) (a1_2 : Int) (a1_3 : Int) (a1_4 : Int) (a1_5 : Int) (a1_6 : Int) (a1_7 : Int) (a1_8 : Int) (a1_9 : Int) (a1_10 : Int) (a1_11 : Bool) (a1_12 : Bool) (r1 : List (S25)) (r2 : List (S71)) (r3 : Int) (r4 : Int) (w : World) (hr0_0 : Kd.C k25 w A0_0 l0_0.length l0_0) (hc0_0 : l0_0.length ≤ c0_0) (hr0_1 : Kd.C k71 w A0_1 l0_1.length l0_1) (hc0_1 : l0_1.length ≤ c0_1) (h : spec_SetPiece.f k l0_0 l0_1 a0_2 a0_3 a1_0 a1_1 a1_2 a1_3 a1_4 a1_5 a1_6 a1_7 a1_8 a1_9 a1_10 a1_11 a1_12 = some (r1, r2, r3, r4)) :
    Calls Try.prog 58 #[.agg #[.slice A0_0 l0_0.length c0_0, .slice A0_1 l0_1.length c0_1, .int .i64 a0_2, .int .i64 a0_3], .agg #[.int .i64 a1_0, .int .i64 a1_1, .int .i64 a1_2, .int .i64 a1_3, .int .i64 a1_4, .int .i64 a1_5, .int .i64 a1_6, .int .i64 a1_7, .int .i64 a1_8, .int .i64 a1_9, .int .i64 a1_10, .bool a1_11, .bool a1_12]] w fun e w' => ∃ v0_ v1_ : Value, e = .returned (.agg #[v0_, v1_, .int .i64 r3, .int .i64 r4]) ∧ Kd.R k25 25 w' w.heap.size (fun _ => True) v0_ r1 ∧ Kd.R k71 71 w' w.heap.size (fun _ => True) v1_ r2 ∧ Below w.heap.size w w' := by
  have hu56 := Try.underlying56
  have hu25 := Try.underlying25
  have HR0_0 := Aside0.mk hr0_0
  have HC0_0 := Aside0.mk hc0_0
  clear hr0_0 hc0_0
  have HR0_1 := Aside0.mk hr0_1
  have HC0_1 := Aside0.mk hc0_1
  clear hr0_1 hc0_1
  have HB := Aside0.mk (Below.refl w.heap.size w)
  have H : ((spec_l5Copy.f l0_0 l0_1 a0_2 a0_3).bind fun bt1199 => ((spec_PieceAt.f k l0_0 l0_1 a0_2 a0_3 a1_0).bind fun t1208 => (if t1208 ≥ 0 then (if 0 ≤ t1208 then (if t1208 < (bt1199.1.length : Int) then (some ((bt1199.1.set (t1208 : Int).toNat (⟨a1_0, a1_1, a1_2, a1_3, a1_4, a1_5, a1_6, a1_7, a1_8, a1_9, a1_10, a1_11, a1_12⟩ : S25)), bt1199.2.1, bt1199.2.2.1, bt1199.2.2.2)) else (none)) else (none)) else (spec_SetPiece.l0 k 0 l0_0 l0_1 a0_2 a0_3 a1_0 a1_1 a1_2 a1_3 a1_4 a1_5 a1_6 a1_7 a1_8 a1_9 a1_10 a1_11 a1_12 bt1199.1 bt1199.2.1 bt1199.2.2.1 bt1199.2.2.2)))) = some (r1, r2, r3, r4) := h
  clear h
  replace H := Option.bind_eq_some_iff.mp H
  obtain ⟨⟨t1199, t1202, t1205, t1206⟩, A30, H⟩ := H
  (try dsimp only at H)
  have A3 := Aside0.mk A30
  clear A30
  replace H := Option.bind_eq_some_iff.mp H
  obtain ⟨t1208, A40, H⟩ := H
  (try dsimp only at H)
  have A4 := Aside0.mk A40
  clear A40
  go_enter Try.func58, Try.ntmps58
  repeat' (first | ((with_reducible refine gate_dst (N := 2) rfl ?_); refine box_event ?hg (N := 2) ?hd (cs := #[.slice A0_0 l0_0.length c0_0, .slice A0_1 l0_1.length c0_1, .int .i64 a0_2, .int .i64 a0_3]) (t := 56) ?hr ?_; (case hd => rfl); (case hg => rfl); (case hr => first | (go_simp; done) | (go_simp; rfl)); intro gb1196 hg w9 hbox hb; have n0_ := Aside0.mk (below_step (by repeat (first | (with_reducible first | exact HB.out | apply below_alloc | apply pw_below_drewN | apply below_drew1) | exact HB.out)) hb); have n1_ := Aside0.mk (hbox); have n2_ := Aside0.mk Z44_38; have n3_ := Aside0.mk Z44_38; clear HB; have HB := n0_; have BK1196 := n1_; have GW1196 := n2_; have GE1196 := n3_; clear n0_ n1_ n2_ n3_; clear hb hbox hg) | ((with_reducible refine gate_dst (N := 3) rfl ?_); refine box_event ?hg (N := 3) ?hd (cs := #[.int .i64 a1_0, .int .i64 a1_1, .int .i64 a1_2, .int .i64 a1_3, .int .i64 a1_4, .int .i64 a1_5, .int .i64 a1_6, .int .i64 a1_7, .int .i64 a1_8, .int .i64 a1_9, .int .i64 a1_10, .bool a1_11, .bool a1_12]) (t := 25) ?hr ?_; (case hd => rfl); (case hg => rfl); (case hr => first | (go_simp; done) | (go_simp; rfl)); intro gb1197 hg w10 hbox hb; have n0_ := Aside0.mk Z44_29; have n1_ := Aside0.mk (below_step (by repeat (first | (with_reducible first | exact HB.out | apply below_alloc | apply pw_below_drewN | apply below_drew1 | refine below_set ?_ GE1196.out) | exact HB.out)) hb); have n2_ := Aside0.mk (hbox); have n3_ := Aside0.mk Z44_37; have n4_ := Aside0.mk Z44_37; have n5_ := Aside0.mk ((by rw [hg]; exact Nat.ne_of_lt (blk_lt (g := gb1196) (o := .cells #[.slice A0_0 l0_0.length c0_0, .slice A0_1 l0_1.length c0_1, .int .i64 a0_2, .int .i64 a0_3] 56 (0, 0)) Z44_58) : gb1196 ≠ gb1197)); have n6_ := Aside0.mk ((by rw [hg]; exact Nat.ne_of_gt (blk_lt (g := gb1196) (o := .cells #[.slice A0_0 l0_0.length c0_0, .slice A0_1 l0_1.length c0_1, .int .i64 a0_2, .int .i64 a0_3] 56 (0, 0)) Z44_58) : gb1197 ≠ gb1196)); clear BK1196; clear HB; have BK1196 := n0_; have HB := n1_; have BK1197 := n2_; have GW1197 := n3_; have GE1197 := n4_; have NB1196_1197 := n5_; have NB1197_1196 := n6_; clear n0_ n1_ n2_ n3_ n4_ n5_ n6_; clear hb hbox hg) | ((with_reducible refine gate_dst (N := 4) rfl ?_); refine box_event ?hg (N := 4) ?hd (cs := #[.slice none 0 0, .slice none 0 0, .int .i64 0, .int .i64 0]) (t := 56) ?hr ?_; (case hd => rfl); (case hg => rfl); (case hr => first | (go_simp; done) | (go_simp; rfl)); intro gb1198 hg w11 hbox hb; have n0_ := Aside0.mk Z44_29; have n1_ := Aside0.mk Z44_13; have n2_ := Aside0.mk (below_step (by repeat (first | (with_reducible first | exact HB.out | apply below_alloc | apply pw_below_drewN | apply below_drew1 | refine below_set ?_ GE1196.out | refine below_set ?_ GE1197.out) | exact HB.out)) hb); have n3_ := Aside0.mk (hbox); have n4_ := Aside0.mk Z44_33; have n5_ := Aside0.mk Z44_33; have n6_ := Aside0.mk ((by rw [hg]; exact Nat.ne_of_lt (blk_lt (g := gb1196) (o := .cells #[.slice A0_0 l0_0.length c0_0, .slice A0_1 l0_1.length c0_1, .int .i64 a0_2, .int .i64 a0_3] 56 (0, 0)) Z44_58) : gb1196 ≠ gb1198)); have n7_ := Aside0.mk ((by rw [hg]; exact Nat.ne_of_gt (blk_lt (g := gb1196) (o := .cells #[.slice A0_0 l0_0.length c0_0, .slice A0_1 l0_1.length c0_1, .int .i64 a0_2, .int .i64 a0_3] 56 (0, 0)) Z44_58) : gb1198 ≠ gb1196)); have n8_ := Aside0.mk ((by rw [hg]; exact Nat.ne_of_lt (blk_lt (g := gb1197) (o := .cells #[.int .i64 a1_0, .int .i64 a1_1, .int .i64 a1_2, .int .i64 a1_3, .int .i64 a1_4, .int .i64 a1_5, .int .i64 a1_6, .int .i64 a1_7, .int .i64 a1_8, .int .i64 a1_9, .int .i64 a1_10, .bool a1_11, .bool a1_12] 25 (0, 0)) Z44_59) : gb1197 ≠ gb1198)); have n9_ := Aside0.mk ((by rw [hg]; exact Nat.ne_of_gt (blk_lt (g := gb1197) (o := .cells #[.int .i64 a1_0, .int .i64 a1_1, .int .i64 a1_2, .int .i64 a1_3, .int .i64 a1_4, .int .i64 a1_5, .int .i64 a1_6, .int .i64 a1_7, .int .i64 a1_8, .int .i64 a1_9, .int .i64 a1_10, .bool a1_11, .bool a1_12] 25 (0, 0)) Z44_59) : gb1198 ≠ gb1197)); clear BK1196; clear BK1197; clear HB; have BK1196 := n0_; have BK1197 := n1_; have HB := n2_; have BK1198 := n3_; have GW1198 := n4_; have GE1198 := n5_; have NB1196_1198 := n6_; have NB1198_1196 := n7_; have NB1197_1198 := n8_; have NB1198_1197 := n9_; clear n0_ n1_ n2_ n3_ n4_ n5_ n6_ n7_ n8_ n9_; clear hb hbox hg; have hnb12 := NB1196_1197.out; have hnc12 := NB1197_1196.out; have hnb13 := NB1196_1198.out; have hnc13 := NB1198_1196.out; obtain ⟨⟨hcz14_0, hcz14_1, hcz14_2, hcz14_3⟩, hfz14_0, hfz14_1, hfz14_2, hfz14_3⟩ := C44_4 BK1196.out) | ((with_reducible refine gate_callee (f := 109) rfl ?_); refine goesL_ (some 8) rfl rfl Try.func109 (by kernel_rfl) rfl #[.agg #[.slice A0_0 l0_0.length c0_0, .slice A0_1 l0_1.length c0_1, .int .i64 a0_2, .int .i64 a0_3]] rfl Z44_54 ?_; (with_reducible refine (spec_l5Copy.calls _ _ l0_0 _ _ l0_1 a0_2 a0_3 t1199 t1202 t1205 t1206 _ ?side1 ?side2 ?side3 ?side4 A3.out).mono ?_); (case side1 => repeat (first | exact (Kd.C_below HR0_0.out HB.out) | (with_reducible refine Kd.C_alloc ?_ _) | (with_reducible refine Kd.C_drewN ?_ _) | (with_reducible refine Kd.C_drew ?_))); (case side2 => exact HC0_0.out); (case side3 => repeat (first | exact (Kd.C_below HR0_1.out HB.out) | (with_reducible refine Kd.C_alloc ?_ _) | (with_reducible refine Kd.C_drewN ?_ _) | (with_reducible refine Kd.C_drew ?_))); (case side4 => exact HC0_1.out); rintro e w15 ⟨v1200, v1203, rfl, ho0, ho1, hb⟩; refine ⟨_, rfl, ?_⟩; have n0_ := Aside0.mk (Kd.R_lower (Kd.R_newB ho0 (g := gb1197) (o := .cells #[.int .i64 a1_0, .int .i64 a1_1, .int .i64 a1_2, .int .i64 a1_3, .int .i64 a1_4, .int .i64 a1_5, .int .i64 a1_6, .int .i64 a1_7, .int .i64 a1_8, .int .i64 a1_9, .int .i64 a1_10, .bool a1_11, .bool a1_12] 25 (0, 0)) Z44_59) (below_size Z44_36)); have n1_ := Aside0.mk (Kd.R_lower ho1 (below_size Z44_36)); have n2_ := Aside0.mk Z44_29; have n3_ := Aside0.mk Z44_13; have n4_ := Aside0.mk Z44_35; have n5_ := Aside0.mk Z44_34; clear BK1196; clear BK1197; clear BK1198; clear HB; have HO1201 := n0_; have HO1204 := n1_; have BK1196 := n2_; have BK1197 := n3_; have BK1198 := n4_; have HB := n5_; clear n0_ n1_ n2_ n3_ n4_ n5_; (try clear hb); (try clear hb2); (try clear hk); (try clear hi); (try clear ho0); (try clear ho1); clear A3) | ((fail_if_success (with_reducible refine gate_dst (N := 5) rfl ?_)); (first | go_values | go_skip | go_guarded | go_step | go_upon | go_back | (simp only [Int.not_lt, Int.not_le] at *; go_simp) | (go_ite <;> go_prune <;> (try go_simp)) | (split <;> (first | (rename_i hx; exact (hx _ rfl).elim) | go_prune)))))
  by_cases c5 : t1208 ≥ 0
  · rw [if_pos c5] at H
    have c5b0 : decide (0 ≤ t1208) = true := decide_eq_true c5
    clear c5
    by_cases c6 : 0 ≤ t1208
    rotate_left
    · rw [if_neg c6] at H
      exact absurd H (by simp)
    rw [if_pos c6] at H
    have c6b0 : decide (0 ≤ t1208) = true := decide_eq_true c6
    clear c6
    by_cases c7 : t1208 < (t1199.length : Int)
    rotate_left
    · rw [if_neg c7] at H
      exact absurd H (by simp)
    rw [if_pos c7] at H
    have c7b0 : decide (t1208 < (t1199.length : Int)) = true := decide_eq_true c7
    clear c7
    obtain ⟨y1209, hy1209⟩ : ∃ y_ : List (S25), y_ = (t1199.set (t1208 : Int).toNat (⟨a1_0, a1_1, a1_2, a1_3, a1_4, a1_5, a1_6, a1_7, a1_8, a1_9, a1_10, a1_11, a1_12⟩ : S25)) := ⟨_, rfl⟩
    replace H : (some (y1209, t1202, t1205, t1206)) = some (r1, r2, r3, r4) := by first | (rw [hy1209]; with_reducible exact H) | (have H2_ := (Option.bind_some _ _).symm.trans H; rw [hy1209]; with_reducible exact H2_) | (have H2_ := (Option.bind_some _ _).symm.trans H; with_reducible exact H2_) | with_reducible exact H | (rw [hy1209]; exact H) | exact H
    have Ny1209 := Aside0.mk hy1209
    clear hy1209
    simp only [Option.some.injEq, Prod.mk.injEq] at H
    obtain ⟨rfl, rfl, rfl, rfl⟩ := H
    go_wp2_with (first | ((with_reducible refine gate_dst (N := 5) rfl ?_); refine box_event ?hg (N := 5) ?hd (cs := #[.slice none 0 0, .slice none 0 0, .int .i64 0, .int .i64 0]) (t := 56) ?hr ?_; (case hd => rfl); (case hg => rfl); (case hr => first | (go_simp; done) | (go_simp; rfl)); intro gb1207 hg w16 hbox hb; have n0_ := Aside0.mk Z44_56; have n1_ := Aside0.mk Z44_57; have n2_ := Aside0.mk Z44_29; have n3_ := Aside0.mk Z44_13; have n4_ := Aside0.mk Z44_35; have n5_ := Aside0.mk Z44_34; have n6_ := Aside0.mk (hbox); have n7_ := Aside0.mk Z44_21; have n8_ := Aside0.mk Z44_21; have n9_ := Aside0.mk Z44_18; have n10_ := Aside0.mk Z44_19; have n11_ := Aside0.mk Z44_8; have n12_ := Aside0.mk Z44_9; have n13_ := Aside0.mk Z44_22; have n14_ := Aside0.mk Z44_23; clear HO1201; clear HO1204; clear BK1196; clear BK1197; clear BK1198; clear HB; have HO1201 := n0_; have HO1204 := n1_; have BK1196 := n2_; have BK1197 := n3_; have BK1198 := n4_; have HB := n5_; have BK1207 := n6_; have GW1207 := n7_; have GE1207 := n8_; have NB1196_1207 := n9_; have NB1207_1196 := n10_; have NB1197_1207 := n11_; have NB1207_1197 := n12_; have NB1198_1207 := n13_; have NB1207_1198 := n14_; clear n0_ n1_ n2_ n3_ n4_ n5_ n6_ n7_ n8_ n9_ n10_ n11_ n12_ n13_ n14_; clear hb hbox hg; obtain ⟨Ao17, co17, eo17⟩ := Kd.R_slice HO1201.out; subst eo17; have hnb18 := NB1207_1196.out; have hnc18 := NB1196_1207.out; have hnb19 := NB1207_1197.out; have hnc19 := NB1197_1207.out; have hnb20 := NB1207_1198.out; have hnc20 := NB1198_1207.out; obtain ⟨⟨hcz21_0, hcz21_1, hcz21_2, hcz21_3⟩, hfz21_0, hfz21_1, hfz21_2, hfz21_3⟩ := C44_4 BK1207.out; obtain ⟨Ao22, co22, eo22⟩ := Kd.R_slice HO1204.out; subst eo22; obtain ⟨⟨hcz23_0, hcz23_1, hcz23_2, hcz23_3⟩, hfz23_0, hfz23_1, hfz23_2, hfz23_3⟩ := C44_4 BK1196.out; have hnb24 := NB1197_1198.out; have hnc24 := NB1198_1197.out; obtain ⟨⟨hcz25_0, hcz25_1, hcz25_2, hcz25_3, hcz25_4, hcz25_5, hcz25_6, hcz25_7, hcz25_8, hcz25_9, hcz25_10, hcz25_11, hcz25_12⟩, hfz25_0, hfz25_1, hfz25_2, hfz25_3, hfz25_4, hfz25_5, hfz25_6, hfz25_7, hfz25_8, hfz25_9, hfz25_10, hfz25_11, hfz25_12⟩ := C44_13 BK1197.out) | ((with_reducible refine gate_callee (f := 68) rfl ?_); refine goesL_ (some 12) rfl rfl Try.func68 (by kernel_rfl) rfl #[.agg #[.slice A0_0 l0_0.length c0_0, .slice A0_1 l0_1.length c0_1, .int .i64 a0_2, .int .i64 a0_3], .int .i64 a1_0] rfl Z44_54 ?_; (with_reducible refine (spec_PieceAt.calls k _ _ l0_0 _ _ l0_1 a0_2 a0_3 a1_0 t1208 _ ?side1 ?side2 ?side3 ?side4 A4.out).mono ?_); (case side1 => exact Kd.C_below HR0_0.out Z44_30); (case side2 => exact HC0_0.out); (case side3 => exact Kd.C_below HR0_1.out Z44_30); (case side4 => exact HC0_1.out); rintro e w26 ⟨rfl, hb⟩; refine ⟨_, rfl, ?_⟩; have n0_ := Aside0.mk Z44_6; have n1_ := Aside0.mk Z44_7; have n2_ := Aside0.mk Z44_2; have n3_ := Aside0.mk Z44_1; have n4_ := Aside0.mk Z44_5; have n5_ := Aside0.mk Z44_12; have n6_ := Aside0.mk Z44_24; clear HO1201; clear HO1204; clear BK1196; clear BK1197; clear BK1198; clear BK1207; clear HB; have HO1201 := n0_; have HO1204 := n1_; have BK1196 := n2_; have BK1197 := n3_; have BK1198 := n4_; have BK1207 := n5_; have HB := n6_; clear n0_ n1_ n2_ n3_ n4_ n5_ n6_; (try clear hb); (try clear hb2); (try clear hk); (try clear hi); obtain ⟨⟨hcz27_0, hcz27_1, hcz27_2, hcz27_3⟩, hfz27_0, hfz27_1, hfz27_2, hfz27_3⟩ := C44_4 BK1207.out; obtain ⟨⟨hcz28_0, hcz28_1, hcz28_2, hcz28_3, hcz28_4, hcz28_5, hcz28_6, hcz28_7, hcz28_8, hcz28_9, hcz28_10, hcz28_11, hcz28_12⟩, hfz28_0, hfz28_1, hfz28_2, hfz28_3, hfz28_4, hfz28_5, hfz28_6, hfz28_7, hfz28_8, hfz28_9, hfz28_10, hfz28_11, hfz28_12⟩ := C44_13 BK1197.out; have p8 : 0 ≤ (t1208 : Int) := of_decide_eq_true Z44_77; have q8 : (t1208 : Int) < ((t1199.length : Int) : Int) := of_decide_eq_true Z44_77; obtain ⟨go8, co8, eo8, gb8, gl8, cl8, HG8⟩ := Kd.R_form HO1201.out (by omega); (first | cases eo8 | (injection eo8 with ea_ en_ ec_; (first | subst ea_ | (injection ea_ with ea_; subst ea_)); subst ec_; clear en_)); have GB8 := Aside0.mk gb8; have GG8 := Aside0.mk HG8; clear gb8 gl8 HG8; obtain ⟨ce8, hcl8, hM8, hcc8, hfr8⟩ := Kd.R_elem HO1201.out z25 (t1208 : Int) p8 q8; obtain rfl := k25_openM hM8; have hx8_0 : w26.cell? ⟨go8, (t1208 : Int).toNat * 13, none⟩ = some (.int .i64 ((rd_T25 t1199 t1208).f0)) := hcc8 0 _ rfl; have hx8_1 : w26.cell? ⟨go8, (t1208 : Int).toNat * 13 + 1, none⟩ = some (.int .i64 ((rd_T25 t1199 t1208).f1)) := hcc8 1 _ rfl; have hx8_2 : w26.cell? ⟨go8, (t1208 : Int).toNat * 13 + 2, none⟩ = some (.int .i64 ((rd_T25 t1199 t1208).f2)) := hcc8 2 _ rfl; have hx8_3 : w26.cell? ⟨go8, (t1208 : Int).toNat * 13 + 3, none⟩ = some (.int .i64 ((rd_T25 t1199 t1208).f3)) := hcc8 3 _ rfl; have hx8_4 : w26.cell? ⟨go8, (t1208 : Int).toNat * 13 + 4, none⟩ = some (.int .i64 ((rd_T25 t1199 t1208).f4)) := hcc8 4 _ rfl; have hx8_5 : w26.cell? ⟨go8, (t1208 : Int).toNat * 13 + 5, none⟩ = some (.int .i64 ((rd_T25 t1199 t1208).f5)) := hcc8 5 _ rfl; have hx8_6 : w26.cell? ⟨go8, (t1208 : Int).toNat * 13 + 6, none⟩ = some (.int .i64 ((rd_T25 t1199 t1208).f6)) := hcc8 6 _ rfl; have hx8_7 : w26.cell? ⟨go8, (t1208 : Int).toNat * 13 + 7, none⟩ = some (.int .i64 ((rd_T25 t1199 t1208).f7)) := hcc8 7 _ rfl; have hx8_8 : w26.cell? ⟨go8, (t1208 : Int).toNat * 13 + 8, none⟩ = some (.int .i64 ((rd_T25 t1199 t1208).f8)) := hcc8 8 _ rfl; have hx8_9 : w26.cell? ⟨go8, (t1208 : Int).toNat * 13 + 9, none⟩ = some (.int .i64 ((rd_T25 t1199 t1208).f9)) := hcc8 9 _ rfl; have hx8_10 : w26.cell? ⟨go8, (t1208 : Int).toNat * 13 + 10, none⟩ = some (.int .i64 ((rd_T25 t1199 t1208).f10)) := hcc8 10 _ rfl; have hx8_11 : w26.cell? ⟨go8, (t1208 : Int).toNat * 13 + 11, none⟩ = some (.bool ((rd_T25 t1199 t1208).f11)) := hcc8 11 _ rfl; have hx8_12 : w26.cell? ⟨go8, (t1208 : Int).toNat * 13 + 12, none⟩ = some (.bool ((rd_T25 t1199 t1208).f12)) := hcc8 12 _ rfl; have hf8_0 : w26.frozen? ⟨go8, (t1208 : Int).toNat * 13, none⟩ = false := hfr8 0; have hf8_1 : w26.frozen? ⟨go8, (t1208 : Int).toNat * 13 + 1, none⟩ = false := hfr8 1; have hf8_2 : w26.frozen? ⟨go8, (t1208 : Int).toNat * 13 + 2, none⟩ = false := hfr8 2; have hf8_3 : w26.frozen? ⟨go8, (t1208 : Int).toNat * 13 + 3, none⟩ = false := hfr8 3; have hf8_4 : w26.frozen? ⟨go8, (t1208 : Int).toNat * 13 + 4, none⟩ = false := hfr8 4; have hf8_5 : w26.frozen? ⟨go8, (t1208 : Int).toNat * 13 + 5, none⟩ = false := hfr8 5; have hf8_6 : w26.frozen? ⟨go8, (t1208 : Int).toNat * 13 + 6, none⟩ = false := hfr8 6; have hf8_7 : w26.frozen? ⟨go8, (t1208 : Int).toNat * 13 + 7, none⟩ = false := hfr8 7; have hf8_8 : w26.frozen? ⟨go8, (t1208 : Int).toNat * 13 + 8, none⟩ = false := hfr8 8; have hf8_9 : w26.frozen? ⟨go8, (t1208 : Int).toNat * 13 + 9, none⟩ = false := hfr8 9; have hf8_10 : w26.frozen? ⟨go8, (t1208 : Int).toNat * 13 + 10, none⟩ = false := hfr8 10; have hf8_11 : w26.frozen? ⟨go8, (t1208 : Int).toNat * 13 + 11, none⟩ = false := hfr8 11; have hf8_12 : w26.frozen? ⟨go8, (t1208 : Int).toNat * 13 + 12, none⟩ = false := hfr8 12; clear hcl8 hcc8 hfr8 hM8; replace p8 := eq_true p8; replace q8 := eq_true q8; have n_ := Aside0.mk (Kd.R_mono (ok' := (fun k_ => k_ ≠ gb1197)) HO1201.out (fun k_ hk => hk.2)); clear HO1201; have HO1201 := n_; clear n_; have HX29 := Aside0.mk (show Kd.R k25 25 w26 w.heap.size (fun k_ => k_ ≠ gb1197) (.slice (some ⟨go8, 0, none⟩) t1199.length co17) t1199 from (by (with_reducible repeat (first | apply Kd.R_alloc | apply Kd.R_drewN | apply Kd.R_drew)); exact HO1201.out)); obtain ⟨ce29, hcl29, hM29, hcc29, hfr29⟩ := Kd.R_elem HX29.out z25 (t1208 : Int) (of_decide_eq_true Z44_77) (by have h_ : (t1208 : Int) < ((t1199.length : Int) : Int) := of_decide_eq_true Z44_77; first | exact h_ | (have e_ := (Kd.R_reads' HO1201.out).1; omega) | simpa using h_); obtain rfl := k25_openM hM29; have HP29 := Kd.R_seg HX29.out (t1208 : Int) (of_decide_eq_true Z44_77) (by have h_ : (t1208 : Int) < ((t1199.length : Int) : Int) := of_decide_eq_true Z44_77; first | exact h_ | (have e_ := (Kd.R_reads' HO1201.out).1; omega) | simpa using h_) (seg := [.int .i64 a1_0, .int .i64 a1_1, .int .i64 a1_2, .int .i64 a1_3, .int .i64 a1_4, .int .i64 a1_5, .int .i64 a1_6, .int .i64 a1_7, .int .i64 a1_8, .int .i64 a1_9, .int .i64 a1_10, .bool a1_11, .bool a1_12]) (j := 0) hcl29 hcc29 (show 13 ≤ 13 from by decide) (x' := (⟨a1_0, a1_1, a1_2, a1_3, a1_4, a1_5, a1_6, a1_7, a1_8, a1_9, a1_10, a1_11, a1_12⟩ : S25)) (k25_mkM _ _ _ (⟨a1_0, a1_1, a1_2, a1_3, a1_4, a1_5, a1_6, a1_7, a1_8, a1_9, a1_10, a1_11, a1_12⟩ : S25) ) (fun _ hk => hk); have hx29_0 := hcc29 0 _ rfl; (try simp only [show (k25).sz = 13 from rfl, Nat.mul_one, Nat.add_zero] at hx29_0); have hf29_0 := hfr29 0; (try simp only [show (k25).sz = 13 from rfl, Nat.mul_one, Nat.add_zero] at hf29_0); have hx29_1 := hcc29 1 _ rfl; (try simp only [show (k25).sz = 13 from rfl, Nat.mul_one, Nat.add_zero] at hx29_1); have hf29_1 := hfr29 1; (try simp only [show (k25).sz = 13 from rfl, Nat.mul_one, Nat.add_zero] at hf29_1); have hx29_2 := hcc29 2 _ rfl; (try simp only [show (k25).sz = 13 from rfl, Nat.mul_one, Nat.add_zero] at hx29_2); have hf29_2 := hfr29 2; (try simp only [show (k25).sz = 13 from rfl, Nat.mul_one, Nat.add_zero] at hf29_2); have hx29_3 := hcc29 3 _ rfl; (try simp only [show (k25).sz = 13 from rfl, Nat.mul_one, Nat.add_zero] at hx29_3); have hf29_3 := hfr29 3; (try simp only [show (k25).sz = 13 from rfl, Nat.mul_one, Nat.add_zero] at hf29_3); have hx29_4 := hcc29 4 _ rfl; (try simp only [show (k25).sz = 13 from rfl, Nat.mul_one, Nat.add_zero] at hx29_4); have hf29_4 := hfr29 4; (try simp only [show (k25).sz = 13 from rfl, Nat.mul_one, Nat.add_zero] at hf29_4); have hx29_5 := hcc29 5 _ rfl; (try simp only [show (k25).sz = 13 from rfl, Nat.mul_one, Nat.add_zero] at hx29_5); have hf29_5 := hfr29 5; (try simp only [show (k25).sz = 13 from rfl, Nat.mul_one, Nat.add_zero] at hf29_5); have hx29_6 := hcc29 6 _ rfl; (try simp only [show (k25).sz = 13 from rfl, Nat.mul_one, Nat.add_zero] at hx29_6); have hf29_6 := hfr29 6; (try simp only [show (k25).sz = 13 from rfl, Nat.mul_one, Nat.add_zero] at hf29_6); have hx29_7 := hcc29 7 _ rfl; (try simp only [show (k25).sz = 13 from rfl, Nat.mul_one, Nat.add_zero] at hx29_7); have hf29_7 := hfr29 7; (try simp only [show (k25).sz = 13 from rfl, Nat.mul_one, Nat.add_zero] at hf29_7); have hx29_8 := hcc29 8 _ rfl; (try simp only [show (k25).sz = 13 from rfl, Nat.mul_one, Nat.add_zero] at hx29_8); have hf29_8 := hfr29 8; (try simp only [show (k25).sz = 13 from rfl, Nat.mul_one, Nat.add_zero] at hf29_8); have hx29_9 := hcc29 9 _ rfl; (try simp only [show (k25).sz = 13 from rfl, Nat.mul_one, Nat.add_zero] at hx29_9); have hf29_9 := hfr29 9; (try simp only [show (k25).sz = 13 from rfl, Nat.mul_one, Nat.add_zero] at hf29_9); have hx29_10 := hcc29 10 _ rfl; (try simp only [show (k25).sz = 13 from rfl, Nat.mul_one, Nat.add_zero] at hx29_10); have hf29_10 := hfr29 10; (try simp only [show (k25).sz = 13 from rfl, Nat.mul_one, Nat.add_zero] at hf29_10); have hx29_11 := hcc29 11 _ rfl; (try simp only [show (k25).sz = 13 from rfl, Nat.mul_one, Nat.add_zero] at hx29_11); have hf29_11 := hfr29 11; (try simp only [show (k25).sz = 13 from rfl, Nat.mul_one, Nat.add_zero] at hf29_11); have hx29_12 := hcc29 12 _ rfl; (try simp only [show (k25).sz = 13 from rfl, Nat.mul_one, Nat.add_zero] at hx29_12); have hf29_12 := hfr29 12; (try simp only [show (k25).sz = 13 from rfl, Nat.mul_one, Nat.add_zero] at hf29_12); clear hcl29 hcc29 hfr29 hM29) | ((with_reducible refine gate_store (t := 25) (p := 19) rfl ?_); refine store_event (t := 25) (p := 19) (v := ?vo_w30) (w1 := (((((((((((((w26.setCell ⟨go8, (t1208 : Int).toNat * 13, none⟩ (.int .i64 a1_0)).setCell ⟨go8, (t1208 : Int).toNat * 13 + 1, none⟩ (.int .i64 a1_1)).setCell ⟨go8, (t1208 : Int).toNat * 13 + 2, none⟩ (.int .i64 a1_2)).setCell ⟨go8, (t1208 : Int).toNat * 13 + 3, none⟩ (.int .i64 a1_3)).setCell ⟨go8, (t1208 : Int).toNat * 13 + 4, none⟩ (.int .i64 a1_4)).setCell ⟨go8, (t1208 : Int).toNat * 13 + 5, none⟩ (.int .i64 a1_5)).setCell ⟨go8, (t1208 : Int).toNat * 13 + 6, none⟩ (.int .i64 a1_6)).setCell ⟨go8, (t1208 : Int).toNat * 13 + 7, none⟩ (.int .i64 a1_7)).setCell ⟨go8, (t1208 : Int).toNat * 13 + 8, none⟩ (.int .i64 a1_8)).setCell ⟨go8, (t1208 : Int).toNat * 13 + 9, none⟩ (.int .i64 a1_9)).setCell ⟨go8, (t1208 : Int).toNat * 13 + 10, none⟩ (.int .i64 a1_10)).setCell ⟨go8, (t1208 : Int).toNat * 13 + 11, none⟩ (.bool a1_11)).setCell ⟨go8, (t1208 : Int).toNat * 13 + 12, none⟩ (.bool a1_12))) ?hg ?ho ?hn ?hr ?_; (case ho => rfl); (case hg => rfl); (case hn => rfl); (case hr => first | (go_simp; done) | (go_simp; rfl)); intro w30 hw; have hg : w26.grownBy w30 (some go8) := (by rw [hw]; exact HP29.2); have hp_ : Kd.R k25 25 w30 w.heap.size (fun k_ => k_ ≠ gb1197) (.slice (some ⟨go8, 0, none⟩) t1199.length co17) y1209 := (by rw [hw, Ny1209.out]; exact HP29.1); clear HP29; have n0_ := Aside0.mk (blk_grown (g := gb1196) (o := .cells #[.slice A0_0 l0_0.length c0_0, .slice A0_1 l0_1.length c0_1, .int .i64 a0_2, .int .i64 a0_3] 56 (0, 0)) Z44_58 hg (Kd.R_ne HO1201.out BK1196.out (by decide))); have n1_ := Aside0.mk (blk_grown (g := gb1197) (o := .cells #[.int .i64 a1_0, .int .i64 a1_1, .int .i64 a1_2, .int .i64 a1_3, .int .i64 a1_4, .int .i64 a1_5, .int .i64 a1_6, .int .i64 a1_7, .int .i64 a1_8, .int .i64 a1_9, .int .i64 a1_10, .bool a1_11, .bool a1_12] 25 (0, 0)) Z44_59 hg (Kd.R_away HO1201.out (fun _ hk => hk))); have n2_ := Aside0.mk (blk_grown (g := gb1198) (o := .cells #[.slice none 0 0, .slice none 0 0, .int .i64 0, .int .i64 0] 56 (0, 0)) Z44_60 hg (Kd.R_ne HO1201.out BK1198.out (by decide))); have n3_ := Aside0.mk (hp_); have n4_ := Aside0.mk (Kd.R_over' (v := (.slice (some ⟨go8, 0, none⟩) t1199.length co17)) Z44_66 (Kd.R_typed HO1201.out) (by decide) hg); have n5_ := Aside0.mk (blk_grown (g := gb1207) (o := .cells #[.slice (some ⟨go8, 0, none⟩) t1199.length co17, .slice Ao22 t1202.length co22, .int .i64 t1205, .int .i64 t1206] 56 (0, 0)) Z44_61 hg (Kd.R_ne HO1201.out BK1207.out (by decide))); have n6_ := Aside0.mk ((by rw [hw]; exact below_set (below_set (below_set (below_set (below_set (below_set (below_set (below_set (below_set (below_set (below_set (below_set (below_set (HB.out) GB8.out) GB8.out) GB8.out) GB8.out) GB8.out) GB8.out) GB8.out) GB8.out) GB8.out) GB8.out) GB8.out) GB8.out) GB8.out : Below w.heap.size w w30)); clear BK1196; clear BK1197; clear BK1198; clear HO1201; clear HO1204; clear BK1207; clear HB; have BK1196 := n0_; have BK1197 := n1_; have BK1198 := n2_; have HO1201 := n3_; have HO1204 := n4_; have BK1207 := n5_; have HB := n6_; clear n0_ n1_ n2_ n3_ n4_ n5_ n6_; clear hg hw hp_; obtain ⟨⟨hcz31_0, hcz31_1, hcz31_2, hcz31_3⟩, hfz31_0, hfz31_1, hfz31_2, hfz31_3⟩ := C44_4 BK1207.out; obtain ⟨⟨hcz32_0, hcz32_1, hcz32_2, hcz32_3⟩, hfz32_0, hfz32_1, hfz32_2, hfz32_3⟩ := C44_4 BK1198.out))
    refine bodyPost_ret (results_cell_row rfl _ _ gb1198 56 #[.slice (some ⟨go8, 0, none⟩) t1199.length co17, .slice Ao22 t1202.length co22, .int .i64 t1205, .int .i64 t1206] (0, 0) _ rfl (by (with_reducible repeat (first | refine blk_drewN ?_ _ | refine blk_drew ?_ | refine blk_alloc ?_ _)); refine blk_put (cs := #[.slice (some ⟨go8, 0, none⟩) t1199.length co17, .slice Ao22 t1202.length co22, .int .i64 t1205, .int .i64 0]) ?_ 3 _ rfl; (with_reducible repeat (first | refine blk_drewN ?_ _ | refine blk_drew ?_ | refine blk_alloc ?_ _)); refine blk_put (cs := #[.slice (some ⟨go8, 0, none⟩) t1199.length co17, .slice Ao22 t1202.length co22, .int .i64 0, .int .i64 0]) ?_ 2 _ rfl; (with_reducible repeat (first | refine blk_drewN ?_ _ | refine blk_drew ?_ | refine blk_alloc ?_ _)); refine blk_put (cs := #[.slice (some ⟨go8, 0, none⟩) t1199.length co17, .slice none 0 0, .int .i64 0, .int .i64 0]) ?_ 1 _ rfl; (with_reducible repeat (first | refine blk_drewN ?_ _ | refine blk_drew ?_ | refine blk_alloc ?_ _)); refine blk_put (cs := #[.slice none 0 0, .slice none 0 0, .int .i64 0, .int .i64 0]) ?_ 0 _ rfl; (with_reducible repeat (first | refine blk_drewN ?_ _ | refine blk_drew ?_ | refine blk_alloc ?_ _)); exact BK1198.out) Try.underlying56 rfl (by kernel_rfl)) rfl ?_
    exact ⟨_, _, Z44_76, (by (with_reducible repeat (first | apply Kd.R_alloc | apply Kd.R_drewN | apply Kd.R_drew)); exact Kd.R_mono (Kd.R_far (p := ⟨gb1198, 3, none⟩) (Kd.R_far (p := ⟨gb1198, 2, none⟩) (Kd.R_far (p := ⟨gb1198, 1, none⟩) (Kd.R_far (p := ⟨gb1198, 0, none⟩) (Kd.R_types HO1201.out BK1198.out (by decide)) (fun _ hk => hk.2) (.slice (some ⟨go8, 0, none⟩) t1199.length co17)) (fun _ hk => hk.2) (.slice Ao22 t1202.length co22)) (fun _ hk => hk.2) (.int .i64 t1205)) (fun _ hk => hk.2) (.int .i64 t1206)) (fun _ hk => trivial)), (by (with_reducible repeat (first | apply Kd.R_alloc | apply Kd.R_drewN | apply Kd.R_drew)); exact Kd.R_mono (Kd.R_far (p := ⟨gb1198, 3, none⟩) (Kd.R_far (p := ⟨gb1198, 2, none⟩) (Kd.R_far (p := ⟨gb1198, 1, none⟩) (Kd.R_far (p := ⟨gb1198, 0, none⟩) (Kd.R_types HO1204.out BK1198.out (by decide)) (fun _ hk => hk.2) (.slice (some ⟨go8, 0, none⟩) t1199.length co17)) (fun _ hk => hk.2) (.slice Ao22 t1202.length co22)) (fun _ hk => hk.2) (.int .i64 t1205)) (fun _ hk => hk.2) (.int .i64 t1206)) (fun _ hk => trivial)), Z44_30⟩
  rw [if_neg c5] at H
  have c5b0 : decide (0 ≤ t1208) = false := decide_eq_false c5
  clear c5
  have H' := Aside0.mk H
  clear H
  go_wp2_with (first | ((with_reducible refine gate_dst (N := 5) rfl ?_); refine box_event ?hg (N := 5) ?hd (cs := #[.slice none 0 0, .slice none 0 0, .int .i64 0, .int .i64 0]) (t := 56) ?hr ?_; (case hd => rfl); (case hg => rfl); (case hr => first | (go_simp; done) | (go_simp; rfl)); intro gb1207 hg w16 hbox hb; have n0_ := Aside0.mk Z44_56; have n1_ := Aside0.mk Z44_57; have n2_ := Aside0.mk Z44_29; have n3_ := Aside0.mk Z44_13; have n4_ := Aside0.mk Z44_35; have n5_ := Aside0.mk Z44_34; have n6_ := Aside0.mk (hbox); have n7_ := Aside0.mk Z44_21; have n8_ := Aside0.mk Z44_21; have n9_ := Aside0.mk Z44_18; have n10_ := Aside0.mk Z44_19; have n11_ := Aside0.mk Z44_8; have n12_ := Aside0.mk Z44_9; have n13_ := Aside0.mk Z44_22; have n14_ := Aside0.mk Z44_23; clear HO1201; clear HO1204; clear BK1196; clear BK1197; clear BK1198; clear HB; have HO1201 := n0_; have HO1204 := n1_; have BK1196 := n2_; have BK1197 := n3_; have BK1198 := n4_; have HB := n5_; have BK1207 := n6_; have GW1207 := n7_; have GE1207 := n8_; have NB1196_1207 := n9_; have NB1207_1196 := n10_; have NB1197_1207 := n11_; have NB1207_1197 := n12_; have NB1198_1207 := n13_; have NB1207_1198 := n14_; clear n0_ n1_ n2_ n3_ n4_ n5_ n6_ n7_ n8_ n9_ n10_ n11_ n12_ n13_ n14_; clear hb hbox hg; obtain ⟨Ao17, co17, eo17⟩ := Kd.R_slice HO1201.out; subst eo17; have hnb18 := NB1207_1196.out; have hnc18 := NB1196_1207.out; have hnb19 := NB1207_1197.out; have hnc19 := NB1197_1207.out; have hnb20 := NB1207_1198.out; have hnc20 := NB1198_1207.out; obtain ⟨⟨hcz21_0, hcz21_1, hcz21_2, hcz21_3⟩, hfz21_0, hfz21_1, hfz21_2, hfz21_3⟩ := C44_4 BK1207.out; obtain ⟨Ao22, co22, eo22⟩ := Kd.R_slice HO1204.out; subst eo22; obtain ⟨⟨hcz23_0, hcz23_1, hcz23_2, hcz23_3⟩, hfz23_0, hfz23_1, hfz23_2, hfz23_3⟩ := C44_4 BK1196.out; have hnb24 := NB1197_1198.out; have hnc24 := NB1198_1197.out; obtain ⟨⟨hcz25_0, hcz25_1, hcz25_2, hcz25_3, hcz25_4, hcz25_5, hcz25_6, hcz25_7, hcz25_8, hcz25_9, hcz25_10, hcz25_11, hcz25_12⟩, hfz25_0, hfz25_1, hfz25_2, hfz25_3, hfz25_4, hfz25_5, hfz25_6, hfz25_7, hfz25_8, hfz25_9, hfz25_10, hfz25_11, hfz25_12⟩ := C44_13 BK1197.out) | ((with_reducible refine gate_callee (f := 68) rfl ?_); refine goesL_ (some 12) rfl rfl Try.func68 (by kernel_rfl) rfl #[.agg #[.slice A0_0 l0_0.length c0_0, .slice A0_1 l0_1.length c0_1, .int .i64 a0_2, .int .i64 a0_3], .int .i64 a1_0] rfl Z44_54 ?_; (with_reducible refine (spec_PieceAt.calls k _ _ l0_0 _ _ l0_1 a0_2 a0_3 a1_0 t1208 _ ?side1 ?side2 ?side3 ?side4 A4.out).mono ?_); (case side1 => exact Kd.C_below HR0_0.out Z44_30); (case side2 => exact HC0_0.out); (case side3 => exact Kd.C_below HR0_1.out Z44_30); (case side4 => exact HC0_1.out); rintro e w50 ⟨rfl, hb⟩; refine ⟨_, rfl, ?_⟩; have n0_ := Aside0.mk Z44_6; have n1_ := Aside0.mk Z44_7; have n2_ := Aside0.mk Z44_2; have n3_ := Aside0.mk Z44_1; have n4_ := Aside0.mk Z44_5; have n5_ := Aside0.mk Z44_12; have n6_ := Aside0.mk Z44_24; clear HO1201; clear HO1204; clear BK1196; clear BK1197; clear BK1198; clear BK1207; clear HB; have HO1201 := n0_; have HO1204 := n1_; have BK1196 := n2_; have BK1197 := n3_; have BK1198 := n4_; have BK1207 := n5_; have HB := n6_; clear n0_ n1_ n2_ n3_ n4_ n5_ n6_; (try clear hb); (try clear hb2); (try clear hk); (try clear hi)))
  go_loopg [6] k (fun kq v6 w' => ∃ (x6_1 : Int), v6 = .int .i64 x6_1 ∧ Aside0 (spec_SetPiece.l0 kq x6_1 l0_0 l0_1 a0_2 a0_3 a1_0 a1_1 a1_2 a1_3 a1_4 a1_5 a1_6 a1_7 a1_8 a1_9 a1_10 a1_11 a1_12 t1199 t1202 t1205 t1206 = some (r1, r2, r3, r4)) ∧ Aside0 (kq ≤ k) ∧ Aside0 (Kd.R k25 25 w' w.heap.size (fun k_ => k_ ≠ gb1197) (.slice Ao17 t1199.length co17) t1199) ∧ Aside0 (Kd.R k71 71 w' w.heap.size (fun _ => True) (.slice Ao22 t1202.length co22) t1202) ∧ Aside0 (w'.heap[gb1196]? = some (.cells #[(.slice A0_0 l0_0.length c0_0), (.slice A0_1 l0_1.length c0_1), .int .i64 a0_2, .int .i64 a0_3] 56 (0, 0))) ∧ Aside0 (w'.heap[gb1197]? = some (.cells #[.int .i64 a1_0, .int .i64 a1_1, .int .i64 a1_2, .int .i64 a1_3, .int .i64 a1_4, .int .i64 a1_5, .int .i64 a1_6, .int .i64 a1_7, .int .i64 a1_8, .int .i64 a1_9, .int .i64 a1_10, .bool a1_11, .bool a1_12] 25 (0, 0))) ∧ Aside0 (w'.heap[gb1198]? = some (.cells #[(.slice none 0 0), (.slice none 0 0), .int .i64 0, .int .i64 0] 56 (0, 0))) ∧ Aside0 (w'.heap[gb1207]? = some (.cells #[(.slice Ao17 t1199.length co17), (.slice Ao22 t1202.length co22), .int .i64 t1205, .int .i64 t1206] 56 (0, 0))) ∧ Aside0 (Below w.heap.size w w'))
  case atStart => exact ⟨(0), (by first | rfl | (simp; done) | (simp [*]; done)), H', ⟨Nat.le_refl _⟩, ⟨(by (with_reducible repeat (first | apply Kd.R_alloc | apply Kd.R_drewN | apply Kd.R_drew)); exact Kd.R_mono HO1201.out (fun _ hk => hk.2))⟩, ⟨Z44_66⟩, ⟨Z44_58⟩, ⟨Z44_59⟩, ⟨Z44_60⟩, ⟨Z44_61⟩, ⟨Z44_30⟩⟩
  case round =>
    clear H'
    try clear c1
    try clear c2
    try clear p2
    try clear hx2
    try clear hf2
    try clear c3
    try clear c4
    try clear c5
    try clear c5b0
    try clear c6
    try clear c6b0
    try clear c7
    try clear c7b0
    try clear c8
    try clear p8
    try clear q8
    try clear hx8
    try clear hf8
    try clear c10
    try clear c12
    try clear c13
    try clear c18
    try clear c19
    try clear c20
    try clear c24
    try clear c29
    try clear hx29
    try clear hf29
    try clear c36
    try clear c37
    try clear c42
    try clear c43
    try clear c44
    try clear c48
    try clear hcz14_09
    try clear hcz14_19
    try clear hcz14_29
    try clear hcz14_39
    try clear hcz21_09
    try clear hcz21_19
    try clear hcz21_29
    try clear hcz21_39
    try clear hcz23_09
    try clear hcz23_19
    try clear hcz23_29
    try clear hcz23_39
    try clear hcz25_09
    try clear hcz25_19
    try clear hcz25_109
    try clear hcz25_119
    try clear hcz25_129
    try clear hcz25_29
    try clear hcz25_39
    try clear hcz25_49
    try clear hcz25_59
    try clear hcz25_69
    try clear hcz25_79
    try clear hcz25_89
    try clear hcz25_99
    try clear hcz27_0
    try clear hcz27_1
    try clear hcz27_2
    try clear hcz27_3
    try clear hcz28_0
    try clear hcz28_1
    try clear hcz28_10
    try clear hcz28_11
    try clear hcz28_12
    try clear hcz28_2
    try clear hcz28_3
    try clear hcz28_4
    try clear hcz28_5
    try clear hcz28_6
    try clear hcz28_7
    try clear hcz28_8
    try clear hcz28_9
    try clear hcz31_0
    try clear hcz31_1
    try clear hcz31_2
    try clear hcz31_3
    try clear hcz32_0
    try clear hcz32_1
    try clear hcz32_2
    try clear hcz32_3
    try clear hcz14_0
    try clear hcz14_1
    try clear hcz14_2
    try clear hcz14_3
    try clear hcz21_0
    try clear hcz21_1
    try clear hcz21_2
    try clear hcz21_3
    try clear hcz23_0
    try clear hcz23_1
    try clear hcz23_2
    try clear hcz23_3
    try clear hcz25_0
    try clear hcz25_1
    try clear hcz25_10
    try clear hcz25_11
    try clear hcz25_12
    try clear hcz25_2
    try clear hcz25_3
    try clear hcz25_4
    try clear hcz25_5
    try clear hcz25_6
    try clear hcz25_7
    try clear hcz25_8
    try clear hcz25_9
    try clear hfz14_09
    try clear hfz14_19
    try clear hfz14_29
    try clear hfz14_39
    try clear hfz21_09
    try clear hfz21_19
    try clear hfz21_29
    try clear hfz21_39
    try clear hfz23_09
    try clear hfz23_19
    try clear hfz23_29
    try clear hfz23_39
    try clear hfz25_09
    try clear hfz25_19
    try clear hfz25_109
    try clear hfz25_119
    try clear hfz25_129
    try clear hfz25_29
    try clear hfz25_39
    try clear hfz25_49
    try clear hfz25_59
    try clear hfz25_69
    try clear hfz25_79
    try clear hfz25_89
    try clear hfz25_99
    try clear hfz27_0
    try clear hfz27_1
    try clear hfz27_2
    try clear hfz27_3
    try clear hfz28_0
    try clear hfz28_1
    try clear hfz28_10
    try clear hfz28_11
    try clear hfz28_12
    try clear hfz28_2
    try clear hfz28_3
    try clear hfz28_4
    try clear hfz28_5
    try clear hfz28_6
    try clear hfz28_7
    try clear hfz28_8
    try clear hfz28_9
    try clear hfz31_0
    try clear hfz31_1
    try clear hfz31_2
    try clear hfz31_3
    try clear hfz32_0
    try clear hfz32_1
    try clear hfz32_2
    try clear hfz32_3
    try clear hfz14_0
    try clear hfz14_1
    try clear hfz14_2
    try clear hfz14_3
    try clear hfz21_0
    try clear hfz21_1
    try clear hfz21_2
    try clear hfz21_3
    try clear hfz23_0
    try clear hfz23_1
    try clear hfz23_2
    try clear hfz23_3
    try clear hfz25_0
    try clear hfz25_1
    try clear hfz25_10
    try clear hfz25_11
    try clear hfz25_12
    try clear hfz25_2
    try clear hfz25_3
    try clear hfz25_4
    try clear hfz25_5
    try clear hfz25_6
    try clear hfz25_7
    try clear hfz25_8
    try clear hfz25_9
    try clear hx29_0
    try clear hx29_1
    try clear hx29_10
    try clear hx29_11
    try clear hx29_12
    try clear hx29_2
    try clear hx29_3
    try clear hx29_4
    try clear hx29_5
    try clear hx29_6
    try clear hx29_7
    try clear hx29_8
    try clear hx29_9
    try clear hx8_0
    try clear hx8_1
    try clear hx8_10
    try clear hx8_11
    try clear hx8_12
    try clear hx8_2
    try clear hx8_3
    try clear hx8_4
    try clear hx8_5
    try clear hx8_6
    try clear hx8_7
    try clear hx8_8
    try clear hx8_9
    try clear p8
    try clear q8
    obtain ⟨x6_1, rfl, HA, HK1, HO_1208000, HO_1208001, BK1196, BK1197, BK1198, BK1207, HB⟩ := hrel
    cases gk with
    | zero => exact absurd HA.out (by simp [spec_SetPiece.l0])
    | succ k1 =>
      have H := HA.out
      clear HA
      simp only [spec_SetPiece.l0] at H
      by_cases c51 : x6_1 < (l0_0.length : Int)
      rotate_left
      · rw [if_neg c51] at H
        have c51b0 : decide (x6_1 < (l0_0.length : Int)) = false := decide_eq_false c51
        clear c51
        obtain ⟨y1234, hy1234⟩ : ∃ y_ : List (S25), y_ = (([] : List (S25))) := ⟨_, rfl⟩
        replace H : (if 0 ≤ x6_1 then (if x6_1 ≤ (l0_0.length : Int) then ((some (l0_0.take (x6_1 : Int).toNat : List (S25))).bind fun y1237 => (if y1234.length + y1237.length < 1466015503701 then ((some (y1234 ++ y1237 : List (S25))).bind fun y1241 => ((some (([(⟨a1_0, a1_1, a1_2, a1_3, a1_4, a1_5, a1_6, a1_7, a1_8, a1_9, a1_10, a1_11, a1_12⟩ : S25)] : List (S25)) : List (S25))).bind fun y1244 => (if y1241.length + y1244.length < 1466015503701 then ((some (y1241 ++ y1244 : List (S25))).bind fun y1247 => ((some (l0_0.drop (x6_1 : Int).toNat : List (S25))).bind fun y1250 => (if y1247.length + y1250.length < 1466015503701 then (some ((y1247 ++ y1250), t1202, t1205, t1206)) else (none)))) else (none)))) else (none))) else (none)) else (none)) = some (r1, r2, r3, r4) := by first | (rw [hy1234]; with_reducible exact H) | (have H2_ := (Option.bind_some _ _).symm.trans H; rw [hy1234]; with_reducible exact H2_) | (have H2_ := (Option.bind_some _ _).symm.trans H; with_reducible exact H2_) | with_reducible exact H | (rw [hy1234]; exact H) | exact H
        have Ny1234 := Aside0.mk hy1234
        clear hy1234
        by_cases c84 : 0 ≤ x6_1
        rotate_left
        · rw [if_neg c84] at H
          exact absurd H (by simp)
        rw [if_pos c84] at H
        have c84b0 := eq_true c84
        have c84b1 : decide (0 ≤ x6_1) = true := decide_eq_true c84
        clear c84
        by_cases c85 : x6_1 ≤ (l0_0.length : Int)
        rotate_left
        · rw [if_neg c85] at H
          exact absurd H (by simp)
        rw [if_pos c85] at H
        have c85b0 := eq_true c85
        have c85b1 : decide (x6_1 ≤ (l0_0.length : Int)) = true := decide_eq_true c85
        clear c85
        obtain ⟨y1237, hy1237⟩ : ∃ y_ : List (S25), y_ = (l0_0.take (x6_1 : Int).toNat) := ⟨_, rfl⟩
        replace H : (if y1234.length + y1237.length < 1466015503701 then ((some (y1234 ++ y1237 : List (S25))).bind fun y1241 => ((some (([(⟨a1_0, a1_1, a1_2, a1_3, a1_4, a1_5, a1_6, a1_7, a1_8, a1_9, a1_10, a1_11, a1_12⟩ : S25)] : List (S25)) : List (S25))).bind fun y1244 => (if y1241.length + y1244.length < 1466015503701 then ((some (y1241 ++ y1244 : List (S25))).bind fun y1247 => ((some (l0_0.drop (x6_1 : Int).toNat : List (S25))).bind fun y1250 => (if y1247.length + y1250.length < 1466015503701 then (some ((y1247 ++ y1250), t1202, t1205, t1206)) else (none)))) else (none)))) else (none)) = some (r1, r2, r3, r4) := by first | (rw [hy1237]; with_reducible exact H) | (have H2_ := (Option.bind_some _ _).symm.trans H; rw [hy1237]; with_reducible exact H2_) | (have H2_ := (Option.bind_some _ _).symm.trans H; with_reducible exact H2_) | with_reducible exact H | (rw [hy1237]; exact H) | exact H
        have Ny1237 := Aside0.mk hy1237
        clear hy1237
        by_cases c86 : y1234.length + y1237.length < 1466015503701
        rotate_left
        · rw [if_neg c86] at H
          exact absurd H (by simp)
        rw [if_pos c86] at H
        have LMc86 := Aside0.mk c86
        clear c86
        obtain ⟨y1241, hy1241⟩ : ∃ y_ : List (S25), y_ = (y1234 ++ y1237) := ⟨_, rfl⟩
        replace H : ((some (([(⟨a1_0, a1_1, a1_2, a1_3, a1_4, a1_5, a1_6, a1_7, a1_8, a1_9, a1_10, a1_11, a1_12⟩ : S25)] : List (S25)) : List (S25))).bind fun y1244 => (if y1241.length + y1244.length < 1466015503701 then ((some (y1241 ++ y1244 : List (S25))).bind fun y1247 => ((some (l0_0.drop (x6_1 : Int).toNat : List (S25))).bind fun y1250 => (if y1247.length + y1250.length < 1466015503701 then (some ((y1247 ++ y1250), t1202, t1205, t1206)) else (none)))) else (none))) = some (r1, r2, r3, r4) := by first | (rw [hy1241]; with_reducible exact H) | (have H2_ := (Option.bind_some _ _).symm.trans H; rw [hy1241]; with_reducible exact H2_) | (have H2_ := (Option.bind_some _ _).symm.trans H; with_reducible exact H2_) | with_reducible exact H | (rw [hy1241]; exact H) | exact H
        have Ny1241 := Aside0.mk hy1241
        clear hy1241
        obtain ⟨y1244, hy1244⟩ : ∃ y_ : List (S25), y_ = (([(⟨a1_0, a1_1, a1_2, a1_3, a1_4, a1_5, a1_6, a1_7, a1_8, a1_9, a1_10, a1_11, a1_12⟩ : S25)] : List (S25))) := ⟨_, rfl⟩
        replace H : (if y1241.length + y1244.length < 1466015503701 then ((some (y1241 ++ y1244 : List (S25))).bind fun y1247 => ((some (l0_0.drop (x6_1 : Int).toNat : List (S25))).bind fun y1250 => (if y1247.length + y1250.length < 1466015503701 then (some ((y1247 ++ y1250), t1202, t1205, t1206)) else (none)))) else (none)) = some (r1, r2, r3, r4) := by first | (rw [hy1244]; with_reducible exact H) | (have H2_ := (Option.bind_some _ _).symm.trans H; rw [hy1244]; with_reducible exact H2_) | (have H2_ := (Option.bind_some _ _).symm.trans H; with_reducible exact H2_) | with_reducible exact H | (rw [hy1244]; exact H) | exact H
        have Ny1244 := Aside0.mk hy1244
        clear hy1244
        by_cases c87 : y1241.length + y1244.length < 1466015503701
        rotate_left
        · rw [if_neg c87] at H
          exact absurd H (by simp)
        rw [if_pos c87] at H
        have LMc87 := Aside0.mk c87
        clear c87
        obtain ⟨y1247, hy1247⟩ : ∃ y_ : List (S25), y_ = (y1241 ++ y1244) := ⟨_, rfl⟩
        replace H : ((some (l0_0.drop (x6_1 : Int).toNat : List (S25))).bind fun y1250 => (if y1247.length + y1250.length < 1466015503701 then (some ((y1247 ++ y1250), t1202, t1205, t1206)) else (none))) = some (r1, r2, r3, r4) := by first | (rw [hy1247]; with_reducible exact H) | (have H2_ := (Option.bind_some _ _).symm.trans H; rw [hy1247]; with_reducible exact H2_) | (have H2_ := (Option.bind_some _ _).symm.trans H; with_reducible exact H2_) | with_reducible exact H | (rw [hy1247]; exact H) | exact H
        have Ny1247 := Aside0.mk hy1247
        clear hy1247
        have c88b0 := eq_true (of_decide_eq_true Z44_77 : 0 ≤ x6_1)
        have c89b0 := eq_true (of_decide_eq_true Z44_77 : x6_1 ≤ (l0_0.length : Int))
        obtain ⟨y1250, hy1250⟩ : ∃ y_ : List (S25), y_ = (l0_0.drop (x6_1 : Int).toNat) := ⟨_, rfl⟩
        replace H : (if y1247.length + y1250.length < 1466015503701 then (some ((y1247 ++ y1250), t1202, t1205, t1206)) else (none)) = some (r1, r2, r3, r4) := by first | (rw [hy1250]; with_reducible exact H) | (have H2_ := (Option.bind_some _ _).symm.trans H; rw [hy1250]; with_reducible exact H2_) | (have H2_ := (Option.bind_some _ _).symm.trans H; with_reducible exact H2_) | with_reducible exact H | (rw [hy1250]; exact H) | exact H
        have Ny1250 := Aside0.mk hy1250
        clear hy1250
        by_cases c90 : y1247.length + y1250.length < 1466015503701
        rotate_left
        · rw [if_neg c90] at H
          exact absurd H (by simp)
        rw [if_pos c90] at H
        have LMc90 := Aside0.mk c90
        clear c90
        obtain ⟨y1254, hy1254⟩ : ∃ y_ : List (S25), y_ = (y1247 ++ y1250) := ⟨_, rfl⟩
        replace H : (some (y1254, t1202, t1205, t1206)) = some (r1, r2, r3, r4) := by first | (rw [hy1254]; with_reducible exact H) | (have H2_ := (Option.bind_some _ _).symm.trans H; rw [hy1254]; with_reducible exact H2_) | (have H2_ := (Option.bind_some _ _).symm.trans H; with_reducible exact H2_) | with_reducible exact H | (rw [hy1254]; exact H) | exact H
        have Ny1254 := Aside0.mk hy1254
        clear hy1254
        simp only [Option.some.injEq, Prod.mk.injEq] at H
        obtain ⟨rfl, rfl, rfl, rfl⟩ := H
        try go_wp2
        have n0_ := Aside0.mk (Kd.R_drew HO_1208000.out)
        have n1_ := Aside0.mk (Kd.R_drew HO_1208001.out)
        have n2_ := Aside0.mk (blk_drew BK1196.out)
        have n3_ := Aside0.mk (blk_drew BK1197.out)
        have n4_ := Aside0.mk (blk_drew BK1198.out)
        have n5_ := Aside0.mk (blk_drew BK1207.out)
        have n6_ := Aside0.mk (below_drew1 HB.out)
        clear HO_1208000
        clear HO_1208001
        clear BK1196
        clear BK1197
        clear BK1198
        clear BK1207
        clear HB
        have HO_1208000 := n0_
        have HO_1208001 := n1_
        have BK1196 := n2_
        have BK1197 := n3_
        have BK1198 := n4_
        have BK1207 := n5_
        have HB := n6_
        clear n0_ n1_ n2_ n3_ n4_ n5_ n6_
        refine start_ (n := 16) (S := fun w' => w'.cell? ⟨gb1196, 0, none⟩ = some (.slice A0_0 l0_0.length c0_0) ∧ w'.cell? ⟨gb1196, 1, none⟩ = some (.slice A0_1 l0_1.length c0_1) ∧ w'.cell? ⟨gb1196, 2, none⟩ = some (.int .i64 a0_2) ∧ w'.cell? ⟨gb1196, 3, none⟩ = some (.int .i64 a0_3)) (ds := []) #[false, false, false, false, false, false, false, false, false, false, false, false, false, false, false, false] (by kernel_rfl) rfl rfl ⟨(blk_cell BK1196.out 0).trans rfl, (blk_cell BK1196.out 1).trans rfl, (blk_cell BK1196.out 2).trans rfl, (blk_cell BK1196.out 3).trans rfl⟩ (fun hHeld => ?_); refine with_tabW spec_SetPiece.tab7 spec_SetPiece.bits7 (fun HT_ HW_ => ?_)
        generalize wr.drew = w91 at HO_1208000 HO_1208001 BK1196 BK1197 BK1198 BK1207 HB hHeld ⊢
        refine pure_ (i := 0) (N := some 21) (v := _) (a' := _) (M44_16 1) rfl rfl (any_of HT_.out (by kernel_rfl)) (fun _ _ _ h => h) (Or.inl ⟨(by rfl), (by intro w'; go_simp; with_reducible rfl)⟩) Z44_65 ?_
        refine pure_ (i := 1) (N := some 22) (v := _) (a' := _) (M44_16 3) rfl rfl (any_of HT_.out (by kernel_rfl)) (fun _ _ _ h => h) (Or.inl ⟨(by rfl), (by intro w'; go_simp; with_reducible rfl)⟩) Z44_65 ?_
        refine take_ (i := 2) (N := some 23) (v := _) (a' := _) (M44_16 7) rfl rfl (take_ofW HT_.out HW_.out (by kernel_rfl)) (fun _ _ _ h => h) (Or.inl ⟨(by rfl), (by rintro w' ⟨s0, s1, s2, s3⟩; go_simp; with_reducible rfl)⟩) hHeld Z44_65 ?_
        refine pure_ (i := 3) (N := some 24) (v := _) (a' := _) (M44_16 15) rfl rfl (any_of HT_.out (by kernel_rfl)) (fun _ _ _ h => h) (Or.inl ⟨(by rfl), (by intro w'; go_simp; with_reducible rfl)⟩) Z44_65 ?_
        refine pure_ (i := 4) (N := some 25) (v := _) (a' := _) (M44_16 31) rfl rfl (any_of HT_.out (by kernel_rfl)) (fun _ _ _ h => h) (Or.inl ⟨(by rfl), (by intro w'; go_simp; with_reducible rfl)⟩) Z44_65 ?_
        refine pure_ (i := 5) (N := some 26) (v := _) (a' := _) (M44_16 63) rfl rfl (any_of HT_.out (by kernel_rfl)) (fun _ _ _ h => h) (Or.inl ⟨(by rfl), (by intro w'; go_simp; with_reducible rfl)⟩) Z44_65 ?_
        refine pure_ (i := 6) (N := some 27) (v := undef) (a' := ?_) (M44_16 127) rfl rfl (any_of HT_.out (by kernel_rfl)) (fun _ _ _ h => h) (Or.inr ⟨(by rfl), rfl⟩) ?_ ?_
        rotate_left
        · simp only [Act.put, List.setIfInBounds_toArray, List.set_cons_zero, List.set_cons_succ, i64_w, i32_w]
          rfl
        refine pure_ (i := 7) (N := some 28) (v := undef) (a' := ?_) (M44_16 255) rfl rfl (any_of HT_.out (by kernel_rfl)) (fun _ _ _ h => h) (Or.inr ⟨(by rfl), rfl⟩) ?_ ?_
        rotate_left
        · simp only [Act.put, List.setIfInBounds_toArray, List.set_cons_zero, List.set_cons_succ, i64_w, i32_w]
          rfl
        refine pure_ (i := 8) (N := some 29) (v := undef) (a' := ?_) (M44_16 511) rfl rfl (any_of HT_.out (by kernel_rfl)) (fun _ _ _ h => h) (Or.inr ⟨(by rfl), rfl⟩) ?_ ?_
        rotate_left
        · simp only [Act.put, List.setIfInBounds_toArray, List.set_cons_zero, List.set_cons_succ, i64_w, i32_w]
          rfl
        refine pure_ (i := 9) (N := some 30) (v := undef) (a' := ?_) (M44_16 1023) rfl rfl (any_of HT_.out (by kernel_rfl)) (fun _ _ _ h => h) (Or.inr ⟨(by rfl), rfl⟩) ?_ ?_
        rotate_left
        · simp only [Act.put, List.setIfInBounds_toArray, List.set_cons_zero, List.set_cons_succ, i64_w, i32_w]
          rfl
        refine pure_ (i := 10) (N := some 31) (v := undef) (a' := ?_) (M44_16 2047) rfl rfl (any_of HT_.out (by kernel_rfl)) (fun _ _ _ h => h) (Or.inr ⟨(by rfl), rfl⟩) ?_ ?_
        rotate_left
        · simp only [Act.put, List.setIfInBounds_toArray, List.set_cons_zero, List.set_cons_succ, i64_w, i32_w]
          rfl
        refine pure_ (i := 11) (N := some 32) (v := undef) (a' := ?_) (M44_16 4095) rfl rfl (any_of HT_.out (by kernel_rfl)) (fun _ _ _ h => h) (Or.inr ⟨(by rfl), rfl⟩) ?_ ?_
        rotate_left
        · simp only [Act.put, List.setIfInBounds_toArray, List.set_cons_zero, List.set_cons_succ, i64_w, i32_w]
          rfl
        refine pure_ (i := 12) (N := some 33) (v := undef) (a' := ?_) (M44_16 8191) rfl rfl (any_of HT_.out (by kernel_rfl)) (fun _ _ _ h => h) (Or.inr ⟨(by rfl), rfl⟩) ?_ ?_
        rotate_left
        · simp only [Act.put, List.setIfInBounds_toArray, List.set_cons_zero, List.set_cons_succ, i64_w, i32_w]
          rfl
        refine pure_ (i := 13) (N := some 34) (v := undef) (a' := ?_) (M44_16 16383) rfl rfl (any_of HT_.out (by kernel_rfl)) (fun _ _ _ h => h) (Or.inr ⟨(by rfl), rfl⟩) ?_ ?_
        rotate_left
        · simp only [Act.put, List.setIfInBounds_toArray, List.set_cons_zero, List.set_cons_succ, i64_w, i32_w]
          rfl
        refine pure_ (i := 14) (N := some 35) (v := undef) (a' := ?_) (M44_16 32767) rfl rfl (any_of HT_.out (by kernel_rfl)) (fun _ _ _ h => h) (Or.inr ⟨(by rfl), rfl⟩) ?_ ?_
        rotate_left
        · simp only [Act.put, List.setIfInBounds_toArray, List.set_cons_zero, List.set_cons_succ, i64_w, i32_w]
          rfl
        refine pure_ (i := 15) (N := some 36) (v := _) (a' := _) (M44_16 65535) rfl rfl (any_of HT_.out (by kernel_rfl)) (fun _ _ _ h => h) (Or.inl ⟨(by rfl), (by intro w'; go_simp; with_reducible rfl)⟩) Z44_65 ?_
        refine done_ (done_of HT_.out (by kernel_rfl)) ?_
        try go_wp2
        have n0_ := Aside0.mk (Kd.R_drew HO_1208000.out)
        have n1_ := Aside0.mk (Kd.R_drew HO_1208001.out)
        have n2_ := Aside0.mk (blk_drew BK1196.out)
        have n3_ := Aside0.mk (blk_drew BK1197.out)
        have n4_ := Aside0.mk (blk_drew BK1198.out)
        have n5_ := Aside0.mk (blk_drew BK1207.out)
        have n6_ := Aside0.mk (below_drew1 HB.out)
        clear HO_1208000
        clear HO_1208001
        clear BK1196
        clear BK1197
        clear BK1198
        clear BK1207
        clear HB
        have HO_1208000 := n0_
        have HO_1208001 := n1_
        have BK1196 := n2_
        have BK1197 := n3_
        have BK1198 := n4_
        have BK1207 := n5_
        have HB := n6_
        clear n0_ n1_ n2_ n3_ n4_ n5_ n6_
        have q93 : (x6_1 : Int) ≤ ((l0_0.length : Int) : Int) := of_decide_eq_true Z44_77
        obtain ⟨i093, hi093, _, hsz93, _⟩ := info_parts info25
        have hroom93 : l0_0.length ≤ c0_0 := HC0_0.out
        have hC93 : Kd.C k25 _ A0_0 l0_0.length l0_0 := HR0_0.out
        have hcut93 := cut_to (P := Try.prog) 53 25 .i64 Try.underlying53 hi093 A0_0 l0_0.length c0_0 x6_1 (of_decide_eq_true Z44_77) q93 hroom93
        have hr93 := Kd.C_take (m := (x6_1 : Int).toNat) hC93 (by omega)
        have hy93 : y1237.length = (x6_1 : Int).toNat := (by rw [Ny1237.out, List.length_take]; omega)
        rw [← Ny1237.out] at hr93
        rw [← hy93] at hcut93
        have HR1240 := Aside0.mk hr93
        have HC1240 := Aside0.mk (show y1237.length ≤ c0_0 from by omega)
        clear hr93 hC93 hroom93 hi093 hsz93
        have KY93 := Aside0.mk hy93
        clear hy93
        replace q93 := eq_true q93
        have q94 : (x6_1 : Int) ≤ ((l0_0.length : Int) : Int) := of_decide_eq_true Z44_77
        obtain ⟨i094, hi094, _, hsz94, _⟩ := info_parts info25
        have hroom94 : l0_0.length ≤ c0_0 := HC0_0.out
        have hC94 : Kd.C k25 _ A0_0 l0_0.length l0_0 := HR0_0.out
        have q094 : (0 : Int) ≤ (x6_1 : Int) := of_decide_eq_true Z44_77
        have hcut94 := cut_from (P := Try.prog) 53 25 .i64 Try.underlying53 hi094 13 hsz94 A0_0 l0_0.length c0_0 x6_1 q094 q94
        have hr94 := Kd.C_drop (m := (x6_1 : Int).toNat) (c := c0_0) hC94 (by omega) hroom94
        obtain ⟨A94, hA94⟩ : ∃ A1, A1 = (if c0_0 = (x6_1 : Int).toNat then A0_0 else (A0_0 : Option Addr).map (·.add ((x6_1 : Int).toNat * 13))) := ⟨_, rfl⟩
        obtain ⟨c94, hc94⟩ : ∃ c1, c1 = c0_0 - (x6_1 : Int).toNat := ⟨_, rfl⟩
        have hy94 : y1250.length = l0_0.length - (x6_1 : Int).toNat := (by rw [Ny1250.out, List.length_drop] <;> omega)
        rw [show (l0_0).drop (x6_1 : Int).toNat = y1250 from Ny1250.out.symm] at hr94
        replace hr94 : Kd.C k25 _ A94 y1250.length y1250 := (by rw [hA94]; exact hr94)
        rw [← hy94, ← hA94, ← hc94] at hcut94
        have HR1253 := Aside0.mk hr94
        have HC1253 := Aside0.mk (show y1250.length ≤ c94 from by rw [hy94, hc94]; exact Nat.sub_le_sub_right hroom94 _)
        clear hr94 hC94 hroom94 hi094 hsz94 hc94
        have KY94 := Aside0.mk hy94
        have KA94 := Aside0.mk hA94
        clear hy94 hA94
        replace q94 := eq_true q94
        refine start_ (n := 16) (S := fun w' => w'.cell? ⟨gb1196, 0, none⟩ = some (.slice A0_0 l0_0.length c0_0) ∧ w'.cell? ⟨gb1196, 1, none⟩ = some (.slice A0_1 l0_1.length c0_1) ∧ w'.cell? ⟨gb1196, 2, none⟩ = some (.int .i64 a0_2) ∧ w'.cell? ⟨gb1196, 3, none⟩ = some (.int .i64 a0_3) ∧ w'.cell? ⟨gb1197, 0, none⟩ = some (.int .i64 a1_0) ∧ w'.cell? ⟨gb1197, 1, none⟩ = some (.int .i64 a1_1) ∧ w'.cell? ⟨gb1197, 2, none⟩ = some (.int .i64 a1_2) ∧ w'.cell? ⟨gb1197, 3, none⟩ = some (.int .i64 a1_3) ∧ w'.cell? ⟨gb1197, 4, none⟩ = some (.int .i64 a1_4) ∧ w'.cell? ⟨gb1197, 5, none⟩ = some (.int .i64 a1_5) ∧ w'.cell? ⟨gb1197, 6, none⟩ = some (.int .i64 a1_6) ∧ w'.cell? ⟨gb1197, 7, none⟩ = some (.int .i64 a1_7) ∧ w'.cell? ⟨gb1197, 8, none⟩ = some (.int .i64 a1_8) ∧ w'.cell? ⟨gb1197, 9, none⟩ = some (.int .i64 a1_9) ∧ w'.cell? ⟨gb1197, 10, none⟩ = some (.int .i64 a1_10) ∧ w'.cell? ⟨gb1197, 11, none⟩ = some (.bool a1_11) ∧ w'.cell? ⟨gb1197, 12, none⟩ = some (.bool a1_12)) (ds := []) #[false, false, false, false, false, false, false, false, false, false, false, false, false, false, false, false] (by kernel_rfl) rfl rfl ⟨(blk_cell BK1196.out 0).trans rfl, (blk_cell BK1196.out 1).trans rfl, (blk_cell BK1196.out 2).trans rfl, (blk_cell BK1196.out 3).trans rfl, (blk_cell BK1197.out 0).trans rfl, (blk_cell BK1197.out 1).trans rfl, (blk_cell BK1197.out 2).trans rfl, (blk_cell BK1197.out 3).trans rfl, (blk_cell BK1197.out 4).trans rfl, (blk_cell BK1197.out 5).trans rfl, (blk_cell BK1197.out 6).trans rfl, (blk_cell BK1197.out 7).trans rfl, (blk_cell BK1197.out 8).trans rfl, (blk_cell BK1197.out 9).trans rfl, (blk_cell BK1197.out 10).trans rfl, (blk_cell BK1197.out 11).trans rfl, (blk_cell BK1197.out 12).trans rfl⟩ (fun hHeld => ?_); refine with_tabW spec_SetPiece.tab9 spec_SetPiece.bits9 (fun HT_ HW_ => ?_)
        generalize w91.drew = w92 at HO_1208000 HO_1208001 BK1196 BK1197 BK1198 BK1207 HB HR1240 HR1253 hHeld ⊢
        refine pure_ (i := 1) (N := some 40) (v := _) (a' := _) (M44_16 2) rfl rfl (any_of HT_.out (by kernel_rfl)) (fun _ _ _ h => h) (Or.inl ⟨(by rfl), (by intro w'; go_simp; with_reducible rfl)⟩) Z44_65 ?_
        refine pure_ (i := 3) (N := some 42) (v := _) (a' := _) (M44_16 10) rfl rfl (any_of HT_.out (by kernel_rfl)) (fun _ _ _ h => h) (Or.inl ⟨(by rfl), (by intro w'; go_simp; with_reducible rfl)⟩) Z44_65 ?_
        refine pure_ (i := 9) (N := some 48) (v := _) (a' := _) (M44_16 522) rfl rfl (any_of HT_.out (by kernel_rfl)) (fun _ _ _ h => h) (Or.inl ⟨(by rfl), (by intro w'; go_simp; with_reducible rfl)⟩) Z44_65 ?_
        refine pure_ (i := 11) (N := some 50) (v := _) (a' := _) (M44_16 2570) rfl rfl (any_of HT_.out (by kernel_rfl)) (fun _ _ _ h => h) (Or.inl ⟨(by rfl), (by intro w'; go_simp; with_reducible rfl)⟩) Z44_65 ?_
        refine take_ (i := 2) (N := some 41) (v := _) (a' := _) (M44_16 2574) rfl rfl (take_ofW HT_.out HW_.out (by kernel_rfl)) (fun _ _ _ h => h) (Or.inl ⟨(by rfl), Z44_62⟩) hHeld Z44_65 ?_
        refine pure_ (i := 4) (N := some 43) (v := _) (a' := _) (M44_16 2590) rfl rfl (any_of HT_.out (by kernel_rfl)) (fun _ _ _ h => h) (Or.inl ⟨(by rfl), (by intro w'; go_simp; with_reducible rfl)⟩) Z44_65 ?_
        refine take_ (i := 6) (N := some 45) (v := _) (a' := _) (M44_16 2654) rfl rfl (take_ofW HT_.out HW_.out (by kernel_rfl)) (fun _ _ _ h => h) (Or.inl ⟨(by rfl), Z44_62⟩) hHeld Z44_65 ?_
        refine take_ (i := 10) (N := some 49) (v := _) (a' := _) (M44_16 3678) rfl rfl (take_ofW HT_.out HW_.out (by kernel_rfl)) (fun _ _ _ h => h) (Or.inl ⟨(by rfl), Z44_62⟩) hHeld Z44_65 ?_
        refine pure_ (i := 12) (N := some 51) (v := _) (a' := _) (M44_16 7774) rfl rfl (any_of HT_.out (by kernel_rfl)) (fun _ _ _ h => h) (Or.inl ⟨(by rfl), (by intro w'; go_simp; with_reducible rfl)⟩) Z44_65 ?_
        refine join_ (σ := Value × Value × Value) 4 (M44_16 7935) (fun s_ => [(39, s_.1), (44, s_.2.1), (46, s_.2.2)]) (fun s_ w' => (w'.cell? ⟨gb1196, 0, none⟩ = some (.slice A0_0 l0_0.length c0_0) ∧ w'.cell? ⟨gb1196, 1, none⟩ = some (.slice A0_1 l0_1.length c0_1) ∧ w'.cell? ⟨gb1196, 2, none⟩ = some (.int .i64 a0_2) ∧ w'.cell? ⟨gb1196, 3, none⟩ = some (.int .i64 a0_3) ∧ w'.cell? ⟨gb1197, 0, none⟩ = some (.int .i64 a1_0) ∧ w'.cell? ⟨gb1197, 1, none⟩ = some (.int .i64 a1_1) ∧ w'.cell? ⟨gb1197, 2, none⟩ = some (.int .i64 a1_2) ∧ w'.cell? ⟨gb1197, 3, none⟩ = some (.int .i64 a1_3) ∧ w'.cell? ⟨gb1197, 4, none⟩ = some (.int .i64 a1_4) ∧ w'.cell? ⟨gb1197, 5, none⟩ = some (.int .i64 a1_5) ∧ w'.cell? ⟨gb1197, 6, none⟩ = some (.int .i64 a1_6) ∧ w'.cell? ⟨gb1197, 7, none⟩ = some (.int .i64 a1_7) ∧ w'.cell? ⟨gb1197, 8, none⟩ = some (.int .i64 a1_8) ∧ w'.cell? ⟨gb1197, 9, none⟩ = some (.int .i64 a1_9) ∧ w'.cell? ⟨gb1197, 10, none⟩ = some (.int .i64 a1_10) ∧ w'.cell? ⟨gb1197, 11, none⟩ = some (.bool a1_11) ∧ w'.cell? ⟨gb1197, 12, none⟩ = some (.bool a1_12)) ∧ (Kd.R k25 25 w' w.heap.size (fun k_ => some k_ ≠ (s_.2.2 : Value).ownBlock ∧ some k_ ≠ (.slice Ao17 t1199.length co17 : Value).ownBlock ∧ k_ ≠ gb1197) s_.2.1 y1241) ∧ (Kd.R k25 25 w' w.heap.size (fun k_ => some k_ ≠ (s_.2.1 : Value).ownBlock ∧ some k_ ≠ (.slice Ao17 t1199.length co17 : Value).ownBlock ∧ k_ ≠ gb1197) s_.2.2 y1244) ∧ (Kd.R k25 25 w' w.heap.size (fun k_ => some k_ ≠ (s_.2.1 : Value).ownBlock ∧ some k_ ≠ (s_.2.2 : Value).ownBlock ∧ k_ ≠ gb1197) (.slice Ao17 t1199.length co17) t1199) ∧ (Kd.R k71 71 w' w.heap.size (fun _ => True) (.slice Ao22 t1202.length co22) t1202) ∧ (w'.heap[gb1196]? = some (.cells #[.slice A0_0 l0_0.length c0_0, .slice A0_1 l0_1.length c0_1, .int .i64 a0_2, .int .i64 a0_3] 56 (0, 0))) ∧ (w'.heap[gb1197]? = some (.cells #[.int .i64 a1_0, .int .i64 a1_1, .int .i64 a1_2, .int .i64 a1_3, .int .i64 a1_4, .int .i64 a1_5, .int .i64 a1_6, .int .i64 a1_7, .int .i64 a1_8, .int .i64 a1_9, .int .i64 a1_10, .bool a1_11, .bool a1_12] 25 (0, 0))) ∧ (w'.heap[gb1198]? = some (.cells #[.slice none 0 0, .slice none 0 0, .int .i64 0, .int .i64 0] 56 (0, 0))) ∧ (w'.heap[gb1207]? = some (.cells #[.slice Ao17 t1199.length co17, .slice Ao22 t1202.length co22, .int .i64 t1205, .int .i64 t1206] 56 (0, 0))) ∧ (Below w.heap.size w w')) ?_ ?_
        rotate_left
        · intro hCont
          refine two_ (i := 0) (j := 7) (Ni := some 39) (Nj := some 46) (M44_16 7775) (M44_16 7902) rfl rfl rfl rfl (two_of HT_.out (by kernel_rfl)) (by decide) (by decide) (fun K hK => ?_) (fun K hK => ?_)
          · skip
            refine Kd.R_lit_step k25 _ 25 ?hg (N := 39) ?hd (xs := ([] : List (S25))) (inner := []) (ok := fun _ => True) (okp := fun _ => True) ?hr ?hp (fun _ hk => hk) trivial (Below.refl _ _) (Nat.le_refl _) (by simp) ?_; (case hd => rfl); (case hg => rfl); (case hr => first | (go_simp; done) | (go_simp; rfl)); (case hp => exact (Reps.none _ _))
            intro v1235 w95 ho96 hb hg_ hnew_
            clear hg_ hnew_
            (first | rw [← Ny1234.out] at ho96 | (simp only [Int.reduceToNat] at ho96; rw [← Ny1234.out] at ho96))
            have n0_ := Aside0.mk Z44_50
            have n1_ := Aside0.mk Z44_55
            have n2_ := Aside0.mk Z44_3
            have n3_ := Aside0.mk Z44_29
            have n4_ := Aside0.mk Z44_13
            have n5_ := Aside0.mk Z44_35
            have n6_ := Aside0.mk Z44_28
            have n7_ := Aside0.mk Z44_24
            clear HO_1208000
            clear HO_1208001
            clear BK1196
            clear BK1197
            clear BK1198
            clear BK1207
            clear HB
            have HO_1208000 := n0_
            have HO_1208001 := n1_
            have HO1236 := n2_
            have BK1196 := n3_
            have BK1197 := n4_
            have BK1198 := n5_
            have BK1207 := n6_
            have HB := n7_
            clear n0_ n1_ n2_ n3_ n4_ n5_ n6_ n7_
            clear hb ho96
            refine hK.out _ _ (D44_4 BK1196.out (C44_13 BK1197.out).1) (fun hHeld => ?_)
            clear hK K
            refine norm_ (a' := ?_) ?_ ?_
            rotate_left
            · show Act.put _ (some 39) _ = _
              simp only [Act.put, List.setIfInBounds_toArray, List.set_cons_zero, List.set_cons_succ, i64_w, i32_w]
              rfl
            refine two_ (i := 5) (j := 7) (Ni := some 44) (Nj := some 46) (M44_16 7807) (M44_16 7903) rfl rfl rfl rfl (two_of HT_.out (by kernel_rfl)) (by decide) (by decide) (fun K hK => ?_) (fun K hK => ?_)
            · skip
              refine Kd.R_append_rows_step k25 (w0 := w) w.heap.size (by rfl) (.tmp 39) (.tmp 43) 53 25 (.agg #[(.int .i64 0), (.int .i64 0), (.int .i64 0), (.int .i64 0), (.int .i64 0), (.int .i64 0), (.int .i64 0), (.int .i64 0), (.int .i64 0), (.int .i64 0), (.int .i64 0), (.bool false), (.bool false)]) 96 rfl Try.underlying53 info25 rfl (by decide) (by omega) v1235 y1234 y1237 _ _ _ (fun k_ => some k_ ≠ (.slice Ao17 t1199.length co17 : Value).ownBlock ∧ k_ ≠ gb1197) (fun _ => False) rfl rfl ?aO ?aR (fun _ _ h => h) (fun _ h => h.elim) ?aF ?aB ?aS ?aL ?_
              (case aR => repeat (first | exact (Kd.C_below HR1240.out HB.out) | (with_reducible refine Kd.C_alloc ?_ _) | (with_reducible refine Kd.C_drewN ?_ _) | (with_reducible refine Kd.C_drew ?_)))
              (case aB => exact Z44_30)
              (case aF => exact (fun k_ hk => ⟨Kd.fresh' (Kd.R_lt Z44_63) k_ hk, Kd.freshB (g := gb1197) (o := .cells #[.int .i64 a1_0, .int .i64 a1_1, .int .i64 a1_2, .int .i64 a1_3, .int .i64 a1_4, .int .i64 a1_5, .int .i64 a1_6, .int .i64 a1_7, .int .i64 a1_8, .int .i64 a1_9, .int .i64 a1_10, .bool a1_11, .bool a1_12] 25 (0, 0)) Z44_59 k_ hk⟩))
              (case aO => exact (by (with_reducible repeat (first | apply Kd.R_alloc | apply Kd.R_drewN | apply Kd.R_drew)); exact Kd.R_mono HO1236.out (fun _ hk => ⟨hk.1.2, hk.2⟩)))
              (case aS => exact (below_size Z44_30))
              (case aL => have := LMc86.out; omega)
              intro v1242 w97 ho hb hg hat
              rw [← Ny1241.out] at ho
              have n0_ := Aside0.mk Z44_40
              have n1_ := Aside0.mk Z44_31
              have n2_ := Aside0.mk Z44_20
              have n3_ := Aside0.mk Z44_10
              have n4_ := Aside0.mk Z44_25
              have n5_ := Aside0.mk Z44_16
              have n6_ := Aside0.mk (hb)
              have n7_ := Aside0.mk (ho)
              clear HO_1208000
              clear HO_1208001
              clear BK1196
              clear BK1197
              clear BK1198
              clear BK1207
              clear HB
              clear HO1236
              have HO_1208000 := n0_
              have HO_1208001 := n1_
              have BK1196 := n2_
              have BK1197 := n3_
              have BK1198 := n4_
              have BK1207 := n5_
              have HB := n6_
              have HO1243 := n7_
              clear n0_ n1_ n2_ n3_ n4_ n5_ n6_ n7_
              clear ho hb hg hat
              refine hK.out _ _ (D44_4 BK1196.out (C44_13 BK1197.out).1) (fun hHeld => ?_)
              clear hK K
              refine norm_ (a' := ?_) ?_ ?_
              rotate_left
              · show Act.put _ (some 44) _ = _
                simp only [Act.put, List.setIfInBounds_toArray, List.set_cons_zero, List.set_cons_succ, i64_w, i32_w]
                rfl
              refine one_ (i := 7) (N := some 46) (M44_16 7935) rfl rfl (one_of HT_.out (by kernel_rfl)) (by decide) (fun K hK => ?_)
              refine Kd.R_lit_step k25 _ 25 ?hg (N := 46) ?hd (xs := ([(⟨a1_0, a1_1, a1_2, a1_3, a1_4, a1_5, a1_6, a1_7, a1_8, a1_9, a1_10, a1_11, a1_12⟩ : S25)] : List (S25))) (inner := [.int .i64 a1_0, .int .i64 a1_1, .int .i64 a1_2, .int .i64 a1_3, .int .i64 a1_4, .int .i64 a1_5, .int .i64 a1_6, .int .i64 a1_7, .int .i64 a1_8, .int .i64 a1_9, .int .i64 a1_10, .bool a1_11, .bool a1_12]) (ok := fun _ => True) (okp := fun _ => True) ?hr ?hp (fun _ hk => hk) trivial (Below.refl _ _) (Nat.le_refl _) (by simp) ?_; (case hd => rfl); (case hg => rfl); (case hr => first | (go_simp; done) | (go_simp; rfl)); (case hp => exact (Reps.front (show Kd.M k25 _ _ _ (⟨a1_0, a1_1, a1_2, a1_3, a1_4, a1_5, a1_6, a1_7, a1_8, a1_9, a1_10, a1_11, a1_12⟩ : S25) [.int .i64 a1_0, .int .i64 a1_1, .int .i64 a1_2, .int .i64 a1_3, .int .i64 a1_4, .int .i64 a1_5, .int .i64 a1_6, .int .i64 a1_7, .int .i64 a1_8, .int .i64 a1_9, .int .i64 a1_10, .bool a1_11, .bool a1_12] from (k25_mkM _ _ _ (⟨a1_0, a1_1, a1_2, a1_3, a1_4, a1_5, a1_6, a1_7, a1_8, a1_9, a1_10, a1_11, a1_12⟩ : S25) )) rfl (Reps.none _ _) rfl))
              intro v1245 w98 ho99 hb hg_ hnew_
              clear hg_ hnew_
              (first | rw [← Ny1244.out] at ho99 | (simp only [Int.reduceToNat] at ho99; rw [← Ny1244.out] at ho99))
              have n0_ := Aside0.mk (Kd.R_elder' Z44_63 (Kd.R_base ho99) hb)
              have n1_ := Aside0.mk Z44_55
              have n2_ := Aside0.mk (Kd.R_elder' Z44_68 (Kd.R_base ho99) hb)
              have n3_ := Aside0.mk (Kd.R_lower (Kd.R_newB (Kd.R_new' (Kd.R_new' ho99 (Kd.R_lt Z44_63)) (Kd.R_lt Z44_68)) (g := gb1197) (o := .cells #[.int .i64 a1_0, .int .i64 a1_1, .int .i64 a1_2, .int .i64 a1_3, .int .i64 a1_4, .int .i64 a1_5, .int .i64 a1_6, .int .i64 a1_7, .int .i64 a1_8, .int .i64 a1_9, .int .i64 a1_10, .bool a1_11, .bool a1_12] 25 (0, 0)) Z44_59) (below_size Z44_30))
              have n4_ := Aside0.mk Z44_29
              have n5_ := Aside0.mk Z44_13
              have n6_ := Aside0.mk Z44_35
              have n7_ := Aside0.mk Z44_28
              have n8_ := Aside0.mk Z44_24
              clear HO_1208000
              clear HO_1208001
              clear HO1243
              clear BK1196
              clear BK1197
              clear BK1198
              clear BK1207
              clear HB
              have HO_1208000 := n0_
              have HO_1208001 := n1_
              have HO1243 := n2_
              have HO1246 := n3_
              have BK1196 := n4_
              have BK1197 := n5_
              have BK1198 := n6_
              have BK1207 := n7_
              have HB := n8_
              clear n0_ n1_ n2_ n3_ n4_ n5_ n6_ n7_ n8_
              clear hb ho99
              refine hK.out _ _ (D44_4 BK1196.out (C44_13 BK1197.out).1) (fun hHeld => ?_)
              clear hK K
              refine norm_ (a' := ?_) ?_ ?_
              rotate_left
              · show Act.put _ (some 46) _ = _
                simp only [Act.put, List.setIfInBounds_toArray, List.set_cons_zero, List.set_cons_succ, i64_w, i32_w]
                rfl
              exact norm_ Z44_75 (hCont (v1235, v1242, v1245) _ ⟨hHeld, (by (with_reducible repeat (first | apply Kd.R_alloc | apply Kd.R_drewN | apply Kd.R_drew)); exact Kd.R_mono HO1243.out (fun _ hk => ⟨hk.2, ⟨hk.1.1, hk.1.2⟩⟩)), (by (with_reducible repeat (first | apply Kd.R_alloc | apply Kd.R_drewN | apply Kd.R_drew)); exact Kd.R_mono HO1246.out (fun _ hk => ⟨hk.1.2, ⟨hk.1.1.2, hk.2⟩⟩)), Z44_41, Z44_64, Z44_58, Z44_59, Z44_60, Z44_61, Z44_30⟩)
            · skip
              refine Kd.R_lit_step k25 _ 25 ?hg (N := 46) ?hd (xs := ([(⟨a1_0, a1_1, a1_2, a1_3, a1_4, a1_5, a1_6, a1_7, a1_8, a1_9, a1_10, a1_11, a1_12⟩ : S25)] : List (S25))) (inner := [.int .i64 a1_0, .int .i64 a1_1, .int .i64 a1_2, .int .i64 a1_3, .int .i64 a1_4, .int .i64 a1_5, .int .i64 a1_6, .int .i64 a1_7, .int .i64 a1_8, .int .i64 a1_9, .int .i64 a1_10, .bool a1_11, .bool a1_12]) (ok := fun _ => True) (okp := fun _ => True) ?hr ?hp (fun _ hk => hk) trivial (Below.refl _ _) (Nat.le_refl _) (by simp) ?_; (case hd => rfl); (case hg => rfl); (case hr => first | (go_simp; done) | (go_simp; rfl)); (case hp => exact (Reps.front (show Kd.M k25 _ _ _ (⟨a1_0, a1_1, a1_2, a1_3, a1_4, a1_5, a1_6, a1_7, a1_8, a1_9, a1_10, a1_11, a1_12⟩ : S25) [.int .i64 a1_0, .int .i64 a1_1, .int .i64 a1_2, .int .i64 a1_3, .int .i64 a1_4, .int .i64 a1_5, .int .i64 a1_6, .int .i64 a1_7, .int .i64 a1_8, .int .i64 a1_9, .int .i64 a1_10, .bool a1_11, .bool a1_12] from (k25_mkM _ _ _ (⟨a1_0, a1_1, a1_2, a1_3, a1_4, a1_5, a1_6, a1_7, a1_8, a1_9, a1_10, a1_11, a1_12⟩ : S25) )) rfl (Reps.none _ _) rfl))
              intro v1245 w97 ho98 hb hg_ hnew_
              clear hg_ hnew_
              (first | rw [← Ny1244.out] at ho98 | (simp only [Int.reduceToNat] at ho98; rw [← Ny1244.out] at ho98))
              have n0_ := Aside0.mk Z44_51
              have n1_ := Aside0.mk Z44_55
              have n2_ := Aside0.mk (Kd.R_elder' Z44_67 (Kd.R_base ho98) hb)
              have n3_ := Aside0.mk (Kd.R_lower (Kd.R_newB (Kd.R_new' (Kd.R_new' ho98 (Kd.R_lt Z44_63)) (Kd.R_lt Z44_67)) (g := gb1197) (o := .cells #[.int .i64 a1_0, .int .i64 a1_1, .int .i64 a1_2, .int .i64 a1_3, .int .i64 a1_4, .int .i64 a1_5, .int .i64 a1_6, .int .i64 a1_7, .int .i64 a1_8, .int .i64 a1_9, .int .i64 a1_10, .bool a1_11, .bool a1_12] 25 (0, 0)) Z44_59) (below_size Z44_30))
              have n4_ := Aside0.mk Z44_29
              have n5_ := Aside0.mk Z44_13
              have n6_ := Aside0.mk Z44_35
              have n7_ := Aside0.mk Z44_28
              have n8_ := Aside0.mk Z44_24
              clear HO_1208000
              clear HO_1208001
              clear HO1236
              clear BK1196
              clear BK1197
              clear BK1198
              clear BK1207
              clear HB
              have HO_1208000 := n0_
              have HO_1208001 := n1_
              have HO1236 := n2_
              have HO1246 := n3_
              have BK1196 := n4_
              have BK1197 := n5_
              have BK1198 := n6_
              have BK1207 := n7_
              have HB := n8_
              clear n0_ n1_ n2_ n3_ n4_ n5_ n6_ n7_ n8_
              clear hb ho98
              refine hK.out _ _ (D44_4 BK1196.out (C44_13 BK1197.out).1) (fun hHeld => ?_)
              clear hK K
              refine norm_ (a' := ?_) ?_ ?_
              rotate_left
              · show Act.put _ (some 46) _ = _
                simp only [Act.put, List.setIfInBounds_toArray, List.set_cons_zero, List.set_cons_succ, i64_w, i32_w]
                rfl
              refine one_ (i := 5) (N := some 44) (M44_16 7935) rfl rfl (one_of HT_.out (by kernel_rfl)) (by decide) (fun K hK => ?_)
              refine Kd.R_append_rows_step k25 (w0 := w) w.heap.size (by rfl) (.tmp 39) (.tmp 43) 53 25 (.agg #[(.int .i64 0), (.int .i64 0), (.int .i64 0), (.int .i64 0), (.int .i64 0), (.int .i64 0), (.int .i64 0), (.int .i64 0), (.int .i64 0), (.int .i64 0), (.int .i64 0), (.bool false), (.bool false)]) 96 rfl Try.underlying53 info25 rfl (by decide) (by omega) v1235 y1234 y1237 _ _ _ (fun k_ => some k_ ≠ (.slice Ao17 t1199.length co17 : Value).ownBlock ∧ some k_ ≠ (v1245 : Value).ownBlock ∧ k_ ≠ gb1197) (fun _ => False) rfl rfl ?aO ?aR (fun _ _ h => h) (fun _ h => h.elim) ?aF ?aB ?aS ?aL ?_
              (case aR => repeat (first | exact (Kd.C_below HR1240.out HB.out) | (with_reducible refine Kd.C_alloc ?_ _) | (with_reducible refine Kd.C_drewN ?_ _) | (with_reducible refine Kd.C_drew ?_)))
              (case aB => exact Z44_30)
              (case aF => exact (fun k_ hk => ⟨Kd.fresh' (Kd.R_lt Z44_63) k_ hk, Kd.fresh' (Kd.R_lt Z44_69) k_ hk, Kd.freshB (g := gb1197) (o := .cells #[.int .i64 a1_0, .int .i64 a1_1, .int .i64 a1_2, .int .i64 a1_3, .int .i64 a1_4, .int .i64 a1_5, .int .i64 a1_6, .int .i64 a1_7, .int .i64 a1_8, .int .i64 a1_9, .int .i64 a1_10, .bool a1_11, .bool a1_12] 25 (0, 0)) Z44_59 k_ hk⟩))
              (case aO => exact (by (with_reducible repeat (first | apply Kd.R_alloc | apply Kd.R_drewN | apply Kd.R_drew)); exact Kd.R_mono HO1236.out (fun _ hk => ⟨hk.1.1.2, ⟨hk.2, hk.1.2⟩⟩)))
              (case aS => exact (below_size Z44_30))
              (case aL => have := LMc86.out; omega)
              intro v1242 w99 ho hb hg hat
              rw [← Ny1241.out] at ho
              have n0_ := Aside0.mk (Kd.R_after (ok := (fun k_ => some k_ ≠ (v1245 : Value).ownBlock ∧ k_ ≠ gb1197)) Z44_42 hg hat)
              have n1_ := Aside0.mk Z44_31
              have n2_ := Aside0.mk Z44_20
              have n3_ := Aside0.mk (blk_grown (g := gb1197) (o := .cells #[.int .i64 a1_0, .int .i64 a1_1, .int .i64 a1_2, .int .i64 a1_3, .int .i64 a1_4, .int .i64 a1_5, .int .i64 a1_6, .int .i64 a1_7, .int .i64 a1_8, .int .i64 a1_9, .int .i64 a1_10, .bool a1_11, .bool a1_12] 25 (0, 0)) Z44_59 hg (Kd.R_away HO1236.out (fun _ hk => hk.1.2)))
              have n4_ := Aside0.mk Z44_25
              have n5_ := Aside0.mk Z44_16
              have n6_ := Aside0.mk (Kd.R_after (ok := (fun k_ => some k_ ≠ (.slice Ao17 t1199.length co17 : Value).ownBlock ∧ k_ ≠ gb1197)) (by (with_reducible repeat (first | apply Kd.R_alloc | apply Kd.R_drewN | apply Kd.R_drew)); exact Kd.R_mono HO1246.out (fun _ hk => ⟨⟨hk.1.1.2, hk.2⟩, hk.1.2⟩)) hg hat)
              have n7_ := Aside0.mk (hb)
              have n8_ := Aside0.mk (ho)
              clear HO_1208000
              clear HO_1208001
              clear BK1196
              clear BK1197
              clear BK1198
              clear BK1207
              clear HO1246
              clear HB
              clear HO1236
              have HO_1208000 := n0_
              have HO_1208001 := n1_
              have BK1196 := n2_
              have BK1197 := n3_
              have BK1198 := n4_
              have BK1207 := n5_
              have HO1246 := n6_
              have HB := n7_
              have HO1243 := n8_
              clear n0_ n1_ n2_ n3_ n4_ n5_ n6_ n7_ n8_
              clear ho hb hg hat
              refine hK.out _ _ (D44_4 BK1196.out (C44_13 BK1197.out).1) (fun hHeld => ?_)
              clear hK K
              refine norm_ (a' := ?_) ?_ ?_
              rotate_left
              · show Act.put _ (some 44) _ = _
                simp only [Act.put, List.setIfInBounds_toArray, List.set_cons_zero, List.set_cons_succ, i64_w, i32_w]
                rfl
              exact norm_ Z44_75 (hCont (v1235, v1242, v1245) _ ⟨hHeld, Z44_46, Z44_47, Z44_43, Z44_64, Z44_58, Z44_59, Z44_60, Z44_61, Z44_30⟩)
          · skip
            refine Kd.R_lit_step k25 _ 25 ?hg (N := 46) ?hd (xs := ([(⟨a1_0, a1_1, a1_2, a1_3, a1_4, a1_5, a1_6, a1_7, a1_8, a1_9, a1_10, a1_11, a1_12⟩ : S25)] : List (S25))) (inner := [.int .i64 a1_0, .int .i64 a1_1, .int .i64 a1_2, .int .i64 a1_3, .int .i64 a1_4, .int .i64 a1_5, .int .i64 a1_6, .int .i64 a1_7, .int .i64 a1_8, .int .i64 a1_9, .int .i64 a1_10, .bool a1_11, .bool a1_12]) (ok := fun _ => True) (okp := fun _ => True) ?hr ?hp (fun _ hk => hk) trivial (Below.refl _ _) (Nat.le_refl _) (by simp) ?_; (case hd => rfl); (case hg => rfl); (case hr => first | (go_simp; done) | (go_simp; rfl)); (case hp => exact (Reps.front (show Kd.M k25 _ _ _ (⟨a1_0, a1_1, a1_2, a1_3, a1_4, a1_5, a1_6, a1_7, a1_8, a1_9, a1_10, a1_11, a1_12⟩ : S25) [.int .i64 a1_0, .int .i64 a1_1, .int .i64 a1_2, .int .i64 a1_3, .int .i64 a1_4, .int .i64 a1_5, .int .i64 a1_6, .int .i64 a1_7, .int .i64 a1_8, .int .i64 a1_9, .int .i64 a1_10, .bool a1_11, .bool a1_12] from (k25_mkM _ _ _ (⟨a1_0, a1_1, a1_2, a1_3, a1_4, a1_5, a1_6, a1_7, a1_8, a1_9, a1_10, a1_11, a1_12⟩ : S25) )) rfl (Reps.none _ _) rfl))
            intro v1245 w95 ho96 hb hg_ hnew_
            clear hg_ hnew_
            (first | rw [← Ny1244.out] at ho96 | (simp only [Int.reduceToNat] at ho96; rw [← Ny1244.out] at ho96))
            have n0_ := Aside0.mk Z44_50
            have n1_ := Aside0.mk Z44_55
            have n2_ := Aside0.mk Z44_3
            have n3_ := Aside0.mk Z44_29
            have n4_ := Aside0.mk Z44_13
            have n5_ := Aside0.mk Z44_35
            have n6_ := Aside0.mk Z44_28
            have n7_ := Aside0.mk Z44_24
            clear HO_1208000
            clear HO_1208001
            clear BK1196
            clear BK1197
            clear BK1198
            clear BK1207
            clear HB
            have HO_1208000 := n0_
            have HO_1208001 := n1_
            have HO1246 := n2_
            have BK1196 := n3_
            have BK1197 := n4_
            have BK1198 := n5_
            have BK1207 := n6_
            have HB := n7_
            clear n0_ n1_ n2_ n3_ n4_ n5_ n6_ n7_
            clear hb ho96
            refine hK.out _ _ (D44_4 BK1196.out (C44_13 BK1197.out).1) (fun hHeld => ?_)
            clear hK K
            refine norm_ (a' := ?_) ?_ ?_
            rotate_left
            · show Act.put _ (some 46) _ = _
              simp only [Act.put, List.setIfInBounds_toArray, List.set_cons_zero, List.set_cons_succ, i64_w, i32_w]
              rfl
            refine one_ (i := 0) (N := some 39) (M44_16 7903) rfl rfl (one_of HT_.out (by kernel_rfl)) (by decide) (fun K hK => ?_)
            refine Kd.R_lit_step k25 _ 25 ?hg (N := 39) ?hd (xs := ([] : List (S25))) (inner := []) (ok := fun _ => True) (okp := fun _ => True) ?hr ?hp (fun _ hk => hk) trivial (Below.refl _ _) (Nat.le_refl _) (by simp) ?_; (case hd => rfl); (case hg => rfl); (case hr => first | (go_simp; done) | (go_simp; rfl)); (case hp => exact (Reps.none _ _))
            intro v1235 w97 ho98 hb hg_ hnew_
            clear hg_ hnew_
            (first | rw [← Ny1234.out] at ho98 | (simp only [Int.reduceToNat] at ho98; rw [← Ny1234.out] at ho98))
            have n0_ := Aside0.mk Z44_51
            have n1_ := Aside0.mk Z44_55
            have n2_ := Aside0.mk (Kd.R_elder' Z44_69 (Kd.R_base ho98) hb)
            have n3_ := Aside0.mk (Kd.R_lower (Kd.R_newB (Kd.R_new' (Kd.R_new' ho98 (Kd.R_lt Z44_63)) (Kd.R_lt Z44_69)) (g := gb1197) (o := .cells #[.int .i64 a1_0, .int .i64 a1_1, .int .i64 a1_2, .int .i64 a1_3, .int .i64 a1_4, .int .i64 a1_5, .int .i64 a1_6, .int .i64 a1_7, .int .i64 a1_8, .int .i64 a1_9, .int .i64 a1_10, .bool a1_11, .bool a1_12] 25 (0, 0)) Z44_59) (below_size Z44_30))
            have n4_ := Aside0.mk Z44_29
            have n5_ := Aside0.mk Z44_13
            have n6_ := Aside0.mk Z44_35
            have n7_ := Aside0.mk Z44_28
            have n8_ := Aside0.mk Z44_24
            clear HO_1208000
            clear HO_1208001
            clear HO1246
            clear BK1196
            clear BK1197
            clear BK1198
            clear BK1207
            clear HB
            have HO_1208000 := n0_
            have HO_1208001 := n1_
            have HO1246 := n2_
            have HO1236 := n3_
            have BK1196 := n4_
            have BK1197 := n5_
            have BK1198 := n6_
            have BK1207 := n7_
            have HB := n8_
            clear n0_ n1_ n2_ n3_ n4_ n5_ n6_ n7_ n8_
            clear hb ho98
            refine hK.out _ _ (D44_4 BK1196.out (C44_13 BK1197.out).1) (fun hHeld => ?_)
            clear hK K
            refine norm_ (a' := ?_) ?_ ?_
            rotate_left
            · show Act.put _ (some 39) _ = _
              simp only [Act.put, List.setIfInBounds_toArray, List.set_cons_zero, List.set_cons_succ, i64_w, i32_w]
              rfl
            refine one_ (i := 5) (N := some 44) (M44_16 7935) rfl rfl (one_of HT_.out (by kernel_rfl)) (by decide) (fun K hK => ?_)
            refine Kd.R_append_rows_step k25 (w0 := w) w.heap.size (by rfl) (.tmp 39) (.tmp 43) 53 25 (.agg #[(.int .i64 0), (.int .i64 0), (.int .i64 0), (.int .i64 0), (.int .i64 0), (.int .i64 0), (.int .i64 0), (.int .i64 0), (.int .i64 0), (.int .i64 0), (.int .i64 0), (.bool false), (.bool false)]) 96 rfl Try.underlying53 info25 rfl (by decide) (by omega) v1235 y1234 y1237 _ _ _ (fun k_ => some k_ ≠ (.slice Ao17 t1199.length co17 : Value).ownBlock ∧ some k_ ≠ (v1245 : Value).ownBlock ∧ k_ ≠ gb1197) (fun _ => False) rfl rfl ?aO ?aR (fun _ _ h => h) (fun _ h => h.elim) ?aF ?aB ?aS ?aL ?_
            (case aR => repeat (first | exact (Kd.C_below HR1240.out HB.out) | (with_reducible refine Kd.C_alloc ?_ _) | (with_reducible refine Kd.C_drewN ?_ _) | (with_reducible refine Kd.C_drew ?_)))
            (case aB => exact Z44_30)
            (case aF => exact (fun k_ hk => ⟨Kd.fresh' (Kd.R_lt Z44_63) k_ hk, Kd.fresh' (Kd.R_lt Z44_69) k_ hk, Kd.freshB (g := gb1197) (o := .cells #[.int .i64 a1_0, .int .i64 a1_1, .int .i64 a1_2, .int .i64 a1_3, .int .i64 a1_4, .int .i64 a1_5, .int .i64 a1_6, .int .i64 a1_7, .int .i64 a1_8, .int .i64 a1_9, .int .i64 a1_10, .bool a1_11, .bool a1_12] 25 (0, 0)) Z44_59 k_ hk⟩))
            (case aO => exact (by (with_reducible repeat (first | apply Kd.R_alloc | apply Kd.R_drewN | apply Kd.R_drew)); exact Kd.R_mono HO1236.out (fun _ hk => ⟨hk.1.1.2, ⟨hk.1.2, hk.2⟩⟩)))
            (case aS => exact (below_size Z44_30))
            (case aL => have := LMc86.out; omega)
            intro v1242 w99 ho hb hg hat
            rw [← Ny1241.out] at ho
            have n0_ := Aside0.mk (Kd.R_after (ok := (fun k_ => some k_ ≠ (v1245 : Value).ownBlock ∧ k_ ≠ gb1197)) Z44_44 hg hat)
            have n1_ := Aside0.mk Z44_31
            have n2_ := Aside0.mk Z44_20
            have n3_ := Aside0.mk Z44_10
            have n4_ := Aside0.mk Z44_25
            have n5_ := Aside0.mk Z44_16
            have n6_ := Aside0.mk (Kd.R_after (ok := (fun k_ => some k_ ≠ (.slice Ao17 t1199.length co17 : Value).ownBlock ∧ k_ ≠ gb1197)) (by (with_reducible repeat (first | apply Kd.R_alloc | apply Kd.R_drewN | apply Kd.R_drew)); exact Kd.R_mono HO1246.out (fun _ hk => ⟨⟨hk.1.1.2, hk.1.2⟩, hk.2⟩)) hg hat)
            have n7_ := Aside0.mk (hb)
            have n8_ := Aside0.mk (ho)
            clear HO_1208000
            clear HO_1208001
            clear BK1196
            clear BK1197
            clear BK1198
            clear BK1207
            clear HO1246
            clear HB
            clear HO1236
            have HO_1208000 := n0_
            have HO_1208001 := n1_
            have BK1196 := n2_
            have BK1197 := n3_
            have BK1198 := n4_
            have BK1207 := n5_
            have HO1246 := n6_
            have HB := n7_
            have HO1243 := n8_
            clear n0_ n1_ n2_ n3_ n4_ n5_ n6_ n7_ n8_
            clear ho hb hg hat
            refine hK.out _ _ (D44_4 BK1196.out (C44_13 BK1197.out).1) (fun hHeld => ?_)
            clear hK K
            refine norm_ (a' := ?_) ?_ ?_
            rotate_left
            · show Act.put _ (some 44) _ = _
              simp only [Act.put, List.setIfInBounds_toArray, List.set_cons_zero, List.set_cons_succ, i64_w, i32_w]
              rfl
            exact norm_ Z44_75 (hCont (v1235, v1242, v1245) _ ⟨hHeld, Z44_46, Z44_47, Z44_43, Z44_64, Z44_58, Z44_59, Z44_60, Z44_61, Z44_30⟩)
        rintro ⟨v1235, v1242, v1245⟩ w100 ⟨hS_, h0_, h1_, h2_, h3_, h4_, h5_, h6_, h7_, h8_⟩
        have n0_ : Aside0 (Kd.R k25 25 w100 w.heap.size (fun k_ => some k_ ≠ (v1245 : Value).ownBlock ∧ some k_ ≠ (.slice Ao17 t1199.length co17 : Value).ownBlock ∧ k_ ≠ gb1197) v1242 y1241) := ⟨h0_⟩
        have n1_ : Aside0 (Kd.R k25 25 w100 w.heap.size (fun k_ => some k_ ≠ (v1242 : Value).ownBlock ∧ some k_ ≠ (.slice Ao17 t1199.length co17 : Value).ownBlock ∧ k_ ≠ gb1197) v1245 y1244) := ⟨h1_⟩
        have n2_ : Aside0 (Kd.R k25 25 w100 w.heap.size (fun k_ => some k_ ≠ (v1242 : Value).ownBlock ∧ some k_ ≠ (v1245 : Value).ownBlock ∧ k_ ≠ gb1197) (.slice Ao17 t1199.length co17) t1199) := ⟨h2_⟩
        have n3_ : Aside0 (Kd.R k71 71 w100 w.heap.size (fun _ => True) (.slice Ao22 t1202.length co22) t1202) := ⟨h3_⟩
        have n4_ : Aside0 (w100.heap[gb1196]? = some (.cells #[.slice A0_0 l0_0.length c0_0, .slice A0_1 l0_1.length c0_1, .int .i64 a0_2, .int .i64 a0_3] 56 (0, 0))) := ⟨h4_⟩
        have n5_ : Aside0 (w100.heap[gb1197]? = some (.cells #[.int .i64 a1_0, .int .i64 a1_1, .int .i64 a1_2, .int .i64 a1_3, .int .i64 a1_4, .int .i64 a1_5, .int .i64 a1_6, .int .i64 a1_7, .int .i64 a1_8, .int .i64 a1_9, .int .i64 a1_10, .bool a1_11, .bool a1_12] 25 (0, 0))) := ⟨h5_⟩
        have n6_ : Aside0 (w100.heap[gb1198]? = some (.cells #[.slice none 0 0, .slice none 0 0, .int .i64 0, .int .i64 0] 56 (0, 0))) := ⟨h6_⟩
        have n7_ : Aside0 (w100.heap[gb1207]? = some (.cells #[.slice Ao17 t1199.length co17, .slice Ao22 t1202.length co22, .int .i64 t1205, .int .i64 t1206] 56 (0, 0))) := ⟨h7_⟩
        have n8_ : Aside0 (Below w.heap.size w w100) := ⟨h8_⟩
        clear HO_1208000
        clear HO_1208001
        clear BK1196
        clear BK1197
        clear BK1198
        clear BK1207
        clear HB
        clear h0_ h1_ h2_ h3_ h4_ h5_ h6_ h7_ h8_
        have HO1243 := n0_
        have HO1246 := n1_
        have HO_1208000 := n2_
        have HO_1208001 := n3_
        have BK1196 := n4_
        have BK1197 := n5_
        have BK1198 := n6_
        have BK1207 := n7_
        have HB := n8_
        clear n0_ n1_ n2_ n3_ n4_ n5_ n6_ n7_ n8_
        have hHeld : w100.cell? ⟨gb1196, 0, none⟩ = some (.slice A0_0 l0_0.length c0_0) ∧ w100.cell? ⟨gb1196, 1, none⟩ = some (.slice A0_1 l0_1.length c0_1) ∧ w100.cell? ⟨gb1196, 2, none⟩ = some (.int .i64 a0_2) ∧ w100.cell? ⟨gb1196, 3, none⟩ = some (.int .i64 a0_3) ∧ w100.cell? ⟨gb1197, 0, none⟩ = some (.int .i64 a1_0) ∧ w100.cell? ⟨gb1197, 1, none⟩ = some (.int .i64 a1_1) ∧ w100.cell? ⟨gb1197, 2, none⟩ = some (.int .i64 a1_2) ∧ w100.cell? ⟨gb1197, 3, none⟩ = some (.int .i64 a1_3) ∧ w100.cell? ⟨gb1197, 4, none⟩ = some (.int .i64 a1_4) ∧ w100.cell? ⟨gb1197, 5, none⟩ = some (.int .i64 a1_5) ∧ w100.cell? ⟨gb1197, 6, none⟩ = some (.int .i64 a1_6) ∧ w100.cell? ⟨gb1197, 7, none⟩ = some (.int .i64 a1_7) ∧ w100.cell? ⟨gb1197, 8, none⟩ = some (.int .i64 a1_8) ∧ w100.cell? ⟨gb1197, 9, none⟩ = some (.int .i64 a1_9) ∧ w100.cell? ⟨gb1197, 10, none⟩ = some (.int .i64 a1_10) ∧ w100.cell? ⟨gb1197, 11, none⟩ = some (.bool a1_11) ∧ w100.cell? ⟨gb1197, 12, none⟩ = some (.bool a1_12) := hS_
        obtain ⟨Ao102, co102, eo102⟩ := Kd.R_slice HO1246.out
        (first | subst eo102 | (injection eo102 with f1_ f2_ f3_; have f4_ := f1_.symm; have f5_ := f3_.symm; clear f1_ f2_ f3_; subst f4_; subst f5_))
        refine norm_ (a' := ?_) ?_ ?_
        rotate_left
        · simp only [putAll, Act.put, List.setIfInBounds_toArray, List.set_cons_zero, List.set_cons_succ]
          rfl
        refine one_ (i := 8) (N := some 47) (M44_16 8191) rfl rfl (one_of HT_.out (by kernel_rfl)) (by decide) (fun K hK => ?_)
        refine Kd.R_append_rows_step k25 (w0 := w) w.heap.size (by rfl) (.tmp 44) (.tmp 46) 53 25 (.agg #[(.int .i64 0), (.int .i64 0), (.int .i64 0), (.int .i64 0), (.int .i64 0), (.int .i64 0), (.int .i64 0), (.int .i64 0), (.int .i64 0), (.int .i64 0), (.int .i64 0), (.bool false), (.bool false)]) 96 rfl Try.underlying53 info25 rfl (by decide) (by omega) v1242 y1241 y1244 _ _ _ (fun k_ => some k_ ≠ (.slice Ao17 t1199.length co17 : Value).ownBlock ∧ some k_ ≠ (.slice Ao102 y1244.length co102 : Value).ownBlock ∧ k_ ≠ gb1197) (fun _ => False) rfl rfl ?aO ?aR (fun _ _ h => h) (fun _ h => h.elim) ?aF ?aB ?aS ?aL ?_
        (case aR => repeat (first | exact (Kd.R_reads' HO1246.out).2.2 | (with_reducible refine Kd.C_alloc ?_ _) | (with_reducible refine Kd.C_drewN ?_ _) | (with_reducible refine Kd.C_drew ?_)))
        (case aB => exact Z44_30)
        (case aF => exact (fun k_ hk => ⟨Kd.fresh' (Kd.R_lt Z44_63) k_ hk, Kd.fresh' (Kd.R_lt Z44_69) k_ hk, Kd.freshB (g := gb1197) (o := .cells #[.int .i64 a1_0, .int .i64 a1_1, .int .i64 a1_2, .int .i64 a1_3, .int .i64 a1_4, .int .i64 a1_5, .int .i64 a1_6, .int .i64 a1_7, .int .i64 a1_8, .int .i64 a1_9, .int .i64 a1_10, .bool a1_11, .bool a1_12] 25 (0, 0)) Z44_59 k_ hk⟩))
        (case aO => exact Z44_46)
        (case aS => exact (below_size Z44_30))
        (case aL => have := LMc87.out; omega)
        intro v1248 w101 ho hb hg hat
        rw [← Ny1247.out] at ho
        have n0_ := Aside0.mk (Kd.R_after (ok := (fun k_ => some k_ ≠ (.slice Ao102 y1244.length co102 : Value).ownBlock ∧ k_ ≠ gb1197)) Z44_45 hg hat)
        have n1_ := Aside0.mk (Kd.R_over' Z44_64 (Kd.R_typed Z44_68) (by decide) hg)
        have n2_ := Aside0.mk (blk_grown (g := gb1196) (o := .cells #[.slice A0_0 l0_0.length c0_0, .slice A0_1 l0_1.length c0_1, .int .i64 a0_2, .int .i64 a0_3] 56 (0, 0)) Z44_58 hg (Kd.R_ne HO1243.out BK1196.out (by decide)))
        have n3_ := Aside0.mk (blk_grown (g := gb1197) (o := .cells #[.int .i64 a1_0, .int .i64 a1_1, .int .i64 a1_2, .int .i64 a1_3, .int .i64 a1_4, .int .i64 a1_5, .int .i64 a1_6, .int .i64 a1_7, .int .i64 a1_8, .int .i64 a1_9, .int .i64 a1_10, .bool a1_11, .bool a1_12] 25 (0, 0)) Z44_59 hg (Kd.R_away HO1243.out (fun _ hk => hk.2.2)))
        have n4_ := Aside0.mk (blk_grown (g := gb1198) (o := .cells #[.slice none 0 0, .slice none 0 0, .int .i64 0, .int .i64 0] 56 (0, 0)) Z44_60 hg (Kd.R_ne HO1243.out BK1198.out (by decide)))
        have n5_ := Aside0.mk (blk_grown (g := gb1207) (o := .cells #[.slice Ao17 t1199.length co17, .slice Ao22 t1202.length co22, .int .i64 t1205, .int .i64 t1206] 56 (0, 0)) Z44_61 hg (Kd.R_ne HO1243.out BK1207.out (by decide)))
        have n6_ := Aside0.mk (Kd.R_after (ok := (fun k_ => some k_ ≠ (.slice Ao17 t1199.length co17 : Value).ownBlock ∧ k_ ≠ gb1197)) (by (with_reducible repeat (first | apply Kd.R_alloc | apply Kd.R_drewN | apply Kd.R_drew)); exact Kd.R_mono HO1246.out (fun _ hk => ⟨⟨hk.2.1, hk.2.2⟩, hk.1⟩)) hg hat)
        have n7_ := Aside0.mk (hb)
        have n8_ := Aside0.mk (ho)
        clear HO_1208000
        clear HO_1208001
        clear BK1196
        clear BK1197
        clear BK1198
        clear BK1207
        clear HO1246
        clear HB
        clear HO1243
        have HO_1208000 := n0_
        have HO_1208001 := n1_
        have BK1196 := n2_
        have BK1197 := n3_
        have BK1198 := n4_
        have BK1207 := n5_
        have HO1246 := n6_
        have HB := n7_
        have HO1249 := n8_
        clear n0_ n1_ n2_ n3_ n4_ n5_ n6_ n7_ n8_
        clear ho hb hg hat
        refine hK.out _ _ (D44_4 BK1196.out (C44_13 BK1197.out).1) (fun hHeld => ?_)
        clear hK K
        refine norm_ (a' := ?_) ?_ ?_
        rotate_left
        · show Act.put _ (some 47) _ = _
          simp only [Act.put, List.setIfInBounds_toArray, List.set_cons_zero, List.set_cons_succ, i64_w, i32_w]
          rfl
        refine one_ (i := 13) (N := some 52) (M44_16 16383) rfl rfl (one_of HT_.out (by kernel_rfl)) (by decide) (fun K hK => ?_)
        refine Kd.R_append_rows_step k25 (w0 := w) w.heap.size (by rfl) (.tmp 47) (.tmp 51) 53 25 (.agg #[(.int .i64 0), (.int .i64 0), (.int .i64 0), (.int .i64 0), (.int .i64 0), (.int .i64 0), (.int .i64 0), (.int .i64 0), (.int .i64 0), (.int .i64 0), (.int .i64 0), (.bool false), (.bool false)]) 96 rfl Try.underlying53 info25 rfl (by decide) (by omega) v1248 y1247 y1250 _ _ _ (fun k_ => some k_ ≠ (.slice Ao17 t1199.length co17 : Value).ownBlock ∧ some k_ ≠ (.slice Ao102 y1244.length co102 : Value).ownBlock ∧ k_ ≠ gb1197) (fun _ => False) rfl rfl ?aO ?aR (fun _ _ h => h) (fun _ h => h.elim) ?aF ?aB ?aS ?aL ?_
        (case aR => repeat (first | exact (Kd.C_below HR1253.out HB.out) | (with_reducible refine Kd.C_alloc ?_ _) | (with_reducible refine Kd.C_drewN ?_ _) | (with_reducible refine Kd.C_drew ?_)))
        (case aB => exact Z44_30)
        (case aF => exact (fun k_ hk => ⟨Kd.fresh' (Kd.R_lt Z44_63) k_ hk, Kd.fresh' (Kd.R_lt Z44_69) k_ hk, Kd.freshB (g := gb1197) (o := .cells #[.int .i64 a1_0, .int .i64 a1_1, .int .i64 a1_2, .int .i64 a1_3, .int .i64 a1_4, .int .i64 a1_5, .int .i64 a1_6, .int .i64 a1_7, .int .i64 a1_8, .int .i64 a1_9, .int .i64 a1_10, .bool a1_11, .bool a1_12] 25 (0, 0)) Z44_59 k_ hk⟩))
        (case aO => exact Z44_70)
        (case aS => exact (below_size Z44_30))
        (case aL => have := LMc90.out; omega)
        intro v1255 w103 ho hb hg hat
        rw [← Ny1254.out] at ho
        have n0_ := Aside0.mk (Kd.R_after (ok := (fun k_ => some k_ ≠ (.slice Ao102 y1244.length co102 : Value).ownBlock ∧ k_ ≠ gb1197)) Z44_63 hg hat)
        have n1_ := Aside0.mk (Kd.R_over' Z44_64 (Kd.R_typed Z44_70) (by decide) hg)
        have n2_ := Aside0.mk (blk_grown (g := gb1196) (o := .cells #[.slice A0_0 l0_0.length c0_0, .slice A0_1 l0_1.length c0_1, .int .i64 a0_2, .int .i64 a0_3] 56 (0, 0)) Z44_58 hg (Kd.R_ne HO1249.out BK1196.out (by decide)))
        have n3_ := Aside0.mk (blk_grown (g := gb1197) (o := .cells #[.int .i64 a1_0, .int .i64 a1_1, .int .i64 a1_2, .int .i64 a1_3, .int .i64 a1_4, .int .i64 a1_5, .int .i64 a1_6, .int .i64 a1_7, .int .i64 a1_8, .int .i64 a1_9, .int .i64 a1_10, .bool a1_11, .bool a1_12] 25 (0, 0)) Z44_59 hg (Kd.R_away HO1249.out (fun _ hk => hk.2.2)))
        have n4_ := Aside0.mk (blk_grown (g := gb1198) (o := .cells #[.slice none 0 0, .slice none 0 0, .int .i64 0, .int .i64 0] 56 (0, 0)) Z44_60 hg (Kd.R_ne HO1249.out BK1198.out (by decide)))
        have n5_ := Aside0.mk (blk_grown (g := gb1207) (o := .cells #[.slice Ao17 t1199.length co17, .slice Ao22 t1202.length co22, .int .i64 t1205, .int .i64 t1206] 56 (0, 0)) Z44_61 hg (Kd.R_ne HO1249.out BK1207.out (by decide)))
        have n6_ := Aside0.mk (Kd.R_after (ok := (fun k_ => some k_ ≠ (.slice Ao17 t1199.length co17 : Value).ownBlock ∧ k_ ≠ gb1197)) Z44_69 hg hat)
        have n7_ := Aside0.mk (hb)
        have n8_ := Aside0.mk (ho)
        clear HO_1208000
        clear HO_1208001
        clear BK1196
        clear BK1197
        clear BK1198
        clear BK1207
        clear HO1246
        clear HB
        clear HO1249
        have HO_1208000 := n0_
        have HO_1208001 := n1_
        have BK1196 := n2_
        have BK1197 := n3_
        have BK1198 := n4_
        have BK1207 := n5_
        have HO1246 := n6_
        have HB := n7_
        have HO1256 := n8_
        clear n0_ n1_ n2_ n3_ n4_ n5_ n6_ n7_ n8_
        clear ho hb hg hat
        obtain ⟨Ao104, co104, eo104⟩ := Kd.R_slice HO1256.out
        (first | subst eo104 | (injection eo104 with f1_ f2_ f3_; have f4_ := f1_.symm; have f5_ := f3_.symm; clear f1_ f2_ f3_; subst f4_; subst f5_))
        refine hK.out _ _ (D44_4 BK1196.out (C44_13 BK1197.out).1) (fun hHeld => ?_)
        clear hK K
        refine norm_ (a' := ?_) ?_ ?_
        rotate_left
        · show Act.put _ (some 52) _ = _
          simp only [Act.put, List.setIfInBounds_toArray, List.set_cons_zero, List.set_cons_succ, i64_w, i32_w]
          rfl
        refine pure_ (i := 14) (N := some 53) (v := _) (a' := _) (M44_16 32767) rfl rfl (any_of HT_.out (by kernel_rfl)) (fun _ _ _ h => h) (Or.inl ⟨(by rfl), (by intro w'; go_simp; with_reducible rfl)⟩) Z44_65 ?_
        refine one_ (i := 15) (N := none) (M44_16 65535) rfl rfl (one_of HT_.out (by kernel_rfl)) (by decide) (fun K hK => ?_)
        have hs105 : w103.cell? ⟨gb1207, 0, none⟩ = some (.slice Ao17 t1199.length co17) := (blk_cell BK1207.out 0).trans rfl
        have hfs105 := blk_frozen BK1207.out 0
        have hns105_0 := NB1196_1207.out
        have hns105_1 := NB1197_1207.out
        have hns105_2 := NB1198_1207.out
        have hms105_0 := NB1207_1196.out
        have hms105_1 := NB1207_1197.out
        have hms105_2 := NB1207_1198.out
        refine skip_ (w1 := ?_) (by rfl) rfl ?_ ?_
        rotate_left
        · go_simp
          rfl
        refine hK.out _ _ ?_ (fun hHeld => ?_)
        · exact ⟨((cell_far (p := ⟨gb1207, _, none⟩) NB1196_1207.out _).trans (hHeld.1)), ((cell_far (p := ⟨gb1207, _, none⟩) NB1196_1207.out _).trans (hHeld.2.1)), ((cell_far (p := ⟨gb1207, _, none⟩) NB1196_1207.out _).trans (hHeld.2.2.1)), ((cell_far (p := ⟨gb1207, _, none⟩) NB1196_1207.out _).trans (hHeld.2.2.2.1)), ((cell_far (p := ⟨gb1207, _, none⟩) NB1197_1207.out _).trans (hHeld.2.2.2.2.1)), ((cell_far (p := ⟨gb1207, _, none⟩) NB1197_1207.out _).trans (hHeld.2.2.2.2.2.1)), ((cell_far (p := ⟨gb1207, _, none⟩) NB1197_1207.out _).trans (hHeld.2.2.2.2.2.2.1)), ((cell_far (p := ⟨gb1207, _, none⟩) NB1197_1207.out _).trans (hHeld.2.2.2.2.2.2.2.1)), ((cell_far (p := ⟨gb1207, _, none⟩) NB1197_1207.out _).trans (hHeld.2.2.2.2.2.2.2.2.1)), ((cell_far (p := ⟨gb1207, _, none⟩) NB1197_1207.out _).trans (hHeld.2.2.2.2.2.2.2.2.2.1)), ((cell_far (p := ⟨gb1207, _, none⟩) NB1197_1207.out _).trans (hHeld.2.2.2.2.2.2.2.2.2.2.1)), ((cell_far (p := ⟨gb1207, _, none⟩) NB1197_1207.out _).trans (hHeld.2.2.2.2.2.2.2.2.2.2.2.1)), ((cell_far (p := ⟨gb1207, _, none⟩) NB1197_1207.out _).trans (hHeld.2.2.2.2.2.2.2.2.2.2.2.2.1)), ((cell_far (p := ⟨gb1207, _, none⟩) NB1197_1207.out _).trans (hHeld.2.2.2.2.2.2.2.2.2.2.2.2.2.1)), ((cell_far (p := ⟨gb1207, _, none⟩) NB1197_1207.out _).trans (hHeld.2.2.2.2.2.2.2.2.2.2.2.2.2.2.1)), ((cell_far (p := ⟨gb1207, _, none⟩) NB1197_1207.out _).trans (hHeld.2.2.2.2.2.2.2.2.2.2.2.2.2.2.2.1)), ((cell_far (p := ⟨gb1207, _, none⟩) NB1197_1207.out _).trans (hHeld.2.2.2.2.2.2.2.2.2.2.2.2.2.2.2.2))⟩
        clear hK K
        refine done_ (done_of HT_.out (by kernel_rfl)) ?_
        have hnb106 := NB1207_1196.out
        have hnc106 := NB1196_1207.out
        have hnb107 := NB1207_1197.out
        have hnc107 := NB1197_1207.out
        have hnb108 := NB1207_1198.out
        have hnc108 := NB1198_1207.out
        obtain ⟨⟨hcz109_0, hcz109_1, hcz109_2, hcz109_3⟩, hfz109_0, hfz109_1, hfz109_2, hfz109_3⟩ := C44_4 BK1207.out
        have hnb110 := NB1198_1196.out
        have hnc110 := NB1196_1198.out
        have hnb111 := NB1198_1197.out
        have hnc111 := NB1197_1198.out
        obtain ⟨⟨hcz112_0, hcz112_1, hcz112_2, hcz112_3⟩, hfz112_0, hfz112_1, hfz112_2, hfz112_3⟩ := C44_4 BK1198.out
        try go_wp2
        refine bodyPost_ret (results_cell_row rfl _ _ gb1198 56 #[.slice Ao104 y1254.length co104, .slice Ao22 t1202.length co22, .int .i64 t1205, .int .i64 t1206] (0, 0) _ rfl Z44_14 Try.underlying56 rfl (by kernel_rfl)) rfl ?_
        exact ⟨_, _, Z44_76, (by (with_reducible repeat (first | apply Kd.R_alloc | apply Kd.R_drewN | apply Kd.R_drew)); exact Kd.R_mono (Kd.R_far (p := ⟨gb1198, 3, none⟩) (Kd.R_far (p := ⟨gb1198, 2, none⟩) (Kd.R_far (p := ⟨gb1198, 1, none⟩) (Kd.R_far (p := ⟨gb1198, 0, none⟩) (Kd.R_far (p := ⟨gb1207, 0, none⟩) (Kd.R_types (Kd.R_types HO1256.out BK1207.out (by decide)) BK1198.out (by decide)) (fun _ hk => hk.1.2) (.slice Ao104 y1254.length co104)) (fun _ hk => hk.2) (.slice Ao104 y1254.length co104)) (fun _ hk => hk.2) (.slice Ao22 t1202.length co22)) (fun _ hk => hk.2) (.int .i64 t1205)) (fun _ hk => hk.2) (.int .i64 t1206)) (fun _ hk => trivial)), (by (with_reducible repeat (first | apply Kd.R_alloc | apply Kd.R_drewN | apply Kd.R_drew)); exact Kd.R_mono (Kd.R_far (p := ⟨gb1198, 3, none⟩) (Kd.R_far (p := ⟨gb1198, 2, none⟩) (Kd.R_far (p := ⟨gb1198, 1, none⟩) (Kd.R_far (p := ⟨gb1198, 0, none⟩) (Kd.R_far (p := ⟨gb1207, 0, none⟩) (Kd.R_types (Kd.R_types HO_1208001.out BK1207.out (by decide)) BK1198.out (by decide)) (fun _ hk => hk.1.2) (.slice Ao104 y1254.length co104)) (fun _ hk => hk.2) (.slice Ao104 y1254.length co104)) (fun _ hk => hk.2) (.slice Ao22 t1202.length co22)) (fun _ hk => hk.2) (.int .i64 t1205)) (fun _ hk => hk.2) (.int .i64 t1206)) (fun _ hk => trivial)), Z44_30⟩
      rw [if_pos c51] at H
      have c51b0 : decide (x6_1 < (l0_0.length : Int)) = true := decide_eq_true c51
      clear c51
      by_cases c52 : 0 ≤ x6_1
      rotate_left
      · rw [if_neg c52] at H
        exact absurd H (by simp)
      rw [if_pos c52] at H
      have c52b0 : decide (0 ≤ x6_1) = true := decide_eq_true c52
      clear c52
      by_cases c53 : ((rd_T25 l0_0 x6_1).f0) ≤ a1_0
      · rw [if_pos c53] at H
        have c53b0 : decide (((rd_T25 l0_0 x6_1).f0) ≤ a1_0) = true := decide_eq_true c53
        clear c53
        have H' := Aside0.mk H
        clear H
        try go_wp2
        have n0_ := Aside0.mk (Kd.R_drew HO_1208000.out)
        have n1_ := Aside0.mk (Kd.R_drew HO_1208001.out)
        have n2_ := Aside0.mk (blk_drew BK1196.out)
        have n3_ := Aside0.mk (blk_drew BK1197.out)
        have n4_ := Aside0.mk (blk_drew BK1198.out)
        have n5_ := Aside0.mk (blk_drew BK1207.out)
        have n6_ := Aside0.mk (below_drew1 HB.out)
        clear HO_1208000
        clear HO_1208001
        clear BK1196
        clear BK1197
        clear BK1198
        clear BK1207
        clear HB
        have HO_1208000 := n0_
        have HO_1208001 := n1_
        have BK1196 := n2_
        have BK1197 := n3_
        have BK1198 := n4_
        have BK1207 := n5_
        have HB := n6_
        clear n0_ n1_ n2_ n3_ n4_ n5_ n6_
        have p1210 : 0 ≤ (x6_1 : Int) := of_decide_eq_true Z44_77
        have q1210 : x6_1 < (l0_0.length : Int) := of_decide_eq_true Z44_77
        obtain ⟨ad1210, e1210, hx1210_0, hx1210_1, hx1210_2, hx1210_3, hx1210_4, hx1210_5, hx1210_6, hx1210_7, hx1210_8, hx1210_9, hx1210_10, hx1210_11, hx1210_12⟩ := at_T25 HR0_0.out x6_1 p1210 q1210
        have hw1210_12 := hx1210_12
        have hw1210_11 := hx1210_11
        have hw1210_10 := hx1210_10
        have hw1210_9 := hx1210_9
        have hw1210_8 := hx1210_8
        have hw1210_7 := hx1210_7
        have hw1210_6 := hx1210_6
        have hw1210_5 := hx1210_5
        have hw1210_4 := hx1210_4
        have hw1210_3 := hx1210_3
        have hw1210_2 := hx1210_2
        have hw1210_1 := hx1210_1
        have hw1210_0 := hx1210_0
        cases e1210
        replace hx1210_0 := (HB.out.cell (World.block_lt_of_cell? w _ hx1210_0)).trans hx1210_0
        replace hx1210_1 := (HB.out.cell (World.block_lt_of_cell? w _ hx1210_1)).trans hx1210_1
        replace hx1210_2 := (HB.out.cell (World.block_lt_of_cell? w _ hx1210_2)).trans hx1210_2
        replace hx1210_3 := (HB.out.cell (World.block_lt_of_cell? w _ hx1210_3)).trans hx1210_3
        replace hx1210_4 := (HB.out.cell (World.block_lt_of_cell? w _ hx1210_4)).trans hx1210_4
        replace hx1210_5 := (HB.out.cell (World.block_lt_of_cell? w _ hx1210_5)).trans hx1210_5
        replace hx1210_6 := (HB.out.cell (World.block_lt_of_cell? w _ hx1210_6)).trans hx1210_6
        replace hx1210_7 := (HB.out.cell (World.block_lt_of_cell? w _ hx1210_7)).trans hx1210_7
        replace hx1210_8 := (HB.out.cell (World.block_lt_of_cell? w _ hx1210_8)).trans hx1210_8
        replace hx1210_9 := (HB.out.cell (World.block_lt_of_cell? w _ hx1210_9)).trans hx1210_9
        replace hx1210_10 := (HB.out.cell (World.block_lt_of_cell? w _ hx1210_10)).trans hx1210_10
        replace hx1210_11 := (HB.out.cell (World.block_lt_of_cell? w _ hx1210_11)).trans hx1210_11
        replace hx1210_12 := (HB.out.cell (World.block_lt_of_cell? w _ hx1210_12)).trans hx1210_12
        replace p1210 := eq_true p1210
        replace q1210 := eq_true q1210
        refine start_ (n := 16) (S := fun w' => w'.cell? ⟨gb1196, 0, none⟩ = some (.slice (some ad1210) l0_0.length c0_0) ∧ w'.cell? ⟨gb1196, 1, none⟩ = some (.slice A0_1 l0_1.length c0_1) ∧ w'.cell? ⟨gb1196, 2, none⟩ = some (.int .i64 a0_2) ∧ w'.cell? ⟨gb1196, 3, none⟩ = some (.int .i64 a0_3) ∧ w'.cell? ⟨gb1197, 0, none⟩ = some (.int .i64 a1_0) ∧ w'.cell? ⟨gb1197, 1, none⟩ = some (.int .i64 a1_1) ∧ w'.cell? ⟨gb1197, 2, none⟩ = some (.int .i64 a1_2) ∧ w'.cell? ⟨gb1197, 3, none⟩ = some (.int .i64 a1_3) ∧ w'.cell? ⟨gb1197, 4, none⟩ = some (.int .i64 a1_4) ∧ w'.cell? ⟨gb1197, 5, none⟩ = some (.int .i64 a1_5) ∧ w'.cell? ⟨gb1197, 6, none⟩ = some (.int .i64 a1_6) ∧ w'.cell? ⟨gb1197, 7, none⟩ = some (.int .i64 a1_7) ∧ w'.cell? ⟨gb1197, 8, none⟩ = some (.int .i64 a1_8) ∧ w'.cell? ⟨gb1197, 9, none⟩ = some (.int .i64 a1_9) ∧ w'.cell? ⟨gb1197, 10, none⟩ = some (.int .i64 a1_10) ∧ w'.cell? ⟨gb1197, 11, none⟩ = some (.bool a1_11) ∧ w'.cell? ⟨gb1197, 12, none⟩ = some (.bool a1_12) ∧ w'.cell? (ad1210.add ((x6_1).toNat * 13)) = some (.int .i64 ((rd_T25 l0_0 x6_1).f0)) ∧ w'.cell? ⟨(ad1210.add ((x6_1).toNat * 13)).block, (ad1210.add ((x6_1).toNat * 13)).off + 1, none⟩ = some (.int .i64 ((rd_T25 l0_0 x6_1).f1)) ∧ w'.cell? ⟨(ad1210.add ((x6_1).toNat * 13)).block, (ad1210.add ((x6_1).toNat * 13)).off + 2, none⟩ = some (.int .i64 ((rd_T25 l0_0 x6_1).f2)) ∧ w'.cell? ⟨(ad1210.add ((x6_1).toNat * 13)).block, (ad1210.add ((x6_1).toNat * 13)).off + 3, none⟩ = some (.int .i64 ((rd_T25 l0_0 x6_1).f3)) ∧ w'.cell? ⟨(ad1210.add ((x6_1).toNat * 13)).block, (ad1210.add ((x6_1).toNat * 13)).off + 4, none⟩ = some (.int .i64 ((rd_T25 l0_0 x6_1).f4)) ∧ w'.cell? ⟨(ad1210.add ((x6_1).toNat * 13)).block, (ad1210.add ((x6_1).toNat * 13)).off + 5, none⟩ = some (.int .i64 ((rd_T25 l0_0 x6_1).f5)) ∧ w'.cell? ⟨(ad1210.add ((x6_1).toNat * 13)).block, (ad1210.add ((x6_1).toNat * 13)).off + 6, none⟩ = some (.int .i64 ((rd_T25 l0_0 x6_1).f6)) ∧ w'.cell? ⟨(ad1210.add ((x6_1).toNat * 13)).block, (ad1210.add ((x6_1).toNat * 13)).off + 7, none⟩ = some (.int .i64 ((rd_T25 l0_0 x6_1).f7)) ∧ w'.cell? ⟨(ad1210.add ((x6_1).toNat * 13)).block, (ad1210.add ((x6_1).toNat * 13)).off + 8, none⟩ = some (.int .i64 ((rd_T25 l0_0 x6_1).f8)) ∧ w'.cell? ⟨(ad1210.add ((x6_1).toNat * 13)).block, (ad1210.add ((x6_1).toNat * 13)).off + 9, none⟩ = some (.int .i64 ((rd_T25 l0_0 x6_1).f9)) ∧ w'.cell? ⟨(ad1210.add ((x6_1).toNat * 13)).block, (ad1210.add ((x6_1).toNat * 13)).off + 10, none⟩ = some (.int .i64 ((rd_T25 l0_0 x6_1).f10)) ∧ w'.cell? ⟨(ad1210.add ((x6_1).toNat * 13)).block, (ad1210.add ((x6_1).toNat * 13)).off + 11, none⟩ = some (.bool ((rd_T25 l0_0 x6_1).f11)) ∧ w'.cell? ⟨(ad1210.add ((x6_1).toNat * 13)).block, (ad1210.add ((x6_1).toNat * 13)).off + 12, none⟩ = some (.bool ((rd_T25 l0_0 x6_1).f12))) (ds := []) #[false, false, false, false, false, false, false, false, false, false, false, false, false, false, false, false] (by kernel_rfl) rfl rfl ⟨(blk_cell BK1196.out 0).trans rfl, (blk_cell BK1196.out 1).trans rfl, (blk_cell BK1196.out 2).trans rfl, (blk_cell BK1196.out 3).trans rfl, (blk_cell BK1197.out 0).trans rfl, (blk_cell BK1197.out 1).trans rfl, (blk_cell BK1197.out 2).trans rfl, (blk_cell BK1197.out 3).trans rfl, (blk_cell BK1197.out 4).trans rfl, (blk_cell BK1197.out 5).trans rfl, (blk_cell BK1197.out 6).trans rfl, (blk_cell BK1197.out 7).trans rfl, (blk_cell BK1197.out 8).trans rfl, (blk_cell BK1197.out 9).trans rfl, (blk_cell BK1197.out 10).trans rfl, (blk_cell BK1197.out 11).trans rfl, (blk_cell BK1197.out 12).trans rfl, ((HB.out.cell (World.block_lt_of_cell? w _ hw1210_0)).trans hw1210_0), ((HB.out.cell (World.block_lt_of_cell? w _ hw1210_1)).trans hw1210_1), ((HB.out.cell (World.block_lt_of_cell? w _ hw1210_2)).trans hw1210_2), ((HB.out.cell (World.block_lt_of_cell? w _ hw1210_3)).trans hw1210_3), ((HB.out.cell (World.block_lt_of_cell? w _ hw1210_4)).trans hw1210_4), ((HB.out.cell (World.block_lt_of_cell? w _ hw1210_5)).trans hw1210_5), ((HB.out.cell (World.block_lt_of_cell? w _ hw1210_6)).trans hw1210_6), ((HB.out.cell (World.block_lt_of_cell? w _ hw1210_7)).trans hw1210_7), ((HB.out.cell (World.block_lt_of_cell? w _ hw1210_8)).trans hw1210_8), ((HB.out.cell (World.block_lt_of_cell? w _ hw1210_9)).trans hw1210_9), ((HB.out.cell (World.block_lt_of_cell? w _ hw1210_10)).trans hw1210_10), ((HB.out.cell (World.block_lt_of_cell? w _ hw1210_11)).trans hw1210_11), ((HB.out.cell (World.block_lt_of_cell? w _ hw1210_12)).trans hw1210_12)⟩ (fun hHeld => ?_); refine with_tabW spec_SetPiece.tab7 spec_SetPiece.bits7 (fun HT_ HW_ => ?_)
        generalize wr.drew = w54 at HO_1208000 HO_1208001 BK1196 BK1197 BK1198 BK1207 HB hx1210_0 hx1210_1 hx1210_10 hx1210_11 hx1210_12 hx1210_2 hx1210_3 hx1210_4 hx1210_5 hx1210_6 hx1210_7 hx1210_8 hx1210_9 hHeld ⊢
        refine pure_ (i := 0) (N := some 21) (v := _) (a' := _) (M44_16 1) rfl rfl (any_of HT_.out (by kernel_rfl)) (fun _ _ _ h => h) (Or.inl ⟨(by rfl), (by intro w'; go_simp; with_reducible rfl)⟩) Z44_65 ?_
        refine pure_ (i := 1) (N := some 22) (v := _) (a' := _) (M44_16 3) rfl rfl (any_of HT_.out (by kernel_rfl)) (fun _ _ _ h => h) (Or.inl ⟨(by rfl), (by intro w'; go_simp; with_reducible rfl)⟩) Z44_65 ?_
        refine take_ (i := 2) (N := some 23) (v := _) (a' := _) (M44_16 7) rfl rfl (take_ofW HT_.out HW_.out (by kernel_rfl)) (fun _ _ _ h => h) (Or.inl ⟨(by rfl), Z44_39⟩) hHeld Z44_65 ?_
        refine pure_ (i := 3) (N := some 24) (v := _) (a' := _) (M44_16 15) rfl rfl (any_of HT_.out (by kernel_rfl)) (fun _ _ _ h => h) (Or.inl ⟨(by rfl), (by intro w'; go_simp; with_reducible rfl)⟩) Z44_65 ?_
        refine pure_ (i := 4) (N := some 25) (v := _) (a' := _) (M44_16 31) rfl rfl (any_of HT_.out (by kernel_rfl)) (fun _ _ _ h => h) (Or.inl ⟨(by rfl), (by intro w'; go_simp; with_reducible rfl)⟩) Z44_65 ?_
        refine pure_ (i := 5) (N := some 26) (v := _) (a' := _) (M44_16 63) rfl rfl (any_of HT_.out (by kernel_rfl)) (fun _ _ _ h => h) (Or.inl ⟨(by rfl), (by intro w'; go_simp; with_reducible rfl)⟩) Z44_65 ?_
        refine pure_ (i := 6) (N := some 27) (v := _) (a' := _) (M44_16 127) rfl rfl (any_of HT_.out (by kernel_rfl)) (fun _ _ _ h => h) (Or.inl ⟨(by rfl), (by intro w'; go_simp; with_reducible rfl)⟩) Z44_65 ?_
        refine pure_ (i := 8) (N := some 29) (v := _) (a' := _) (M44_16 383) rfl rfl (any_of HT_.out (by kernel_rfl)) (fun _ _ _ h => h) (Or.inl ⟨(by rfl), (by intro w'; go_simp; with_reducible rfl)⟩) Z44_65 ?_
        refine pure_ (i := 12) (N := some 33) (v := _) (a' := _) (M44_16 4479) rfl rfl (any_of HT_.out (by kernel_rfl)) (fun _ _ _ h => h) (Or.inl ⟨(by rfl), (by intro w'; go_simp; with_reducible rfl)⟩) Z44_65 ?_
        refine take_ (i := 7) (N := some 28) (v := _) (a' := _) (M44_16 4607) rfl rfl (take_ofW HT_.out HW_.out (by kernel_rfl)) (fun _ _ _ h => h) (Or.inl ⟨(by rfl), Z44_39⟩) hHeld Z44_65 ?_
        refine pure_ (i := 9) (N := some 30) (v := _) (a' := _) (M44_16 5119) rfl rfl (any_of HT_.out (by kernel_rfl)) (fun _ _ _ h => h) (Or.inl ⟨(by rfl), (by intro w'; go_simp; with_reducible rfl)⟩) Z44_65 ?_
        refine pure_ (i := 10) (N := some 31) (v := _) (a' := _) (M44_16 6143) rfl rfl (any_of HT_.out (by kernel_rfl)) (fun _ _ _ h => h) (Or.inl ⟨(by rfl), (by intro w'; go_simp; with_reducible rfl)⟩) Z44_65 ?_
        refine take_ (i := 11) (N := some 32) (v := _) (a' := _) (M44_16 8191) rfl rfl (take_ofW HT_.out HW_.out (by kernel_rfl)) (fun _ _ _ h => h) (Or.inl ⟨(by rfl), Z44_39⟩) hHeld Z44_65 ?_
        refine take_ (i := 13) (N := some 34) (v := _) (a' := _) (M44_16 16383) rfl rfl (take_ofW HT_.out HW_.out (by kernel_rfl)) (fun _ _ _ h => h) (Or.inl ⟨(by rfl), Z44_39⟩) hHeld Z44_65 ?_
        refine pure_ (i := 14) (N := some 35) (v := _) (a' := _) (M44_16 32767) rfl rfl (any_of HT_.out (by kernel_rfl)) (fun _ _ _ h => h) (Or.inl ⟨(by rfl), (by intro w'; go_simp; with_reducible rfl)⟩) Z44_65 ?_
        refine pure_ (i := 15) (N := some 36) (v := _) (a' := _) (M44_16 65535) rfl rfl (any_of HT_.out (by kernel_rfl)) (fun _ _ _ h => h) (Or.inl ⟨(by rfl), (by intro w'; go_simp; with_reducible rfl)⟩) Z44_65 ?_
        refine done_ (done_of HT_.out (by kernel_rfl)) ?_
        try go_wp2
        go_roundg k1
        case measure => have := HK1.out; omega
        case rel => exact ⟨(wrap64 (x6_1 + 1)), (by first | rfl | (simp; done) | (simp [*]; done)), H', ⟨(by have := HK1.out; omega)⟩, ⟨Z44_63⟩, ⟨Z44_64⟩, ⟨Z44_58⟩, ⟨Z44_59⟩, ⟨Z44_60⟩, ⟨Z44_61⟩, ⟨Z44_30⟩⟩
      rw [if_neg c53] at H
      have c53b0 : decide (((rd_T25 l0_0 x6_1).f0) ≤ a1_0) = false := decide_eq_false c53
      clear c53
      obtain ⟨y1211, hy1211⟩ : ∃ y_ : List (S25), y_ = (([] : List (S25))) := ⟨_, rfl⟩
      replace H : (if x6_1 ≤ (l0_0.length : Int) then ((some (l0_0.take (x6_1 : Int).toNat : List (S25))).bind fun y1214 => (if y1211.length + y1214.length < 1466015503701 then ((some (y1211 ++ y1214 : List (S25))).bind fun y1218 => ((some (([(⟨a1_0, a1_1, a1_2, a1_3, a1_4, a1_5, a1_6, a1_7, a1_8, a1_9, a1_10, a1_11, a1_12⟩ : S25)] : List (S25)) : List (S25))).bind fun y1221 => (if y1218.length + y1221.length < 1466015503701 then ((some (y1218 ++ y1221 : List (S25))).bind fun y1224 => ((some (l0_0.drop (x6_1 : Int).toNat : List (S25))).bind fun y1227 => (if y1224.length + y1227.length < 1466015503701 then (some ((y1224 ++ y1227), t1202, t1205, t1206)) else (none)))) else (none)))) else (none))) else (none)) = some (r1, r2, r3, r4) := by first | (rw [hy1211]; with_reducible exact H) | (have H2_ := (Option.bind_some _ _).symm.trans H; rw [hy1211]; with_reducible exact H2_) | (have H2_ := (Option.bind_some _ _).symm.trans H; with_reducible exact H2_) | with_reducible exact H | (rw [hy1211]; exact H) | exact H
      have Ny1211 := Aside0.mk hy1211
      clear hy1211
      have c55b0 := eq_true (of_decide_eq_true Z44_77 : 0 ≤ x6_1)
      by_cases c56 : x6_1 ≤ (l0_0.length : Int)
      rotate_left
      · rw [if_neg c56] at H
        exact absurd H (by simp)
      rw [if_pos c56] at H
      have c56b0 := eq_true c56
      have c56b1 : decide (x6_1 ≤ (l0_0.length : Int)) = true := decide_eq_true c56
      clear c56
      obtain ⟨y1214, hy1214⟩ : ∃ y_ : List (S25), y_ = (l0_0.take (x6_1 : Int).toNat) := ⟨_, rfl⟩
      replace H : (if y1211.length + y1214.length < 1466015503701 then ((some (y1211 ++ y1214 : List (S25))).bind fun y1218 => ((some (([(⟨a1_0, a1_1, a1_2, a1_3, a1_4, a1_5, a1_6, a1_7, a1_8, a1_9, a1_10, a1_11, a1_12⟩ : S25)] : List (S25)) : List (S25))).bind fun y1221 => (if y1218.length + y1221.length < 1466015503701 then ((some (y1218 ++ y1221 : List (S25))).bind fun y1224 => ((some (l0_0.drop (x6_1 : Int).toNat : List (S25))).bind fun y1227 => (if y1224.length + y1227.length < 1466015503701 then (some ((y1224 ++ y1227), t1202, t1205, t1206)) else (none)))) else (none)))) else (none)) = some (r1, r2, r3, r4) := by first | (rw [hy1214]; with_reducible exact H) | (have H2_ := (Option.bind_some _ _).symm.trans H; rw [hy1214]; with_reducible exact H2_) | (have H2_ := (Option.bind_some _ _).symm.trans H; with_reducible exact H2_) | with_reducible exact H | (rw [hy1214]; exact H) | exact H
      have Ny1214 := Aside0.mk hy1214
      clear hy1214
      by_cases c57 : y1211.length + y1214.length < 1466015503701
      rotate_left
      · rw [if_neg c57] at H
        exact absurd H (by simp)
      rw [if_pos c57] at H
      have LMc57 := Aside0.mk c57
      clear c57
      obtain ⟨y1218, hy1218⟩ : ∃ y_ : List (S25), y_ = (y1211 ++ y1214) := ⟨_, rfl⟩
      replace H : ((some (([(⟨a1_0, a1_1, a1_2, a1_3, a1_4, a1_5, a1_6, a1_7, a1_8, a1_9, a1_10, a1_11, a1_12⟩ : S25)] : List (S25)) : List (S25))).bind fun y1221 => (if y1218.length + y1221.length < 1466015503701 then ((some (y1218 ++ y1221 : List (S25))).bind fun y1224 => ((some (l0_0.drop (x6_1 : Int).toNat : List (S25))).bind fun y1227 => (if y1224.length + y1227.length < 1466015503701 then (some ((y1224 ++ y1227), t1202, t1205, t1206)) else (none)))) else (none))) = some (r1, r2, r3, r4) := by first | (rw [hy1218]; with_reducible exact H) | (have H2_ := (Option.bind_some _ _).symm.trans H; rw [hy1218]; with_reducible exact H2_) | (have H2_ := (Option.bind_some _ _).symm.trans H; with_reducible exact H2_) | with_reducible exact H | (rw [hy1218]; exact H) | exact H
      have Ny1218 := Aside0.mk hy1218
      clear hy1218
      obtain ⟨y1221, hy1221⟩ : ∃ y_ : List (S25), y_ = (([(⟨a1_0, a1_1, a1_2, a1_3, a1_4, a1_5, a1_6, a1_7, a1_8, a1_9, a1_10, a1_11, a1_12⟩ : S25)] : List (S25))) := ⟨_, rfl⟩
      replace H : (if y1218.length + y1221.length < 1466015503701 then ((some (y1218 ++ y1221 : List (S25))).bind fun y1224 => ((some (l0_0.drop (x6_1 : Int).toNat : List (S25))).bind fun y1227 => (if y1224.length + y1227.length < 1466015503701 then (some ((y1224 ++ y1227), t1202, t1205, t1206)) else (none)))) else (none)) = some (r1, r2, r3, r4) := by first | (rw [hy1221]; with_reducible exact H) | (have H2_ := (Option.bind_some _ _).symm.trans H; rw [hy1221]; with_reducible exact H2_) | (have H2_ := (Option.bind_some _ _).symm.trans H; with_reducible exact H2_) | with_reducible exact H | (rw [hy1221]; exact H) | exact H
      have Ny1221 := Aside0.mk hy1221
      clear hy1221
      by_cases c58 : y1218.length + y1221.length < 1466015503701
      rotate_left
      · rw [if_neg c58] at H
        exact absurd H (by simp)
      rw [if_pos c58] at H
      have LMc58 := Aside0.mk c58
      clear c58
      obtain ⟨y1224, hy1224⟩ : ∃ y_ : List (S25), y_ = (y1218 ++ y1221) := ⟨_, rfl⟩
      replace H : ((some (l0_0.drop (x6_1 : Int).toNat : List (S25))).bind fun y1227 => (if y1224.length + y1227.length < 1466015503701 then (some ((y1224 ++ y1227), t1202, t1205, t1206)) else (none))) = some (r1, r2, r3, r4) := by first | (rw [hy1224]; with_reducible exact H) | (have H2_ := (Option.bind_some _ _).symm.trans H; rw [hy1224]; with_reducible exact H2_) | (have H2_ := (Option.bind_some _ _).symm.trans H; with_reducible exact H2_) | with_reducible exact H | (rw [hy1224]; exact H) | exact H
      have Ny1224 := Aside0.mk hy1224
      clear hy1224
      have c59b0 := eq_true (of_decide_eq_true Z44_77 : 0 ≤ x6_1)
      have c60b0 := eq_true (of_decide_eq_true Z44_77 : x6_1 ≤ (l0_0.length : Int))
      obtain ⟨y1227, hy1227⟩ : ∃ y_ : List (S25), y_ = (l0_0.drop (x6_1 : Int).toNat) := ⟨_, rfl⟩
      replace H : (if y1224.length + y1227.length < 1466015503701 then (some ((y1224 ++ y1227), t1202, t1205, t1206)) else (none)) = some (r1, r2, r3, r4) := by first | (rw [hy1227]; with_reducible exact H) | (have H2_ := (Option.bind_some _ _).symm.trans H; rw [hy1227]; with_reducible exact H2_) | (have H2_ := (Option.bind_some _ _).symm.trans H; with_reducible exact H2_) | with_reducible exact H | (rw [hy1227]; exact H) | exact H
      have Ny1227 := Aside0.mk hy1227
      clear hy1227
      by_cases c61 : y1224.length + y1227.length < 1466015503701
      rotate_left
      · rw [if_neg c61] at H
        exact absurd H (by simp)
      rw [if_pos c61] at H
      have LMc61 := Aside0.mk c61
      clear c61
      obtain ⟨y1231, hy1231⟩ : ∃ y_ : List (S25), y_ = (y1224 ++ y1227) := ⟨_, rfl⟩
      replace H : (some (y1231, t1202, t1205, t1206)) = some (r1, r2, r3, r4) := by first | (rw [hy1231]; with_reducible exact H) | (have H2_ := (Option.bind_some _ _).symm.trans H; rw [hy1231]; with_reducible exact H2_) | (have H2_ := (Option.bind_some _ _).symm.trans H; with_reducible exact H2_) | with_reducible exact H | (rw [hy1231]; exact H) | exact H
      have Ny1231 := Aside0.mk hy1231
      clear hy1231
      simp only [Option.some.injEq, Prod.mk.injEq] at H
      obtain ⟨rfl, rfl, rfl, rfl⟩ := H
      try go_wp2
      have n0_ := Aside0.mk (Kd.R_drew HO_1208000.out)
      have n1_ := Aside0.mk (Kd.R_drew HO_1208001.out)
      have n2_ := Aside0.mk (blk_drew BK1196.out)
      have n3_ := Aside0.mk (blk_drew BK1197.out)
      have n4_ := Aside0.mk (blk_drew BK1198.out)
      have n5_ := Aside0.mk (blk_drew BK1207.out)
      have n6_ := Aside0.mk (below_drew1 HB.out)
      clear HO_1208000
      clear HO_1208001
      clear BK1196
      clear BK1197
      clear BK1198
      clear BK1207
      clear HB
      have HO_1208000 := n0_
      have HO_1208001 := n1_
      have BK1196 := n2_
      have BK1197 := n3_
      have BK1198 := n4_
      have BK1207 := n5_
      have HB := n6_
      clear n0_ n1_ n2_ n3_ n4_ n5_ n6_
      have p1210 : 0 ≤ (x6_1 : Int) := of_decide_eq_true Z44_77
      have q1210 : x6_1 < (l0_0.length : Int) := of_decide_eq_true Z44_77
      obtain ⟨ad1210, e1210, hx1210_0, hx1210_1, hx1210_2, hx1210_3, hx1210_4, hx1210_5, hx1210_6, hx1210_7, hx1210_8, hx1210_9, hx1210_10, hx1210_11, hx1210_12⟩ := at_T25 HR0_0.out x6_1 p1210 q1210
      have hw1210_12 := hx1210_12
      have hw1210_11 := hx1210_11
      have hw1210_10 := hx1210_10
      have hw1210_9 := hx1210_9
      have hw1210_8 := hx1210_8
      have hw1210_7 := hx1210_7
      have hw1210_6 := hx1210_6
      have hw1210_5 := hx1210_5
      have hw1210_4 := hx1210_4
      have hw1210_3 := hx1210_3
      have hw1210_2 := hx1210_2
      have hw1210_1 := hx1210_1
      have hw1210_0 := hx1210_0
      cases e1210
      replace hx1210_0 := (HB.out.cell (World.block_lt_of_cell? w _ hx1210_0)).trans hx1210_0
      replace hx1210_1 := (HB.out.cell (World.block_lt_of_cell? w _ hx1210_1)).trans hx1210_1
      replace hx1210_2 := (HB.out.cell (World.block_lt_of_cell? w _ hx1210_2)).trans hx1210_2
      replace hx1210_3 := (HB.out.cell (World.block_lt_of_cell? w _ hx1210_3)).trans hx1210_3
      replace hx1210_4 := (HB.out.cell (World.block_lt_of_cell? w _ hx1210_4)).trans hx1210_4
      replace hx1210_5 := (HB.out.cell (World.block_lt_of_cell? w _ hx1210_5)).trans hx1210_5
      replace hx1210_6 := (HB.out.cell (World.block_lt_of_cell? w _ hx1210_6)).trans hx1210_6
      replace hx1210_7 := (HB.out.cell (World.block_lt_of_cell? w _ hx1210_7)).trans hx1210_7
      replace hx1210_8 := (HB.out.cell (World.block_lt_of_cell? w _ hx1210_8)).trans hx1210_8
      replace hx1210_9 := (HB.out.cell (World.block_lt_of_cell? w _ hx1210_9)).trans hx1210_9
      replace hx1210_10 := (HB.out.cell (World.block_lt_of_cell? w _ hx1210_10)).trans hx1210_10
      replace hx1210_11 := (HB.out.cell (World.block_lt_of_cell? w _ hx1210_11)).trans hx1210_11
      replace hx1210_12 := (HB.out.cell (World.block_lt_of_cell? w _ hx1210_12)).trans hx1210_12
      replace p1210 := eq_true p1210
      replace q1210 := eq_true q1210
      refine start_ (n := 16) (S := fun w' => w'.cell? ⟨gb1196, 0, none⟩ = some (.slice (some ad1210) l0_0.length c0_0) ∧ w'.cell? ⟨gb1196, 1, none⟩ = some (.slice A0_1 l0_1.length c0_1) ∧ w'.cell? ⟨gb1196, 2, none⟩ = some (.int .i64 a0_2) ∧ w'.cell? ⟨gb1196, 3, none⟩ = some (.int .i64 a0_3) ∧ w'.cell? ⟨gb1197, 0, none⟩ = some (.int .i64 a1_0) ∧ w'.cell? ⟨gb1197, 1, none⟩ = some (.int .i64 a1_1) ∧ w'.cell? ⟨gb1197, 2, none⟩ = some (.int .i64 a1_2) ∧ w'.cell? ⟨gb1197, 3, none⟩ = some (.int .i64 a1_3) ∧ w'.cell? ⟨gb1197, 4, none⟩ = some (.int .i64 a1_4) ∧ w'.cell? ⟨gb1197, 5, none⟩ = some (.int .i64 a1_5) ∧ w'.cell? ⟨gb1197, 6, none⟩ = some (.int .i64 a1_6) ∧ w'.cell? ⟨gb1197, 7, none⟩ = some (.int .i64 a1_7) ∧ w'.cell? ⟨gb1197, 8, none⟩ = some (.int .i64 a1_8) ∧ w'.cell? ⟨gb1197, 9, none⟩ = some (.int .i64 a1_9) ∧ w'.cell? ⟨gb1197, 10, none⟩ = some (.int .i64 a1_10) ∧ w'.cell? ⟨gb1197, 11, none⟩ = some (.bool a1_11) ∧ w'.cell? ⟨gb1197, 12, none⟩ = some (.bool a1_12) ∧ w'.cell? (ad1210.add ((x6_1).toNat * 13)) = some (.int .i64 ((rd_T25 l0_0 x6_1).f0)) ∧ w'.cell? ⟨(ad1210.add ((x6_1).toNat * 13)).block, (ad1210.add ((x6_1).toNat * 13)).off + 1, none⟩ = some (.int .i64 ((rd_T25 l0_0 x6_1).f1)) ∧ w'.cell? ⟨(ad1210.add ((x6_1).toNat * 13)).block, (ad1210.add ((x6_1).toNat * 13)).off + 2, none⟩ = some (.int .i64 ((rd_T25 l0_0 x6_1).f2)) ∧ w'.cell? ⟨(ad1210.add ((x6_1).toNat * 13)).block, (ad1210.add ((x6_1).toNat * 13)).off + 3, none⟩ = some (.int .i64 ((rd_T25 l0_0 x6_1).f3)) ∧ w'.cell? ⟨(ad1210.add ((x6_1).toNat * 13)).block, (ad1210.add ((x6_1).toNat * 13)).off + 4, none⟩ = some (.int .i64 ((rd_T25 l0_0 x6_1).f4)) ∧ w'.cell? ⟨(ad1210.add ((x6_1).toNat * 13)).block, (ad1210.add ((x6_1).toNat * 13)).off + 5, none⟩ = some (.int .i64 ((rd_T25 l0_0 x6_1).f5)) ∧ w'.cell? ⟨(ad1210.add ((x6_1).toNat * 13)).block, (ad1210.add ((x6_1).toNat * 13)).off + 6, none⟩ = some (.int .i64 ((rd_T25 l0_0 x6_1).f6)) ∧ w'.cell? ⟨(ad1210.add ((x6_1).toNat * 13)).block, (ad1210.add ((x6_1).toNat * 13)).off + 7, none⟩ = some (.int .i64 ((rd_T25 l0_0 x6_1).f7)) ∧ w'.cell? ⟨(ad1210.add ((x6_1).toNat * 13)).block, (ad1210.add ((x6_1).toNat * 13)).off + 8, none⟩ = some (.int .i64 ((rd_T25 l0_0 x6_1).f8)) ∧ w'.cell? ⟨(ad1210.add ((x6_1).toNat * 13)).block, (ad1210.add ((x6_1).toNat * 13)).off + 9, none⟩ = some (.int .i64 ((rd_T25 l0_0 x6_1).f9)) ∧ w'.cell? ⟨(ad1210.add ((x6_1).toNat * 13)).block, (ad1210.add ((x6_1).toNat * 13)).off + 10, none⟩ = some (.int .i64 ((rd_T25 l0_0 x6_1).f10)) ∧ w'.cell? ⟨(ad1210.add ((x6_1).toNat * 13)).block, (ad1210.add ((x6_1).toNat * 13)).off + 11, none⟩ = some (.bool ((rd_T25 l0_0 x6_1).f11)) ∧ w'.cell? ⟨(ad1210.add ((x6_1).toNat * 13)).block, (ad1210.add ((x6_1).toNat * 13)).off + 12, none⟩ = some (.bool ((rd_T25 l0_0 x6_1).f12))) (ds := []) #[false, false, false, false, false, false, false, false, false, false, false, false, false, false, false, false] (by kernel_rfl) rfl rfl ⟨(blk_cell BK1196.out 0).trans rfl, (blk_cell BK1196.out 1).trans rfl, (blk_cell BK1196.out 2).trans rfl, (blk_cell BK1196.out 3).trans rfl, (blk_cell BK1197.out 0).trans rfl, (blk_cell BK1197.out 1).trans rfl, (blk_cell BK1197.out 2).trans rfl, (blk_cell BK1197.out 3).trans rfl, (blk_cell BK1197.out 4).trans rfl, (blk_cell BK1197.out 5).trans rfl, (blk_cell BK1197.out 6).trans rfl, (blk_cell BK1197.out 7).trans rfl, (blk_cell BK1197.out 8).trans rfl, (blk_cell BK1197.out 9).trans rfl, (blk_cell BK1197.out 10).trans rfl, (blk_cell BK1197.out 11).trans rfl, (blk_cell BK1197.out 12).trans rfl, ((HB.out.cell (World.block_lt_of_cell? w _ hw1210_0)).trans hw1210_0), ((HB.out.cell (World.block_lt_of_cell? w _ hw1210_1)).trans hw1210_1), ((HB.out.cell (World.block_lt_of_cell? w _ hw1210_2)).trans hw1210_2), ((HB.out.cell (World.block_lt_of_cell? w _ hw1210_3)).trans hw1210_3), ((HB.out.cell (World.block_lt_of_cell? w _ hw1210_4)).trans hw1210_4), ((HB.out.cell (World.block_lt_of_cell? w _ hw1210_5)).trans hw1210_5), ((HB.out.cell (World.block_lt_of_cell? w _ hw1210_6)).trans hw1210_6), ((HB.out.cell (World.block_lt_of_cell? w _ hw1210_7)).trans hw1210_7), ((HB.out.cell (World.block_lt_of_cell? w _ hw1210_8)).trans hw1210_8), ((HB.out.cell (World.block_lt_of_cell? w _ hw1210_9)).trans hw1210_9), ((HB.out.cell (World.block_lt_of_cell? w _ hw1210_10)).trans hw1210_10), ((HB.out.cell (World.block_lt_of_cell? w _ hw1210_11)).trans hw1210_11), ((HB.out.cell (World.block_lt_of_cell? w _ hw1210_12)).trans hw1210_12)⟩ (fun hHeld => ?_); refine with_tabW spec_SetPiece.tab7 spec_SetPiece.bits7 (fun HT_ HW_ => ?_)
      generalize wr.drew = w62 at HO_1208000 HO_1208001 BK1196 BK1197 BK1198 BK1207 HB hx1210_0 hx1210_1 hx1210_10 hx1210_11 hx1210_12 hx1210_2 hx1210_3 hx1210_4 hx1210_5 hx1210_6 hx1210_7 hx1210_8 hx1210_9 hHeld ⊢
      refine pure_ (i := 0) (N := some 21) (v := _) (a' := _) (M44_16 1) rfl rfl (any_of HT_.out (by kernel_rfl)) (fun _ _ _ h => h) (Or.inl ⟨(by rfl), (by intro w'; go_simp; with_reducible rfl)⟩) Z44_65 ?_
      refine pure_ (i := 1) (N := some 22) (v := _) (a' := _) (M44_16 3) rfl rfl (any_of HT_.out (by kernel_rfl)) (fun _ _ _ h => h) (Or.inl ⟨(by rfl), (by intro w'; go_simp; with_reducible rfl)⟩) Z44_65 ?_
      refine take_ (i := 2) (N := some 23) (v := _) (a' := _) (M44_16 7) rfl rfl (take_ofW HT_.out HW_.out (by kernel_rfl)) (fun _ _ _ h => h) (Or.inl ⟨(by rfl), Z44_39⟩) hHeld Z44_65 ?_
      refine pure_ (i := 3) (N := some 24) (v := _) (a' := _) (M44_16 15) rfl rfl (any_of HT_.out (by kernel_rfl)) (fun _ _ _ h => h) (Or.inl ⟨(by rfl), (by intro w'; go_simp; with_reducible rfl)⟩) Z44_65 ?_
      refine pure_ (i := 4) (N := some 25) (v := _) (a' := _) (M44_16 31) rfl rfl (any_of HT_.out (by kernel_rfl)) (fun _ _ _ h => h) (Or.inl ⟨(by rfl), (by intro w'; go_simp; with_reducible rfl)⟩) Z44_65 ?_
      refine pure_ (i := 5) (N := some 26) (v := _) (a' := _) (M44_16 63) rfl rfl (any_of HT_.out (by kernel_rfl)) (fun _ _ _ h => h) (Or.inl ⟨(by rfl), (by intro w'; go_simp; with_reducible rfl)⟩) Z44_65 ?_
      refine pure_ (i := 6) (N := some 27) (v := _) (a' := _) (M44_16 127) rfl rfl (any_of HT_.out (by kernel_rfl)) (fun _ _ _ h => h) (Or.inl ⟨(by rfl), (by intro w'; go_simp; with_reducible rfl)⟩) Z44_65 ?_
      refine pure_ (i := 8) (N := some 29) (v := _) (a' := _) (M44_16 383) rfl rfl (any_of HT_.out (by kernel_rfl)) (fun _ _ _ h => h) (Or.inl ⟨(by rfl), (by intro w'; go_simp; with_reducible rfl)⟩) Z44_65 ?_
      refine pure_ (i := 12) (N := some 33) (v := _) (a' := _) (M44_16 4479) rfl rfl (any_of HT_.out (by kernel_rfl)) (fun _ _ _ h => h) (Or.inl ⟨(by rfl), (by intro w'; go_simp; with_reducible rfl)⟩) Z44_65 ?_
      refine take_ (i := 7) (N := some 28) (v := _) (a' := _) (M44_16 4607) rfl rfl (take_ofW HT_.out HW_.out (by kernel_rfl)) (fun _ _ _ h => h) (Or.inl ⟨(by rfl), Z44_39⟩) hHeld Z44_65 ?_
      refine pure_ (i := 9) (N := some 30) (v := _) (a' := _) (M44_16 5119) rfl rfl (any_of HT_.out (by kernel_rfl)) (fun _ _ _ h => h) (Or.inl ⟨(by rfl), (by intro w'; go_simp; with_reducible rfl)⟩) Z44_65 ?_
      refine pure_ (i := 10) (N := some 31) (v := _) (a' := _) (M44_16 6143) rfl rfl (any_of HT_.out (by kernel_rfl)) (fun _ _ _ h => h) (Or.inl ⟨(by rfl), (by intro w'; go_simp; with_reducible rfl)⟩) Z44_65 ?_
      refine take_ (i := 11) (N := some 32) (v := _) (a' := _) (M44_16 8191) rfl rfl (take_ofW HT_.out HW_.out (by kernel_rfl)) (fun _ _ _ h => h) (Or.inl ⟨(by rfl), Z44_39⟩) hHeld Z44_65 ?_
      refine take_ (i := 13) (N := some 34) (v := _) (a' := _) (M44_16 16383) rfl rfl (take_ofW HT_.out HW_.out (by kernel_rfl)) (fun _ _ _ h => h) (Or.inl ⟨(by rfl), Z44_39⟩) hHeld Z44_65 ?_
      refine pure_ (i := 14) (N := some 35) (v := _) (a' := _) (M44_16 32767) rfl rfl (any_of HT_.out (by kernel_rfl)) (fun _ _ _ h => h) (Or.inl ⟨(by rfl), (by intro w'; go_simp; with_reducible rfl)⟩) Z44_65 ?_
      refine pure_ (i := 15) (N := some 36) (v := _) (a' := _) (M44_16 65535) rfl rfl (any_of HT_.out (by kernel_rfl)) (fun _ _ _ h => h) (Or.inl ⟨(by rfl), (by intro w'; go_simp; with_reducible rfl)⟩) Z44_65 ?_
      refine done_ (done_of HT_.out (by kernel_rfl)) ?_
      try go_wp2
      have n0_ := Aside0.mk (Kd.R_drew HO_1208000.out)
      have n1_ := Aside0.mk (Kd.R_drew HO_1208001.out)
      have n2_ := Aside0.mk (blk_drew BK1196.out)
      have n3_ := Aside0.mk (blk_drew BK1197.out)
      have n4_ := Aside0.mk (blk_drew BK1198.out)
      have n5_ := Aside0.mk (blk_drew BK1207.out)
      have n6_ := Aside0.mk (below_drew1 HB.out)
      clear HO_1208000
      clear HO_1208001
      clear BK1196
      clear BK1197
      clear BK1198
      clear BK1207
      clear HB
      have HO_1208000 := n0_
      have HO_1208001 := n1_
      have BK1196 := n2_
      have BK1197 := n3_
      have BK1198 := n4_
      have BK1207 := n5_
      have HB := n6_
      clear n0_ n1_ n2_ n3_ n4_ n5_ n6_
      have q64 : (x6_1 : Int) ≤ ((l0_0.length : Int) : Int) := of_decide_eq_true Z44_77
      obtain ⟨i064, hi064, _, hsz64, _⟩ := info_parts info25
      have hroom64 : l0_0.length ≤ c0_0 := HC0_0.out
      have hC64 : Kd.C k25 _ (some ad1210) l0_0.length l0_0 := HR0_0.out
      have hcut64 := cut_to (P := Try.prog) 53 25 .i64 Try.underlying53 hi064 (some ad1210) l0_0.length c0_0 x6_1 (of_decide_eq_true Z44_77) q64 hroom64
      have hr64 := Kd.C_take (m := (x6_1 : Int).toNat) hC64 (by omega)
      have hy64 : y1214.length = (x6_1 : Int).toNat := (by rw [Ny1214.out, List.length_take]; omega)
      rw [← Ny1214.out] at hr64
      rw [← hy64] at hcut64
      have HR1217 := Aside0.mk hr64
      have HC1217 := Aside0.mk (show y1214.length ≤ c0_0 from by omega)
      clear hr64 hC64 hroom64 hi064 hsz64
      have KY64 := Aside0.mk hy64
      clear hy64
      replace q64 := eq_true q64
      have q65 : (x6_1 : Int) ≤ ((l0_0.length : Int) : Int) := of_decide_eq_true Z44_77
      obtain ⟨i065, hi065, _, hsz65, _⟩ := info_parts info25
      have hroom65 : l0_0.length ≤ c0_0 := HC0_0.out
      have hC65 : Kd.C k25 _ (some ad1210) l0_0.length l0_0 := HR0_0.out
      have q065 : (0 : Int) ≤ (x6_1 : Int) := of_decide_eq_true Z44_77
      have hcut65 := cut_from (P := Try.prog) 53 25 .i64 Try.underlying53 hi065 13 hsz65 (some ad1210) l0_0.length c0_0 x6_1 q065 q65
      have hr65 := Kd.C_drop (m := (x6_1 : Int).toNat) (c := c0_0) hC65 (by omega) hroom65
      obtain ⟨A65, hA65⟩ : ∃ A1, A1 = (if c0_0 = (x6_1 : Int).toNat then (some ad1210) else ((some ad1210) : Option Addr).map (·.add ((x6_1 : Int).toNat * 13))) := ⟨_, rfl⟩
      obtain ⟨c65, hc65⟩ : ∃ c1, c1 = c0_0 - (x6_1 : Int).toNat := ⟨_, rfl⟩
      have hy65 : y1227.length = l0_0.length - (x6_1 : Int).toNat := (by rw [Ny1227.out, List.length_drop] <;> omega)
      rw [show (l0_0).drop (x6_1 : Int).toNat = y1227 from Ny1227.out.symm] at hr65
      replace hr65 : Kd.C k25 _ A65 y1227.length y1227 := (by rw [hA65]; exact hr65)
      rw [← hy65, ← hA65, ← hc65] at hcut65
      have HR1230 := Aside0.mk hr65
      have HC1230 := Aside0.mk (show y1227.length ≤ c65 from by rw [hy65, hc65]; exact Nat.sub_le_sub_right hroom65 _)
      clear hr65 hC65 hroom65 hi065 hsz65 hc65
      have KY65 := Aside0.mk hy65
      have KA65 := Aside0.mk hA65
      clear hy65 hA65
      replace q65 := eq_true q65
      refine start_ (n := 16) (S := fun w' => w'.cell? ⟨gb1196, 0, none⟩ = some (.slice (some ad1210) l0_0.length c0_0) ∧ w'.cell? ⟨gb1196, 1, none⟩ = some (.slice A0_1 l0_1.length c0_1) ∧ w'.cell? ⟨gb1196, 2, none⟩ = some (.int .i64 a0_2) ∧ w'.cell? ⟨gb1196, 3, none⟩ = some (.int .i64 a0_3) ∧ w'.cell? ⟨gb1197, 0, none⟩ = some (.int .i64 a1_0) ∧ w'.cell? ⟨gb1197, 1, none⟩ = some (.int .i64 a1_1) ∧ w'.cell? ⟨gb1197, 2, none⟩ = some (.int .i64 a1_2) ∧ w'.cell? ⟨gb1197, 3, none⟩ = some (.int .i64 a1_3) ∧ w'.cell? ⟨gb1197, 4, none⟩ = some (.int .i64 a1_4) ∧ w'.cell? ⟨gb1197, 5, none⟩ = some (.int .i64 a1_5) ∧ w'.cell? ⟨gb1197, 6, none⟩ = some (.int .i64 a1_6) ∧ w'.cell? ⟨gb1197, 7, none⟩ = some (.int .i64 a1_7) ∧ w'.cell? ⟨gb1197, 8, none⟩ = some (.int .i64 a1_8) ∧ w'.cell? ⟨gb1197, 9, none⟩ = some (.int .i64 a1_9) ∧ w'.cell? ⟨gb1197, 10, none⟩ = some (.int .i64 a1_10) ∧ w'.cell? ⟨gb1197, 11, none⟩ = some (.bool a1_11) ∧ w'.cell? ⟨gb1197, 12, none⟩ = some (.bool a1_12)) (ds := []) #[false, false, false, false, false, false, false, false, false, false, false, false, false, false, false, false] (by kernel_rfl) rfl rfl ⟨(blk_cell BK1196.out 0).trans rfl, (blk_cell BK1196.out 1).trans rfl, (blk_cell BK1196.out 2).trans rfl, (blk_cell BK1196.out 3).trans rfl, (blk_cell BK1197.out 0).trans rfl, (blk_cell BK1197.out 1).trans rfl, (blk_cell BK1197.out 2).trans rfl, (blk_cell BK1197.out 3).trans rfl, (blk_cell BK1197.out 4).trans rfl, (blk_cell BK1197.out 5).trans rfl, (blk_cell BK1197.out 6).trans rfl, (blk_cell BK1197.out 7).trans rfl, (blk_cell BK1197.out 8).trans rfl, (blk_cell BK1197.out 9).trans rfl, (blk_cell BK1197.out 10).trans rfl, (blk_cell BK1197.out 11).trans rfl, (blk_cell BK1197.out 12).trans rfl⟩ (fun hHeld => ?_); refine with_tabW spec_SetPiece.tab9 spec_SetPiece.bits9 (fun HT_ HW_ => ?_)
      generalize w62.drew = w63 at HO_1208000 HO_1208001 BK1196 BK1197 BK1198 BK1207 HB HR1217 HR1230 hHeld ⊢
      refine pure_ (i := 1) (N := some 40) (v := _) (a' := _) (M44_16 2) rfl rfl (any_of HT_.out (by kernel_rfl)) (fun _ _ _ h => h) (Or.inl ⟨(by rfl), (by intro w'; go_simp; with_reducible rfl)⟩) Z44_65 ?_
      refine pure_ (i := 3) (N := some 42) (v := _) (a' := _) (M44_16 10) rfl rfl (any_of HT_.out (by kernel_rfl)) (fun _ _ _ h => h) (Or.inl ⟨(by rfl), (by intro w'; go_simp; with_reducible rfl)⟩) Z44_65 ?_
      refine pure_ (i := 9) (N := some 48) (v := _) (a' := _) (M44_16 522) rfl rfl (any_of HT_.out (by kernel_rfl)) (fun _ _ _ h => h) (Or.inl ⟨(by rfl), (by intro w'; go_simp; with_reducible rfl)⟩) Z44_65 ?_
      refine pure_ (i := 11) (N := some 50) (v := _) (a' := _) (M44_16 2570) rfl rfl (any_of HT_.out (by kernel_rfl)) (fun _ _ _ h => h) (Or.inl ⟨(by rfl), (by intro w'; go_simp; with_reducible rfl)⟩) Z44_65 ?_
      refine take_ (i := 2) (N := some 41) (v := _) (a' := _) (M44_16 2574) rfl rfl (take_ofW HT_.out HW_.out (by kernel_rfl)) (fun _ _ _ h => h) (Or.inl ⟨(by rfl), Z44_62⟩) hHeld Z44_65 ?_
      refine pure_ (i := 4) (N := some 43) (v := _) (a' := _) (M44_16 2590) rfl rfl (any_of HT_.out (by kernel_rfl)) (fun _ _ _ h => h) (Or.inl ⟨(by rfl), (by intro w'; go_simp; with_reducible rfl)⟩) Z44_65 ?_
      refine take_ (i := 6) (N := some 45) (v := _) (a' := _) (M44_16 2654) rfl rfl (take_ofW HT_.out HW_.out (by kernel_rfl)) (fun _ _ _ h => h) (Or.inl ⟨(by rfl), Z44_62⟩) hHeld Z44_65 ?_
      refine take_ (i := 10) (N := some 49) (v := _) (a' := _) (M44_16 3678) rfl rfl (take_ofW HT_.out HW_.out (by kernel_rfl)) (fun _ _ _ h => h) (Or.inl ⟨(by rfl), Z44_62⟩) hHeld Z44_65 ?_
      refine pure_ (i := 12) (N := some 51) (v := _) (a' := _) (M44_16 7774) rfl rfl (any_of HT_.out (by kernel_rfl)) (fun _ _ _ h => h) (Or.inl ⟨(by rfl), (by intro w'; go_simp; with_reducible rfl)⟩) Z44_65 ?_
      refine join_ (σ := Value × Value × Value) 4 (M44_16 7935) (fun s_ => [(39, s_.1), (44, s_.2.1), (46, s_.2.2)]) (fun s_ w' => (w'.cell? ⟨gb1196, 0, none⟩ = some (.slice (some ad1210) l0_0.length c0_0) ∧ w'.cell? ⟨gb1196, 1, none⟩ = some (.slice A0_1 l0_1.length c0_1) ∧ w'.cell? ⟨gb1196, 2, none⟩ = some (.int .i64 a0_2) ∧ w'.cell? ⟨gb1196, 3, none⟩ = some (.int .i64 a0_3) ∧ w'.cell? ⟨gb1197, 0, none⟩ = some (.int .i64 a1_0) ∧ w'.cell? ⟨gb1197, 1, none⟩ = some (.int .i64 a1_1) ∧ w'.cell? ⟨gb1197, 2, none⟩ = some (.int .i64 a1_2) ∧ w'.cell? ⟨gb1197, 3, none⟩ = some (.int .i64 a1_3) ∧ w'.cell? ⟨gb1197, 4, none⟩ = some (.int .i64 a1_4) ∧ w'.cell? ⟨gb1197, 5, none⟩ = some (.int .i64 a1_5) ∧ w'.cell? ⟨gb1197, 6, none⟩ = some (.int .i64 a1_6) ∧ w'.cell? ⟨gb1197, 7, none⟩ = some (.int .i64 a1_7) ∧ w'.cell? ⟨gb1197, 8, none⟩ = some (.int .i64 a1_8) ∧ w'.cell? ⟨gb1197, 9, none⟩ = some (.int .i64 a1_9) ∧ w'.cell? ⟨gb1197, 10, none⟩ = some (.int .i64 a1_10) ∧ w'.cell? ⟨gb1197, 11, none⟩ = some (.bool a1_11) ∧ w'.cell? ⟨gb1197, 12, none⟩ = some (.bool a1_12)) ∧ (Kd.R k25 25 w' w.heap.size (fun k_ => some k_ ≠ (s_.2.2 : Value).ownBlock ∧ some k_ ≠ (.slice Ao17 t1199.length co17 : Value).ownBlock ∧ k_ ≠ gb1197) s_.2.1 y1218) ∧ (Kd.R k25 25 w' w.heap.size (fun k_ => some k_ ≠ (s_.2.1 : Value).ownBlock ∧ some k_ ≠ (.slice Ao17 t1199.length co17 : Value).ownBlock ∧ k_ ≠ gb1197) s_.2.2 y1221) ∧ (Kd.R k25 25 w' w.heap.size (fun k_ => some k_ ≠ (s_.2.1 : Value).ownBlock ∧ some k_ ≠ (s_.2.2 : Value).ownBlock ∧ k_ ≠ gb1197) (.slice Ao17 t1199.length co17) t1199) ∧ (Kd.R k71 71 w' w.heap.size (fun _ => True) (.slice Ao22 t1202.length co22) t1202) ∧ (w'.heap[gb1196]? = some (.cells #[.slice (some ad1210) l0_0.length c0_0, .slice A0_1 l0_1.length c0_1, .int .i64 a0_2, .int .i64 a0_3] 56 (0, 0))) ∧ (w'.heap[gb1197]? = some (.cells #[.int .i64 a1_0, .int .i64 a1_1, .int .i64 a1_2, .int .i64 a1_3, .int .i64 a1_4, .int .i64 a1_5, .int .i64 a1_6, .int .i64 a1_7, .int .i64 a1_8, .int .i64 a1_9, .int .i64 a1_10, .bool a1_11, .bool a1_12] 25 (0, 0))) ∧ (w'.heap[gb1198]? = some (.cells #[.slice none 0 0, .slice none 0 0, .int .i64 0, .int .i64 0] 56 (0, 0))) ∧ (w'.heap[gb1207]? = some (.cells #[.slice Ao17 t1199.length co17, .slice Ao22 t1202.length co22, .int .i64 t1205, .int .i64 t1206] 56 (0, 0))) ∧ (Below w.heap.size w w')) ?_ ?_
      rotate_left
      · intro hCont
        refine two_ (i := 0) (j := 7) (Ni := some 39) (Nj := some 46) (M44_16 7775) (M44_16 7902) rfl rfl rfl rfl (two_of HT_.out (by kernel_rfl)) (by decide) (by decide) (fun K hK => ?_) (fun K hK => ?_)
        · skip
          refine Kd.R_lit_step k25 _ 25 ?hg (N := 39) ?hd (xs := ([] : List (S25))) (inner := []) (ok := fun _ => True) (okp := fun _ => True) ?hr ?hp (fun _ hk => hk) trivial (Below.refl _ _) (Nat.le_refl _) (by simp) ?_; (case hd => rfl); (case hg => rfl); (case hr => first | (go_simp; done) | (go_simp; rfl)); (case hp => exact (Reps.none _ _))
          intro v1212 w66 ho67 hb hg_ hnew_
          clear hg_ hnew_
          (first | rw [← Ny1211.out] at ho67 | (simp only [Int.reduceToNat] at ho67; rw [← Ny1211.out] at ho67))
          have n0_ := Aside0.mk Z44_52
          have n1_ := Aside0.mk Z44_55
          have n2_ := Aside0.mk Z44_4
          have n3_ := Aside0.mk Z44_27
          have n4_ := Aside0.mk Z44_13
          have n5_ := Aside0.mk Z44_35
          have n6_ := Aside0.mk Z44_28
          have n7_ := Aside0.mk Z44_24
          clear HO_1208000
          clear HO_1208001
          clear BK1196
          clear BK1197
          clear BK1198
          clear BK1207
          clear HB
          have HO_1208000 := n0_
          have HO_1208001 := n1_
          have HO1213 := n2_
          have BK1196 := n3_
          have BK1197 := n4_
          have BK1198 := n5_
          have BK1207 := n6_
          have HB := n7_
          clear n0_ n1_ n2_ n3_ n4_ n5_ n6_ n7_
          clear hb ho67
          refine hK.out _ _ (D44_4 BK1196.out (C44_13 BK1197.out).1) (fun hHeld => ?_)
          clear hK K
          refine norm_ (a' := ?_) ?_ ?_
          rotate_left
          · show Act.put _ (some 39) _ = _
            simp only [Act.put, List.setIfInBounds_toArray, List.set_cons_zero, List.set_cons_succ, i64_w, i32_w]
            rfl
          refine two_ (i := 5) (j := 7) (Ni := some 44) (Nj := some 46) (M44_16 7807) (M44_16 7903) rfl rfl rfl rfl (two_of HT_.out (by kernel_rfl)) (by decide) (by decide) (fun K hK => ?_) (fun K hK => ?_)
          · skip
            refine Kd.R_append_rows_step k25 (w0 := w) w.heap.size (by rfl) (.tmp 39) (.tmp 43) 53 25 (.agg #[(.int .i64 0), (.int .i64 0), (.int .i64 0), (.int .i64 0), (.int .i64 0), (.int .i64 0), (.int .i64 0), (.int .i64 0), (.int .i64 0), (.int .i64 0), (.int .i64 0), (.bool false), (.bool false)]) 96 rfl Try.underlying53 info25 rfl (by decide) (by omega) v1212 y1211 y1214 _ _ _ (fun k_ => some k_ ≠ (.slice Ao17 t1199.length co17 : Value).ownBlock ∧ k_ ≠ gb1197) (fun _ => False) rfl rfl ?aO ?aR (fun _ _ h => h) (fun _ h => h.elim) ?aF ?aB ?aS ?aL ?_
            (case aR => repeat (first | exact (Kd.C_below HR1217.out HB.out) | (with_reducible refine Kd.C_alloc ?_ _) | (with_reducible refine Kd.C_drewN ?_ _) | (with_reducible refine Kd.C_drew ?_)))
            (case aB => exact Z44_30)
            (case aF => exact (fun k_ hk => ⟨Kd.fresh' (Kd.R_lt Z44_63) k_ hk, Kd.freshB (g := gb1197) (o := .cells #[.int .i64 a1_0, .int .i64 a1_1, .int .i64 a1_2, .int .i64 a1_3, .int .i64 a1_4, .int .i64 a1_5, .int .i64 a1_6, .int .i64 a1_7, .int .i64 a1_8, .int .i64 a1_9, .int .i64 a1_10, .bool a1_11, .bool a1_12] 25 (0, 0)) Z44_59 k_ hk⟩))
            (case aO => exact (by (with_reducible repeat (first | apply Kd.R_alloc | apply Kd.R_drewN | apply Kd.R_drew)); exact Kd.R_mono HO1213.out (fun _ hk => ⟨hk.1.2, hk.2⟩)))
            (case aS => exact (below_size Z44_30))
            (case aL => have := LMc57.out; omega)
            intro v1219 w68 ho hb hg hat
            rw [← Ny1218.out] at ho
            have n0_ := Aside0.mk Z44_40
            have n1_ := Aside0.mk Z44_32
            have n2_ := Aside0.mk Z44_15
            have n3_ := Aside0.mk Z44_11
            have n4_ := Aside0.mk Z44_26
            have n5_ := Aside0.mk Z44_17
            have n6_ := Aside0.mk (hb)
            have n7_ := Aside0.mk (ho)
            clear HO_1208000
            clear HO_1208001
            clear BK1196
            clear BK1197
            clear BK1198
            clear BK1207
            clear HB
            clear HO1213
            have HO_1208000 := n0_
            have HO_1208001 := n1_
            have BK1196 := n2_
            have BK1197 := n3_
            have BK1198 := n4_
            have BK1207 := n5_
            have HB := n6_
            have HO1220 := n7_
            clear n0_ n1_ n2_ n3_ n4_ n5_ n6_ n7_
            clear ho hb hg hat
            refine hK.out _ _ (D44_4 BK1196.out (C44_13 BK1197.out).1) (fun hHeld => ?_)
            clear hK K
            refine norm_ (a' := ?_) ?_ ?_
            rotate_left
            · show Act.put _ (some 44) _ = _
              simp only [Act.put, List.setIfInBounds_toArray, List.set_cons_zero, List.set_cons_succ, i64_w, i32_w]
              rfl
            refine one_ (i := 7) (N := some 46) (M44_16 7935) rfl rfl (one_of HT_.out (by kernel_rfl)) (by decide) (fun K hK => ?_)
            refine Kd.R_lit_step k25 _ 25 ?hg (N := 46) ?hd (xs := ([(⟨a1_0, a1_1, a1_2, a1_3, a1_4, a1_5, a1_6, a1_7, a1_8, a1_9, a1_10, a1_11, a1_12⟩ : S25)] : List (S25))) (inner := [.int .i64 a1_0, .int .i64 a1_1, .int .i64 a1_2, .int .i64 a1_3, .int .i64 a1_4, .int .i64 a1_5, .int .i64 a1_6, .int .i64 a1_7, .int .i64 a1_8, .int .i64 a1_9, .int .i64 a1_10, .bool a1_11, .bool a1_12]) (ok := fun _ => True) (okp := fun _ => True) ?hr ?hp (fun _ hk => hk) trivial (Below.refl _ _) (Nat.le_refl _) (by simp) ?_; (case hd => rfl); (case hg => rfl); (case hr => first | (go_simp; done) | (go_simp; rfl)); (case hp => exact (Reps.front (show Kd.M k25 _ _ _ (⟨a1_0, a1_1, a1_2, a1_3, a1_4, a1_5, a1_6, a1_7, a1_8, a1_9, a1_10, a1_11, a1_12⟩ : S25) [.int .i64 a1_0, .int .i64 a1_1, .int .i64 a1_2, .int .i64 a1_3, .int .i64 a1_4, .int .i64 a1_5, .int .i64 a1_6, .int .i64 a1_7, .int .i64 a1_8, .int .i64 a1_9, .int .i64 a1_10, .bool a1_11, .bool a1_12] from (k25_mkM _ _ _ (⟨a1_0, a1_1, a1_2, a1_3, a1_4, a1_5, a1_6, a1_7, a1_8, a1_9, a1_10, a1_11, a1_12⟩ : S25) )) rfl (Reps.none _ _) rfl))
            intro v1222 w69 ho70 hb hg_ hnew_
            clear hg_ hnew_
            (first | rw [← Ny1221.out] at ho70 | (simp only [Int.reduceToNat] at ho70; rw [← Ny1221.out] at ho70))
            have n0_ := Aside0.mk (Kd.R_elder' Z44_63 (Kd.R_base ho70) hb)
            have n1_ := Aside0.mk Z44_55
            have n2_ := Aside0.mk (Kd.R_elder' Z44_72 (Kd.R_base ho70) hb)
            have n3_ := Aside0.mk (Kd.R_lower (Kd.R_newB (Kd.R_new' (Kd.R_new' ho70 (Kd.R_lt Z44_63)) (Kd.R_lt Z44_72)) (g := gb1197) (o := .cells #[.int .i64 a1_0, .int .i64 a1_1, .int .i64 a1_2, .int .i64 a1_3, .int .i64 a1_4, .int .i64 a1_5, .int .i64 a1_6, .int .i64 a1_7, .int .i64 a1_8, .int .i64 a1_9, .int .i64 a1_10, .bool a1_11, .bool a1_12] 25 (0, 0)) Z44_59) (below_size Z44_30))
            have n4_ := Aside0.mk Z44_27
            have n5_ := Aside0.mk Z44_13
            have n6_ := Aside0.mk Z44_35
            have n7_ := Aside0.mk Z44_28
            have n8_ := Aside0.mk Z44_24
            clear HO_1208000
            clear HO_1208001
            clear HO1220
            clear BK1196
            clear BK1197
            clear BK1198
            clear BK1207
            clear HB
            have HO_1208000 := n0_
            have HO_1208001 := n1_
            have HO1220 := n2_
            have HO1223 := n3_
            have BK1196 := n4_
            have BK1197 := n5_
            have BK1198 := n6_
            have BK1207 := n7_
            have HB := n8_
            clear n0_ n1_ n2_ n3_ n4_ n5_ n6_ n7_ n8_
            clear hb ho70
            refine hK.out _ _ (D44_4 BK1196.out (C44_13 BK1197.out).1) (fun hHeld => ?_)
            clear hK K
            refine norm_ (a' := ?_) ?_ ?_
            rotate_left
            · show Act.put _ (some 46) _ = _
              simp only [Act.put, List.setIfInBounds_toArray, List.set_cons_zero, List.set_cons_succ, i64_w, i32_w]
              rfl
            exact norm_ Z44_75 (hCont (v1212, v1219, v1222) _ ⟨hHeld, (by (with_reducible repeat (first | apply Kd.R_alloc | apply Kd.R_drewN | apply Kd.R_drew)); exact Kd.R_mono HO1220.out (fun _ hk => ⟨hk.2, ⟨hk.1.1, hk.1.2⟩⟩)), (by (with_reducible repeat (first | apply Kd.R_alloc | apply Kd.R_drewN | apply Kd.R_drew)); exact Kd.R_mono HO1223.out (fun _ hk => ⟨hk.1.2, ⟨hk.1.1.2, hk.2⟩⟩)), Z44_41, Z44_64, Z44_58, Z44_59, Z44_60, Z44_61, Z44_30⟩)
          · skip
            refine Kd.R_lit_step k25 _ 25 ?hg (N := 46) ?hd (xs := ([(⟨a1_0, a1_1, a1_2, a1_3, a1_4, a1_5, a1_6, a1_7, a1_8, a1_9, a1_10, a1_11, a1_12⟩ : S25)] : List (S25))) (inner := [.int .i64 a1_0, .int .i64 a1_1, .int .i64 a1_2, .int .i64 a1_3, .int .i64 a1_4, .int .i64 a1_5, .int .i64 a1_6, .int .i64 a1_7, .int .i64 a1_8, .int .i64 a1_9, .int .i64 a1_10, .bool a1_11, .bool a1_12]) (ok := fun _ => True) (okp := fun _ => True) ?hr ?hp (fun _ hk => hk) trivial (Below.refl _ _) (Nat.le_refl _) (by simp) ?_; (case hd => rfl); (case hg => rfl); (case hr => first | (go_simp; done) | (go_simp; rfl)); (case hp => exact (Reps.front (show Kd.M k25 _ _ _ (⟨a1_0, a1_1, a1_2, a1_3, a1_4, a1_5, a1_6, a1_7, a1_8, a1_9, a1_10, a1_11, a1_12⟩ : S25) [.int .i64 a1_0, .int .i64 a1_1, .int .i64 a1_2, .int .i64 a1_3, .int .i64 a1_4, .int .i64 a1_5, .int .i64 a1_6, .int .i64 a1_7, .int .i64 a1_8, .int .i64 a1_9, .int .i64 a1_10, .bool a1_11, .bool a1_12] from (k25_mkM _ _ _ (⟨a1_0, a1_1, a1_2, a1_3, a1_4, a1_5, a1_6, a1_7, a1_8, a1_9, a1_10, a1_11, a1_12⟩ : S25) )) rfl (Reps.none _ _) rfl))
            intro v1222 w68 ho69 hb hg_ hnew_
            clear hg_ hnew_
            (first | rw [← Ny1221.out] at ho69 | (simp only [Int.reduceToNat] at ho69; rw [← Ny1221.out] at ho69))
            have n0_ := Aside0.mk Z44_53
            have n1_ := Aside0.mk Z44_55
            have n2_ := Aside0.mk (Kd.R_elder' Z44_71 (Kd.R_base ho69) hb)
            have n3_ := Aside0.mk (Kd.R_lower (Kd.R_newB (Kd.R_new' (Kd.R_new' ho69 (Kd.R_lt Z44_63)) (Kd.R_lt Z44_71)) (g := gb1197) (o := .cells #[.int .i64 a1_0, .int .i64 a1_1, .int .i64 a1_2, .int .i64 a1_3, .int .i64 a1_4, .int .i64 a1_5, .int .i64 a1_6, .int .i64 a1_7, .int .i64 a1_8, .int .i64 a1_9, .int .i64 a1_10, .bool a1_11, .bool a1_12] 25 (0, 0)) Z44_59) (below_size Z44_30))
            have n4_ := Aside0.mk Z44_27
            have n5_ := Aside0.mk Z44_13
            have n6_ := Aside0.mk Z44_35
            have n7_ := Aside0.mk Z44_28
            have n8_ := Aside0.mk Z44_24
            clear HO_1208000
            clear HO_1208001
            clear HO1213
            clear BK1196
            clear BK1197
            clear BK1198
            clear BK1207
            clear HB
            have HO_1208000 := n0_
            have HO_1208001 := n1_
            have HO1213 := n2_
            have HO1223 := n3_
            have BK1196 := n4_
            have BK1197 := n5_
            have BK1198 := n6_
            have BK1207 := n7_
            have HB := n8_
            clear n0_ n1_ n2_ n3_ n4_ n5_ n6_ n7_ n8_
            clear hb ho69
            refine hK.out _ _ (D44_4 BK1196.out (C44_13 BK1197.out).1) (fun hHeld => ?_)
            clear hK K
            refine norm_ (a' := ?_) ?_ ?_
            rotate_left
            · show Act.put _ (some 46) _ = _
              simp only [Act.put, List.setIfInBounds_toArray, List.set_cons_zero, List.set_cons_succ, i64_w, i32_w]
              rfl
            refine one_ (i := 5) (N := some 44) (M44_16 7935) rfl rfl (one_of HT_.out (by kernel_rfl)) (by decide) (fun K hK => ?_)
            refine Kd.R_append_rows_step k25 (w0 := w) w.heap.size (by rfl) (.tmp 39) (.tmp 43) 53 25 (.agg #[(.int .i64 0), (.int .i64 0), (.int .i64 0), (.int .i64 0), (.int .i64 0), (.int .i64 0), (.int .i64 0), (.int .i64 0), (.int .i64 0), (.int .i64 0), (.int .i64 0), (.bool false), (.bool false)]) 96 rfl Try.underlying53 info25 rfl (by decide) (by omega) v1212 y1211 y1214 _ _ _ (fun k_ => some k_ ≠ (.slice Ao17 t1199.length co17 : Value).ownBlock ∧ some k_ ≠ (v1222 : Value).ownBlock ∧ k_ ≠ gb1197) (fun _ => False) rfl rfl ?aO ?aR (fun _ _ h => h) (fun _ h => h.elim) ?aF ?aB ?aS ?aL ?_
            (case aR => repeat (first | exact (Kd.C_below HR1217.out HB.out) | (with_reducible refine Kd.C_alloc ?_ _) | (with_reducible refine Kd.C_drewN ?_ _) | (with_reducible refine Kd.C_drew ?_)))
            (case aB => exact Z44_30)
            (case aF => exact (fun k_ hk => ⟨Kd.fresh' (Kd.R_lt Z44_63) k_ hk, Kd.fresh' (Kd.R_lt Z44_73) k_ hk, Kd.freshB (g := gb1197) (o := .cells #[.int .i64 a1_0, .int .i64 a1_1, .int .i64 a1_2, .int .i64 a1_3, .int .i64 a1_4, .int .i64 a1_5, .int .i64 a1_6, .int .i64 a1_7, .int .i64 a1_8, .int .i64 a1_9, .int .i64 a1_10, .bool a1_11, .bool a1_12] 25 (0, 0)) Z44_59 k_ hk⟩))
            (case aO => exact (by (with_reducible repeat (first | apply Kd.R_alloc | apply Kd.R_drewN | apply Kd.R_drew)); exact Kd.R_mono HO1213.out (fun _ hk => ⟨hk.1.1.2, ⟨hk.2, hk.1.2⟩⟩)))
            (case aS => exact (below_size Z44_30))
            (case aL => have := LMc57.out; omega)
            intro v1219 w70 ho hb hg hat
            rw [← Ny1218.out] at ho
            have n0_ := Aside0.mk (Kd.R_after (ok := (fun k_ => some k_ ≠ (v1222 : Value).ownBlock ∧ k_ ≠ gb1197)) Z44_42 hg hat)
            have n1_ := Aside0.mk Z44_32
            have n2_ := Aside0.mk Z44_15
            have n3_ := Aside0.mk (blk_grown (g := gb1197) (o := .cells #[.int .i64 a1_0, .int .i64 a1_1, .int .i64 a1_2, .int .i64 a1_3, .int .i64 a1_4, .int .i64 a1_5, .int .i64 a1_6, .int .i64 a1_7, .int .i64 a1_8, .int .i64 a1_9, .int .i64 a1_10, .bool a1_11, .bool a1_12] 25 (0, 0)) Z44_59 hg (Kd.R_away HO1213.out (fun _ hk => hk.1.2)))
            have n4_ := Aside0.mk Z44_26
            have n5_ := Aside0.mk Z44_17
            have n6_ := Aside0.mk (Kd.R_after (ok := (fun k_ => some k_ ≠ (.slice Ao17 t1199.length co17 : Value).ownBlock ∧ k_ ≠ gb1197)) (by (with_reducible repeat (first | apply Kd.R_alloc | apply Kd.R_drewN | apply Kd.R_drew)); exact Kd.R_mono HO1223.out (fun _ hk => ⟨⟨hk.1.1.2, hk.2⟩, hk.1.2⟩)) hg hat)
            have n7_ := Aside0.mk (hb)
            have n8_ := Aside0.mk (ho)
            clear HO_1208000
            clear HO_1208001
            clear BK1196
            clear BK1197
            clear BK1198
            clear BK1207
            clear HO1223
            clear HB
            clear HO1213
            have HO_1208000 := n0_
            have HO_1208001 := n1_
            have BK1196 := n2_
            have BK1197 := n3_
            have BK1198 := n4_
            have BK1207 := n5_
            have HO1223 := n6_
            have HB := n7_
            have HO1220 := n8_
            clear n0_ n1_ n2_ n3_ n4_ n5_ n6_ n7_ n8_
            clear ho hb hg hat
            refine hK.out _ _ (D44_4 BK1196.out (C44_13 BK1197.out).1) (fun hHeld => ?_)
            clear hK K
            refine norm_ (a' := ?_) ?_ ?_
            rotate_left
            · show Act.put _ (some 44) _ = _
              simp only [Act.put, List.setIfInBounds_toArray, List.set_cons_zero, List.set_cons_succ, i64_w, i32_w]
              rfl
            exact norm_ Z44_75 (hCont (v1212, v1219, v1222) _ ⟨hHeld, Z44_48, Z44_49, Z44_43, Z44_64, Z44_58, Z44_59, Z44_60, Z44_61, Z44_30⟩)
        · skip
          refine Kd.R_lit_step k25 _ 25 ?hg (N := 46) ?hd (xs := ([(⟨a1_0, a1_1, a1_2, a1_3, a1_4, a1_5, a1_6, a1_7, a1_8, a1_9, a1_10, a1_11, a1_12⟩ : S25)] : List (S25))) (inner := [.int .i64 a1_0, .int .i64 a1_1, .int .i64 a1_2, .int .i64 a1_3, .int .i64 a1_4, .int .i64 a1_5, .int .i64 a1_6, .int .i64 a1_7, .int .i64 a1_8, .int .i64 a1_9, .int .i64 a1_10, .bool a1_11, .bool a1_12]) (ok := fun _ => True) (okp := fun _ => True) ?hr ?hp (fun _ hk => hk) trivial (Below.refl _ _) (Nat.le_refl _) (by simp) ?_; (case hd => rfl); (case hg => rfl); (case hr => first | (go_simp; done) | (go_simp; rfl)); (case hp => exact (Reps.front (show Kd.M k25 _ _ _ (⟨a1_0, a1_1, a1_2, a1_3, a1_4, a1_5, a1_6, a1_7, a1_8, a1_9, a1_10, a1_11, a1_12⟩ : S25) [.int .i64 a1_0, .int .i64 a1_1, .int .i64 a1_2, .int .i64 a1_3, .int .i64 a1_4, .int .i64 a1_5, .int .i64 a1_6, .int .i64 a1_7, .int .i64 a1_8, .int .i64 a1_9, .int .i64 a1_10, .bool a1_11, .bool a1_12] from (k25_mkM _ _ _ (⟨a1_0, a1_1, a1_2, a1_3, a1_4, a1_5, a1_6, a1_7, a1_8, a1_9, a1_10, a1_11, a1_12⟩ : S25) )) rfl (Reps.none _ _) rfl))
          intro v1222 w66 ho67 hb hg_ hnew_
          clear hg_ hnew_
          (first | rw [← Ny1221.out] at ho67 | (simp only [Int.reduceToNat] at ho67; rw [← Ny1221.out] at ho67))
          have n0_ := Aside0.mk Z44_52
          have n1_ := Aside0.mk Z44_55
          have n2_ := Aside0.mk Z44_4
          have n3_ := Aside0.mk Z44_27
          have n4_ := Aside0.mk Z44_13
          have n5_ := Aside0.mk Z44_35
          have n6_ := Aside0.mk Z44_28
          have n7_ := Aside0.mk Z44_24
          clear HO_1208000
          clear HO_1208001
          clear BK1196
          clear BK1197
          clear BK1198
          clear BK1207
          clear HB
          have HO_1208000 := n0_
          have HO_1208001 := n1_
          have HO1223 := n2_
          have BK1196 := n3_
          have BK1197 := n4_
          have BK1198 := n5_
          have BK1207 := n6_
          have HB := n7_
          clear n0_ n1_ n2_ n3_ n4_ n5_ n6_ n7_
          clear hb ho67
          refine hK.out _ _ (D44_4 BK1196.out (C44_13 BK1197.out).1) (fun hHeld => ?_)
          clear hK K
          refine norm_ (a' := ?_) ?_ ?_
          rotate_left
          · show Act.put _ (some 46) _ = _
            simp only [Act.put, List.setIfInBounds_toArray, List.set_cons_zero, List.set_cons_succ, i64_w, i32_w]
            rfl
          refine one_ (i := 0) (N := some 39) (M44_16 7903) rfl rfl (one_of HT_.out (by kernel_rfl)) (by decide) (fun K hK => ?_)
          refine Kd.R_lit_step k25 _ 25 ?hg (N := 39) ?hd (xs := ([] : List (S25))) (inner := []) (ok := fun _ => True) (okp := fun _ => True) ?hr ?hp (fun _ hk => hk) trivial (Below.refl _ _) (Nat.le_refl _) (by simp) ?_; (case hd => rfl); (case hg => rfl); (case hr => first | (go_simp; done) | (go_simp; rfl)); (case hp => exact (Reps.none _ _))
          intro v1212 w68 ho69 hb hg_ hnew_
          clear hg_ hnew_
          (first | rw [← Ny1211.out] at ho69 | (simp only [Int.reduceToNat] at ho69; rw [← Ny1211.out] at ho69))
          have n0_ := Aside0.mk Z44_53
          have n1_ := Aside0.mk Z44_55
          have n2_ := Aside0.mk (Kd.R_elder' Z44_73 (Kd.R_base ho69) hb)
          have n3_ := Aside0.mk (Kd.R_lower (Kd.R_newB (Kd.R_new' (Kd.R_new' ho69 (Kd.R_lt Z44_63)) (Kd.R_lt Z44_73)) (g := gb1197) (o := .cells #[.int .i64 a1_0, .int .i64 a1_1, .int .i64 a1_2, .int .i64 a1_3, .int .i64 a1_4, .int .i64 a1_5, .int .i64 a1_6, .int .i64 a1_7, .int .i64 a1_8, .int .i64 a1_9, .int .i64 a1_10, .bool a1_11, .bool a1_12] 25 (0, 0)) Z44_59) (below_size Z44_30))
          have n4_ := Aside0.mk Z44_27
          have n5_ := Aside0.mk Z44_13
          have n6_ := Aside0.mk Z44_35
          have n7_ := Aside0.mk Z44_28
          have n8_ := Aside0.mk Z44_24
          clear HO_1208000
          clear HO_1208001
          clear HO1223
          clear BK1196
          clear BK1197
          clear BK1198
          clear BK1207
          clear HB
          have HO_1208000 := n0_
          have HO_1208001 := n1_
          have HO1223 := n2_
          have HO1213 := n3_
          have BK1196 := n4_
          have BK1197 := n5_
          have BK1198 := n6_
          have BK1207 := n7_
          have HB := n8_
          clear n0_ n1_ n2_ n3_ n4_ n5_ n6_ n7_ n8_
          clear hb ho69
          refine hK.out _ _ (D44_4 BK1196.out (C44_13 BK1197.out).1) (fun hHeld => ?_)
          clear hK K
          refine norm_ (a' := ?_) ?_ ?_
          rotate_left
          · show Act.put _ (some 39) _ = _
            simp only [Act.put, List.setIfInBounds_toArray, List.set_cons_zero, List.set_cons_succ, i64_w, i32_w]
            rfl
          refine one_ (i := 5) (N := some 44) (M44_16 7935) rfl rfl (one_of HT_.out (by kernel_rfl)) (by decide) (fun K hK => ?_)
          refine Kd.R_append_rows_step k25 (w0 := w) w.heap.size (by rfl) (.tmp 39) (.tmp 43) 53 25 (.agg #[(.int .i64 0), (.int .i64 0), (.int .i64 0), (.int .i64 0), (.int .i64 0), (.int .i64 0), (.int .i64 0), (.int .i64 0), (.int .i64 0), (.int .i64 0), (.int .i64 0), (.bool false), (.bool false)]) 96 rfl Try.underlying53 info25 rfl (by decide) (by omega) v1212 y1211 y1214 _ _ _ (fun k_ => some k_ ≠ (.slice Ao17 t1199.length co17 : Value).ownBlock ∧ some k_ ≠ (v1222 : Value).ownBlock ∧ k_ ≠ gb1197) (fun _ => False) rfl rfl ?aO ?aR (fun _ _ h => h) (fun _ h => h.elim) ?aF ?aB ?aS ?aL ?_
          (case aR => repeat (first | exact (Kd.C_below HR1217.out HB.out) | (with_reducible refine Kd.C_alloc ?_ _) | (with_reducible refine Kd.C_drewN ?_ _) | (with_reducible refine Kd.C_drew ?_)))
          (case aB => exact Z44_30)
          (case aF => exact (fun k_ hk => ⟨Kd.fresh' (Kd.R_lt Z44_63) k_ hk, Kd.fresh' (Kd.R_lt Z44_73) k_ hk, Kd.freshB (g := gb1197) (o := .cells #[.int .i64 a1_0, .int .i64 a1_1, .int .i64 a1_2, .int .i64 a1_3, .int .i64 a1_4, .int .i64 a1_5, .int .i64 a1_6, .int .i64 a1_7, .int .i64 a1_8, .int .i64 a1_9, .int .i64 a1_10, .bool a1_11, .bool a1_12] 25 (0, 0)) Z44_59 k_ hk⟩))
          (case aO => exact (by (with_reducible repeat (first | apply Kd.R_alloc | apply Kd.R_drewN | apply Kd.R_drew)); exact Kd.R_mono HO1213.out (fun _ hk => ⟨hk.1.1.2, ⟨hk.1.2, hk.2⟩⟩)))
          (case aS => exact (below_size Z44_30))
          (case aL => have := LMc57.out; omega)
          intro v1219 w70 ho hb hg hat
          rw [← Ny1218.out] at ho
          have n0_ := Aside0.mk (Kd.R_after (ok := (fun k_ => some k_ ≠ (v1222 : Value).ownBlock ∧ k_ ≠ gb1197)) Z44_44 hg hat)
          have n1_ := Aside0.mk Z44_32
          have n2_ := Aside0.mk Z44_15
          have n3_ := Aside0.mk Z44_11
          have n4_ := Aside0.mk Z44_26
          have n5_ := Aside0.mk Z44_17
          have n6_ := Aside0.mk (Kd.R_after (ok := (fun k_ => some k_ ≠ (.slice Ao17 t1199.length co17 : Value).ownBlock ∧ k_ ≠ gb1197)) (by (with_reducible repeat (first | apply Kd.R_alloc | apply Kd.R_drewN | apply Kd.R_drew)); exact Kd.R_mono HO1223.out (fun _ hk => ⟨⟨hk.1.1.2, hk.1.2⟩, hk.2⟩)) hg hat)
          have n7_ := Aside0.mk (hb)
          have n8_ := Aside0.mk (ho)
          clear HO_1208000
          clear HO_1208001
          clear BK1196
          clear BK1197
          clear BK1198
          clear BK1207
          clear HO1223
          clear HB
          clear HO1213
          have HO_1208000 := n0_
          have HO_1208001 := n1_
          have BK1196 := n2_
          have BK1197 := n3_
          have BK1198 := n4_
          have BK1207 := n5_
          have HO1223 := n6_
          have HB := n7_
          have HO1220 := n8_
          clear n0_ n1_ n2_ n3_ n4_ n5_ n6_ n7_ n8_
          clear ho hb hg hat
          refine hK.out _ _ (D44_4 BK1196.out (C44_13 BK1197.out).1) (fun hHeld => ?_)
          clear hK K
          refine norm_ (a' := ?_) ?_ ?_
          rotate_left
          · show Act.put _ (some 44) _ = _
            simp only [Act.put, List.setIfInBounds_toArray, List.set_cons_zero, List.set_cons_succ, i64_w, i32_w]
            rfl
          exact norm_ Z44_75 (hCont (v1212, v1219, v1222) _ ⟨hHeld, Z44_48, Z44_49, Z44_43, Z44_64, Z44_58, Z44_59, Z44_60, Z44_61, Z44_30⟩)
      rintro ⟨v1212, v1219, v1222⟩ w71 ⟨hS_, h0_, h1_, h2_, h3_, h4_, h5_, h6_, h7_, h8_⟩
      have n0_ : Aside0 (Kd.R k25 25 w71 w.heap.size (fun k_ => some k_ ≠ (v1222 : Value).ownBlock ∧ some k_ ≠ (.slice Ao17 t1199.length co17 : Value).ownBlock ∧ k_ ≠ gb1197) v1219 y1218) := ⟨h0_⟩
      have n1_ : Aside0 (Kd.R k25 25 w71 w.heap.size (fun k_ => some k_ ≠ (v1219 : Value).ownBlock ∧ some k_ ≠ (.slice Ao17 t1199.length co17 : Value).ownBlock ∧ k_ ≠ gb1197) v1222 y1221) := ⟨h1_⟩
      have n2_ : Aside0 (Kd.R k25 25 w71 w.heap.size (fun k_ => some k_ ≠ (v1219 : Value).ownBlock ∧ some k_ ≠ (v1222 : Value).ownBlock ∧ k_ ≠ gb1197) (.slice Ao17 t1199.length co17) t1199) := ⟨h2_⟩
      have n3_ : Aside0 (Kd.R k71 71 w71 w.heap.size (fun _ => True) (.slice Ao22 t1202.length co22) t1202) := ⟨h3_⟩
      have n4_ : Aside0 (w71.heap[gb1196]? = some (.cells #[.slice (some ad1210) l0_0.length c0_0, .slice A0_1 l0_1.length c0_1, .int .i64 a0_2, .int .i64 a0_3] 56 (0, 0))) := ⟨h4_⟩
      have n5_ : Aside0 (w71.heap[gb1197]? = some (.cells #[.int .i64 a1_0, .int .i64 a1_1, .int .i64 a1_2, .int .i64 a1_3, .int .i64 a1_4, .int .i64 a1_5, .int .i64 a1_6, .int .i64 a1_7, .int .i64 a1_8, .int .i64 a1_9, .int .i64 a1_10, .bool a1_11, .bool a1_12] 25 (0, 0))) := ⟨h5_⟩
      have n6_ : Aside0 (w71.heap[gb1198]? = some (.cells #[.slice none 0 0, .slice none 0 0, .int .i64 0, .int .i64 0] 56 (0, 0))) := ⟨h6_⟩
      have n7_ : Aside0 (w71.heap[gb1207]? = some (.cells #[.slice Ao17 t1199.length co17, .slice Ao22 t1202.length co22, .int .i64 t1205, .int .i64 t1206] 56 (0, 0))) := ⟨h7_⟩
      have n8_ : Aside0 (Below w.heap.size w w71) := ⟨h8_⟩
      clear HO_1208000
      clear HO_1208001
      clear BK1196
      clear BK1197
      clear BK1198
      clear BK1207
      clear HB
      clear h0_ h1_ h2_ h3_ h4_ h5_ h6_ h7_ h8_
      have HO1220 := n0_
      have HO1223 := n1_
      have HO_1208000 := n2_
      have HO_1208001 := n3_
      have BK1196 := n4_
      have BK1197 := n5_
      have BK1198 := n6_
      have BK1207 := n7_
      have HB := n8_
      clear n0_ n1_ n2_ n3_ n4_ n5_ n6_ n7_ n8_
      have hHeld : w71.cell? ⟨gb1196, 0, none⟩ = some (.slice (some ad1210) l0_0.length c0_0) ∧ w71.cell? ⟨gb1196, 1, none⟩ = some (.slice A0_1 l0_1.length c0_1) ∧ w71.cell? ⟨gb1196, 2, none⟩ = some (.int .i64 a0_2) ∧ w71.cell? ⟨gb1196, 3, none⟩ = some (.int .i64 a0_3) ∧ w71.cell? ⟨gb1197, 0, none⟩ = some (.int .i64 a1_0) ∧ w71.cell? ⟨gb1197, 1, none⟩ = some (.int .i64 a1_1) ∧ w71.cell? ⟨gb1197, 2, none⟩ = some (.int .i64 a1_2) ∧ w71.cell? ⟨gb1197, 3, none⟩ = some (.int .i64 a1_3) ∧ w71.cell? ⟨gb1197, 4, none⟩ = some (.int .i64 a1_4) ∧ w71.cell? ⟨gb1197, 5, none⟩ = some (.int .i64 a1_5) ∧ w71.cell? ⟨gb1197, 6, none⟩ = some (.int .i64 a1_6) ∧ w71.cell? ⟨gb1197, 7, none⟩ = some (.int .i64 a1_7) ∧ w71.cell? ⟨gb1197, 8, none⟩ = some (.int .i64 a1_8) ∧ w71.cell? ⟨gb1197, 9, none⟩ = some (.int .i64 a1_9) ∧ w71.cell? ⟨gb1197, 10, none⟩ = some (.int .i64 a1_10) ∧ w71.cell? ⟨gb1197, 11, none⟩ = some (.bool a1_11) ∧ w71.cell? ⟨gb1197, 12, none⟩ = some (.bool a1_12) := hS_
      obtain ⟨Ao73, co73, eo73⟩ := Kd.R_slice HO1223.out
      (first | subst eo73 | (injection eo73 with f1_ f2_ f3_; have f4_ := f1_.symm; have f5_ := f3_.symm; clear f1_ f2_ f3_; subst f4_; subst f5_))
      refine norm_ (a' := ?_) ?_ ?_
      rotate_left
      · simp only [putAll, Act.put, List.setIfInBounds_toArray, List.set_cons_zero, List.set_cons_succ]
        rfl
      refine one_ (i := 8) (N := some 47) (M44_16 8191) rfl rfl (one_of HT_.out (by kernel_rfl)) (by decide) (fun K hK => ?_)
      refine Kd.R_append_rows_step k25 (w0 := w) w.heap.size (by rfl) (.tmp 44) (.tmp 46) 53 25 (.agg #[(.int .i64 0), (.int .i64 0), (.int .i64 0), (.int .i64 0), (.int .i64 0), (.int .i64 0), (.int .i64 0), (.int .i64 0), (.int .i64 0), (.int .i64 0), (.int .i64 0), (.bool false), (.bool false)]) 96 rfl Try.underlying53 info25 rfl (by decide) (by omega) v1219 y1218 y1221 _ _ _ (fun k_ => some k_ ≠ (.slice Ao17 t1199.length co17 : Value).ownBlock ∧ some k_ ≠ (.slice Ao73 y1221.length co73 : Value).ownBlock ∧ k_ ≠ gb1197) (fun _ => False) rfl rfl ?aO ?aR (fun _ _ h => h) (fun _ h => h.elim) ?aF ?aB ?aS ?aL ?_
      (case aR => repeat (first | exact (Kd.R_reads' HO1223.out).2.2 | (with_reducible refine Kd.C_alloc ?_ _) | (with_reducible refine Kd.C_drewN ?_ _) | (with_reducible refine Kd.C_drew ?_)))
      (case aB => exact Z44_30)
      (case aF => exact (fun k_ hk => ⟨Kd.fresh' (Kd.R_lt Z44_63) k_ hk, Kd.fresh' (Kd.R_lt Z44_73) k_ hk, Kd.freshB (g := gb1197) (o := .cells #[.int .i64 a1_0, .int .i64 a1_1, .int .i64 a1_2, .int .i64 a1_3, .int .i64 a1_4, .int .i64 a1_5, .int .i64 a1_6, .int .i64 a1_7, .int .i64 a1_8, .int .i64 a1_9, .int .i64 a1_10, .bool a1_11, .bool a1_12] 25 (0, 0)) Z44_59 k_ hk⟩))
      (case aO => exact Z44_48)
      (case aS => exact (below_size Z44_30))
      (case aL => have := LMc58.out; omega)
      intro v1225 w72 ho hb hg hat
      rw [← Ny1224.out] at ho
      have n0_ := Aside0.mk (Kd.R_after (ok := (fun k_ => some k_ ≠ (.slice Ao73 y1221.length co73 : Value).ownBlock ∧ k_ ≠ gb1197)) Z44_45 hg hat)
      have n1_ := Aside0.mk (Kd.R_over' Z44_64 (Kd.R_typed Z44_72) (by decide) hg)
      have n2_ := Aside0.mk (blk_grown (g := gb1196) (o := .cells #[.slice (some ad1210) l0_0.length c0_0, .slice A0_1 l0_1.length c0_1, .int .i64 a0_2, .int .i64 a0_3] 56 (0, 0)) Z44_58 hg (Kd.R_ne HO1220.out BK1196.out (by decide)))
      have n3_ := Aside0.mk (blk_grown (g := gb1197) (o := .cells #[.int .i64 a1_0, .int .i64 a1_1, .int .i64 a1_2, .int .i64 a1_3, .int .i64 a1_4, .int .i64 a1_5, .int .i64 a1_6, .int .i64 a1_7, .int .i64 a1_8, .int .i64 a1_9, .int .i64 a1_10, .bool a1_11, .bool a1_12] 25 (0, 0)) Z44_59 hg (Kd.R_away HO1220.out (fun _ hk => hk.2.2)))
      have n4_ := Aside0.mk (blk_grown (g := gb1198) (o := .cells #[.slice none 0 0, .slice none 0 0, .int .i64 0, .int .i64 0] 56 (0, 0)) Z44_60 hg (Kd.R_ne HO1220.out BK1198.out (by decide)))
      have n5_ := Aside0.mk (blk_grown (g := gb1207) (o := .cells #[.slice Ao17 t1199.length co17, .slice Ao22 t1202.length co22, .int .i64 t1205, .int .i64 t1206] 56 (0, 0)) Z44_61 hg (Kd.R_ne HO1220.out BK1207.out (by decide)))
      have n6_ := Aside0.mk (Kd.R_after (ok := (fun k_ => some k_ ≠ (.slice Ao17 t1199.length co17 : Value).ownBlock ∧ k_ ≠ gb1197)) (by (with_reducible repeat (first | apply Kd.R_alloc | apply Kd.R_drewN | apply Kd.R_drew)); exact Kd.R_mono HO1223.out (fun _ hk => ⟨⟨hk.2.1, hk.2.2⟩, hk.1⟩)) hg hat)
      have n7_ := Aside0.mk (hb)
      have n8_ := Aside0.mk (ho)
      clear HO_1208000
      clear HO_1208001
      clear BK1196
      clear BK1197
      clear BK1198
      clear BK1207
      clear HO1223
      clear HB
      clear HO1220
      have HO_1208000 := n0_
      have HO_1208001 := n1_
      have BK1196 := n2_
      have BK1197 := n3_
      have BK1198 := n4_
      have BK1207 := n5_
      have HO1223 := n6_
      have HB := n7_
      have HO1226 := n8_
      clear n0_ n1_ n2_ n3_ n4_ n5_ n6_ n7_ n8_
      clear ho hb hg hat
      refine hK.out _ _ (D44_4 BK1196.out (C44_13 BK1197.out).1) (fun hHeld => ?_)
      clear hK K
      refine norm_ (a' := ?_) ?_ ?_
      rotate_left
      · show Act.put _ (some 47) _ = _
        simp only [Act.put, List.setIfInBounds_toArray, List.set_cons_zero, List.set_cons_succ, i64_w, i32_w]
        rfl
      refine one_ (i := 13) (N := some 52) (M44_16 16383) rfl rfl (one_of HT_.out (by kernel_rfl)) (by decide) (fun K hK => ?_)
      refine Kd.R_append_rows_step k25 (w0 := w) w.heap.size (by rfl) (.tmp 47) (.tmp 51) 53 25 (.agg #[(.int .i64 0), (.int .i64 0), (.int .i64 0), (.int .i64 0), (.int .i64 0), (.int .i64 0), (.int .i64 0), (.int .i64 0), (.int .i64 0), (.int .i64 0), (.int .i64 0), (.bool false), (.bool false)]) 96 rfl Try.underlying53 info25 rfl (by decide) (by omega) v1225 y1224 y1227 _ _ _ (fun k_ => some k_ ≠ (.slice Ao17 t1199.length co17 : Value).ownBlock ∧ some k_ ≠ (.slice Ao73 y1221.length co73 : Value).ownBlock ∧ k_ ≠ gb1197) (fun _ => False) rfl rfl ?aO ?aR (fun _ _ h => h) (fun _ h => h.elim) ?aF ?aB ?aS ?aL ?_
      (case aR => repeat (first | exact (Kd.C_below HR1230.out HB.out) | (with_reducible refine Kd.C_alloc ?_ _) | (with_reducible refine Kd.C_drewN ?_ _) | (with_reducible refine Kd.C_drew ?_)))
      (case aB => exact Z44_30)
      (case aF => exact (fun k_ hk => ⟨Kd.fresh' (Kd.R_lt Z44_63) k_ hk, Kd.fresh' (Kd.R_lt Z44_73) k_ hk, Kd.freshB (g := gb1197) (o := .cells #[.int .i64 a1_0, .int .i64 a1_1, .int .i64 a1_2, .int .i64 a1_3, .int .i64 a1_4, .int .i64 a1_5, .int .i64 a1_6, .int .i64 a1_7, .int .i64 a1_8, .int .i64 a1_9, .int .i64 a1_10, .bool a1_11, .bool a1_12] 25 (0, 0)) Z44_59 k_ hk⟩))
      (case aO => exact Z44_74)
      (case aS => exact (below_size Z44_30))
      (case aL => have := LMc61.out; omega)
      intro v1232 w74 ho hb hg hat
      rw [← Ny1231.out] at ho
      have n0_ := Aside0.mk (Kd.R_after (ok := (fun k_ => some k_ ≠ (.slice Ao73 y1221.length co73 : Value).ownBlock ∧ k_ ≠ gb1197)) Z44_63 hg hat)
      have n1_ := Aside0.mk (Kd.R_over' Z44_64 (Kd.R_typed Z44_74) (by decide) hg)
      have n2_ := Aside0.mk (blk_grown (g := gb1196) (o := .cells #[.slice (some ad1210) l0_0.length c0_0, .slice A0_1 l0_1.length c0_1, .int .i64 a0_2, .int .i64 a0_3] 56 (0, 0)) Z44_58 hg (Kd.R_ne HO1226.out BK1196.out (by decide)))
      have n3_ := Aside0.mk (blk_grown (g := gb1197) (o := .cells #[.int .i64 a1_0, .int .i64 a1_1, .int .i64 a1_2, .int .i64 a1_3, .int .i64 a1_4, .int .i64 a1_5, .int .i64 a1_6, .int .i64 a1_7, .int .i64 a1_8, .int .i64 a1_9, .int .i64 a1_10, .bool a1_11, .bool a1_12] 25 (0, 0)) Z44_59 hg (Kd.R_away HO1226.out (fun _ hk => hk.2.2)))
      have n4_ := Aside0.mk (blk_grown (g := gb1198) (o := .cells #[.slice none 0 0, .slice none 0 0, .int .i64 0, .int .i64 0] 56 (0, 0)) Z44_60 hg (Kd.R_ne HO1226.out BK1198.out (by decide)))
      have n5_ := Aside0.mk (blk_grown (g := gb1207) (o := .cells #[.slice Ao17 t1199.length co17, .slice Ao22 t1202.length co22, .int .i64 t1205, .int .i64 t1206] 56 (0, 0)) Z44_61 hg (Kd.R_ne HO1226.out BK1207.out (by decide)))
      have n6_ := Aside0.mk (Kd.R_after (ok := (fun k_ => some k_ ≠ (.slice Ao17 t1199.length co17 : Value).ownBlock ∧ k_ ≠ gb1197)) Z44_73 hg hat)
      have n7_ := Aside0.mk (hb)
      have n8_ := Aside0.mk (ho)
      clear HO_1208000
      clear HO_1208001
      clear BK1196
      clear BK1197
      clear BK1198
      clear BK1207
      clear HO1223
      clear HB
      clear HO1226
      have HO_1208000 := n0_
      have HO_1208001 := n1_
      have BK1196 := n2_
      have BK1197 := n3_
      have BK1198 := n4_
      have BK1207 := n5_
      have HO1223 := n6_
      have HB := n7_
      have HO1233 := n8_
      clear n0_ n1_ n2_ n3_ n4_ n5_ n6_ n7_ n8_
      clear ho hb hg hat
      obtain ⟨Ao75, co75, eo75⟩ := Kd.R_slice HO1233.out
      (first | subst eo75 | (injection eo75 with f1_ f2_ f3_; have f4_ := f1_.symm; have f5_ := f3_.symm; clear f1_ f2_ f3_; subst f4_; subst f5_))
      refine hK.out _ _ (D44_4 BK1196.out (C44_13 BK1197.out).1) (fun hHeld => ?_)
      clear hK K
      refine norm_ (a' := ?_) ?_ ?_
      rotate_left
      · show Act.put _ (some 52) _ = _
        simp only [Act.put, List.setIfInBounds_toArray, List.set_cons_zero, List.set_cons_succ, i64_w, i32_w]
        rfl
      refine pure_ (i := 14) (N := some 53) (v := _) (a' := _) (M44_16 32767) rfl rfl (any_of HT_.out (by kernel_rfl)) (fun _ _ _ h => h) (Or.inl ⟨(by rfl), (by intro w'; go_simp; with_reducible rfl)⟩) Z44_65 ?_
      refine one_ (i := 15) (N := none) (M44_16 65535) rfl rfl (one_of HT_.out (by kernel_rfl)) (by decide) (fun K hK => ?_)
      have hs76 : w74.cell? ⟨gb1207, 0, none⟩ = some (.slice Ao17 t1199.length co17) := (blk_cell BK1207.out 0).trans rfl
      have hfs76 := blk_frozen BK1207.out 0
      have hns76_0 := NB1196_1207.out
      have hns76_1 := NB1197_1207.out
      have hns76_2 := NB1198_1207.out
      have hms76_0 := NB1207_1196.out
      have hms76_1 := NB1207_1197.out
      have hms76_2 := NB1207_1198.out
      refine skip_ (w1 := ?_) (by rfl) rfl ?_ ?_
      rotate_left
      · go_simp
        rfl
      refine hK.out _ _ ?_ (fun hHeld => ?_)
      · exact ⟨((cell_far (p := ⟨gb1207, _, none⟩) NB1196_1207.out _).trans (hHeld.1)), ((cell_far (p := ⟨gb1207, _, none⟩) NB1196_1207.out _).trans (hHeld.2.1)), ((cell_far (p := ⟨gb1207, _, none⟩) NB1196_1207.out _).trans (hHeld.2.2.1)), ((cell_far (p := ⟨gb1207, _, none⟩) NB1196_1207.out _).trans (hHeld.2.2.2.1)), ((cell_far (p := ⟨gb1207, _, none⟩) NB1197_1207.out _).trans (hHeld.2.2.2.2.1)), ((cell_far (p := ⟨gb1207, _, none⟩) NB1197_1207.out _).trans (hHeld.2.2.2.2.2.1)), ((cell_far (p := ⟨gb1207, _, none⟩) NB1197_1207.out _).trans (hHeld.2.2.2.2.2.2.1)), ((cell_far (p := ⟨gb1207, _, none⟩) NB1197_1207.out _).trans (hHeld.2.2.2.2.2.2.2.1)), ((cell_far (p := ⟨gb1207, _, none⟩) NB1197_1207.out _).trans (hHeld.2.2.2.2.2.2.2.2.1)), ((cell_far (p := ⟨gb1207, _, none⟩) NB1197_1207.out _).trans (hHeld.2.2.2.2.2.2.2.2.2.1)), ((cell_far (p := ⟨gb1207, _, none⟩) NB1197_1207.out _).trans (hHeld.2.2.2.2.2.2.2.2.2.2.1)), ((cell_far (p := ⟨gb1207, _, none⟩) NB1197_1207.out _).trans (hHeld.2.2.2.2.2.2.2.2.2.2.2.1)), ((cell_far (p := ⟨gb1207, _, none⟩) NB1197_1207.out _).trans (hHeld.2.2.2.2.2.2.2.2.2.2.2.2.1)), ((cell_far (p := ⟨gb1207, _, none⟩) NB1197_1207.out _).trans (hHeld.2.2.2.2.2.2.2.2.2.2.2.2.2.1)), ((cell_far (p := ⟨gb1207, _, none⟩) NB1197_1207.out _).trans (hHeld.2.2.2.2.2.2.2.2.2.2.2.2.2.2.1)), ((cell_far (p := ⟨gb1207, _, none⟩) NB1197_1207.out _).trans (hHeld.2.2.2.2.2.2.2.2.2.2.2.2.2.2.2.1)), ((cell_far (p := ⟨gb1207, _, none⟩) NB1197_1207.out _).trans (hHeld.2.2.2.2.2.2.2.2.2.2.2.2.2.2.2.2))⟩
      clear hK K
      refine done_ (done_of HT_.out (by kernel_rfl)) ?_
      have hnb77 := NB1207_1196.out
      have hnc77 := NB1196_1207.out
      have hnb78 := NB1207_1197.out
      have hnc78 := NB1197_1207.out
      have hnb79 := NB1207_1198.out
      have hnc79 := NB1198_1207.out
      obtain ⟨⟨hcz80_0, hcz80_1, hcz80_2, hcz80_3⟩, hfz80_0, hfz80_1, hfz80_2, hfz80_3⟩ := C44_4 BK1207.out
      have hnb81 := NB1198_1196.out
      have hnc81 := NB1196_1198.out
      have hnb82 := NB1198_1197.out
      have hnc82 := NB1197_1198.out
      obtain ⟨⟨hcz83_0, hcz83_1, hcz83_2, hcz83_3⟩, hfz83_0, hfz83_1, hfz83_2, hfz83_3⟩ := C44_4 BK1198.out
      try go_wp2
      refine bodyPost_ret (results_cell_row rfl _ _ gb1198 56 #[.slice Ao75 y1231.length co75, .slice Ao22 t1202.length co22, .int .i64 t1205, .int .i64 t1206] (0, 0) _ rfl Z44_14 Try.underlying56 rfl (by kernel_rfl)) rfl ?_
      exact ⟨_, _, Z44_76, (by (with_reducible repeat (first | apply Kd.R_alloc | apply Kd.R_drewN | apply Kd.R_drew)); exact Kd.R_mono (Kd.R_far (p := ⟨gb1198, 3, none⟩) (Kd.R_far (p := ⟨gb1198, 2, none⟩) (Kd.R_far (p := ⟨gb1198, 1, none⟩) (Kd.R_far (p := ⟨gb1198, 0, none⟩) (Kd.R_far (p := ⟨gb1207, 0, none⟩) (Kd.R_types (Kd.R_types HO1233.out BK1207.out (by decide)) BK1198.out (by decide)) (fun _ hk => hk.1.2) (.slice Ao75 y1231.length co75)) (fun _ hk => hk.2) (.slice Ao75 y1231.length co75)) (fun _ hk => hk.2) (.slice Ao22 t1202.length co22)) (fun _ hk => hk.2) (.int .i64 t1205)) (fun _ hk => hk.2) (.int .i64 t1206)) (fun _ hk => trivial)), (by (with_reducible repeat (first | apply Kd.R_alloc | apply Kd.R_drewN | apply Kd.R_drew)); exact Kd.R_mono (Kd.R_far (p := ⟨gb1198, 3, none⟩) (Kd.R_far (p := ⟨gb1198, 2, none⟩) (Kd.R_far (p := ⟨gb1198, 1, none⟩) (Kd.R_far (p := ⟨gb1198, 0, none⟩) (Kd.R_far (p := ⟨gb1207, 0, none⟩) (Kd.R_types (Kd.R_types HO_1208001.out BK1207.out (by decide)) BK1198.out (by decide)) (fun _ hk => hk.1.2) (.slice Ao75 y1231.length co75)) (fun _ hk => hk.2) (.slice Ao75 y1231.length co75)) (fun _ hk => hk.2) (.slice Ao22 t1202.length co22)) (fun _ hk => hk.2) (.int .i64 t1205)) (fun _ hk => hk.2) (.int .i64 t1206)) (fun _ hk => trivial)), Z44_30⟩



end Go.Proofs.Ytfkidiagmekleaa.QAll
