-- Written by a program of this session (patch_print.py over the print).
import Derived.Test.YtnogcdmkpbfcmaaQFnExactOnFieldx0
namespace Go.Proofs.Ytnogcdmkpbfcmaa.QFnExactOnField
open Go.RowKit Go.Proofs.YtnogcdmkpbfcmaaW.PrintWords Go.Proofs.YtnogcdmkpbfcmaaW.PrintLast Go.Proofs.YtnogcdmkpbfcmaaW.PrintMore
attribute [local go_sem] max2_int min2_int max_two min_two max_three min_three max_four min_four   -- for this text's walks alone
set_option linter.unusedVariables false
set_option linter.unusedSimpArgs false

theorem C2_4 {W : World} {g : Nat} {T : TypeId} {v0 v1 v2 v3 : Value} (h : W.heap[g]? = some (.cells #[v0, v1, v2, v3] T (0, 0))) : (W.cell? ⟨g, 0, none⟩ = some v0 ∧ W.cell? ⟨g, 1, none⟩ = some v1 ∧ W.cell? ⟨g, 2, none⟩ = some v2 ∧ W.cell? ⟨g, 3, none⟩ = some v3) ∧ W.frozen? ⟨g, 0, none⟩ = false ∧ W.frozen? ⟨g, 1, none⟩ = false ∧ W.frozen? ⟨g, 2, none⟩ = false ∧ W.frozen? ⟨g, 3, none⟩ = false := ⟨⟨(blk_cell h 0).trans rfl, (blk_cell h 1).trans rfl, (blk_cell h 2).trans rfl, (blk_cell h 3).trans rfl⟩, blk_frozen h 0, blk_frozen h 1, blk_frozen h 2, blk_frozen h 3⟩
theorem D2_4 {W : World} {g : Nat} {T : TypeId} {v0 v1 v2 v3 : Value} (h : W.heap[g]? = some (.cells #[v0, v1, v2, v3] T (0, 0))) {R : Prop} (r : R) : W.cell? ⟨g, 0, none⟩ = some v0 ∧ W.cell? ⟨g, 1, none⟩ = some v1 ∧ W.cell? ⟨g, 2, none⟩ = some v2 ∧ W.cell? ⟨g, 3, none⟩ = some v3 ∧ R := ⟨(blk_cell h 0).trans rfl, (blk_cell h 1).trans rfl, (blk_cell h 2).trans rfl, (blk_cell h 3).trans rfl, r⟩
theorem E2_4 {W : World} {g : Nat} {T : TypeId} {v0 v1 v2 v3 o0 o1 o2 o3 : Value} (h : W.heap[g]? = some (.cells #[o0, o1, o2, o3] T (0, 0))) : ((((W.setCell ⟨g, 0, none⟩ v0).setCell ⟨g, 1, none⟩ v1).setCell ⟨g, 2, none⟩ v2).setCell ⟨g, 3, none⟩ v3).heap[g]? = some (.cells #[v0, v1, v2, v3] T (0, 0)) := (blk_put (cs := #[v0, v1, v2, o3]) (blk_put (cs := #[v0, v1, o2, o3]) (blk_put (cs := #[v0, o1, o2, o3]) (blk_put (cs := #[o0, o1, o2, o3]) h 0 _ rfl) 1 _ rfl) 2 _ rfl) 3 _ rfl)
theorem C2_13 {W : World} {g : Nat} {T : TypeId} {v0 v1 v2 v3 v4 v5 v6 v7 v8 v9 v10 v11 v12 : Value} (h : W.heap[g]? = some (.cells #[v0, v1, v2, v3, v4, v5, v6, v7, v8, v9, v10, v11, v12] T (0, 0))) : (W.cell? ⟨g, 0, none⟩ = some v0 ∧ W.cell? ⟨g, 1, none⟩ = some v1 ∧ W.cell? ⟨g, 2, none⟩ = some v2 ∧ W.cell? ⟨g, 3, none⟩ = some v3 ∧ W.cell? ⟨g, 4, none⟩ = some v4 ∧ W.cell? ⟨g, 5, none⟩ = some v5 ∧ W.cell? ⟨g, 6, none⟩ = some v6 ∧ W.cell? ⟨g, 7, none⟩ = some v7 ∧ W.cell? ⟨g, 8, none⟩ = some v8 ∧ W.cell? ⟨g, 9, none⟩ = some v9 ∧ W.cell? ⟨g, 10, none⟩ = some v10 ∧ W.cell? ⟨g, 11, none⟩ = some v11 ∧ W.cell? ⟨g, 12, none⟩ = some v12) ∧ W.frozen? ⟨g, 0, none⟩ = false ∧ W.frozen? ⟨g, 1, none⟩ = false ∧ W.frozen? ⟨g, 2, none⟩ = false ∧ W.frozen? ⟨g, 3, none⟩ = false ∧ W.frozen? ⟨g, 4, none⟩ = false ∧ W.frozen? ⟨g, 5, none⟩ = false ∧ W.frozen? ⟨g, 6, none⟩ = false ∧ W.frozen? ⟨g, 7, none⟩ = false ∧ W.frozen? ⟨g, 8, none⟩ = false ∧ W.frozen? ⟨g, 9, none⟩ = false ∧ W.frozen? ⟨g, 10, none⟩ = false ∧ W.frozen? ⟨g, 11, none⟩ = false ∧ W.frozen? ⟨g, 12, none⟩ = false := ⟨⟨(blk_cell h 0).trans rfl, (blk_cell h 1).trans rfl, (blk_cell h 2).trans rfl, (blk_cell h 3).trans rfl, (blk_cell h 4).trans rfl, (blk_cell h 5).trans rfl, (blk_cell h 6).trans rfl, (blk_cell h 7).trans rfl, (blk_cell h 8).trans rfl, (blk_cell h 9).trans rfl, (blk_cell h 10).trans rfl, (blk_cell h 11).trans rfl, (blk_cell h 12).trans rfl⟩, blk_frozen h 0, blk_frozen h 1, blk_frozen h 2, blk_frozen h 3, blk_frozen h 4, blk_frozen h 5, blk_frozen h 6, blk_frozen h 7, blk_frozen h 8, blk_frozen h 9, blk_frozen h 10, blk_frozen h 11, blk_frozen h 12⟩
theorem D2_13 {W : World} {g : Nat} {T : TypeId} {v0 v1 v2 v3 v4 v5 v6 v7 v8 v9 v10 v11 v12 : Value} (h : W.heap[g]? = some (.cells #[v0, v1, v2, v3, v4, v5, v6, v7, v8, v9, v10, v11, v12] T (0, 0))) {R : Prop} (r : R) : W.cell? ⟨g, 0, none⟩ = some v0 ∧ W.cell? ⟨g, 1, none⟩ = some v1 ∧ W.cell? ⟨g, 2, none⟩ = some v2 ∧ W.cell? ⟨g, 3, none⟩ = some v3 ∧ W.cell? ⟨g, 4, none⟩ = some v4 ∧ W.cell? ⟨g, 5, none⟩ = some v5 ∧ W.cell? ⟨g, 6, none⟩ = some v6 ∧ W.cell? ⟨g, 7, none⟩ = some v7 ∧ W.cell? ⟨g, 8, none⟩ = some v8 ∧ W.cell? ⟨g, 9, none⟩ = some v9 ∧ W.cell? ⟨g, 10, none⟩ = some v10 ∧ W.cell? ⟨g, 11, none⟩ = some v11 ∧ W.cell? ⟨g, 12, none⟩ = some v12 ∧ R := ⟨(blk_cell h 0).trans rfl, (blk_cell h 1).trans rfl, (blk_cell h 2).trans rfl, (blk_cell h 3).trans rfl, (blk_cell h 4).trans rfl, (blk_cell h 5).trans rfl, (blk_cell h 6).trans rfl, (blk_cell h 7).trans rfl, (blk_cell h 8).trans rfl, (blk_cell h 9).trans rfl, (blk_cell h 10).trans rfl, (blk_cell h 11).trans rfl, (blk_cell h 12).trans rfl, r⟩
theorem E2_13 {W : World} {g : Nat} {T : TypeId} {v0 v1 v2 v3 v4 v5 v6 v7 v8 v9 v10 v11 v12 o0 o1 o2 o3 o4 o5 o6 o7 o8 o9 o10 o11 o12 : Value} (h : W.heap[g]? = some (.cells #[o0, o1, o2, o3, o4, o5, o6, o7, o8, o9, o10, o11, o12] T (0, 0))) : (((((((((((((W.setCell ⟨g, 0, none⟩ v0).setCell ⟨g, 1, none⟩ v1).setCell ⟨g, 2, none⟩ v2).setCell ⟨g, 3, none⟩ v3).setCell ⟨g, 4, none⟩ v4).setCell ⟨g, 5, none⟩ v5).setCell ⟨g, 6, none⟩ v6).setCell ⟨g, 7, none⟩ v7).setCell ⟨g, 8, none⟩ v8).setCell ⟨g, 9, none⟩ v9).setCell ⟨g, 10, none⟩ v10).setCell ⟨g, 11, none⟩ v11).setCell ⟨g, 12, none⟩ v12).heap[g]? = some (.cells #[v0, v1, v2, v3, v4, v5, v6, v7, v8, v9, v10, v11, v12] T (0, 0)) := (blk_put (cs := #[v0, v1, v2, v3, v4, v5, v6, v7, v8, v9, v10, v11, o12]) (blk_put (cs := #[v0, v1, v2, v3, v4, v5, v6, v7, v8, v9, v10, o11, o12]) (blk_put (cs := #[v0, v1, v2, v3, v4, v5, v6, v7, v8, v9, o10, o11, o12]) (blk_put (cs := #[v0, v1, v2, v3, v4, v5, v6, v7, v8, o9, o10, o11, o12]) (blk_put (cs := #[v0, v1, v2, v3, v4, v5, v6, v7, o8, o9, o10, o11, o12]) (blk_put (cs := #[v0, v1, v2, v3, v4, v5, v6, o7, o8, o9, o10, o11, o12]) (blk_put (cs := #[v0, v1, v2, v3, v4, v5, o6, o7, o8, o9, o10, o11, o12]) (blk_put (cs := #[v0, v1, v2, v3, v4, o5, o6, o7, o8, o9, o10, o11, o12]) (blk_put (cs := #[v0, v1, v2, v3, o4, o5, o6, o7, o8, o9, o10, o11, o12]) (blk_put (cs := #[v0, v1, v2, o3, o4, o5, o6, o7, o8, o9, o10, o11, o12]) (blk_put (cs := #[v0, v1, o2, o3, o4, o5, o6, o7, o8, o9, o10, o11, o12]) (blk_put (cs := #[v0, o1, o2, o3, o4, o5, o6, o7, o8, o9, o10, o11, o12]) (blk_put (cs := #[o0, o1, o2, o3, o4, o5, o6, o7, o8, o9, o10, o11, o12]) h 0 _ rfl) 1 _ rfl) 2 _ rfl) 3 _ rfl) 4 _ rfl) 5 _ rfl) 6 _ rfl) 7 _ rfl) 8 _ rfl) 9 _ rfl) 10 _ rfl) 11 _ rfl) 12 _ rfl)
theorem Z2_2 {p : Prop} (h : p := by (with_reducible repeat (first | refine blk_drewN ?_ _ | refine blk_drew ?_ | refine blk_alloc ?_ _)); refine blk_far ?_ NB159_164.out _; (with_reducible repeat (first | refine blk_drewN ?_ _ | refine blk_drew ?_ | refine blk_alloc ?_ _)); refine blk_far ?_ NB159_164.out _; (with_reducible repeat (first | refine blk_drewN ?_ _ | refine blk_drew ?_ | refine blk_alloc ?_ _)); refine blk_far ?_ NB159_164.out _; (with_reducible repeat (first | refine blk_drewN ?_ _ | refine blk_drew ?_ | refine blk_alloc ?_ _)); refine blk_far ?_ NB159_164.out _; (with_reducible repeat (first | refine blk_drewN ?_ _ | refine blk_drew ?_ | refine blk_alloc ?_ _)); refine blk_far ?_ NB159_164.out _; (with_reducible repeat (first | refine blk_drewN ?_ _ | refine blk_drew ?_ | refine blk_alloc ?_ _)); refine blk_far ?_ NB159_164.out _; (with_reducible repeat (first | refine blk_drewN ?_ _ | refine blk_drew ?_ | refine blk_alloc ?_ _)); refine blk_far ?_ NB159_164.out _; (with_reducible repeat (first | refine blk_drewN ?_ _ | refine blk_drew ?_ | refine blk_alloc ?_ _)); refine blk_far ?_ NB159_164.out _; (with_reducible repeat (first | refine blk_drewN ?_ _ | refine blk_drew ?_ | refine blk_alloc ?_ _)); refine blk_far ?_ NB159_164.out _; (with_reducible repeat (first | refine blk_drewN ?_ _ | refine blk_drew ?_ | refine blk_alloc ?_ _)); refine blk_far ?_ NB159_164.out _; (with_reducible repeat (first | refine blk_drewN ?_ _ | refine blk_drew ?_ | refine blk_alloc ?_ _)); refine blk_far ?_ NB159_164.out _; (with_reducible repeat (first | refine blk_drewN ?_ _ | refine blk_drew ?_ | refine blk_alloc ?_ _)); refine blk_far ?_ NB159_164.out _; (with_reducible repeat (first | refine blk_drewN ?_ _ | refine blk_drew ?_ | refine blk_alloc ?_ _)); refine blk_far ?_ NB159_164.out _; (with_reducible repeat (first | refine blk_drewN ?_ _ | refine blk_drew ?_ | refine blk_alloc ?_ _)); exact BK159.out) : p := h
theorem Z2_1 {p : Prop} (h : p := by exact (blk_grown (g := gb159) (o := .cells #[.slice (some ad163) l0_0.length c0_0, .slice A0_1 l0_1.length c0_1, .int .i64 a0_2, .int .i64 a0_3] 32 (0, 0)) Z2_2 hg (Kd.R_ne HO_5.out BK159.out (by decide)))) : p := h
theorem Z2_3 {p : Prop} (h : p := by (with_reducible repeat (first | apply Kd.R_alloc | apply Kd.R_drewN | apply Kd.R_drew)); exact Kd.R_mono (Kd.R_far (p := ⟨gb164, 12, none⟩) (Kd.R_far (p := ⟨gb164, 11, none⟩) (Kd.R_far (p := ⟨gb164, 10, none⟩) (Kd.R_far (p := ⟨gb164, 9, none⟩) (Kd.R_far (p := ⟨gb164, 8, none⟩) (Kd.R_far (p := ⟨gb164, 7, none⟩) (Kd.R_far (p := ⟨gb164, 6, none⟩) (Kd.R_far (p := ⟨gb164, 5, none⟩) (Kd.R_far (p := ⟨gb164, 4, none⟩) (Kd.R_far (p := ⟨gb164, 3, none⟩) (Kd.R_far (p := ⟨gb164, 2, none⟩) (Kd.R_far (p := ⟨gb164, 1, none⟩) (Kd.R_far (p := ⟨gb164, 0, none⟩) (Kd.R_types HO_5.out BK164.out (by decide)) (fun _ hk => hk.2) (.int .i64 ((rd_T42 l0_0 x12_1).f0))) (fun _ hk => hk.2) (.int .i64 ((rd_T42 l0_0 x12_1).f1))) (fun _ hk => hk.2) (.int .i64 ((rd_T42 l0_0 x12_1).f2))) (fun _ hk => hk.2) (.int .i64 ((rd_T42 l0_0 x12_1).f3))) (fun _ hk => hk.2) (.int .i64 ((rd_T42 l0_0 x12_1).f4))) (fun _ hk => hk.2) (.int .i64 ((rd_T42 l0_0 x12_1).f5))) (fun _ hk => hk.2) (.int .i64 ((rd_T42 l0_0 x12_1).f6))) (fun _ hk => hk.2) (.int .i64 ((rd_T42 l0_0 x12_1).f7))) (fun _ hk => hk.2) (.int .i64 ((rd_T42 l0_0 x12_1).f8))) (fun _ hk => hk.2) (.int .i64 ((rd_T42 l0_0 x12_1).f9))) (fun _ hk => hk.2) (.int .i64 ((rd_T42 l0_0 x12_1).f10))) (fun _ hk => hk.2) (.bool ((rd_T42 l0_0 x12_1).f11))) (fun _ hk => hk.2) (.bool ((rd_T42 l0_0 x12_1).f12))) (fun _ hk => trivial)) : p := h
theorem Z2_4 {p : Prop} (h : p := by exact (blk_grown (g := gb164) (o := .cells #[.int .i64 ((rd_T42 l0_0 x12_1).f0), .int .i64 ((rd_T42 l0_0 x12_1).f1), .int .i64 ((rd_T42 l0_0 x12_1).f2), .int .i64 ((rd_T42 l0_0 x12_1).f3), .int .i64 ((rd_T42 l0_0 x12_1).f4), .int .i64 ((rd_T42 l0_0 x12_1).f5), .int .i64 ((rd_T42 l0_0 x12_1).f6), .int .i64 ((rd_T42 l0_0 x12_1).f7), .int .i64 ((rd_T42 l0_0 x12_1).f8), .int .i64 ((rd_T42 l0_0 x12_1).f9), .int .i64 ((rd_T42 l0_0 x12_1).f10), .bool ((rd_T42 l0_0 x12_1).f11), .bool ((rd_T42 l0_0 x12_1).f12)] 42 (0, 0)) (by (with_reducible repeat (first | refine blk_drewN ?_ _ | refine blk_drew ?_ | refine blk_alloc ?_ _)); apply E2_13; (with_reducible repeat (first | refine blk_drewN ?_ _ | refine blk_drew ?_ | refine blk_alloc ?_ _)); exact BK164.out) hg (Kd.R_ne HO_5.out BK164.out (by decide)))) : p := h
theorem Z2_5 {p : Prop} (h : p := by exact ((by rw [hg]; exact Nat.ne_of_lt (blk_lt (g := gb173) (o := .cells #[.int .i64 a0_0, .int .i64 a0_1, .int .i64 a0_2, .int .i64 a0_3, .int .i64 a0_4, .int .i64 a0_5, .int .i64 a0_6, .int .i64 a0_7, .int .i64 a0_8, .int .i64 a0_9, .int .i64 a0_10, .bool a0_11, .bool a0_12] 42 (0, 0)) (by (with_reducible repeat (first | refine blk_drewN ?_ _ | refine blk_drew ?_ | refine blk_alloc ?_ _)); exact BK173.out)) : gb173 ≠ gb174))) : p := h
theorem Z2_6 {p : Prop} (h : p := by exact ((by rw [hg]; exact Nat.ne_of_gt (blk_lt (g := gb173) (o := .cells #[.int .i64 a0_0, .int .i64 a0_1, .int .i64 a0_2, .int .i64 a0_3, .int .i64 a0_4, .int .i64 a0_5, .int .i64 a0_6, .int .i64 a0_7, .int .i64 a0_8, .int .i64 a0_9, .int .i64 a0_10, .bool a0_11, .bool a0_12] 42 (0, 0)) (by (with_reducible repeat (first | refine blk_drewN ?_ _ | refine blk_drew ?_ | refine blk_alloc ?_ _)); exact BK173.out)) : gb174 ≠ gb173))) : p := h
theorem Z2_7 {p : Prop} (h : p := by exact (blk_below (g := gb173) (o := .cells #[.int .i64 a0_0, .int .i64 a0_1, .int .i64 a0_2, .int .i64 a0_3, .int .i64 a0_4, .int .i64 a0_5, .int .i64 a0_6, .int .i64 a0_7, .int .i64 a0_8, .int .i64 a0_9, .int .i64 a0_10, .bool a0_11, .bool a0_12] 42 (0, 0)) (by (with_reducible repeat (first | refine blk_drewN ?_ _ | refine blk_drew ?_ | refine blk_alloc ?_ _)); exact BK173.out) hb)) : p := h
theorem Z2_22 {p : Prop} (h : p := by (with_reducible repeat (first | refine blk_drewN ?_ _ | refine blk_drew ?_ | refine blk_alloc ?_ _)); exact BK159.out) : p := h
theorem Z2_8 {p : Prop} (h : p := by exact ((by rw [hg]; exact Nat.ne_of_lt (blk_lt (g := gb159) (o := .cells #[.slice (some ad163) l0_0.length c0_0, .slice A0_1 l0_1.length c0_1, .int .i64 a0_2, .int .i64 a0_3] 32 (0, 0)) Z2_22) : gb159 ≠ gb164))) : p := h
theorem Z2_9 {p : Prop} (h : p := by exact ((by rw [hg]; exact Nat.ne_of_gt (blk_lt (g := gb159) (o := .cells #[.slice (some ad163) l0_0.length c0_0, .slice A0_1 l0_1.length c0_1, .int .i64 a0_2, .int .i64 a0_3] 32 (0, 0)) Z2_22) : gb164 ≠ gb159))) : p := h
theorem Z2_10 {p : Prop} (h : p := by exact (blk_below (g := gb159) (o := .cells #[.slice (some ad163) l0_0.length c0_0, .slice A0_1 l0_1.length c0_1, .int .i64 a0_2, .int .i64 a0_3] 32 (0, 0)) Z2_22 hb)) : p := h
theorem Z2_19 {p : Prop} (h : p := by repeat (first | (with_reducible first | exact HB.out | apply below_alloc | apply pw_below_drewN | apply below_drew1 | refine below_set ?_ GE159.out) | exact HB.out)) : p := h
theorem Z2_11 {p : Prop} (h : p := by exact ((by rw [hg]; exact (below_size Z2_19) : w.heap.size ≤ gb164))) : p := h
theorem Z2_12 {p : Prop} (h : p := by exact ((by rw [hg]; exact (below_size (by repeat (first | (with_reducible first | exact HB.out | apply below_alloc | apply pw_below_drewN | apply below_drew1 | refine below_set ?_ GE173.out) | exact HB.out))) : w.heap.size ≤ gb174))) : p := h
theorem Z2_13 {p : Prop} (h : p := by repeat (first | (with_reducible first | exact HB.out | apply below_alloc | apply pw_below_drewN | apply below_drew1 | refine below_set ?_ GE159.out | refine below_set ?_ GE164.out) | exact HB.out)) : p := h
theorem Z2_14 {p : Prop} (h : p := by repeat (first | (with_reducible first | exact HB.out | apply below_alloc | apply pw_below_drewN | apply below_drew1 | refine below_set ?_ GE173.out | refine below_set ?_ GE174.out) | exact HB.out)) : p := h
theorem Z2_15 {p : Prop} (h : p := by exact ((by rw [hg]; exact (below_size (by repeat (first | (with_reducible first | exact HB.out | apply below_alloc | apply pw_below_drewN | apply below_drew1) | exact HB.out))) : w.heap.size ≤ gb159))) : p := h
theorem Z2_16 {p : Prop} (h : p := by exact ((by rw [hg]; exact (below_size (by repeat (first | (with_reducible first | exact HB.out | apply below_alloc | apply pw_below_drewN | apply below_drew1) | exact HB.out))) : w.heap.size ≤ gb173))) : p := h
theorem Z2_17 {p : Prop} (h : p := by exact (below_step Z2_19 hb)) : p := h
theorem Z2_18 {p : Prop} (h : p := by exact (below_step (by repeat (first | (with_reducible first | exact HB.out | apply below_alloc | apply pw_below_drewN | apply below_drew1 | refine below_set ?_ GE173.out) | exact HB.out)) hb)) : p := h
theorem Z2_20 {p : Prop} (h : p := by exact (below_step (by repeat (first | (with_reducible first | exact HB.out | apply below_alloc | apply pw_below_drewN | apply below_drew1) | exact HB.out)) hb)) : p := h
theorem Z2_21 {p : Prop} (h : p := by exact (Kd.R_below (by (with_reducible repeat (first | apply Kd.R_alloc | apply Kd.R_drewN | apply Kd.R_drew)); exact HO_5.out) hb)) : p := h
theorem Z2_23 {p : Prop} (h : p := by first | rfl | (simp [errW_none, errW_some] <;> rfl) | (simp [*, errW_none, errW_some] <;> rfl)) : p := h
theorem Z2_24 {p : Prop} (h : p := by repeat (first | exact Drawn0.refl _ | apply Drawn0.step)) : p := h
theorem Z2_25 {p : Prop} (h : p := by first | (with_reducible assumption) | assumption) : p := h
theorem Z2_26 {p : Prop} (h : p := by first | rfl | (simp; done) | (simp [*]; done)) : p := h
/-! ### impl_OnField: function 12 -/
def impl_OnField.l0 : Nat → Int → List Int → List (S42) → Int → Int → Option (List Int)
  | 0, _, _, _, _, _ => none
  | k + 1, x1, x5, x10, x11, x12 => if x12 < x11 then (if 0 ≤ x12 then (if x12 < (x10.length : Int) then (if ((rd_T42 x10 x12).f3) = 2 then (if x1 = (-1) then (if x5.length < 17592186044416 then (impl_OnField.l0 k x1 (x5 ++ [(rd_T42 x10 x12).f0]) x10 x11 (wrap64 (x12 + 1))) else (none)) else (if ((rd_T42 x10 x12).f2) = x1 then (if x5.length < 17592186044416 then (impl_OnField.l0 k x1 (x5 ++ [(rd_T42 x10 x12).f0]) x10 x11 (wrap64 (x12 + 1))) else (none)) else (impl_OnField.l0 k x1 x5 x10 x11 (wrap64 (x12 + 1))))) else (impl_OnField.l0 k x1 x5 x10 x11 (wrap64 (x12 + 1)))) else (none)) else (none)) else (some x5)
def impl_OnField.f (k : Nat) (l0_0 : List (S42)) (l0_1 : List (S78)) (a0_2 : Int) (a0_3 : Int) (a1 : Int) : Option (List Int) := impl_OnField.l0 k a1 (([] : List Int)) l0_0 (l0_0.length : Int) 0
theorem impl_OnField.mono_l : ∀ k, (∀ y0 y1 y2 y3 y4, LeO (impl_OnField.l0 k y0 y1 y2 y3 y4) (impl_OnField.l0 (k + 1) y0 y1 y2 y3 y4))
  | 0 => fun _ _ _ _ _ r h => by simp [impl_OnField.l0] at h
  | k + 1 => by
    have ih0 := impl_OnField.mono_l k
    · intro y0 y1 y2 y3 y4
      unfold impl_OnField.l0
      repeat' first
      | (with_reducible exact ih0 _ _ _ _ _)
      | (with_reducible exact LeO.refl _)
      | (with_reducible exact LeO.none _)
      | (with_reducible refine LeO.ite ?_ ?_)
      | (with_reducible refine LeO.bind ?_ (fun _ => ?_))
      | exact ih0 _ _ _ _ _
      | exact LeO.none _
      | refine LeO.ite ?_ ?_
      | refine LeO.bind ?_ (fun _ => ?_)
theorem impl_OnField.mono : ∀ a0 a1 a2 a3 a4 k, LeO (impl_OnField.f k a0 a1 a2 a3 a4) (impl_OnField.f (k + 1) a0 a1 a2 a3 a4) := by
  intro a0 a1 a2 a3 a4 k
  have ih0 := impl_OnField.mono_l k
  unfold impl_OnField.f
  repeat' first
      | (with_reducible exact ih0 _ _ _ _ _)
      | (with_reducible exact LeO.refl _)
      | (with_reducible exact LeO.none _)
      | (with_reducible refine LeO.ite ?_ ?_)
      | (with_reducible refine LeO.bind ?_ (fun _ => ?_))
      | exact ih0 _ _ _ _ _
      | exact LeO.none _
      | refine LeO.ite ?_ ?_
      | refine LeO.bind ?_ (fun _ => ?_)
set_option maxHeartbeats 8000000 in
set_option maxRecDepth 100000 in
theorem impl_OnField.calls (k : Nat) (A0_0 : Option Addr) (c0_0 : Nat) (l0_0 : List (S42)) (A0_1 : Option Addr) (c0_1 : Nat) (l0_1 : List (S78)) (a0_2 : Int) (a0_3 : Int) (a1 : Int) (r : List Int) (w : World) (hr0_0 : Kd.C k42 w A0_0 l0_0.length l0_0) (hc0_0 : l0_0.length ≤ c0_0) (hr0_1 : Kd.C k78 w A0_1 l0_1.length l0_1) (hc0_1 : l0_1.length ≤ c0_1) (h : impl_OnField.f k l0_0 l0_1 a0_2 a0_3 a1 = some r) :
    Calls Try.prog 12 #[.agg #[.slice A0_0 l0_0.length c0_0, .slice A0_1 l0_1.length c0_1, .int .i64 a0_2, .int .i64 a0_3], .int .i64 a1] w fun e w' => ∃ v0_ : Value, e = .returned (v0_) ∧ Kd.R (Kd.int .i64) 3 w' w.heap.size (fun _ => True) v0_ r ∧ Below w.heap.size w w' := by
  have hu32 := Try.underlying32
  have hu42 := Try.underlying42
  have HR0_0 := Aside0.mk hr0_0
  have HC0_0 := Aside0.mk hc0_0
  clear hr0_0 hc0_0
  have HR0_1 := Aside0.mk hr0_1
  have HC0_1 := Aside0.mk hc0_1
  clear hr0_1 hc0_1
  have HB := Aside0.mk (Below.refl w.heap.size w)
  have H : (impl_OnField.l0 k a1 (([] : List Int)) l0_0 (l0_0.length : Int) 0) = some r := h
  clear h
  obtain ⟨y160, hy160⟩ : ∃ y_ : List Int, y_ = (([] : List Int)) := ⟨_, rfl⟩
  replace H : (impl_OnField.l0 k a1 y160 l0_0 (l0_0.length : Int) 0) = some r := by first | (rw [hy160]; with_reducible exact H) | (have H2_ := (Option.bind_some _ _).symm.trans H; rw [hy160]; with_reducible exact H2_) | (have H2_ := (Option.bind_some _ _).symm.trans H; with_reducible exact H2_) | with_reducible exact H | (rw [hy160]; exact H) | exact H
  have Ny160 := Aside0.mk hy160
  clear hy160
  have H' := Aside0.mk H
  clear H
  go_enter Try.func12, Try.ntmps12
  go_wp2_with (first | ((with_reducible refine gate_dst (N := 2) rfl ?_); refine box_event ?hg (N := 2) ?hd (cs := #[.slice A0_0 l0_0.length c0_0, .slice A0_1 l0_1.length c0_1, .int .i64 a0_2, .int .i64 a0_3]) (t := 32) ?hr ?_; (case hd => rfl); (case hg => rfl); (case hr => first | (go_simp; done) | (go_simp; rfl)); intro gb159 hg w3 hbox hb; have n0_ := Aside0.mk Z2_20; have n1_ := Aside0.mk (hbox); have n2_ := Aside0.mk Z2_15; have n3_ := Aside0.mk Z2_15; clear HB; have HB := n0_; have BK159 := n1_; have GW159 := n2_; have GE159 := n3_; clear n0_ n1_ n2_ n3_; clear hb hbox hg) | ((with_reducible refine gate_dst (N := 8) rfl ?_); refine Kd.R_lit (Kd.int .i64) _ 3 ?hg (N := 8) ?hd (xs := ([] : List Int)) (inner := []) (ok := fun _ => True) (okp := fun _ => True) ?hr ?hp (fun _ hk => hk) trivial (Below.refl _ _) (Nat.le_refl _) (by simp) ?_; (case hd => rfl); (case hg => rfl); (case hr => first | (go_simp; done) | (go_simp; rfl)); (case hp => exact (Reps.none _ _)); intro v161 w4 ho5 hb hg_ hnew_; clear hg_ hnew_; (first | rw [← Ny160.out] at ho5 | (simp only [Int.reduceToNat] at ho5; rw [← Ny160.out] at ho5)); have n0_ := Aside0.mk (Kd.R_lower ho5 (below_size Z2_19)); have n1_ := Aside0.mk (blk_below (g := gb159) (o := .cells #[.slice A0_0 l0_0.length c0_0, .slice A0_1 l0_1.length c0_1, .int .i64 a0_2, .int .i64 a0_3] 32 (0, 0)) Z2_22 hb); have n2_ := Aside0.mk Z2_17; clear BK159; clear HB; have HO162 := n0_; have BK159 := n1_; have HB := n2_; clear n0_ n1_ n2_; clear hb ho5; obtain ⟨⟨hcz6_0, hcz6_1, hcz6_2, hcz6_3⟩, hfz6_0, hfz6_1, hfz6_2, hfz6_3⟩ := C2_4 BK159.out))
  go_loopg [5, 12] k (fun kq v5 v12 w' => ∃ (x5_1 : List Int) (x12_1 : Int), v12 = .int .i64 x12_1 ∧ Aside0 (impl_OnField.l0 kq a1 x5_1 l0_0 (l0_0.length : Int) x12_1 = some r) ∧ Aside0 (kq ≤ k) ∧ Aside0 (Kd.R (Kd.int .i64) 3 w' w.heap.size (fun _ => True) v5 x5_1) ∧ Aside0 (w'.heap[gb159]? = some (.cells #[(.slice A0_0 l0_0.length c0_0), (.slice A0_1 l0_1.length c0_1), .int .i64 a0_2, .int .i64 a0_3] 32 (0, 0))) ∧ Aside0 (Below w.heap.size w w'))
  case atStart => exact ⟨(y160), (0), Z2_26, H', ⟨Nat.le_refl _⟩, ⟨(by (with_reducible repeat (first | apply Kd.R_alloc | apply Kd.R_drewN | apply Kd.R_drew)); exact HO162.out)⟩, ⟨Z2_22⟩, ⟨Z2_19⟩⟩
  case round =>
    clear H'
    try clear c1
    try clear p2
    try clear hcz6_0
    try clear hcz6_1
    try clear hcz6_2
    try clear hcz6_3
    try clear hfz6_0
    try clear hfz6_1
    try clear hfz6_2
    try clear hfz6_3
    obtain ⟨x5_1, x12_1, rfl, HA, HK1, HO_5, BK159, HB⟩ := hrel
    cases gk with
    | zero => exact absurd HA.out (by simp [impl_OnField.l0])
    | succ k1 =>
      have H := HA.out
      clear HA
      simp only [impl_OnField.l0] at H
      by_cases c7 : x12_1 < (l0_0.length : Int)
      rotate_left
      · rw [if_neg c7] at H
        have c7b0 : decide (x12_1 < (l0_0.length : Int)) = false := decide_eq_false c7
        clear c7
        obtain rfl := Option.some.inj H
        go_wp2
        go_ret
        exact ⟨_, Z2_23, (by (with_reducible repeat (first | apply Kd.R_alloc | apply Kd.R_drewN | apply Kd.R_drew)); exact HO_5.out), Z2_19⟩
      rw [if_pos c7] at H
      have c7b0 : decide (x12_1 < (l0_0.length : Int)) = true := decide_eq_true c7
      clear c7
      by_cases c8 : 0 ≤ x12_1
      rotate_left
      · rw [if_neg c8] at H
        exact absurd H (by simp)
      rw [if_pos c8] at H
      have c8b0 : decide (0 ≤ x12_1) = true := decide_eq_true c8
      clear c8
      by_cases c9 : x12_1 < (l0_0.length : Int)
      rotate_left
      · rw [if_neg c9] at H
        exact absurd H (by simp)
      rw [if_pos c9] at H
      have c9b0 : decide (x12_1 < (l0_0.length : Int)) = true := decide_eq_true c9
      clear c9
      by_cases c10 : ((rd_T42 l0_0 x12_1).f3) = 2
      rotate_left
      · rw [if_neg c10] at H
        have c10b0 : (((rd_T42 l0_0 x12_1).f3) == 2) = false := beq_eq_false_iff_ne.mpr c10
        have c10b1 : (((rd_T42 l0_0 x12_1).f3) != 2) = true := bne_iff_ne.mpr c10
        have H' := Aside0.mk H
        clear H
        have p163 : 0 ≤ (x12_1 : Int) := of_decide_eq_true Z2_25
        have q163 : x12_1 < (l0_0.length : Int) := of_decide_eq_true Z2_25
        obtain ⟨ad163, e163, hx163_0, hx163_1, hx163_2, hx163_3, hx163_4, hx163_5, hx163_6, hx163_7, hx163_8, hx163_9, hx163_10, hx163_11, hx163_12⟩ := at_T42 HR0_0.out x12_1 p163 q163
        cases e163
        replace hx163_0 := (HB.out.cell (World.block_lt_of_cell? w _ hx163_0)).trans hx163_0
        replace hx163_1 := (HB.out.cell (World.block_lt_of_cell? w _ hx163_1)).trans hx163_1
        replace hx163_2 := (HB.out.cell (World.block_lt_of_cell? w _ hx163_2)).trans hx163_2
        replace hx163_3 := (HB.out.cell (World.block_lt_of_cell? w _ hx163_3)).trans hx163_3
        replace hx163_4 := (HB.out.cell (World.block_lt_of_cell? w _ hx163_4)).trans hx163_4
        replace hx163_5 := (HB.out.cell (World.block_lt_of_cell? w _ hx163_5)).trans hx163_5
        replace hx163_6 := (HB.out.cell (World.block_lt_of_cell? w _ hx163_6)).trans hx163_6
        replace hx163_7 := (HB.out.cell (World.block_lt_of_cell? w _ hx163_7)).trans hx163_7
        replace hx163_8 := (HB.out.cell (World.block_lt_of_cell? w _ hx163_8)).trans hx163_8
        replace hx163_9 := (HB.out.cell (World.block_lt_of_cell? w _ hx163_9)).trans hx163_9
        replace hx163_10 := (HB.out.cell (World.block_lt_of_cell? w _ hx163_10)).trans hx163_10
        replace hx163_11 := (HB.out.cell (World.block_lt_of_cell? w _ hx163_11)).trans hx163_11
        replace hx163_12 := (HB.out.cell (World.block_lt_of_cell? w _ hx163_12)).trans hx163_12
        replace p163 := eq_true p163
        replace q163 := eq_true q163
        go_wp2_with (first | ((with_reducible refine gate_dst (N := 7) rfl ?_); refine box_event ?hg (N := 7) ?hd (cs := #[.int .i64 0, .int .i64 0, .int .i64 0, .int .i64 0, .int .i64 0, .int .i64 0, .int .i64 0, .int .i64 0, .int .i64 0, .int .i64 0, .int .i64 0, .bool false, .bool false]) (t := 42) ?hr ?_; (case hd => rfl); (case hg => rfl); (case hr => first | (go_simp; done) | (go_simp; rfl)); intro gb164 hg w26 hbox hb; have n0_ := Aside0.mk Z2_21; have n1_ := Aside0.mk Z2_10; have n2_ := Aside0.mk Z2_17; have n3_ := Aside0.mk (hbox); have n4_ := Aside0.mk Z2_11; have n5_ := Aside0.mk Z2_11; have n6_ := Aside0.mk Z2_8; have n7_ := Aside0.mk Z2_9; clear HO_5; clear BK159; clear HB; have HO_5 := n0_; have BK159 := n1_; have HB := n2_; have BK164 := n3_; have GW164 := n4_; have GE164 := n5_; have NB159_164 := n6_; have NB164_159 := n7_; clear n0_ n1_ n2_ n3_ n4_ n5_ n6_ n7_; clear hb hbox hg; have hnb27 := NB164_159.out; have hnc27 := NB159_164.out; obtain ⟨⟨hcz28_0, hcz28_1, hcz28_2, hcz28_3, hcz28_4, hcz28_5, hcz28_6, hcz28_7, hcz28_8, hcz28_9, hcz28_10, hcz28_11, hcz28_12⟩, hfz28_0, hfz28_1, hfz28_2, hfz28_3, hfz28_4, hfz28_5, hfz28_6, hfz28_7, hfz28_8, hfz28_9, hfz28_10, hfz28_11, hfz28_12⟩ := C2_13 BK164.out))
        go_roundg k1
        case measure => have := HK1.out; omega
        case rel => exact ⟨(x5_1), (wrap64 (x12_1 + 1)), Z2_26, H', ⟨(by have := HK1.out; omega)⟩, ⟨Z2_3⟩, ⟨Z2_2⟩, ⟨Z2_13⟩⟩
      rw [if_pos c10] at H
      have c10b0 : (((rd_T42 l0_0 x12_1).f3) == 2) = true := beq_iff_eq.mpr c10
      have c10b1 : (((rd_T42 l0_0 x12_1).f3) != 2) = false := bne_eq_false_iff_eq.mpr c10
      clear c10
      by_cases c11 : a1 = (-1)
      · rw [if_pos c11] at H
        have c11b0 : (a1 == (-1)) = true := beq_iff_eq.mpr c11
        have c11b1 : (a1 != (-1)) = false := bne_eq_false_iff_eq.mpr c11
        clear c11
        by_cases c12 : x5_1.length < 17592186044416
        rotate_left
        · rw [if_neg c12] at H
          exact absurd H (by simp)
        rw [if_pos c12] at H
        have LMc12 := Aside0.mk c12
        clear c12
        obtain ⟨y165, hy165⟩ : ∃ y_ : List Int, y_ = (x5_1 ++ [(rd_T42 l0_0 x12_1).f0]) := ⟨_, rfl⟩
        replace H : (impl_OnField.l0 k1 a1 y165 l0_0 (l0_0.length : Int) (wrap64 (x12_1 + 1))) = some r := by first | (rw [hy165]; with_reducible exact H) | (have H2_ := (Option.bind_some _ _).symm.trans H; rw [hy165]; with_reducible exact H2_) | (have H2_ := (Option.bind_some _ _).symm.trans H; with_reducible exact H2_) | with_reducible exact H | (rw [hy165]; exact H) | exact H
        have Ny165 := Aside0.mk hy165
        clear hy165
        have H' := Aside0.mk H
        clear H
        have p163 : 0 ≤ (x12_1 : Int) := of_decide_eq_true Z2_25
        have q163 : x12_1 < (l0_0.length : Int) := of_decide_eq_true Z2_25
        obtain ⟨ad163, e163, hx163_0, hx163_1, hx163_2, hx163_3, hx163_4, hx163_5, hx163_6, hx163_7, hx163_8, hx163_9, hx163_10, hx163_11, hx163_12⟩ := at_T42 HR0_0.out x12_1 p163 q163
        cases e163
        replace hx163_0 := (HB.out.cell (World.block_lt_of_cell? w _ hx163_0)).trans hx163_0
        replace hx163_1 := (HB.out.cell (World.block_lt_of_cell? w _ hx163_1)).trans hx163_1
        replace hx163_2 := (HB.out.cell (World.block_lt_of_cell? w _ hx163_2)).trans hx163_2
        replace hx163_3 := (HB.out.cell (World.block_lt_of_cell? w _ hx163_3)).trans hx163_3
        replace hx163_4 := (HB.out.cell (World.block_lt_of_cell? w _ hx163_4)).trans hx163_4
        replace hx163_5 := (HB.out.cell (World.block_lt_of_cell? w _ hx163_5)).trans hx163_5
        replace hx163_6 := (HB.out.cell (World.block_lt_of_cell? w _ hx163_6)).trans hx163_6
        replace hx163_7 := (HB.out.cell (World.block_lt_of_cell? w _ hx163_7)).trans hx163_7
        replace hx163_8 := (HB.out.cell (World.block_lt_of_cell? w _ hx163_8)).trans hx163_8
        replace hx163_9 := (HB.out.cell (World.block_lt_of_cell? w _ hx163_9)).trans hx163_9
        replace hx163_10 := (HB.out.cell (World.block_lt_of_cell? w _ hx163_10)).trans hx163_10
        replace hx163_11 := (HB.out.cell (World.block_lt_of_cell? w _ hx163_11)).trans hx163_11
        replace hx163_12 := (HB.out.cell (World.block_lt_of_cell? w _ hx163_12)).trans hx163_12
        replace p163 := eq_true p163
        replace q163 := eq_true q163
        go_wp2_with (first | ((with_reducible refine gate_dst (N := 7) rfl ?_); refine box_event ?hg (N := 7) ?hd (cs := #[.int .i64 0, .int .i64 0, .int .i64 0, .int .i64 0, .int .i64 0, .int .i64 0, .int .i64 0, .int .i64 0, .int .i64 0, .int .i64 0, .int .i64 0, .bool false, .bool false]) (t := 42) ?hr ?_; (case hd => rfl); (case hg => rfl); (case hr => first | (go_simp; done) | (go_simp; rfl)); intro gb164 hg w13 hbox hb; have n0_ := Aside0.mk Z2_21; have n1_ := Aside0.mk Z2_10; have n2_ := Aside0.mk Z2_17; have n3_ := Aside0.mk (hbox); have n4_ := Aside0.mk Z2_11; have n5_ := Aside0.mk Z2_11; have n6_ := Aside0.mk Z2_8; have n7_ := Aside0.mk Z2_9; clear HO_5; clear BK159; clear HB; have HO_5 := n0_; have BK159 := n1_; have HB := n2_; have BK164 := n3_; have GW164 := n4_; have GE164 := n5_; have NB159_164 := n6_; have NB164_159 := n7_; clear n0_ n1_ n2_ n3_ n4_ n5_ n6_ n7_; clear hb hbox hg; have hnb14 := NB164_159.out; have hnc14 := NB159_164.out; obtain ⟨⟨hcz15_0, hcz15_1, hcz15_2, hcz15_3, hcz15_4, hcz15_5, hcz15_6, hcz15_7, hcz15_8, hcz15_9, hcz15_10, hcz15_11, hcz15_12⟩, hfz15_0, hfz15_1, hfz15_2, hfz15_3, hfz15_4, hfz15_5, hfz15_6, hfz15_7, hfz15_8, hfz15_9, hfz15_10, hfz15_11, hfz15_12⟩ := C2_13 BK164.out) | ((with_reducible refine gate_builtin (b := .append) (xs := #[.tmp 29, .tmp 32]) rfl ?_); at_builtin; refine Kd.R_append (Kd.int .i64) (w0 := w) w.heap.size rfl (.tmp 29) (.tmp 32) 27 3 (.int .i64 0) 8 rfl Try.underlying27 info3 rfl (by decide) (by omega) u5 x5_1 ((rd_T42 l0_0 x12_1).f0) [.int .i64 ((rd_T42 l0_0 x12_1).f0)] (fun _ => True) (fun _ => False) rfl (by first | (go_simp; done) | (go_simp; rfl)) ?aP (fun _ hk => hk.elim) ?aF ?aO ?aB ?aS ?aL ?_; (case aP => exact rfl); (case aB => exact Z2_13); (case aF => exact (fun _ _ => trivial)); (case aO => exact Z2_3); (case aS => exact (below_size Z2_13)); (case aL => have := LMc12.out; omega); intro v166 w16 ho hb hg hat; rw [← Ny165.out] at ho; have n0_ := Aside0.mk Z2_1; have n1_ := Aside0.mk Z2_4; have n2_ := Aside0.mk (hb); have n3_ := Aside0.mk (ho); clear BK159; clear BK164; clear HB; clear HO_5; have BK159 := n0_; have BK164 := n1_; have HB := n2_; have HO167 := n3_; clear n0_ n1_ n2_ n3_; clear ho hb hg hat))
        go_roundg k1
        case measure => have := HK1.out; omega
        case rel => exact ⟨(y165), (wrap64 (x12_1 + 1)), Z2_26, H', ⟨(by have := HK1.out; omega)⟩, ⟨(by (with_reducible repeat (first | apply Kd.R_alloc | apply Kd.R_drewN | apply Kd.R_drew)); exact HO167.out)⟩, ⟨Z2_22⟩, ⟨Z2_13⟩⟩
      rw [if_neg c11] at H
      have c11b0 : (a1 == (-1)) = false := beq_eq_false_iff_ne.mpr c11
      have c11b1 : (a1 != (-1)) = true := bne_iff_ne.mpr c11
      by_cases c17 : ((rd_T42 l0_0 x12_1).f2) = a1
      rotate_left
      · rw [if_neg c17] at H
        have c17b0 : (((rd_T42 l0_0 x12_1).f2) == a1) = false := beq_eq_false_iff_ne.mpr c17
        have c17b1 : (((rd_T42 l0_0 x12_1).f2) != a1) = true := bne_iff_ne.mpr c17
        have H' := Aside0.mk H
        clear H
        have p163 : 0 ≤ (x12_1 : Int) := of_decide_eq_true Z2_25
        have q163 : x12_1 < (l0_0.length : Int) := of_decide_eq_true Z2_25
        obtain ⟨ad163, e163, hx163_0, hx163_1, hx163_2, hx163_3, hx163_4, hx163_5, hx163_6, hx163_7, hx163_8, hx163_9, hx163_10, hx163_11, hx163_12⟩ := at_T42 HR0_0.out x12_1 p163 q163
        cases e163
        replace hx163_0 := (HB.out.cell (World.block_lt_of_cell? w _ hx163_0)).trans hx163_0
        replace hx163_1 := (HB.out.cell (World.block_lt_of_cell? w _ hx163_1)).trans hx163_1
        replace hx163_2 := (HB.out.cell (World.block_lt_of_cell? w _ hx163_2)).trans hx163_2
        replace hx163_3 := (HB.out.cell (World.block_lt_of_cell? w _ hx163_3)).trans hx163_3
        replace hx163_4 := (HB.out.cell (World.block_lt_of_cell? w _ hx163_4)).trans hx163_4
        replace hx163_5 := (HB.out.cell (World.block_lt_of_cell? w _ hx163_5)).trans hx163_5
        replace hx163_6 := (HB.out.cell (World.block_lt_of_cell? w _ hx163_6)).trans hx163_6
        replace hx163_7 := (HB.out.cell (World.block_lt_of_cell? w _ hx163_7)).trans hx163_7
        replace hx163_8 := (HB.out.cell (World.block_lt_of_cell? w _ hx163_8)).trans hx163_8
        replace hx163_9 := (HB.out.cell (World.block_lt_of_cell? w _ hx163_9)).trans hx163_9
        replace hx163_10 := (HB.out.cell (World.block_lt_of_cell? w _ hx163_10)).trans hx163_10
        replace hx163_11 := (HB.out.cell (World.block_lt_of_cell? w _ hx163_11)).trans hx163_11
        replace hx163_12 := (HB.out.cell (World.block_lt_of_cell? w _ hx163_12)).trans hx163_12
        replace p163 := eq_true p163
        replace q163 := eq_true q163
        go_wp2_with (first | ((with_reducible refine gate_dst (N := 7) rfl ?_); refine box_event ?hg (N := 7) ?hd (cs := #[.int .i64 0, .int .i64 0, .int .i64 0, .int .i64 0, .int .i64 0, .int .i64 0, .int .i64 0, .int .i64 0, .int .i64 0, .int .i64 0, .int .i64 0, .bool false, .bool false]) (t := 42) ?hr ?_; (case hd => rfl); (case hg => rfl); (case hr => first | (go_simp; done) | (go_simp; rfl)); intro gb164 hg w23 hbox hb; have n0_ := Aside0.mk Z2_21; have n1_ := Aside0.mk Z2_10; have n2_ := Aside0.mk Z2_17; have n3_ := Aside0.mk (hbox); have n4_ := Aside0.mk Z2_11; have n5_ := Aside0.mk Z2_11; have n6_ := Aside0.mk Z2_8; have n7_ := Aside0.mk Z2_9; clear HO_5; clear BK159; clear HB; have HO_5 := n0_; have BK159 := n1_; have HB := n2_; have BK164 := n3_; have GW164 := n4_; have GE164 := n5_; have NB159_164 := n6_; have NB164_159 := n7_; clear n0_ n1_ n2_ n3_ n4_ n5_ n6_ n7_; clear hb hbox hg; have hnb24 := NB164_159.out; have hnc24 := NB159_164.out; obtain ⟨⟨hcz25_0, hcz25_1, hcz25_2, hcz25_3, hcz25_4, hcz25_5, hcz25_6, hcz25_7, hcz25_8, hcz25_9, hcz25_10, hcz25_11, hcz25_12⟩, hfz25_0, hfz25_1, hfz25_2, hfz25_3, hfz25_4, hfz25_5, hfz25_6, hfz25_7, hfz25_8, hfz25_9, hfz25_10, hfz25_11, hfz25_12⟩ := C2_13 BK164.out))
        go_roundg k1
        case measure => have := HK1.out; omega
        case rel => exact ⟨(x5_1), (wrap64 (x12_1 + 1)), Z2_26, H', ⟨(by have := HK1.out; omega)⟩, ⟨Z2_3⟩, ⟨Z2_2⟩, ⟨Z2_13⟩⟩
      rw [if_pos c17] at H
      have c17b0 : (((rd_T42 l0_0 x12_1).f2) == a1) = true := beq_iff_eq.mpr c17
      have c17b1 : (((rd_T42 l0_0 x12_1).f2) != a1) = false := bne_eq_false_iff_eq.mpr c17
      clear c17
      by_cases c18 : x5_1.length < 17592186044416
      rotate_left
      · rw [if_neg c18] at H
        exact absurd H (by simp)
      rw [if_pos c18] at H
      have LMc18 := Aside0.mk c18
      clear c18
      obtain ⟨y168, hy168⟩ : ∃ y_ : List Int, y_ = (x5_1 ++ [(rd_T42 l0_0 x12_1).f0]) := ⟨_, rfl⟩
      replace H : (impl_OnField.l0 k1 a1 y168 l0_0 (l0_0.length : Int) (wrap64 (x12_1 + 1))) = some r := by first | (rw [hy168]; with_reducible exact H) | (have H2_ := (Option.bind_some _ _).symm.trans H; rw [hy168]; with_reducible exact H2_) | (have H2_ := (Option.bind_some _ _).symm.trans H; with_reducible exact H2_) | with_reducible exact H | (rw [hy168]; exact H) | exact H
      have Ny168 := Aside0.mk hy168
      clear hy168
      have H' := Aside0.mk H
      clear H
      have p163 : 0 ≤ (x12_1 : Int) := of_decide_eq_true Z2_25
      have q163 : x12_1 < (l0_0.length : Int) := of_decide_eq_true Z2_25
      obtain ⟨ad163, e163, hx163_0, hx163_1, hx163_2, hx163_3, hx163_4, hx163_5, hx163_6, hx163_7, hx163_8, hx163_9, hx163_10, hx163_11, hx163_12⟩ := at_T42 HR0_0.out x12_1 p163 q163
      cases e163
      replace hx163_0 := (HB.out.cell (World.block_lt_of_cell? w _ hx163_0)).trans hx163_0
      replace hx163_1 := (HB.out.cell (World.block_lt_of_cell? w _ hx163_1)).trans hx163_1
      replace hx163_2 := (HB.out.cell (World.block_lt_of_cell? w _ hx163_2)).trans hx163_2
      replace hx163_3 := (HB.out.cell (World.block_lt_of_cell? w _ hx163_3)).trans hx163_3
      replace hx163_4 := (HB.out.cell (World.block_lt_of_cell? w _ hx163_4)).trans hx163_4
      replace hx163_5 := (HB.out.cell (World.block_lt_of_cell? w _ hx163_5)).trans hx163_5
      replace hx163_6 := (HB.out.cell (World.block_lt_of_cell? w _ hx163_6)).trans hx163_6
      replace hx163_7 := (HB.out.cell (World.block_lt_of_cell? w _ hx163_7)).trans hx163_7
      replace hx163_8 := (HB.out.cell (World.block_lt_of_cell? w _ hx163_8)).trans hx163_8
      replace hx163_9 := (HB.out.cell (World.block_lt_of_cell? w _ hx163_9)).trans hx163_9
      replace hx163_10 := (HB.out.cell (World.block_lt_of_cell? w _ hx163_10)).trans hx163_10
      replace hx163_11 := (HB.out.cell (World.block_lt_of_cell? w _ hx163_11)).trans hx163_11
      replace hx163_12 := (HB.out.cell (World.block_lt_of_cell? w _ hx163_12)).trans hx163_12
      replace p163 := eq_true p163
      replace q163 := eq_true q163
      go_wp2_with (first | ((with_reducible refine gate_dst (N := 7) rfl ?_); refine box_event ?hg (N := 7) ?hd (cs := #[.int .i64 0, .int .i64 0, .int .i64 0, .int .i64 0, .int .i64 0, .int .i64 0, .int .i64 0, .int .i64 0, .int .i64 0, .int .i64 0, .int .i64 0, .bool false, .bool false]) (t := 42) ?hr ?_; (case hd => rfl); (case hg => rfl); (case hr => first | (go_simp; done) | (go_simp; rfl)); intro gb164 hg w19 hbox hb; have n0_ := Aside0.mk Z2_21; have n1_ := Aside0.mk Z2_10; have n2_ := Aside0.mk Z2_17; have n3_ := Aside0.mk (hbox); have n4_ := Aside0.mk Z2_11; have n5_ := Aside0.mk Z2_11; have n6_ := Aside0.mk Z2_8; have n7_ := Aside0.mk Z2_9; clear HO_5; clear BK159; clear HB; have HO_5 := n0_; have BK159 := n1_; have HB := n2_; have BK164 := n3_; have GW164 := n4_; have GE164 := n5_; have NB159_164 := n6_; have NB164_159 := n7_; clear n0_ n1_ n2_ n3_ n4_ n5_ n6_ n7_; clear hb hbox hg; have hnb20 := NB164_159.out; have hnc20 := NB159_164.out; obtain ⟨⟨hcz21_0, hcz21_1, hcz21_2, hcz21_3, hcz21_4, hcz21_5, hcz21_6, hcz21_7, hcz21_8, hcz21_9, hcz21_10, hcz21_11, hcz21_12⟩, hfz21_0, hfz21_1, hfz21_2, hfz21_3, hfz21_4, hfz21_5, hfz21_6, hfz21_7, hfz21_8, hfz21_9, hfz21_10, hfz21_11, hfz21_12⟩ := C2_13 BK164.out) | ((with_reducible refine gate_builtin (b := .append) (xs := #[.tmp 29, .tmp 32]) rfl ?_); at_builtin; refine Kd.R_append (Kd.int .i64) (w0 := w) w.heap.size rfl (.tmp 29) (.tmp 32) 27 3 (.int .i64 0) 8 rfl Try.underlying27 info3 rfl (by decide) (by omega) u5 x5_1 ((rd_T42 l0_0 x12_1).f0) [.int .i64 ((rd_T42 l0_0 x12_1).f0)] (fun _ => True) (fun _ => False) rfl (by first | (go_simp; done) | (go_simp; rfl)) ?aP (fun _ hk => hk.elim) ?aF ?aO ?aB ?aS ?aL ?_; (case aP => exact rfl); (case aB => exact Z2_13); (case aF => exact (fun _ _ => trivial)); (case aO => exact Z2_3); (case aS => exact (below_size Z2_13)); (case aL => have := LMc18.out; omega); intro v169 w22 ho hb hg hat; rw [← Ny168.out] at ho; have n0_ := Aside0.mk Z2_1; have n1_ := Aside0.mk Z2_4; have n2_ := Aside0.mk (hb); have n3_ := Aside0.mk (ho); clear BK159; clear BK164; clear HB; clear HO_5; have BK159 := n0_; have BK164 := n1_; have HB := n2_; have HO170 := n3_; clear n0_ n1_ n2_ n3_; clear ho hb hg hat))
      go_roundg k1
      case measure => have := HK1.out; omega
      case rel => exact ⟨(y168), (wrap64 (x12_1 + 1)), Z2_26, H', ⟨(by have := HK1.out; omega)⟩, ⟨(by (with_reducible repeat (first | apply Kd.R_alloc | apply Kd.R_drewN | apply Kd.R_drew)); exact HO170.out)⟩, ⟨Z2_22⟩, ⟨Z2_13⟩⟩

/-! ### laws_eqIntS: function 13 -/
def laws_eqIntS.l0 : Nat → List Int → List Int → Int → Option (Bool)
  | 0, _, _, _ => none
  | k + 1, x0, x1, x5 => if x5 < (x0.length : Int) then (if 0 ≤ x5 then (if x5 < (x1.length : Int) then (if (rd x0 x5) = (rd x1 x5) then (laws_eqIntS.l0 k x0 x1 (wrap64 (x5 + 1))) else (some false)) else (none)) else (none)) else (some true)
def laws_eqIntS.f (k : Nat) (l0 : List Int) (l1 : List Int) : Option (Bool) := if (l0.length : Int) = (l1.length : Int) then (laws_eqIntS.l0 k l0 l1 0) else (some false)
theorem laws_eqIntS.mono_l : ∀ k, (∀ y0 y1 y2, LeO (laws_eqIntS.l0 k y0 y1 y2) (laws_eqIntS.l0 (k + 1) y0 y1 y2))
  | 0 => fun _ _ _ r h => by simp [laws_eqIntS.l0] at h
  | k + 1 => by
    have ih0 := laws_eqIntS.mono_l k
    · intro y0 y1 y2
      unfold laws_eqIntS.l0
      repeat' first
      | (with_reducible exact ih0 _ _ _)
      | (with_reducible exact LeO.refl _)
      | (with_reducible exact LeO.none _)
      | (with_reducible refine LeO.ite ?_ ?_)
      | (with_reducible refine LeO.bind ?_ (fun _ => ?_))
      | exact ih0 _ _ _
      | exact LeO.none _
      | refine LeO.ite ?_ ?_
      | refine LeO.bind ?_ (fun _ => ?_)
theorem laws_eqIntS.mono : ∀ a0 a1 k, LeO (laws_eqIntS.f k a0 a1) (laws_eqIntS.f (k + 1) a0 a1) := by
  intro a0 a1 k
  have ih0 := laws_eqIntS.mono_l k
  unfold laws_eqIntS.f
  repeat' first
      | (with_reducible exact ih0 _ _ _)
      | (with_reducible exact LeO.refl _)
      | (with_reducible exact LeO.none _)
      | (with_reducible refine LeO.ite ?_ ?_)
      | (with_reducible refine LeO.bind ?_ (fun _ => ?_))
      | exact ih0 _ _ _
      | exact LeO.none _
      | refine LeO.ite ?_ ?_
      | refine LeO.bind ?_ (fun _ => ?_)
set_option maxHeartbeats 8000000 in
set_option maxRecDepth 100000 in
theorem laws_eqIntS.calls (k : Nat) (A0 : Option Addr) (c0 : Nat) (l0 : List Int) (A1 : Option Addr) (c1 : Nat) (l1 : List Int) (r : Bool) (w : World) (hr0 : Kd.C (Kd.int .i64) w A0 l0.length l0) (hc0 : l0.length ≤ c0) (hr1 : Kd.C (Kd.int .i64) w A1 l1.length l1) (hc1 : l1.length ≤ c1) (h : laws_eqIntS.f k l0 l1 = some r) :
    Calls Try.prog 13 #[.slice A0 l0.length c0, .slice A1 l1.length c1] w fun e w' => e = .returned (.bool r) ∧ Drawn0 w w' := by
  have HR0 := Aside0.mk hr0
  have HC0 := Aside0.mk hc0
  clear hr0 hc0
  have HR1 := Aside0.mk hr1
  have HC1 := Aside0.mk hc1
  clear hr1 hc1
  have H : (if (l0.length : Int) = (l1.length : Int) then (laws_eqIntS.l0 k l0 l1 0) else (some false)) = some r := h
  clear h
  by_cases c3 : (l0.length : Int) = (l1.length : Int)
  rotate_left
  · rw [if_neg c3] at H
    have c3b0 : ((l0.length : Int) == (l1.length : Int)) = false := beq_eq_false_iff_ne.mpr c3
    have c3b1 : ((l0.length : Int) != (l1.length : Int)) = true := bne_iff_ne.mpr c3
    have c3b2 : (l0.length == l1.length) = false := by first | simpa using c3 | (simp at c3 ⊢; omega)
    obtain rfl := Option.some.inj H
    go_enter Try.func13, Try.ntmps13
    go_wp2
    repeat (go_quiet (fail); try go_wp2)
    go_ret
    exact ⟨Z2_26, Z2_24⟩
  rw [if_pos c3] at H
  have c3b0 : ((l0.length : Int) == (l1.length : Int)) = true := beq_iff_eq.mpr c3
  have c3b1 : ((l0.length : Int) != (l1.length : Int)) = false := bne_eq_false_iff_eq.mpr c3
  have c3b2 : (l0.length == l1.length) = true := by first | simpa using c3 | (simp at c3 ⊢; omega)
  clear c3
  have H' := Aside0.mk H
  clear H
  go_enter Try.func13, Try.ntmps13
  go_wp2
  repeat (go_quiet (fail); try go_wp2)
  go_loopg [5] k (fun kq v5 w' => ∃ (x5_1 : Int), v5 = .int .i64 x5_1 ∧ Aside0 (laws_eqIntS.l0 kq l0 l1 x5_1 = some r) ∧ Aside0 (kq ≤ k) ∧ Drawn0 w w')
  case atStart => exact ⟨(0), Z2_26, H', ⟨Nat.le_refl _⟩, Z2_24⟩
  case round =>
    clear H'
    try clear c1
    try clear p2
    try clear c3
    try clear c3b0
    try clear c3b1
    try clear c3b2
    obtain ⟨x5_1, rfl, HA, HK1, ⟨m1, rfl⟩⟩ := hrel
    cases gk with
    | zero => exact absurd HA.out (by simp [laws_eqIntS.l0])
    | succ k1 =>
      have H := HA.out
      clear HA
      simp only [laws_eqIntS.l0] at H
      by_cases c4 : x5_1 < (l0.length : Int)
      rotate_left
      · rw [if_neg c4] at H
        have c4b0 : decide (x5_1 < (l0.length : Int)) = false := decide_eq_false c4
        clear c4
        obtain rfl := Option.some.inj H
        go_wp2
        repeat (go_quiet (fail); try go_wp2)
        go_ret
        exact ⟨Z2_26, Z2_24⟩
      rw [if_pos c4] at H
      have c4b0 : decide (x5_1 < (l0.length : Int)) = true := decide_eq_true c4
      clear c4
      by_cases c5 : 0 ≤ x5_1
      rotate_left
      · rw [if_neg c5] at H
        exact absurd H (by simp)
      rw [if_pos c5] at H
      have c5b0 : decide (0 ≤ x5_1) = true := decide_eq_true c5
      clear c5
      by_cases c6 : x5_1 < (l1.length : Int)
      rotate_left
      · rw [if_neg c6] at H
        exact absurd H (by simp)
      rw [if_pos c6] at H
      have c6b0 : decide (x5_1 < (l1.length : Int)) = true := decide_eq_true c6
      clear c6
      by_cases c7 : (rd l0 x5_1) = (rd l1 x5_1)
      rotate_left
      · rw [if_neg c7] at H
        have c7b0 : ((rd l0 x5_1) == (rd l1 x5_1)) = false := beq_eq_false_iff_ne.mpr c7
        have c7b1 : ((rd l0 x5_1) != (rd l1 x5_1)) = true := bne_iff_ne.mpr c7
        obtain rfl := Option.some.inj H
        have p171 : 0 ≤ (x5_1 : Int) := of_decide_eq_true Z2_25
        have q171 : x5_1 < (l0.length : Int) := of_decide_eq_true Z2_25
        obtain ⟨ad171, e171, hx171_0⟩ := Kd.at_int HR0.out x5_1 p171 q171
        cases e171
        replace p171 := eq_true p171
        replace q171 := eq_true q171
        have p172 : 0 ≤ (x5_1 : Int) := of_decide_eq_true Z2_25
        have q172 : x5_1 < (l1.length : Int) := of_decide_eq_true Z2_25
        obtain ⟨ad172, e172, hx172_0⟩ := Kd.at_int HR1.out x5_1 p172 q172
        cases e172
        replace p172 := eq_true p172
        replace q172 := eq_true q172
        go_wp2
        repeat (go_quiet (fail); try go_wp2)
        go_ret
        exact ⟨Z2_26, Z2_24⟩
      rw [if_pos c7] at H
      have c7b0 : ((rd l0 x5_1) == (rd l1 x5_1)) = true := beq_iff_eq.mpr c7
      have c7b1 : ((rd l0 x5_1) != (rd l1 x5_1)) = false := bne_eq_false_iff_eq.mpr c7
      clear c7
      have H' := Aside0.mk H
      clear H
      have p171 : 0 ≤ (x5_1 : Int) := of_decide_eq_true Z2_25
      have q171 : x5_1 < (l0.length : Int) := of_decide_eq_true Z2_25
      obtain ⟨ad171, e171, hx171_0⟩ := Kd.at_int HR0.out x5_1 p171 q171
      cases e171
      replace p171 := eq_true p171
      replace q171 := eq_true q171
      have p172 : 0 ≤ (x5_1 : Int) := of_decide_eq_true Z2_25
      have q172 : x5_1 < (l1.length : Int) := of_decide_eq_true Z2_25
      obtain ⟨ad172, e172, hx172_0⟩ := Kd.at_int HR1.out x5_1 p172 q172
      cases e172
      replace p172 := eq_true p172
      replace q172 := eq_true q172
      go_wp2
      repeat (go_quiet (fail); try go_wp2)
      go_roundg k1
      case measure => have := HK1.out; omega
      case rel => exact ⟨(wrap64 (x5_1 + 1)), Z2_26, H', ⟨(by have := HK1.out; omega)⟩, Z2_24⟩

/-! ### laws_eqPiece: function 84 -/
def laws_eqPiece.f (a0_0 : Int) (a0_1 : Int) (a0_2 : Int) (a0_3 : Int) (a0_4 : Int) (a0_5 : Int) (a0_6 : Int) (a0_7 : Int) (a0_8 : Int) (a0_9 : Int) (a0_10 : Int) (a0_11 : Bool) (a0_12 : Bool) (a1_0 : Int) (a1_1 : Int) (a1_2 : Int) (a1_3 : Int) (a1_4 : Int) (a1_5 : Int) (a1_6 : Int) (a1_7 : Int) (a1_8 : Int) (a1_9 : Int) (a1_10 : Int) (a1_11 : Bool) (a1_12 : Bool) : Option (Bool) := if a0_0 = a1_0 then (if a0_1 = a1_1 then (if a0_2 = a1_2 then (if a0_3 = a1_3 then (if a0_4 = a1_4 then (if a0_5 = a1_5 then (if a0_6 = a1_6 then (if a0_7 = a1_7 then (if a0_8 = a1_8 then (if a0_9 = a1_9 then (if a0_10 = a1_10 then (if (a0_11 != a1_11) = true then (some false) else (if (a0_12 != a1_12) = true then (some false) else (some true))) else (some false)) else (some false)) else (some false)) else (some false)) else (some false)) else (some false)) else (some false)) else (some false)) else (some false)) else (some false)) else (some false)
set_option maxHeartbeats 8000000 in
set_option maxRecDepth 100000 in
theorem laws_eqPiece.calls (a0_0 : Int) (a0_1 : Int) (a0_2 : Int) (a0_3 : Int) (a0_4 : Int) (a0_5 : Int) (a0_6 : Int) (a0_7 : Int) (a0_8 : Int) (a0_9 : Int) (a0_10 : Int) (a0_11 : Bool) (a0_12 : Bool) (a1_0 : Int) (a1_1 : Int) (a1_2 : Int) (a1_3 : Int) (a1_4 : Int) (a1_5 : Int) (a1_6 : Int) (a1_7 : Int) (a1_8 : Int) (a1_9 : Int) (a1_10 : Int) (a1_11 : Bool) (a1_12 : Bool) (r : Bool) (w : World) (h : laws_eqPiece.f a0_0 a0_1 a0_2 a0_3 a0_4 a0_5 a0_6 a0_7 a0_8 a0_9 a0_10 a0_11 a0_12 a1_0 a1_1 a1_2 a1_3 a1_4 a1_5 a1_6 a1_7 a1_8 a1_9 a1_10 a1_11 a1_12 = some r) :
    Calls Try.prog 84 #[.agg #[.int .i64 a0_0, .int .i64 a0_1, .int .i64 a0_2, .int .i64 a0_3, .int .i64 a0_4, .int .i64 a0_5, .int .i64 a0_6, .int .i64 a0_7, .int .i64 a0_8, .int .i64 a0_9, .int .i64 a0_10, .bool a0_11, .bool a0_12], .agg #[.int .i64 a1_0, .int .i64 a1_1, .int .i64 a1_2, .int .i64 a1_3, .int .i64 a1_4, .int .i64 a1_5, .int .i64 a1_6, .int .i64 a1_7, .int .i64 a1_8, .int .i64 a1_9, .int .i64 a1_10, .bool a1_11, .bool a1_12]] w fun e w' => e = .returned (.bool r) ∧ Below w.heap.size w w' := by
  have hu42 := Try.underlying42
  have HB := Aside0.mk (Below.refl w.heap.size w)
  have H : (if a0_0 = a1_0 then (if a0_1 = a1_1 then (if a0_2 = a1_2 then (if a0_3 = a1_3 then (if a0_4 = a1_4 then (if a0_5 = a1_5 then (if a0_6 = a1_6 then (if a0_7 = a1_7 then (if a0_8 = a1_8 then (if a0_9 = a1_9 then (if a0_10 = a1_10 then (if (a0_11 != a1_11) = true then (some false) else (if (a0_12 != a1_12) = true then (some false) else (some true))) else (some false)) else (some false)) else (some false)) else (some false)) else (some false)) else (some false)) else (some false)) else (some false)) else (some false)) else (some false)) else (some false)) = some r := h
  clear h
  go_enter Try.func84, Try.ntmps84
  repeat' (first | ((with_reducible refine gate_dst (N := 2) rfl ?_); refine box_event ?hg (N := 2) ?hd (cs := #[.int .i64 a0_0, .int .i64 a0_1, .int .i64 a0_2, .int .i64 a0_3, .int .i64 a0_4, .int .i64 a0_5, .int .i64 a0_6, .int .i64 a0_7, .int .i64 a0_8, .int .i64 a0_9, .int .i64 a0_10, .bool a0_11, .bool a0_12]) (t := 42) ?hr ?_; (case hd => rfl); (case hg => rfl); (case hr => first | (go_simp; done) | (go_simp; rfl)); intro gb173 hg w15 hbox hb; have n0_ := Aside0.mk Z2_20; have n1_ := Aside0.mk (hbox); have n2_ := Aside0.mk Z2_16; have n3_ := Aside0.mk Z2_16; clear HB; have HB := n0_; have BK173 := n1_; have GW173 := n2_; have GE173 := n3_; clear n0_ n1_ n2_ n3_; clear hb hbox hg) | ((fail_if_success (with_reducible refine gate_dst (N := 3) rfl ?_)); (first | go_values | go_skip | go_guarded | go_step | go_upon | go_back | (simp only [Int.not_lt, Int.not_le] at *; go_simp) | (go_ite <;> go_prune <;> (try go_simp)) | (split <;> (first | (rename_i hx; exact (hx _ rfl).elim) | go_prune)))))
  by_cases c3 : a0_0 = a1_0
  rotate_left
  · rw [if_neg c3] at H
    have c3b0 : (a0_0 == a1_0) = false := beq_eq_false_iff_ne.mpr c3
    have c3b1 : (a0_0 != a1_0) = true := bne_iff_ne.mpr c3
    obtain rfl := Option.some.inj H
    go_wp2_with (first | ((with_reducible refine gate_dst (N := 3) rfl ?_); refine box_event ?hg (N := 3) ?hd (cs := #[.int .i64 a1_0, .int .i64 a1_1, .int .i64 a1_2, .int .i64 a1_3, .int .i64 a1_4, .int .i64 a1_5, .int .i64 a1_6, .int .i64 a1_7, .int .i64 a1_8, .int .i64 a1_9, .int .i64 a1_10, .bool a1_11, .bool a1_12]) (t := 42) ?hr ?_; (case hd => rfl); (case hg => rfl); (case hr => first | (go_simp; done) | (go_simp; rfl)); intro gb174 hg w16 hbox hb; have n0_ := Aside0.mk Z2_7; have n1_ := Aside0.mk Z2_18; have n2_ := Aside0.mk (hbox); have n3_ := Aside0.mk Z2_12; have n4_ := Aside0.mk Z2_12; have n5_ := Aside0.mk Z2_5; have n6_ := Aside0.mk Z2_6; clear BK173; clear HB; have BK173 := n0_; have HB := n1_; have BK174 := n2_; have GW174 := n3_; have GE174 := n4_; have NB173_174 := n5_; have NB174_173 := n6_; clear n0_ n1_ n2_ n3_ n4_ n5_ n6_; clear hb hbox hg; have hnb17 := NB173_174.out; have hnc17 := NB174_173.out; obtain ⟨⟨hcz18_0, hcz18_1, hcz18_2, hcz18_3, hcz18_4, hcz18_5, hcz18_6, hcz18_7, hcz18_8, hcz18_9, hcz18_10, hcz18_11, hcz18_12⟩, hfz18_0, hfz18_1, hfz18_2, hfz18_3, hfz18_4, hfz18_5, hfz18_6, hfz18_7, hfz18_8, hfz18_9, hfz18_10, hfz18_11, hfz18_12⟩ := C2_13 BK173.out; obtain ⟨⟨hcz19_0, hcz19_1, hcz19_2, hcz19_3, hcz19_4, hcz19_5, hcz19_6, hcz19_7, hcz19_8, hcz19_9, hcz19_10, hcz19_11, hcz19_12⟩, hfz19_0, hfz19_1, hfz19_2, hfz19_3, hfz19_4, hfz19_5, hfz19_6, hfz19_7, hfz19_8, hfz19_9, hfz19_10, hfz19_11, hfz19_12⟩ := C2_13 BK174.out))
    go_ret
    exact ⟨Z2_23, Z2_14⟩
  rw [if_pos c3] at H
  have c3b0 : (a0_0 == a1_0) = true := beq_iff_eq.mpr c3
  have c3b1 : (a0_0 != a1_0) = false := bne_eq_false_iff_eq.mpr c3
  clear c3
  by_cases c4 : a0_1 = a1_1
  rotate_left
  · rw [if_neg c4] at H
    have c4b0 : (a0_1 == a1_1) = false := beq_eq_false_iff_ne.mpr c4
    have c4b1 : (a0_1 != a1_1) = true := bne_iff_ne.mpr c4
    obtain rfl := Option.some.inj H
    go_wp2_with (first | ((with_reducible refine gate_dst (N := 3) rfl ?_); refine box_event ?hg (N := 3) ?hd (cs := #[.int .i64 a1_0, .int .i64 a1_1, .int .i64 a1_2, .int .i64 a1_3, .int .i64 a1_4, .int .i64 a1_5, .int .i64 a1_6, .int .i64 a1_7, .int .i64 a1_8, .int .i64 a1_9, .int .i64 a1_10, .bool a1_11, .bool a1_12]) (t := 42) ?hr ?_; (case hd => rfl); (case hg => rfl); (case hr => first | (go_simp; done) | (go_simp; rfl)); intro gb174 hg w16 hbox hb; have n0_ := Aside0.mk Z2_7; have n1_ := Aside0.mk Z2_18; have n2_ := Aside0.mk (hbox); have n3_ := Aside0.mk Z2_12; have n4_ := Aside0.mk Z2_12; have n5_ := Aside0.mk Z2_5; have n6_ := Aside0.mk Z2_6; clear BK173; clear HB; have BK173 := n0_; have HB := n1_; have BK174 := n2_; have GW174 := n3_; have GE174 := n4_; have NB173_174 := n5_; have NB174_173 := n6_; clear n0_ n1_ n2_ n3_ n4_ n5_ n6_; clear hb hbox hg; have hnb17 := NB173_174.out; have hnc17 := NB174_173.out; obtain ⟨⟨hcz18_0, hcz18_1, hcz18_2, hcz18_3, hcz18_4, hcz18_5, hcz18_6, hcz18_7, hcz18_8, hcz18_9, hcz18_10, hcz18_11, hcz18_12⟩, hfz18_0, hfz18_1, hfz18_2, hfz18_3, hfz18_4, hfz18_5, hfz18_6, hfz18_7, hfz18_8, hfz18_9, hfz18_10, hfz18_11, hfz18_12⟩ := C2_13 BK173.out; obtain ⟨⟨hcz19_0, hcz19_1, hcz19_2, hcz19_3, hcz19_4, hcz19_5, hcz19_6, hcz19_7, hcz19_8, hcz19_9, hcz19_10, hcz19_11, hcz19_12⟩, hfz19_0, hfz19_1, hfz19_2, hfz19_3, hfz19_4, hfz19_5, hfz19_6, hfz19_7, hfz19_8, hfz19_9, hfz19_10, hfz19_11, hfz19_12⟩ := C2_13 BK174.out))
    go_ret
    exact ⟨Z2_23, Z2_14⟩
  rw [if_pos c4] at H
  have c4b0 : (a0_1 == a1_1) = true := beq_iff_eq.mpr c4
  have c4b1 : (a0_1 != a1_1) = false := bne_eq_false_iff_eq.mpr c4
  clear c4
  by_cases c5 : a0_2 = a1_2
  rotate_left
  · rw [if_neg c5] at H
    have c5b0 : (a0_2 == a1_2) = false := beq_eq_false_iff_ne.mpr c5
    have c5b1 : (a0_2 != a1_2) = true := bne_iff_ne.mpr c5
    obtain rfl := Option.some.inj H
    go_wp2_with (first | ((with_reducible refine gate_dst (N := 3) rfl ?_); refine box_event ?hg (N := 3) ?hd (cs := #[.int .i64 a1_0, .int .i64 a1_1, .int .i64 a1_2, .int .i64 a1_3, .int .i64 a1_4, .int .i64 a1_5, .int .i64 a1_6, .int .i64 a1_7, .int .i64 a1_8, .int .i64 a1_9, .int .i64 a1_10, .bool a1_11, .bool a1_12]) (t := 42) ?hr ?_; (case hd => rfl); (case hg => rfl); (case hr => first | (go_simp; done) | (go_simp; rfl)); intro gb174 hg w16 hbox hb; have n0_ := Aside0.mk Z2_7; have n1_ := Aside0.mk Z2_18; have n2_ := Aside0.mk (hbox); have n3_ := Aside0.mk Z2_12; have n4_ := Aside0.mk Z2_12; have n5_ := Aside0.mk Z2_5; have n6_ := Aside0.mk Z2_6; clear BK173; clear HB; have BK173 := n0_; have HB := n1_; have BK174 := n2_; have GW174 := n3_; have GE174 := n4_; have NB173_174 := n5_; have NB174_173 := n6_; clear n0_ n1_ n2_ n3_ n4_ n5_ n6_; clear hb hbox hg; have hnb17 := NB173_174.out; have hnc17 := NB174_173.out; obtain ⟨⟨hcz18_0, hcz18_1, hcz18_2, hcz18_3, hcz18_4, hcz18_5, hcz18_6, hcz18_7, hcz18_8, hcz18_9, hcz18_10, hcz18_11, hcz18_12⟩, hfz18_0, hfz18_1, hfz18_2, hfz18_3, hfz18_4, hfz18_5, hfz18_6, hfz18_7, hfz18_8, hfz18_9, hfz18_10, hfz18_11, hfz18_12⟩ := C2_13 BK173.out; obtain ⟨⟨hcz19_0, hcz19_1, hcz19_2, hcz19_3, hcz19_4, hcz19_5, hcz19_6, hcz19_7, hcz19_8, hcz19_9, hcz19_10, hcz19_11, hcz19_12⟩, hfz19_0, hfz19_1, hfz19_2, hfz19_3, hfz19_4, hfz19_5, hfz19_6, hfz19_7, hfz19_8, hfz19_9, hfz19_10, hfz19_11, hfz19_12⟩ := C2_13 BK174.out))
    go_ret
    exact ⟨Z2_23, Z2_14⟩
  rw [if_pos c5] at H
  have c5b0 : (a0_2 == a1_2) = true := beq_iff_eq.mpr c5
  have c5b1 : (a0_2 != a1_2) = false := bne_eq_false_iff_eq.mpr c5
  clear c5
  by_cases c6 : a0_3 = a1_3
  rotate_left
  · rw [if_neg c6] at H
    have c6b0 : (a0_3 == a1_3) = false := beq_eq_false_iff_ne.mpr c6
    have c6b1 : (a0_3 != a1_3) = true := bne_iff_ne.mpr c6
    obtain rfl := Option.some.inj H
    go_wp2_with (first | ((with_reducible refine gate_dst (N := 3) rfl ?_); refine box_event ?hg (N := 3) ?hd (cs := #[.int .i64 a1_0, .int .i64 a1_1, .int .i64 a1_2, .int .i64 a1_3, .int .i64 a1_4, .int .i64 a1_5, .int .i64 a1_6, .int .i64 a1_7, .int .i64 a1_8, .int .i64 a1_9, .int .i64 a1_10, .bool a1_11, .bool a1_12]) (t := 42) ?hr ?_; (case hd => rfl); (case hg => rfl); (case hr => first | (go_simp; done) | (go_simp; rfl)); intro gb174 hg w16 hbox hb; have n0_ := Aside0.mk Z2_7; have n1_ := Aside0.mk Z2_18; have n2_ := Aside0.mk (hbox); have n3_ := Aside0.mk Z2_12; have n4_ := Aside0.mk Z2_12; have n5_ := Aside0.mk Z2_5; have n6_ := Aside0.mk Z2_6; clear BK173; clear HB; have BK173 := n0_; have HB := n1_; have BK174 := n2_; have GW174 := n3_; have GE174 := n4_; have NB173_174 := n5_; have NB174_173 := n6_; clear n0_ n1_ n2_ n3_ n4_ n5_ n6_; clear hb hbox hg; have hnb17 := NB173_174.out; have hnc17 := NB174_173.out; obtain ⟨⟨hcz18_0, hcz18_1, hcz18_2, hcz18_3, hcz18_4, hcz18_5, hcz18_6, hcz18_7, hcz18_8, hcz18_9, hcz18_10, hcz18_11, hcz18_12⟩, hfz18_0, hfz18_1, hfz18_2, hfz18_3, hfz18_4, hfz18_5, hfz18_6, hfz18_7, hfz18_8, hfz18_9, hfz18_10, hfz18_11, hfz18_12⟩ := C2_13 BK173.out; obtain ⟨⟨hcz19_0, hcz19_1, hcz19_2, hcz19_3, hcz19_4, hcz19_5, hcz19_6, hcz19_7, hcz19_8, hcz19_9, hcz19_10, hcz19_11, hcz19_12⟩, hfz19_0, hfz19_1, hfz19_2, hfz19_3, hfz19_4, hfz19_5, hfz19_6, hfz19_7, hfz19_8, hfz19_9, hfz19_10, hfz19_11, hfz19_12⟩ := C2_13 BK174.out))
    go_ret
    exact ⟨Z2_23, Z2_14⟩
  rw [if_pos c6] at H
  have c6b0 : (a0_3 == a1_3) = true := beq_iff_eq.mpr c6
  have c6b1 : (a0_3 != a1_3) = false := bne_eq_false_iff_eq.mpr c6
  clear c6
  by_cases c7 : a0_4 = a1_4
  rotate_left
  · rw [if_neg c7] at H
    have c7b0 : (a0_4 == a1_4) = false := beq_eq_false_iff_ne.mpr c7
    have c7b1 : (a0_4 != a1_4) = true := bne_iff_ne.mpr c7
    obtain rfl := Option.some.inj H
    go_wp2_with (first | ((with_reducible refine gate_dst (N := 3) rfl ?_); refine box_event ?hg (N := 3) ?hd (cs := #[.int .i64 a1_0, .int .i64 a1_1, .int .i64 a1_2, .int .i64 a1_3, .int .i64 a1_4, .int .i64 a1_5, .int .i64 a1_6, .int .i64 a1_7, .int .i64 a1_8, .int .i64 a1_9, .int .i64 a1_10, .bool a1_11, .bool a1_12]) (t := 42) ?hr ?_; (case hd => rfl); (case hg => rfl); (case hr => first | (go_simp; done) | (go_simp; rfl)); intro gb174 hg w16 hbox hb; have n0_ := Aside0.mk Z2_7; have n1_ := Aside0.mk Z2_18; have n2_ := Aside0.mk (hbox); have n3_ := Aside0.mk Z2_12; have n4_ := Aside0.mk Z2_12; have n5_ := Aside0.mk Z2_5; have n6_ := Aside0.mk Z2_6; clear BK173; clear HB; have BK173 := n0_; have HB := n1_; have BK174 := n2_; have GW174 := n3_; have GE174 := n4_; have NB173_174 := n5_; have NB174_173 := n6_; clear n0_ n1_ n2_ n3_ n4_ n5_ n6_; clear hb hbox hg; have hnb17 := NB173_174.out; have hnc17 := NB174_173.out; obtain ⟨⟨hcz18_0, hcz18_1, hcz18_2, hcz18_3, hcz18_4, hcz18_5, hcz18_6, hcz18_7, hcz18_8, hcz18_9, hcz18_10, hcz18_11, hcz18_12⟩, hfz18_0, hfz18_1, hfz18_2, hfz18_3, hfz18_4, hfz18_5, hfz18_6, hfz18_7, hfz18_8, hfz18_9, hfz18_10, hfz18_11, hfz18_12⟩ := C2_13 BK173.out; obtain ⟨⟨hcz19_0, hcz19_1, hcz19_2, hcz19_3, hcz19_4, hcz19_5, hcz19_6, hcz19_7, hcz19_8, hcz19_9, hcz19_10, hcz19_11, hcz19_12⟩, hfz19_0, hfz19_1, hfz19_2, hfz19_3, hfz19_4, hfz19_5, hfz19_6, hfz19_7, hfz19_8, hfz19_9, hfz19_10, hfz19_11, hfz19_12⟩ := C2_13 BK174.out))
    go_ret
    exact ⟨Z2_23, Z2_14⟩
  rw [if_pos c7] at H
  have c7b0 : (a0_4 == a1_4) = true := beq_iff_eq.mpr c7
  have c7b1 : (a0_4 != a1_4) = false := bne_eq_false_iff_eq.mpr c7
  clear c7
  by_cases c8 : a0_5 = a1_5
  rotate_left
  · rw [if_neg c8] at H
    have c8b0 : (a0_5 == a1_5) = false := beq_eq_false_iff_ne.mpr c8
    have c8b1 : (a0_5 != a1_5) = true := bne_iff_ne.mpr c8
    obtain rfl := Option.some.inj H
    go_wp2_with (first | ((with_reducible refine gate_dst (N := 3) rfl ?_); refine box_event ?hg (N := 3) ?hd (cs := #[.int .i64 a1_0, .int .i64 a1_1, .int .i64 a1_2, .int .i64 a1_3, .int .i64 a1_4, .int .i64 a1_5, .int .i64 a1_6, .int .i64 a1_7, .int .i64 a1_8, .int .i64 a1_9, .int .i64 a1_10, .bool a1_11, .bool a1_12]) (t := 42) ?hr ?_; (case hd => rfl); (case hg => rfl); (case hr => first | (go_simp; done) | (go_simp; rfl)); intro gb174 hg w16 hbox hb; have n0_ := Aside0.mk Z2_7; have n1_ := Aside0.mk Z2_18; have n2_ := Aside0.mk (hbox); have n3_ := Aside0.mk Z2_12; have n4_ := Aside0.mk Z2_12; have n5_ := Aside0.mk Z2_5; have n6_ := Aside0.mk Z2_6; clear BK173; clear HB; have BK173 := n0_; have HB := n1_; have BK174 := n2_; have GW174 := n3_; have GE174 := n4_; have NB173_174 := n5_; have NB174_173 := n6_; clear n0_ n1_ n2_ n3_ n4_ n5_ n6_; clear hb hbox hg; have hnb17 := NB173_174.out; have hnc17 := NB174_173.out; obtain ⟨⟨hcz18_0, hcz18_1, hcz18_2, hcz18_3, hcz18_4, hcz18_5, hcz18_6, hcz18_7, hcz18_8, hcz18_9, hcz18_10, hcz18_11, hcz18_12⟩, hfz18_0, hfz18_1, hfz18_2, hfz18_3, hfz18_4, hfz18_5, hfz18_6, hfz18_7, hfz18_8, hfz18_9, hfz18_10, hfz18_11, hfz18_12⟩ := C2_13 BK173.out; obtain ⟨⟨hcz19_0, hcz19_1, hcz19_2, hcz19_3, hcz19_4, hcz19_5, hcz19_6, hcz19_7, hcz19_8, hcz19_9, hcz19_10, hcz19_11, hcz19_12⟩, hfz19_0, hfz19_1, hfz19_2, hfz19_3, hfz19_4, hfz19_5, hfz19_6, hfz19_7, hfz19_8, hfz19_9, hfz19_10, hfz19_11, hfz19_12⟩ := C2_13 BK174.out))
    go_ret
    exact ⟨Z2_23, Z2_14⟩
  rw [if_pos c8] at H
  have c8b0 : (a0_5 == a1_5) = true := beq_iff_eq.mpr c8
  have c8b1 : (a0_5 != a1_5) = false := bne_eq_false_iff_eq.mpr c8
  clear c8
  by_cases c9 : a0_6 = a1_6
  rotate_left
  · rw [if_neg c9] at H
    have c9b0 : (a0_6 == a1_6) = false := beq_eq_false_iff_ne.mpr c9
    have c9b1 : (a0_6 != a1_6) = true := bne_iff_ne.mpr c9
    obtain rfl := Option.some.inj H
    go_wp2_with (first | ((with_reducible refine gate_dst (N := 3) rfl ?_); refine box_event ?hg (N := 3) ?hd (cs := #[.int .i64 a1_0, .int .i64 a1_1, .int .i64 a1_2, .int .i64 a1_3, .int .i64 a1_4, .int .i64 a1_5, .int .i64 a1_6, .int .i64 a1_7, .int .i64 a1_8, .int .i64 a1_9, .int .i64 a1_10, .bool a1_11, .bool a1_12]) (t := 42) ?hr ?_; (case hd => rfl); (case hg => rfl); (case hr => first | (go_simp; done) | (go_simp; rfl)); intro gb174 hg w16 hbox hb; have n0_ := Aside0.mk Z2_7; have n1_ := Aside0.mk Z2_18; have n2_ := Aside0.mk (hbox); have n3_ := Aside0.mk Z2_12; have n4_ := Aside0.mk Z2_12; have n5_ := Aside0.mk Z2_5; have n6_ := Aside0.mk Z2_6; clear BK173; clear HB; have BK173 := n0_; have HB := n1_; have BK174 := n2_; have GW174 := n3_; have GE174 := n4_; have NB173_174 := n5_; have NB174_173 := n6_; clear n0_ n1_ n2_ n3_ n4_ n5_ n6_; clear hb hbox hg; have hnb17 := NB173_174.out; have hnc17 := NB174_173.out; obtain ⟨⟨hcz18_0, hcz18_1, hcz18_2, hcz18_3, hcz18_4, hcz18_5, hcz18_6, hcz18_7, hcz18_8, hcz18_9, hcz18_10, hcz18_11, hcz18_12⟩, hfz18_0, hfz18_1, hfz18_2, hfz18_3, hfz18_4, hfz18_5, hfz18_6, hfz18_7, hfz18_8, hfz18_9, hfz18_10, hfz18_11, hfz18_12⟩ := C2_13 BK173.out; obtain ⟨⟨hcz19_0, hcz19_1, hcz19_2, hcz19_3, hcz19_4, hcz19_5, hcz19_6, hcz19_7, hcz19_8, hcz19_9, hcz19_10, hcz19_11, hcz19_12⟩, hfz19_0, hfz19_1, hfz19_2, hfz19_3, hfz19_4, hfz19_5, hfz19_6, hfz19_7, hfz19_8, hfz19_9, hfz19_10, hfz19_11, hfz19_12⟩ := C2_13 BK174.out))
    go_ret
    exact ⟨Z2_23, Z2_14⟩
  rw [if_pos c9] at H
  have c9b0 : (a0_6 == a1_6) = true := beq_iff_eq.mpr c9
  have c9b1 : (a0_6 != a1_6) = false := bne_eq_false_iff_eq.mpr c9
  clear c9
  by_cases c10 : a0_7 = a1_7
  rotate_left
  · rw [if_neg c10] at H
    have c10b0 : (a0_7 == a1_7) = false := beq_eq_false_iff_ne.mpr c10
    have c10b1 : (a0_7 != a1_7) = true := bne_iff_ne.mpr c10
    obtain rfl := Option.some.inj H
    go_wp2_with (first | ((with_reducible refine gate_dst (N := 3) rfl ?_); refine box_event ?hg (N := 3) ?hd (cs := #[.int .i64 a1_0, .int .i64 a1_1, .int .i64 a1_2, .int .i64 a1_3, .int .i64 a1_4, .int .i64 a1_5, .int .i64 a1_6, .int .i64 a1_7, .int .i64 a1_8, .int .i64 a1_9, .int .i64 a1_10, .bool a1_11, .bool a1_12]) (t := 42) ?hr ?_; (case hd => rfl); (case hg => rfl); (case hr => first | (go_simp; done) | (go_simp; rfl)); intro gb174 hg w16 hbox hb; have n0_ := Aside0.mk Z2_7; have n1_ := Aside0.mk Z2_18; have n2_ := Aside0.mk (hbox); have n3_ := Aside0.mk Z2_12; have n4_ := Aside0.mk Z2_12; have n5_ := Aside0.mk Z2_5; have n6_ := Aside0.mk Z2_6; clear BK173; clear HB; have BK173 := n0_; have HB := n1_; have BK174 := n2_; have GW174 := n3_; have GE174 := n4_; have NB173_174 := n5_; have NB174_173 := n6_; clear n0_ n1_ n2_ n3_ n4_ n5_ n6_; clear hb hbox hg; have hnb17 := NB173_174.out; have hnc17 := NB174_173.out; obtain ⟨⟨hcz18_0, hcz18_1, hcz18_2, hcz18_3, hcz18_4, hcz18_5, hcz18_6, hcz18_7, hcz18_8, hcz18_9, hcz18_10, hcz18_11, hcz18_12⟩, hfz18_0, hfz18_1, hfz18_2, hfz18_3, hfz18_4, hfz18_5, hfz18_6, hfz18_7, hfz18_8, hfz18_9, hfz18_10, hfz18_11, hfz18_12⟩ := C2_13 BK173.out; obtain ⟨⟨hcz19_0, hcz19_1, hcz19_2, hcz19_3, hcz19_4, hcz19_5, hcz19_6, hcz19_7, hcz19_8, hcz19_9, hcz19_10, hcz19_11, hcz19_12⟩, hfz19_0, hfz19_1, hfz19_2, hfz19_3, hfz19_4, hfz19_5, hfz19_6, hfz19_7, hfz19_8, hfz19_9, hfz19_10, hfz19_11, hfz19_12⟩ := C2_13 BK174.out))
    go_ret
    exact ⟨Z2_23, Z2_14⟩
  rw [if_pos c10] at H
  have c10b0 : (a0_7 == a1_7) = true := beq_iff_eq.mpr c10
  have c10b1 : (a0_7 != a1_7) = false := bne_eq_false_iff_eq.mpr c10
  clear c10
  by_cases c11 : a0_8 = a1_8
  rotate_left
  · rw [if_neg c11] at H
    have c11b0 : (a0_8 == a1_8) = false := beq_eq_false_iff_ne.mpr c11
    have c11b1 : (a0_8 != a1_8) = true := bne_iff_ne.mpr c11
    obtain rfl := Option.some.inj H
    go_wp2_with (first | ((with_reducible refine gate_dst (N := 3) rfl ?_); refine box_event ?hg (N := 3) ?hd (cs := #[.int .i64 a1_0, .int .i64 a1_1, .int .i64 a1_2, .int .i64 a1_3, .int .i64 a1_4, .int .i64 a1_5, .int .i64 a1_6, .int .i64 a1_7, .int .i64 a1_8, .int .i64 a1_9, .int .i64 a1_10, .bool a1_11, .bool a1_12]) (t := 42) ?hr ?_; (case hd => rfl); (case hg => rfl); (case hr => first | (go_simp; done) | (go_simp; rfl)); intro gb174 hg w16 hbox hb; have n0_ := Aside0.mk Z2_7; have n1_ := Aside0.mk Z2_18; have n2_ := Aside0.mk (hbox); have n3_ := Aside0.mk Z2_12; have n4_ := Aside0.mk Z2_12; have n5_ := Aside0.mk Z2_5; have n6_ := Aside0.mk Z2_6; clear BK173; clear HB; have BK173 := n0_; have HB := n1_; have BK174 := n2_; have GW174 := n3_; have GE174 := n4_; have NB173_174 := n5_; have NB174_173 := n6_; clear n0_ n1_ n2_ n3_ n4_ n5_ n6_; clear hb hbox hg; have hnb17 := NB173_174.out; have hnc17 := NB174_173.out; obtain ⟨⟨hcz18_0, hcz18_1, hcz18_2, hcz18_3, hcz18_4, hcz18_5, hcz18_6, hcz18_7, hcz18_8, hcz18_9, hcz18_10, hcz18_11, hcz18_12⟩, hfz18_0, hfz18_1, hfz18_2, hfz18_3, hfz18_4, hfz18_5, hfz18_6, hfz18_7, hfz18_8, hfz18_9, hfz18_10, hfz18_11, hfz18_12⟩ := C2_13 BK173.out; obtain ⟨⟨hcz19_0, hcz19_1, hcz19_2, hcz19_3, hcz19_4, hcz19_5, hcz19_6, hcz19_7, hcz19_8, hcz19_9, hcz19_10, hcz19_11, hcz19_12⟩, hfz19_0, hfz19_1, hfz19_2, hfz19_3, hfz19_4, hfz19_5, hfz19_6, hfz19_7, hfz19_8, hfz19_9, hfz19_10, hfz19_11, hfz19_12⟩ := C2_13 BK174.out))
    go_ret
    exact ⟨Z2_23, Z2_14⟩
  rw [if_pos c11] at H
  have c11b0 : (a0_8 == a1_8) = true := beq_iff_eq.mpr c11
  have c11b1 : (a0_8 != a1_8) = false := bne_eq_false_iff_eq.mpr c11
  clear c11
  by_cases c12 : a0_9 = a1_9
  rotate_left
  · rw [if_neg c12] at H
    have c12b0 : (a0_9 == a1_9) = false := beq_eq_false_iff_ne.mpr c12
    have c12b1 : (a0_9 != a1_9) = true := bne_iff_ne.mpr c12
    obtain rfl := Option.some.inj H
    go_wp2_with (first | ((with_reducible refine gate_dst (N := 3) rfl ?_); refine box_event ?hg (N := 3) ?hd (cs := #[.int .i64 a1_0, .int .i64 a1_1, .int .i64 a1_2, .int .i64 a1_3, .int .i64 a1_4, .int .i64 a1_5, .int .i64 a1_6, .int .i64 a1_7, .int .i64 a1_8, .int .i64 a1_9, .int .i64 a1_10, .bool a1_11, .bool a1_12]) (t := 42) ?hr ?_; (case hd => rfl); (case hg => rfl); (case hr => first | (go_simp; done) | (go_simp; rfl)); intro gb174 hg w16 hbox hb; have n0_ := Aside0.mk Z2_7; have n1_ := Aside0.mk Z2_18; have n2_ := Aside0.mk (hbox); have n3_ := Aside0.mk Z2_12; have n4_ := Aside0.mk Z2_12; have n5_ := Aside0.mk Z2_5; have n6_ := Aside0.mk Z2_6; clear BK173; clear HB; have BK173 := n0_; have HB := n1_; have BK174 := n2_; have GW174 := n3_; have GE174 := n4_; have NB173_174 := n5_; have NB174_173 := n6_; clear n0_ n1_ n2_ n3_ n4_ n5_ n6_; clear hb hbox hg; have hnb17 := NB173_174.out; have hnc17 := NB174_173.out; obtain ⟨⟨hcz18_0, hcz18_1, hcz18_2, hcz18_3, hcz18_4, hcz18_5, hcz18_6, hcz18_7, hcz18_8, hcz18_9, hcz18_10, hcz18_11, hcz18_12⟩, hfz18_0, hfz18_1, hfz18_2, hfz18_3, hfz18_4, hfz18_5, hfz18_6, hfz18_7, hfz18_8, hfz18_9, hfz18_10, hfz18_11, hfz18_12⟩ := C2_13 BK173.out; obtain ⟨⟨hcz19_0, hcz19_1, hcz19_2, hcz19_3, hcz19_4, hcz19_5, hcz19_6, hcz19_7, hcz19_8, hcz19_9, hcz19_10, hcz19_11, hcz19_12⟩, hfz19_0, hfz19_1, hfz19_2, hfz19_3, hfz19_4, hfz19_5, hfz19_6, hfz19_7, hfz19_8, hfz19_9, hfz19_10, hfz19_11, hfz19_12⟩ := C2_13 BK174.out))
    go_ret
    exact ⟨Z2_23, Z2_14⟩
  rw [if_pos c12] at H
  have c12b0 : (a0_9 == a1_9) = true := beq_iff_eq.mpr c12
  have c12b1 : (a0_9 != a1_9) = false := bne_eq_false_iff_eq.mpr c12
  clear c12
  by_cases c13 : a0_10 = a1_10
  rotate_left
  · rw [if_neg c13] at H
    have c13b0 : (a0_10 == a1_10) = false := beq_eq_false_iff_ne.mpr c13
    have c13b1 : (a0_10 != a1_10) = true := bne_iff_ne.mpr c13
    obtain rfl := Option.some.inj H
    go_wp2_with (first | ((with_reducible refine gate_dst (N := 3) rfl ?_); refine box_event ?hg (N := 3) ?hd (cs := #[.int .i64 a1_0, .int .i64 a1_1, .int .i64 a1_2, .int .i64 a1_3, .int .i64 a1_4, .int .i64 a1_5, .int .i64 a1_6, .int .i64 a1_7, .int .i64 a1_8, .int .i64 a1_9, .int .i64 a1_10, .bool a1_11, .bool a1_12]) (t := 42) ?hr ?_; (case hd => rfl); (case hg => rfl); (case hr => first | (go_simp; done) | (go_simp; rfl)); intro gb174 hg w16 hbox hb; have n0_ := Aside0.mk Z2_7; have n1_ := Aside0.mk Z2_18; have n2_ := Aside0.mk (hbox); have n3_ := Aside0.mk Z2_12; have n4_ := Aside0.mk Z2_12; have n5_ := Aside0.mk Z2_5; have n6_ := Aside0.mk Z2_6; clear BK173; clear HB; have BK173 := n0_; have HB := n1_; have BK174 := n2_; have GW174 := n3_; have GE174 := n4_; have NB173_174 := n5_; have NB174_173 := n6_; clear n0_ n1_ n2_ n3_ n4_ n5_ n6_; clear hb hbox hg; have hnb17 := NB173_174.out; have hnc17 := NB174_173.out; obtain ⟨⟨hcz18_0, hcz18_1, hcz18_2, hcz18_3, hcz18_4, hcz18_5, hcz18_6, hcz18_7, hcz18_8, hcz18_9, hcz18_10, hcz18_11, hcz18_12⟩, hfz18_0, hfz18_1, hfz18_2, hfz18_3, hfz18_4, hfz18_5, hfz18_6, hfz18_7, hfz18_8, hfz18_9, hfz18_10, hfz18_11, hfz18_12⟩ := C2_13 BK173.out; obtain ⟨⟨hcz19_0, hcz19_1, hcz19_2, hcz19_3, hcz19_4, hcz19_5, hcz19_6, hcz19_7, hcz19_8, hcz19_9, hcz19_10, hcz19_11, hcz19_12⟩, hfz19_0, hfz19_1, hfz19_2, hfz19_3, hfz19_4, hfz19_5, hfz19_6, hfz19_7, hfz19_8, hfz19_9, hfz19_10, hfz19_11, hfz19_12⟩ := C2_13 BK174.out))
    go_ret
    exact ⟨Z2_23, Z2_14⟩
  rw [if_pos c13] at H
  have c13b0 : (a0_10 == a1_10) = true := beq_iff_eq.mpr c13
  have c13b1 : (a0_10 != a1_10) = false := bne_eq_false_iff_eq.mpr c13
  clear c13
  by_cases c14 : (a0_11 != a1_11) = true
  · rw [if_pos c14] at H
    have c14b0 : (a0_11 != a1_11) = true := c14
    (try (have c14b1 : decide (a0_11 = a1_11) = false := by simpa using c14))
    (try (have c14b2 : (a0_11 == a1_11) = false := by simpa using c14))
    (try (have c14b3 : ¬ (a0_11 = a1_11) := by simpa using c14))
    clear c14
    obtain rfl := Option.some.inj H
    go_wp2_with (first | ((with_reducible refine gate_dst (N := 3) rfl ?_); refine box_event ?hg (N := 3) ?hd (cs := #[.int .i64 a1_0, .int .i64 a1_1, .int .i64 a1_2, .int .i64 a1_3, .int .i64 a1_4, .int .i64 a1_5, .int .i64 a1_6, .int .i64 a1_7, .int .i64 a1_8, .int .i64 a1_9, .int .i64 a1_10, .bool a1_11, .bool a1_12]) (t := 42) ?hr ?_; (case hd => rfl); (case hg => rfl); (case hr => first | (go_simp; done) | (go_simp; rfl)); intro gb174 hg w16 hbox hb; have n0_ := Aside0.mk Z2_7; have n1_ := Aside0.mk Z2_18; have n2_ := Aside0.mk (hbox); have n3_ := Aside0.mk Z2_12; have n4_ := Aside0.mk Z2_12; have n5_ := Aside0.mk Z2_5; have n6_ := Aside0.mk Z2_6; clear BK173; clear HB; have BK173 := n0_; have HB := n1_; have BK174 := n2_; have GW174 := n3_; have GE174 := n4_; have NB173_174 := n5_; have NB174_173 := n6_; clear n0_ n1_ n2_ n3_ n4_ n5_ n6_; clear hb hbox hg; have hnb17 := NB173_174.out; have hnc17 := NB174_173.out; obtain ⟨⟨hcz18_0, hcz18_1, hcz18_2, hcz18_3, hcz18_4, hcz18_5, hcz18_6, hcz18_7, hcz18_8, hcz18_9, hcz18_10, hcz18_11, hcz18_12⟩, hfz18_0, hfz18_1, hfz18_2, hfz18_3, hfz18_4, hfz18_5, hfz18_6, hfz18_7, hfz18_8, hfz18_9, hfz18_10, hfz18_11, hfz18_12⟩ := C2_13 BK173.out; obtain ⟨⟨hcz19_0, hcz19_1, hcz19_2, hcz19_3, hcz19_4, hcz19_5, hcz19_6, hcz19_7, hcz19_8, hcz19_9, hcz19_10, hcz19_11, hcz19_12⟩, hfz19_0, hfz19_1, hfz19_2, hfz19_3, hfz19_4, hfz19_5, hfz19_6, hfz19_7, hfz19_8, hfz19_9, hfz19_10, hfz19_11, hfz19_12⟩ := C2_13 BK174.out))
    go_ret
    exact ⟨Z2_23, Z2_14⟩
  rw [if_neg c14] at H
  have c14b0 : (a0_11 != a1_11) = false := by simpa using c14
  (try (have c14b1 : decide (a0_11 = a1_11) = true := by simpa using c14))
  (try (have c14b2 : (a0_11 == a1_11) = true := by simpa using c14))
  clear c14
  by_cases c20 : (a0_12 != a1_12) = true
  rotate_left
  · rw [if_neg c20] at H
    have c20b0 : (a0_12 != a1_12) = false := by simpa using c20
    (try (have c20b1 : decide (a0_12 = a1_12) = true := by simpa using c20))
    (try (have c20b2 : (a0_12 == a1_12) = true := by simpa using c20))
    clear c20
    obtain rfl := Option.some.inj H
    go_wp2_with (first | ((with_reducible refine gate_dst (N := 3) rfl ?_); refine box_event ?hg (N := 3) ?hd (cs := #[.int .i64 a1_0, .int .i64 a1_1, .int .i64 a1_2, .int .i64 a1_3, .int .i64 a1_4, .int .i64 a1_5, .int .i64 a1_6, .int .i64 a1_7, .int .i64 a1_8, .int .i64 a1_9, .int .i64 a1_10, .bool a1_11, .bool a1_12]) (t := 42) ?hr ?_; (case hd => rfl); (case hg => rfl); (case hr => first | (go_simp; done) | (go_simp; rfl)); intro gb174 hg w16 hbox hb; have n0_ := Aside0.mk Z2_7; have n1_ := Aside0.mk Z2_18; have n2_ := Aside0.mk (hbox); have n3_ := Aside0.mk Z2_12; have n4_ := Aside0.mk Z2_12; have n5_ := Aside0.mk Z2_5; have n6_ := Aside0.mk Z2_6; clear BK173; clear HB; have BK173 := n0_; have HB := n1_; have BK174 := n2_; have GW174 := n3_; have GE174 := n4_; have NB173_174 := n5_; have NB174_173 := n6_; clear n0_ n1_ n2_ n3_ n4_ n5_ n6_; clear hb hbox hg; have hnb17 := NB173_174.out; have hnc17 := NB174_173.out; obtain ⟨⟨hcz18_0, hcz18_1, hcz18_2, hcz18_3, hcz18_4, hcz18_5, hcz18_6, hcz18_7, hcz18_8, hcz18_9, hcz18_10, hcz18_11, hcz18_12⟩, hfz18_0, hfz18_1, hfz18_2, hfz18_3, hfz18_4, hfz18_5, hfz18_6, hfz18_7, hfz18_8, hfz18_9, hfz18_10, hfz18_11, hfz18_12⟩ := C2_13 BK173.out; obtain ⟨⟨hcz19_0, hcz19_1, hcz19_2, hcz19_3, hcz19_4, hcz19_5, hcz19_6, hcz19_7, hcz19_8, hcz19_9, hcz19_10, hcz19_11, hcz19_12⟩, hfz19_0, hfz19_1, hfz19_2, hfz19_3, hfz19_4, hfz19_5, hfz19_6, hfz19_7, hfz19_8, hfz19_9, hfz19_10, hfz19_11, hfz19_12⟩ := C2_13 BK174.out))
    go_ret
    exact ⟨Z2_23, Z2_14⟩
  rw [if_pos c20] at H
  have c20b0 : (a0_12 != a1_12) = true := c20
  (try (have c20b1 : decide (a0_12 = a1_12) = false := by simpa using c20))
  (try (have c20b2 : (a0_12 == a1_12) = false := by simpa using c20))
  (try (have c20b3 : ¬ (a0_12 = a1_12) := by simpa using c20))
  clear c20
  obtain rfl := Option.some.inj H
  go_wp2_with (first | ((with_reducible refine gate_dst (N := 3) rfl ?_); refine box_event ?hg (N := 3) ?hd (cs := #[.int .i64 a1_0, .int .i64 a1_1, .int .i64 a1_2, .int .i64 a1_3, .int .i64 a1_4, .int .i64 a1_5, .int .i64 a1_6, .int .i64 a1_7, .int .i64 a1_8, .int .i64 a1_9, .int .i64 a1_10, .bool a1_11, .bool a1_12]) (t := 42) ?hr ?_; (case hd => rfl); (case hg => rfl); (case hr => first | (go_simp; done) | (go_simp; rfl)); intro gb174 hg w16 hbox hb; have n0_ := Aside0.mk Z2_7; have n1_ := Aside0.mk Z2_18; have n2_ := Aside0.mk (hbox); have n3_ := Aside0.mk Z2_12; have n4_ := Aside0.mk Z2_12; have n5_ := Aside0.mk Z2_5; have n6_ := Aside0.mk Z2_6; clear BK173; clear HB; have BK173 := n0_; have HB := n1_; have BK174 := n2_; have GW174 := n3_; have GE174 := n4_; have NB173_174 := n5_; have NB174_173 := n6_; clear n0_ n1_ n2_ n3_ n4_ n5_ n6_; clear hb hbox hg; have hnb17 := NB173_174.out; have hnc17 := NB174_173.out; obtain ⟨⟨hcz18_0, hcz18_1, hcz18_2, hcz18_3, hcz18_4, hcz18_5, hcz18_6, hcz18_7, hcz18_8, hcz18_9, hcz18_10, hcz18_11, hcz18_12⟩, hfz18_0, hfz18_1, hfz18_2, hfz18_3, hfz18_4, hfz18_5, hfz18_6, hfz18_7, hfz18_8, hfz18_9, hfz18_10, hfz18_11, hfz18_12⟩ := C2_13 BK173.out; obtain ⟨⟨hcz19_0, hcz19_1, hcz19_2, hcz19_3, hcz19_4, hcz19_5, hcz19_6, hcz19_7, hcz19_8, hcz19_9, hcz19_10, hcz19_11, hcz19_12⟩, hfz19_0, hfz19_1, hfz19_2, hfz19_3, hfz19_4, hfz19_5, hfz19_6, hfz19_7, hfz19_8, hfz19_9, hfz19_10, hfz19_11, hfz19_12⟩ := C2_13 BK174.out))
  go_ret
  exact ⟨Z2_23, Z2_14⟩

end Go.Proofs.Ytnogcdmkpbfcmaa.QFnExactOnField
