-- Written by a program of this session (patch_print.py over the print).
import Derived.Test.YtfkidiagmekleaaQAllx0
import Derived.Test.YtfkidiagmekleaaQAllx1
import Derived.Test.YtfkidiagmekleaaRByt
import Derived.Test.YtfkidiagmekleaaRDGp
import Derived.Test.YtfkidiagmekleaaRIGp
import Derived.Test.YtfkidiagmekleaaRIOk
import Derived.Test.YtfkidiagmekleaaRIPp
import Derived.Test.YtfkidiagmekleaaRL1
import Derived.Test.YtfkidiagmekleaaRSGp
import Derived.Test.YtfkidiagmekleaaRSam
namespace Go.Proofs.Ytfkidiagmekleaa.QAll
open Go.RowKit Go.Proofs.YtfkidiagmekleaaW.PrintWords Go.Proofs.YtfkidiagmekleaaW.PrintLast Go.Proofs.YtfkidiagmekleaaW.PrintMore
attribute [local go_sem] max2_int min2_int max_two min_two max_three min_three max_four min_four   -- for this text's walks alone
set_option linter.unusedVariables false
set_option linter.unusedSimpArgs false
attribute [local go_sem high] eqA25

def M24_31 (k : Nat) : Array Bool := ((List.range 31).map fun j => k.testBit j).toArray
theorem C24_13 {W : World} {g : Nat} {T : TypeId} {v0 v1 v2 v3 v4 v5 v6 v7 v8 v9 v10 v11 v12 : Value} (h : W.heap[g]? = some (.cells #[v0, v1, v2, v3, v4, v5, v6, v7, v8, v9, v10, v11, v12] T (0, 0))) : (W.cell? ⟨g, 0, none⟩ = some v0 ∧ W.cell? ⟨g, 1, none⟩ = some v1 ∧ W.cell? ⟨g, 2, none⟩ = some v2 ∧ W.cell? ⟨g, 3, none⟩ = some v3 ∧ W.cell? ⟨g, 4, none⟩ = some v4 ∧ W.cell? ⟨g, 5, none⟩ = some v5 ∧ W.cell? ⟨g, 6, none⟩ = some v6 ∧ W.cell? ⟨g, 7, none⟩ = some v7 ∧ W.cell? ⟨g, 8, none⟩ = some v8 ∧ W.cell? ⟨g, 9, none⟩ = some v9 ∧ W.cell? ⟨g, 10, none⟩ = some v10 ∧ W.cell? ⟨g, 11, none⟩ = some v11 ∧ W.cell? ⟨g, 12, none⟩ = some v12) ∧ W.frozen? ⟨g, 0, none⟩ = false ∧ W.frozen? ⟨g, 1, none⟩ = false ∧ W.frozen? ⟨g, 2, none⟩ = false ∧ W.frozen? ⟨g, 3, none⟩ = false ∧ W.frozen? ⟨g, 4, none⟩ = false ∧ W.frozen? ⟨g, 5, none⟩ = false ∧ W.frozen? ⟨g, 6, none⟩ = false ∧ W.frozen? ⟨g, 7, none⟩ = false ∧ W.frozen? ⟨g, 8, none⟩ = false ∧ W.frozen? ⟨g, 9, none⟩ = false ∧ W.frozen? ⟨g, 10, none⟩ = false ∧ W.frozen? ⟨g, 11, none⟩ = false ∧ W.frozen? ⟨g, 12, none⟩ = false := ⟨⟨(blk_cell h 0).trans rfl, (blk_cell h 1).trans rfl, (blk_cell h 2).trans rfl, (blk_cell h 3).trans rfl, (blk_cell h 4).trans rfl, (blk_cell h 5).trans rfl, (blk_cell h 6).trans rfl, (blk_cell h 7).trans rfl, (blk_cell h 8).trans rfl, (blk_cell h 9).trans rfl, (blk_cell h 10).trans rfl, (blk_cell h 11).trans rfl, (blk_cell h 12).trans rfl⟩, blk_frozen h 0, blk_frozen h 1, blk_frozen h 2, blk_frozen h 3, blk_frozen h 4, blk_frozen h 5, blk_frozen h 6, blk_frozen h 7, blk_frozen h 8, blk_frozen h 9, blk_frozen h 10, blk_frozen h 11, blk_frozen h 12⟩
theorem D24_13 {W : World} {g : Nat} {T : TypeId} {v0 v1 v2 v3 v4 v5 v6 v7 v8 v9 v10 v11 v12 : Value} (h : W.heap[g]? = some (.cells #[v0, v1, v2, v3, v4, v5, v6, v7, v8, v9, v10, v11, v12] T (0, 0))) {R : Prop} (r : R) : W.cell? ⟨g, 0, none⟩ = some v0 ∧ W.cell? ⟨g, 1, none⟩ = some v1 ∧ W.cell? ⟨g, 2, none⟩ = some v2 ∧ W.cell? ⟨g, 3, none⟩ = some v3 ∧ W.cell? ⟨g, 4, none⟩ = some v4 ∧ W.cell? ⟨g, 5, none⟩ = some v5 ∧ W.cell? ⟨g, 6, none⟩ = some v6 ∧ W.cell? ⟨g, 7, none⟩ = some v7 ∧ W.cell? ⟨g, 8, none⟩ = some v8 ∧ W.cell? ⟨g, 9, none⟩ = some v9 ∧ W.cell? ⟨g, 10, none⟩ = some v10 ∧ W.cell? ⟨g, 11, none⟩ = some v11 ∧ W.cell? ⟨g, 12, none⟩ = some v12 ∧ R := ⟨(blk_cell h 0).trans rfl, (blk_cell h 1).trans rfl, (blk_cell h 2).trans rfl, (blk_cell h 3).trans rfl, (blk_cell h 4).trans rfl, (blk_cell h 5).trans rfl, (blk_cell h 6).trans rfl, (blk_cell h 7).trans rfl, (blk_cell h 8).trans rfl, (blk_cell h 9).trans rfl, (blk_cell h 10).trans rfl, (blk_cell h 11).trans rfl, (blk_cell h 12).trans rfl, r⟩
theorem E24_13 {W : World} {g : Nat} {T : TypeId} {v0 v1 v2 v3 v4 v5 v6 v7 v8 v9 v10 v11 v12 o0 o1 o2 o3 o4 o5 o6 o7 o8 o9 o10 o11 o12 : Value} (h : W.heap[g]? = some (.cells #[o0, o1, o2, o3, o4, o5, o6, o7, o8, o9, o10, o11, o12] T (0, 0))) : (((((((((((((W.setCell ⟨g, 0, none⟩ v0).setCell ⟨g, 1, none⟩ v1).setCell ⟨g, 2, none⟩ v2).setCell ⟨g, 3, none⟩ v3).setCell ⟨g, 4, none⟩ v4).setCell ⟨g, 5, none⟩ v5).setCell ⟨g, 6, none⟩ v6).setCell ⟨g, 7, none⟩ v7).setCell ⟨g, 8, none⟩ v8).setCell ⟨g, 9, none⟩ v9).setCell ⟨g, 10, none⟩ v10).setCell ⟨g, 11, none⟩ v11).setCell ⟨g, 12, none⟩ v12).heap[g]? = some (.cells #[v0, v1, v2, v3, v4, v5, v6, v7, v8, v9, v10, v11, v12] T (0, 0)) := (blk_put (cs := #[v0, v1, v2, v3, v4, v5, v6, v7, v8, v9, v10, v11, o12]) (blk_put (cs := #[v0, v1, v2, v3, v4, v5, v6, v7, v8, v9, v10, o11, o12]) (blk_put (cs := #[v0, v1, v2, v3, v4, v5, v6, v7, v8, v9, o10, o11, o12]) (blk_put (cs := #[v0, v1, v2, v3, v4, v5, v6, v7, v8, o9, o10, o11, o12]) (blk_put (cs := #[v0, v1, v2, v3, v4, v5, v6, v7, o8, o9, o10, o11, o12]) (blk_put (cs := #[v0, v1, v2, v3, v4, v5, v6, o7, o8, o9, o10, o11, o12]) (blk_put (cs := #[v0, v1, v2, v3, v4, v5, o6, o7, o8, o9, o10, o11, o12]) (blk_put (cs := #[v0, v1, v2, v3, v4, o5, o6, o7, o8, o9, o10, o11, o12]) (blk_put (cs := #[v0, v1, v2, v3, o4, o5, o6, o7, o8, o9, o10, o11, o12]) (blk_put (cs := #[v0, v1, v2, o3, o4, o5, o6, o7, o8, o9, o10, o11, o12]) (blk_put (cs := #[v0, v1, o2, o3, o4, o5, o6, o7, o8, o9, o10, o11, o12]) (blk_put (cs := #[v0, o1, o2, o3, o4, o5, o6, o7, o8, o9, o10, o11, o12]) (blk_put (cs := #[o0, o1, o2, o3, o4, o5, o6, o7, o8, o9, o10, o11, o12]) h 0 _ rfl) 1 _ rfl) 2 _ rfl) 3 _ rfl) 4 _ rfl) 5 _ rfl) 6 _ rfl) 7 _ rfl) 8 _ rfl) 9 _ rfl) 10 _ rfl) 11 _ rfl) 12 _ rfl)
theorem F24_13 {W : World} {g : Nat} {v0 v1 v2 v3 v4 v5 v6 v7 v8 v9 v10 v11 v12 : Value} {a : Addr} (h : a.block ≠ g) : (((((((((((((W.setCell ⟨g, 0, none⟩ v0).setCell ⟨g, 1, none⟩ v1).setCell ⟨g, 2, none⟩ v2).setCell ⟨g, 3, none⟩ v3).setCell ⟨g, 4, none⟩ v4).setCell ⟨g, 5, none⟩ v5).setCell ⟨g, 6, none⟩ v6).setCell ⟨g, 7, none⟩ v7).setCell ⟨g, 8, none⟩ v8).setCell ⟨g, 9, none⟩ v9).setCell ⟨g, 10, none⟩ v10).setCell ⟨g, 11, none⟩ v11).setCell ⟨g, 12, none⟩ v12).cell? a = W.cell? a := by rw [cell_far (p := ⟨g, 12, none⟩) h, cell_far (p := ⟨g, 11, none⟩) h, cell_far (p := ⟨g, 10, none⟩) h, cell_far (p := ⟨g, 9, none⟩) h, cell_far (p := ⟨g, 8, none⟩) h, cell_far (p := ⟨g, 7, none⟩) h, cell_far (p := ⟨g, 6, none⟩) h, cell_far (p := ⟨g, 5, none⟩) h, cell_far (p := ⟨g, 4, none⟩) h, cell_far (p := ⟨g, 3, none⟩) h, cell_far (p := ⟨g, 2, none⟩) h, cell_far (p := ⟨g, 1, none⟩) h, cell_far (p := ⟨g, 0, none⟩) h]
theorem Z24_49 {p : Prop} (h : p := by repeat (first | (with_reducible first | exact HB.out | apply below_alloc | apply pw_below_drewN | apply below_drew1 | refine below_set ?_ GE833.out | refine below_set ?_ GE852.out) | exact HB.out)) : p := h
theorem Z24_1 {p : Prop} (h : p := by exact (Kd.R_lower (Kd.R_new' (Kd.R_new' ho0 (Kd.R_lt (by (with_reducible repeat (first | apply Kd.R_alloc | apply Kd.R_drewN | apply Kd.R_drew)); exact (Kd.R_mono (Kd.R_far (p := ⟨gb852, 12, none⟩) (Kd.R_far (p := ⟨gb852, 11, none⟩) (Kd.R_far (p := ⟨gb852, 10, none⟩) (Kd.R_far (p := ⟨gb852, 9, none⟩) (Kd.R_far (p := ⟨gb852, 8, none⟩) (Kd.R_far (p := ⟨gb852, 7, none⟩) (Kd.R_far (p := ⟨gb852, 6, none⟩) (Kd.R_far (p := ⟨gb852, 5, none⟩) (Kd.R_far (p := ⟨gb852, 4, none⟩) (Kd.R_far (p := ⟨gb852, 3, none⟩) (Kd.R_far (p := ⟨gb852, 2, none⟩) (Kd.R_far (p := ⟨gb852, 1, none⟩) (Kd.R_far (p := ⟨gb852, 0, none⟩) (Kd.R_types HO819.out BK852.out (by decide)) (fun _ hk => hk.2) (.int .i64 t837)) (fun _ hk => hk.2) (.int .i64 t838)) (fun _ hk => hk.2) (.int .i64 t839)) (fun _ hk => hk.2) (.int .i64 t840)) (fun _ hk => hk.2) (.int .i64 t841)) (fun _ hk => hk.2) (.int .i64 t842)) (fun _ hk => hk.2) (.int .i64 t843)) (fun _ hk => hk.2) (.int .i64 t844)) (fun _ hk => hk.2) (.int .i64 t845)) (fun _ hk => hk.2) (.int .i64 t846)) (fun _ hk => hk.2) (.int .i64 t847)) (fun _ hk => hk.2) (.bool t848)) (fun _ hk => hk.2) (.bool t849)) (fun _ h_ => h_.1))))) (Kd.R_lt (by (with_reducible repeat (first | apply Kd.R_alloc | apply Kd.R_drewN | apply Kd.R_drew)); exact (Kd.R_mono (Kd.R_far (p := ⟨gb852, 12, none⟩) (Kd.R_far (p := ⟨gb852, 11, none⟩) (Kd.R_far (p := ⟨gb852, 10, none⟩) (Kd.R_far (p := ⟨gb852, 9, none⟩) (Kd.R_far (p := ⟨gb852, 8, none⟩) (Kd.R_far (p := ⟨gb852, 7, none⟩) (Kd.R_far (p := ⟨gb852, 6, none⟩) (Kd.R_far (p := ⟨gb852, 5, none⟩) (Kd.R_far (p := ⟨gb852, 4, none⟩) (Kd.R_far (p := ⟨gb852, 3, none⟩) (Kd.R_far (p := ⟨gb852, 2, none⟩) (Kd.R_far (p := ⟨gb852, 1, none⟩) (Kd.R_far (p := ⟨gb852, 0, none⟩) (Kd.R_types HO836.out BK852.out (by decide)) (fun _ hk => hk.2) (.int .i64 t837)) (fun _ hk => hk.2) (.int .i64 t838)) (fun _ hk => hk.2) (.int .i64 t839)) (fun _ hk => hk.2) (.int .i64 t840)) (fun _ hk => hk.2) (.int .i64 t841)) (fun _ hk => hk.2) (.int .i64 t842)) (fun _ hk => hk.2) (.int .i64 t843)) (fun _ hk => hk.2) (.int .i64 t844)) (fun _ hk => hk.2) (.int .i64 t845)) (fun _ hk => hk.2) (.int .i64 t846)) (fun _ hk => hk.2) (.int .i64 t847)) (fun _ hk => hk.2) (.bool t848)) (fun _ hk => hk.2) (.bool t849)) (fun _ h_ => h_.1))))) (below_size Z24_49))) : p := h
theorem Z24_2 {p : Prop} (h : p := by exact (blk_below (g := gb833) (o := .cells #[.int .i64 t820, .int .i64 t821, .int .i64 t822, .int .i64 t823, .int .i64 t824, .int .i64 t825, .int .i64 t826, .int .i64 t827, .int .i64 t828, .int .i64 t829, .int .i64 t830, .bool t831, .bool t832] 25 (0, 0)) (by (with_reducible repeat (first | refine blk_drewN ?_ _ | refine blk_drew ?_ | refine blk_alloc ?_ _)); refine blk_far ?_ NB833_852.out _; (with_reducible repeat (first | refine blk_drewN ?_ _ | refine blk_drew ?_ | refine blk_alloc ?_ _)); refine blk_far ?_ NB833_852.out _; (with_reducible repeat (first | refine blk_drewN ?_ _ | refine blk_drew ?_ | refine blk_alloc ?_ _)); refine blk_far ?_ NB833_852.out _; (with_reducible repeat (first | refine blk_drewN ?_ _ | refine blk_drew ?_ | refine blk_alloc ?_ _)); refine blk_far ?_ NB833_852.out _; (with_reducible repeat (first | refine blk_drewN ?_ _ | refine blk_drew ?_ | refine blk_alloc ?_ _)); refine blk_far ?_ NB833_852.out _; (with_reducible repeat (first | refine blk_drewN ?_ _ | refine blk_drew ?_ | refine blk_alloc ?_ _)); refine blk_far ?_ NB833_852.out _; (with_reducible repeat (first | refine blk_drewN ?_ _ | refine blk_drew ?_ | refine blk_alloc ?_ _)); refine blk_far ?_ NB833_852.out _; (with_reducible repeat (first | refine blk_drewN ?_ _ | refine blk_drew ?_ | refine blk_alloc ?_ _)); refine blk_far ?_ NB833_852.out _; (with_reducible repeat (first | refine blk_drewN ?_ _ | refine blk_drew ?_ | refine blk_alloc ?_ _)); refine blk_far ?_ NB833_852.out _; (with_reducible repeat (first | refine blk_drewN ?_ _ | refine blk_drew ?_ | refine blk_alloc ?_ _)); refine blk_far ?_ NB833_852.out _; (with_reducible repeat (first | refine blk_drewN ?_ _ | refine blk_drew ?_ | refine blk_alloc ?_ _)); refine blk_far ?_ NB833_852.out _; (with_reducible repeat (first | refine blk_drewN ?_ _ | refine blk_drew ?_ | refine blk_alloc ?_ _)); refine blk_far ?_ NB833_852.out _; (with_reducible repeat (first | refine blk_drewN ?_ _ | refine blk_drew ?_ | refine blk_alloc ?_ _)); refine blk_far ?_ NB833_852.out _; (with_reducible repeat (first | refine blk_drewN ?_ _ | refine blk_drew ?_ | refine blk_alloc ?_ _)); exact BK833.out) hb)) : p := h
theorem Z24_3 {p : Prop} (h : p := by exact (blk_below (g := gb833) (o := .cells #[.int .i64 t820, .int .i64 t821, .int .i64 t822, .int .i64 t823, .int .i64 t824, .int .i64 t825, .int .i64 t826, .int .i64 t827, .int .i64 t828, .int .i64 t829, .int .i64 t830, .bool t831, .bool t832] 25 (0, 0)) (by (with_reducible repeat (first | refine blk_drewN ?_ _ | refine blk_drew ?_ | refine blk_alloc ?_ _)); refine blk_far ?_ NB833_872.out _; (with_reducible repeat (first | refine blk_drewN ?_ _ | refine blk_drew ?_ | refine blk_alloc ?_ _)); refine blk_far ?_ NB833_872.out _; (with_reducible repeat (first | refine blk_drewN ?_ _ | refine blk_drew ?_ | refine blk_alloc ?_ _)); refine blk_far ?_ NB833_872.out _; (with_reducible repeat (first | refine blk_drewN ?_ _ | refine blk_drew ?_ | refine blk_alloc ?_ _)); refine blk_far ?_ NB833_872.out _; (with_reducible repeat (first | refine blk_drewN ?_ _ | refine blk_drew ?_ | refine blk_alloc ?_ _)); refine blk_far ?_ NB833_872.out _; (with_reducible repeat (first | refine blk_drewN ?_ _ | refine blk_drew ?_ | refine blk_alloc ?_ _)); refine blk_far ?_ NB833_872.out _; (with_reducible repeat (first | refine blk_drewN ?_ _ | refine blk_drew ?_ | refine blk_alloc ?_ _)); refine blk_far ?_ NB833_872.out _; (with_reducible repeat (first | refine blk_drewN ?_ _ | refine blk_drew ?_ | refine blk_alloc ?_ _)); refine blk_far ?_ NB833_872.out _; (with_reducible repeat (first | refine blk_drewN ?_ _ | refine blk_drew ?_ | refine blk_alloc ?_ _)); refine blk_far ?_ NB833_872.out _; (with_reducible repeat (first | refine blk_drewN ?_ _ | refine blk_drew ?_ | refine blk_alloc ?_ _)); refine blk_far ?_ NB833_872.out _; (with_reducible repeat (first | refine blk_drewN ?_ _ | refine blk_drew ?_ | refine blk_alloc ?_ _)); refine blk_far ?_ NB833_872.out _; (with_reducible repeat (first | refine blk_drewN ?_ _ | refine blk_drew ?_ | refine blk_alloc ?_ _)); refine blk_far ?_ NB833_872.out _; (with_reducible repeat (first | refine blk_drewN ?_ _ | refine blk_drew ?_ | refine blk_alloc ?_ _)); refine blk_far ?_ NB833_872.out _; (with_reducible repeat (first | refine blk_drewN ?_ _ | refine blk_drew ?_ | refine blk_alloc ?_ _)); exact BK833.out) hb)) : p := h
theorem Z24_4 {p : Prop} (h : p := by exact (blk_below (g := gb852) (o := .cells #[.int .i64 t837, .int .i64 t838, .int .i64 t839, .int .i64 t840, .int .i64 t841, .int .i64 t842, .int .i64 t843, .int .i64 t844, .int .i64 t845, .int .i64 t846, .int .i64 t847, .bool t848, .bool t849] 25 (0, 0)) (by (with_reducible repeat (first | refine blk_drewN ?_ _ | refine blk_drew ?_ | refine blk_alloc ?_ _)); refine blk_far ?_ NB852_872.out _; (with_reducible repeat (first | refine blk_drewN ?_ _ | refine blk_drew ?_ | refine blk_alloc ?_ _)); refine blk_far ?_ NB852_872.out _; (with_reducible repeat (first | refine blk_drewN ?_ _ | refine blk_drew ?_ | refine blk_alloc ?_ _)); refine blk_far ?_ NB852_872.out _; (with_reducible repeat (first | refine blk_drewN ?_ _ | refine blk_drew ?_ | refine blk_alloc ?_ _)); refine blk_far ?_ NB852_872.out _; (with_reducible repeat (first | refine blk_drewN ?_ _ | refine blk_drew ?_ | refine blk_alloc ?_ _)); refine blk_far ?_ NB852_872.out _; (with_reducible repeat (first | refine blk_drewN ?_ _ | refine blk_drew ?_ | refine blk_alloc ?_ _)); refine blk_far ?_ NB852_872.out _; (with_reducible repeat (first | refine blk_drewN ?_ _ | refine blk_drew ?_ | refine blk_alloc ?_ _)); refine blk_far ?_ NB852_872.out _; (with_reducible repeat (first | refine blk_drewN ?_ _ | refine blk_drew ?_ | refine blk_alloc ?_ _)); refine blk_far ?_ NB852_872.out _; (with_reducible repeat (first | refine blk_drewN ?_ _ | refine blk_drew ?_ | refine blk_alloc ?_ _)); refine blk_far ?_ NB852_872.out _; (with_reducible repeat (first | refine blk_drewN ?_ _ | refine blk_drew ?_ | refine blk_alloc ?_ _)); refine blk_far ?_ NB852_872.out _; (with_reducible repeat (first | refine blk_drewN ?_ _ | refine blk_drew ?_ | refine blk_alloc ?_ _)); refine blk_far ?_ NB852_872.out _; (with_reducible repeat (first | refine blk_drewN ?_ _ | refine blk_drew ?_ | refine blk_alloc ?_ _)); refine blk_far ?_ NB852_872.out _; (with_reducible repeat (first | refine blk_drewN ?_ _ | refine blk_drew ?_ | refine blk_alloc ?_ _)); refine blk_far ?_ NB852_872.out _; (with_reducible repeat (first | refine blk_drewN ?_ _ | refine blk_drew ?_ | refine blk_alloc ?_ _)); exact BK852.out) hb)) : p := h
theorem Z24_5 {p : Prop} (h : p := by (with_reducible repeat (first | refine blk_drewN ?_ _ | refine blk_drew ?_ | refine blk_alloc ?_ _)); refine blk_far ?_ NB833_888.out _; (with_reducible repeat (first | refine blk_drewN ?_ _ | refine blk_drew ?_ | refine blk_alloc ?_ _)); refine blk_far ?_ NB833_888.out _; (with_reducible repeat (first | refine blk_drewN ?_ _ | refine blk_drew ?_ | refine blk_alloc ?_ _)); refine blk_far ?_ NB833_888.out _; (with_reducible repeat (first | refine blk_drewN ?_ _ | refine blk_drew ?_ | refine blk_alloc ?_ _)); refine blk_far ?_ NB833_888.out _; (with_reducible repeat (first | refine blk_drewN ?_ _ | refine blk_drew ?_ | refine blk_alloc ?_ _)); refine blk_far ?_ NB833_888.out _; (with_reducible repeat (first | refine blk_drewN ?_ _ | refine blk_drew ?_ | refine blk_alloc ?_ _)); refine blk_far ?_ NB833_888.out _; (with_reducible repeat (first | refine blk_drewN ?_ _ | refine blk_drew ?_ | refine blk_alloc ?_ _)); refine blk_far ?_ NB833_888.out _; (with_reducible repeat (first | refine blk_drewN ?_ _ | refine blk_drew ?_ | refine blk_alloc ?_ _)); refine blk_far ?_ NB833_888.out _; (with_reducible repeat (first | refine blk_drewN ?_ _ | refine blk_drew ?_ | refine blk_alloc ?_ _)); refine blk_far ?_ NB833_888.out _; (with_reducible repeat (first | refine blk_drewN ?_ _ | refine blk_drew ?_ | refine blk_alloc ?_ _)); refine blk_far ?_ NB833_888.out _; (with_reducible repeat (first | refine blk_drewN ?_ _ | refine blk_drew ?_ | refine blk_alloc ?_ _)); refine blk_far ?_ NB833_888.out _; (with_reducible repeat (first | refine blk_drewN ?_ _ | refine blk_drew ?_ | refine blk_alloc ?_ _)); refine blk_far ?_ NB833_888.out _; (with_reducible repeat (first | refine blk_drewN ?_ _ | refine blk_drew ?_ | refine blk_alloc ?_ _)); refine blk_far ?_ NB833_888.out _; (with_reducible repeat (first | refine blk_drewN ?_ _ | refine blk_drew ?_ | refine blk_alloc ?_ _)); exact BK833.out) : p := h
theorem Z24_6 {p : Prop} (h : p := by (with_reducible repeat (first | refine blk_drewN ?_ _ | refine blk_drew ?_ | refine blk_alloc ?_ _)); refine blk_far ?_ NB852_888.out _; (with_reducible repeat (first | refine blk_drewN ?_ _ | refine blk_drew ?_ | refine blk_alloc ?_ _)); refine blk_far ?_ NB852_888.out _; (with_reducible repeat (first | refine blk_drewN ?_ _ | refine blk_drew ?_ | refine blk_alloc ?_ _)); refine blk_far ?_ NB852_888.out _; (with_reducible repeat (first | refine blk_drewN ?_ _ | refine blk_drew ?_ | refine blk_alloc ?_ _)); refine blk_far ?_ NB852_888.out _; (with_reducible repeat (first | refine blk_drewN ?_ _ | refine blk_drew ?_ | refine blk_alloc ?_ _)); refine blk_far ?_ NB852_888.out _; (with_reducible repeat (first | refine blk_drewN ?_ _ | refine blk_drew ?_ | refine blk_alloc ?_ _)); refine blk_far ?_ NB852_888.out _; (with_reducible repeat (first | refine blk_drewN ?_ _ | refine blk_drew ?_ | refine blk_alloc ?_ _)); refine blk_far ?_ NB852_888.out _; (with_reducible repeat (first | refine blk_drewN ?_ _ | refine blk_drew ?_ | refine blk_alloc ?_ _)); refine blk_far ?_ NB852_888.out _; (with_reducible repeat (first | refine blk_drewN ?_ _ | refine blk_drew ?_ | refine blk_alloc ?_ _)); refine blk_far ?_ NB852_888.out _; (with_reducible repeat (first | refine blk_drewN ?_ _ | refine blk_drew ?_ | refine blk_alloc ?_ _)); refine blk_far ?_ NB852_888.out _; (with_reducible repeat (first | refine blk_drewN ?_ _ | refine blk_drew ?_ | refine blk_alloc ?_ _)); refine blk_far ?_ NB852_888.out _; (with_reducible repeat (first | refine blk_drewN ?_ _ | refine blk_drew ?_ | refine blk_alloc ?_ _)); refine blk_far ?_ NB852_888.out _; (with_reducible repeat (first | refine blk_drewN ?_ _ | refine blk_drew ?_ | refine blk_alloc ?_ _)); refine blk_far ?_ NB852_888.out _; (with_reducible repeat (first | refine blk_drewN ?_ _ | refine blk_drew ?_ | refine blk_alloc ?_ _)); exact BK852.out) : p := h
theorem Z24_7 {p : Prop} (h : p := by (with_reducible repeat (first | refine blk_drewN ?_ _ | refine blk_drew ?_ | refine blk_alloc ?_ _)); refine blk_far ?_ NB872_888.out _; (with_reducible repeat (first | refine blk_drewN ?_ _ | refine blk_drew ?_ | refine blk_alloc ?_ _)); refine blk_far ?_ NB872_888.out _; (with_reducible repeat (first | refine blk_drewN ?_ _ | refine blk_drew ?_ | refine blk_alloc ?_ _)); refine blk_far ?_ NB872_888.out _; (with_reducible repeat (first | refine blk_drewN ?_ _ | refine blk_drew ?_ | refine blk_alloc ?_ _)); refine blk_far ?_ NB872_888.out _; (with_reducible repeat (first | refine blk_drewN ?_ _ | refine blk_drew ?_ | refine blk_alloc ?_ _)); refine blk_far ?_ NB872_888.out _; (with_reducible repeat (first | refine blk_drewN ?_ _ | refine blk_drew ?_ | refine blk_alloc ?_ _)); refine blk_far ?_ NB872_888.out _; (with_reducible repeat (first | refine blk_drewN ?_ _ | refine blk_drew ?_ | refine blk_alloc ?_ _)); refine blk_far ?_ NB872_888.out _; (with_reducible repeat (first | refine blk_drewN ?_ _ | refine blk_drew ?_ | refine blk_alloc ?_ _)); refine blk_far ?_ NB872_888.out _; (with_reducible repeat (first | refine blk_drewN ?_ _ | refine blk_drew ?_ | refine blk_alloc ?_ _)); refine blk_far ?_ NB872_888.out _; (with_reducible repeat (first | refine blk_drewN ?_ _ | refine blk_drew ?_ | refine blk_alloc ?_ _)); refine blk_far ?_ NB872_888.out _; (with_reducible repeat (first | refine blk_drewN ?_ _ | refine blk_drew ?_ | refine blk_alloc ?_ _)); refine blk_far ?_ NB872_888.out _; (with_reducible repeat (first | refine blk_drewN ?_ _ | refine blk_drew ?_ | refine blk_alloc ?_ _)); refine blk_far ?_ NB872_888.out _; (with_reducible repeat (first | refine blk_drewN ?_ _ | refine blk_drew ?_ | refine blk_alloc ?_ _)); refine blk_far ?_ NB872_888.out _; (with_reducible repeat (first | refine blk_drewN ?_ _ | refine blk_drew ?_ | refine blk_alloc ?_ _)); exact BK872.out) : p := h
theorem Z24_18 {p : Prop} (h : p := by (with_reducible repeat (first | apply Kd.R_alloc | apply Kd.R_drewN | apply Kd.R_drew)); exact (Kd.R_mono (Kd.R_far (p := ⟨gb833, 12, none⟩) (Kd.R_far (p := ⟨gb833, 11, none⟩) (Kd.R_far (p := ⟨gb833, 10, none⟩) (Kd.R_far (p := ⟨gb833, 9, none⟩) (Kd.R_far (p := ⟨gb833, 8, none⟩) (Kd.R_far (p := ⟨gb833, 7, none⟩) (Kd.R_far (p := ⟨gb833, 6, none⟩) (Kd.R_far (p := ⟨gb833, 5, none⟩) (Kd.R_far (p := ⟨gb833, 4, none⟩) (Kd.R_far (p := ⟨gb833, 3, none⟩) (Kd.R_far (p := ⟨gb833, 2, none⟩) (Kd.R_far (p := ⟨gb833, 1, none⟩) (Kd.R_far (p := ⟨gb833, 0, none⟩) (Kd.R_types HO819.out BK833.out (by decide)) (fun _ hk => hk.2) (.int .i64 t820)) (fun _ hk => hk.2) (.int .i64 t821)) (fun _ hk => hk.2) (.int .i64 t822)) (fun _ hk => hk.2) (.int .i64 t823)) (fun _ hk => hk.2) (.int .i64 t824)) (fun _ hk => hk.2) (.int .i64 t825)) (fun _ hk => hk.2) (.int .i64 t826)) (fun _ hk => hk.2) (.int .i64 t827)) (fun _ hk => hk.2) (.int .i64 t828)) (fun _ hk => hk.2) (.int .i64 t829)) (fun _ hk => hk.2) (.int .i64 t830)) (fun _ hk => hk.2) (.bool t831)) (fun _ hk => hk.2) (.bool t832)) (fun _ h_ => h_.1))) : p := h
theorem Z24_8 {p : Prop} (h : p := by exact (Kd.R_lower (Kd.R_new' ho0 (Kd.R_lt Z24_18)) (below_size (by repeat (first | (with_reducible first | exact HB.out | apply below_alloc | apply pw_below_drewN | apply below_drew1 | refine below_set ?_ GE833.out) | exact HB.out))))) : p := h
theorem Z24_9 {p : Prop} (h : p := by exact (Kd.R_elder' Z24_18 (Kd.R_base ho0) hb)) : p := h
theorem Z24_10 {p : Prop} (h : p := by exact (Kd.R_elder' (by (with_reducible repeat (first | apply Kd.R_alloc | apply Kd.R_drewN | apply Kd.R_drew)); exact (Kd.R_mono (Kd.R_far (p := ⟨gb852, 12, none⟩) (Kd.R_far (p := ⟨gb852, 11, none⟩) (Kd.R_far (p := ⟨gb852, 10, none⟩) (Kd.R_far (p := ⟨gb852, 9, none⟩) (Kd.R_far (p := ⟨gb852, 8, none⟩) (Kd.R_far (p := ⟨gb852, 7, none⟩) (Kd.R_far (p := ⟨gb852, 6, none⟩) (Kd.R_far (p := ⟨gb852, 5, none⟩) (Kd.R_far (p := ⟨gb852, 4, none⟩) (Kd.R_far (p := ⟨gb852, 3, none⟩) (Kd.R_far (p := ⟨gb852, 2, none⟩) (Kd.R_far (p := ⟨gb852, 1, none⟩) (Kd.R_far (p := ⟨gb852, 0, none⟩) (Kd.R_types HO819.out BK852.out (by decide)) (fun _ hk => hk.2) (.int .i64 t837)) (fun _ hk => hk.2) (.int .i64 t838)) (fun _ hk => hk.2) (.int .i64 t839)) (fun _ hk => hk.2) (.int .i64 t840)) (fun _ hk => hk.2) (.int .i64 t841)) (fun _ hk => hk.2) (.int .i64 t842)) (fun _ hk => hk.2) (.int .i64 t843)) (fun _ hk => hk.2) (.int .i64 t844)) (fun _ hk => hk.2) (.int .i64 t845)) (fun _ hk => hk.2) (.int .i64 t846)) (fun _ hk => hk.2) (.int .i64 t847)) (fun _ hk => hk.2) (.bool t848)) (fun _ hk => hk.2) (.bool t849)) (fun _ h_ => h_.1))) (Kd.R_base ho0) hb)) : p := h
theorem Z24_11 {p : Prop} (h : p := by exact (Kd.R_elder' (by (with_reducible repeat (first | apply Kd.R_alloc | apply Kd.R_drewN | apply Kd.R_drew)); exact (Kd.R_mono (Kd.R_far (p := ⟨gb852, 12, none⟩) (Kd.R_far (p := ⟨gb852, 11, none⟩) (Kd.R_far (p := ⟨gb852, 10, none⟩) (Kd.R_far (p := ⟨gb852, 9, none⟩) (Kd.R_far (p := ⟨gb852, 8, none⟩) (Kd.R_far (p := ⟨gb852, 7, none⟩) (Kd.R_far (p := ⟨gb852, 6, none⟩) (Kd.R_far (p := ⟨gb852, 5, none⟩) (Kd.R_far (p := ⟨gb852, 4, none⟩) (Kd.R_far (p := ⟨gb852, 3, none⟩) (Kd.R_far (p := ⟨gb852, 2, none⟩) (Kd.R_far (p := ⟨gb852, 1, none⟩) (Kd.R_far (p := ⟨gb852, 0, none⟩) (Kd.R_types HO836.out BK852.out (by decide)) (fun _ hk => hk.2) (.int .i64 t837)) (fun _ hk => hk.2) (.int .i64 t838)) (fun _ hk => hk.2) (.int .i64 t839)) (fun _ hk => hk.2) (.int .i64 t840)) (fun _ hk => hk.2) (.int .i64 t841)) (fun _ hk => hk.2) (.int .i64 t842)) (fun _ hk => hk.2) (.int .i64 t843)) (fun _ hk => hk.2) (.int .i64 t844)) (fun _ hk => hk.2) (.int .i64 t845)) (fun _ hk => hk.2) (.int .i64 t846)) (fun _ hk => hk.2) (.int .i64 t847)) (fun _ hk => hk.2) (.bool t848)) (fun _ hk => hk.2) (.bool t849)) (fun _ h_ => h_.1))) (Kd.R_base ho0) hb)) : p := h
theorem Z24_12 {p : Prop} (h : p := by exact (Kd.R_below (by (with_reducible repeat (first | apply Kd.R_alloc | apply Kd.R_drewN | apply Kd.R_drew)); exact (Kd.R_mono (Kd.R_far (p := ⟨gb872, 12, none⟩) (Kd.R_far (p := ⟨gb872, 11, none⟩) (Kd.R_far (p := ⟨gb872, 10, none⟩) (Kd.R_far (p := ⟨gb872, 9, none⟩) (Kd.R_far (p := ⟨gb872, 8, none⟩) (Kd.R_far (p := ⟨gb872, 7, none⟩) (Kd.R_far (p := ⟨gb872, 6, none⟩) (Kd.R_far (p := ⟨gb872, 5, none⟩) (Kd.R_far (p := ⟨gb872, 4, none⟩) (Kd.R_far (p := ⟨gb872, 3, none⟩) (Kd.R_far (p := ⟨gb872, 2, none⟩) (Kd.R_far (p := ⟨gb872, 1, none⟩) (Kd.R_far (p := ⟨gb872, 0, none⟩) (Kd.R_types HO819.out BK872.out (by decide)) (fun _ hk => hk.2) (.int .i64 t857)) (fun _ hk => hk.2) (.int .i64 t858)) (fun _ hk => hk.2) (.int .i64 t859)) (fun _ hk => hk.2) (.int .i64 t860)) (fun _ hk => hk.2) (.int .i64 t861)) (fun _ hk => hk.2) (.int .i64 t862)) (fun _ hk => hk.2) (.int .i64 t863)) (fun _ hk => hk.2) (.int .i64 t864)) (fun _ hk => hk.2) (.int .i64 t865)) (fun _ hk => hk.2) (.int .i64 t866)) (fun _ hk => hk.2) (.int .i64 t867)) (fun _ hk => hk.2) (.bool t868)) (fun _ hk => hk.2) (.bool t869)) (fun _ h_ => h_.1))) hb)) : p := h
theorem Z24_13 {p : Prop} (h : p := by exact (Kd.R_below (by (with_reducible repeat (first | apply Kd.R_alloc | apply Kd.R_drewN | apply Kd.R_drew)); exact (Kd.R_mono (Kd.R_far (p := ⟨gb872, 12, none⟩) (Kd.R_far (p := ⟨gb872, 11, none⟩) (Kd.R_far (p := ⟨gb872, 10, none⟩) (Kd.R_far (p := ⟨gb872, 9, none⟩) (Kd.R_far (p := ⟨gb872, 8, none⟩) (Kd.R_far (p := ⟨gb872, 7, none⟩) (Kd.R_far (p := ⟨gb872, 6, none⟩) (Kd.R_far (p := ⟨gb872, 5, none⟩) (Kd.R_far (p := ⟨gb872, 4, none⟩) (Kd.R_far (p := ⟨gb872, 3, none⟩) (Kd.R_far (p := ⟨gb872, 2, none⟩) (Kd.R_far (p := ⟨gb872, 1, none⟩) (Kd.R_far (p := ⟨gb872, 0, none⟩) (Kd.R_types HO836.out BK872.out (by decide)) (fun _ hk => hk.2) (.int .i64 t857)) (fun _ hk => hk.2) (.int .i64 t858)) (fun _ hk => hk.2) (.int .i64 t859)) (fun _ hk => hk.2) (.int .i64 t860)) (fun _ hk => hk.2) (.int .i64 t861)) (fun _ hk => hk.2) (.int .i64 t862)) (fun _ hk => hk.2) (.int .i64 t863)) (fun _ hk => hk.2) (.int .i64 t864)) (fun _ hk => hk.2) (.int .i64 t865)) (fun _ hk => hk.2) (.int .i64 t866)) (fun _ hk => hk.2) (.int .i64 t867)) (fun _ hk => hk.2) (.bool t868)) (fun _ hk => hk.2) (.bool t869)) (fun _ h_ => h_.1))) hb)) : p := h
theorem Z24_19 {p : Prop} (h : p := by (with_reducible repeat (first | apply Kd.R_alloc | apply Kd.R_drewN | apply Kd.R_drew)); exact (Kd.R_mono (Kd.R_far (p := ⟨gb872, 12, none⟩) (Kd.R_far (p := ⟨gb872, 11, none⟩) (Kd.R_far (p := ⟨gb872, 10, none⟩) (Kd.R_far (p := ⟨gb872, 9, none⟩) (Kd.R_far (p := ⟨gb872, 8, none⟩) (Kd.R_far (p := ⟨gb872, 7, none⟩) (Kd.R_far (p := ⟨gb872, 6, none⟩) (Kd.R_far (p := ⟨gb872, 5, none⟩) (Kd.R_far (p := ⟨gb872, 4, none⟩) (Kd.R_far (p := ⟨gb872, 3, none⟩) (Kd.R_far (p := ⟨gb872, 2, none⟩) (Kd.R_far (p := ⟨gb872, 1, none⟩) (Kd.R_far (p := ⟨gb872, 0, none⟩) (Kd.R_types HO856.out BK872.out (by decide)) (fun _ hk => hk.2) (.int .i64 t857)) (fun _ hk => hk.2) (.int .i64 t858)) (fun _ hk => hk.2) (.int .i64 t859)) (fun _ hk => hk.2) (.int .i64 t860)) (fun _ hk => hk.2) (.int .i64 t861)) (fun _ hk => hk.2) (.int .i64 t862)) (fun _ hk => hk.2) (.int .i64 t863)) (fun _ hk => hk.2) (.int .i64 t864)) (fun _ hk => hk.2) (.int .i64 t865)) (fun _ hk => hk.2) (.int .i64 t866)) (fun _ hk => hk.2) (.int .i64 t867)) (fun _ hk => hk.2) (.bool t868)) (fun _ hk => hk.2) (.bool t869)) (fun _ h_ => h_.1))) : p := h
theorem Z24_14 {p : Prop} (h : p := by exact (Kd.R_below Z24_19 hb)) : p := h
theorem Z24_15 {p : Prop} (h : p := by (with_reducible repeat (first | apply Kd.R_alloc | apply Kd.R_drewN | apply Kd.R_drew)); exact Kd.R_mono (Kd.R_far (p := ⟨gb888, 12, none⟩) (Kd.R_far (p := ⟨gb888, 11, none⟩) (Kd.R_far (p := ⟨gb888, 10, none⟩) (Kd.R_far (p := ⟨gb888, 9, none⟩) (Kd.R_far (p := ⟨gb888, 8, none⟩) (Kd.R_far (p := ⟨gb888, 7, none⟩) (Kd.R_far (p := ⟨gb888, 6, none⟩) (Kd.R_far (p := ⟨gb888, 5, none⟩) (Kd.R_far (p := ⟨gb888, 4, none⟩) (Kd.R_far (p := ⟨gb888, 3, none⟩) (Kd.R_far (p := ⟨gb888, 2, none⟩) (Kd.R_far (p := ⟨gb888, 1, none⟩) (Kd.R_far (p := ⟨gb888, 0, none⟩) (Kd.R_types HO819.out BK888.out (by decide)) (fun _ hk => hk.2) (.int .i64 t873)) (fun _ hk => hk.2) (.int .i64 t874)) (fun _ hk => hk.2) (.int .i64 t875)) (fun _ hk => hk.2) (.int .i64 t876)) (fun _ hk => hk.2) (.int .i64 t877)) (fun _ hk => hk.2) (.int .i64 t878)) (fun _ hk => hk.2) (.int .i64 t879)) (fun _ hk => hk.2) (.int .i64 t880)) (fun _ hk => hk.2) (.int .i64 t881)) (fun _ hk => hk.2) (.int .i64 t882)) (fun _ hk => hk.2) (.int .i64 t883)) (fun _ hk => hk.2) (.bool t884)) (fun _ hk => hk.2) (.bool t885)) (fun _ hk => ⟨hk.1.1.2, hk.1.2⟩)) : p := h
theorem Z24_16 {p : Prop} (h : p := by (with_reducible repeat (first | apply Kd.R_alloc | apply Kd.R_drewN | apply Kd.R_drew)); exact Kd.R_mono (Kd.R_far (p := ⟨gb888, 12, none⟩) (Kd.R_far (p := ⟨gb888, 11, none⟩) (Kd.R_far (p := ⟨gb888, 10, none⟩) (Kd.R_far (p := ⟨gb888, 9, none⟩) (Kd.R_far (p := ⟨gb888, 8, none⟩) (Kd.R_far (p := ⟨gb888, 7, none⟩) (Kd.R_far (p := ⟨gb888, 6, none⟩) (Kd.R_far (p := ⟨gb888, 5, none⟩) (Kd.R_far (p := ⟨gb888, 4, none⟩) (Kd.R_far (p := ⟨gb888, 3, none⟩) (Kd.R_far (p := ⟨gb888, 2, none⟩) (Kd.R_far (p := ⟨gb888, 1, none⟩) (Kd.R_far (p := ⟨gb888, 0, none⟩) (Kd.R_types HO836.out BK888.out (by decide)) (fun _ hk => hk.2) (.int .i64 t873)) (fun _ hk => hk.2) (.int .i64 t874)) (fun _ hk => hk.2) (.int .i64 t875)) (fun _ hk => hk.2) (.int .i64 t876)) (fun _ hk => hk.2) (.int .i64 t877)) (fun _ hk => hk.2) (.int .i64 t878)) (fun _ hk => hk.2) (.int .i64 t879)) (fun _ hk => hk.2) (.int .i64 t880)) (fun _ hk => hk.2) (.int .i64 t881)) (fun _ hk => hk.2) (.int .i64 t882)) (fun _ hk => hk.2) (.int .i64 t883)) (fun _ hk => hk.2) (.bool t884)) (fun _ hk => hk.2) (.bool t885)) (fun _ hk => ⟨hk.1.1.2, hk.1.2⟩)) : p := h
theorem Z24_17 {p : Prop} (h : p := by (with_reducible repeat (first | apply Kd.R_alloc | apply Kd.R_drewN | apply Kd.R_drew)); exact Kd.R_mono (Kd.R_far (p := ⟨gb888, 12, none⟩) (Kd.R_far (p := ⟨gb888, 11, none⟩) (Kd.R_far (p := ⟨gb888, 10, none⟩) (Kd.R_far (p := ⟨gb888, 9, none⟩) (Kd.R_far (p := ⟨gb888, 8, none⟩) (Kd.R_far (p := ⟨gb888, 7, none⟩) (Kd.R_far (p := ⟨gb888, 6, none⟩) (Kd.R_far (p := ⟨gb888, 5, none⟩) (Kd.R_far (p := ⟨gb888, 4, none⟩) (Kd.R_far (p := ⟨gb888, 3, none⟩) (Kd.R_far (p := ⟨gb888, 2, none⟩) (Kd.R_far (p := ⟨gb888, 1, none⟩) (Kd.R_far (p := ⟨gb888, 0, none⟩) (Kd.R_types HO856.out BK888.out (by decide)) (fun _ hk => hk.2) (.int .i64 t873)) (fun _ hk => hk.2) (.int .i64 t874)) (fun _ hk => hk.2) (.int .i64 t875)) (fun _ hk => hk.2) (.int .i64 t876)) (fun _ hk => hk.2) (.int .i64 t877)) (fun _ hk => hk.2) (.int .i64 t878)) (fun _ hk => hk.2) (.int .i64 t879)) (fun _ hk => hk.2) (.int .i64 t880)) (fun _ hk => hk.2) (.int .i64 t881)) (fun _ hk => hk.2) (.int .i64 t882)) (fun _ hk => hk.2) (.int .i64 t883)) (fun _ hk => hk.2) (.bool t884)) (fun _ hk => hk.2) (.bool t885)) (fun _ hk => ⟨hk.1.1.2, hk.1.2⟩)) : p := h
theorem Z24_66 {p : Prop} (h : p := by (with_reducible repeat (first | apply Kd.R_alloc | apply Kd.R_drewN | apply Kd.R_drew)); exact HO819.out) : p := h
theorem Z24_67 {p : Prop} (h : p := by (with_reducible repeat (first | apply Kd.R_alloc | apply Kd.R_drewN | apply Kd.R_drew)); exact HO836.out) : p := h
theorem Z24_68 {p : Prop} (h : p := by (with_reducible repeat (first | apply Kd.R_alloc | apply Kd.R_drewN | apply Kd.R_drew)); exact HO856.out) : p := h
theorem Z24_42 {p : Prop} (h : p := by repeat (first | (with_reducible first | exact HB.out | apply below_alloc | apply pw_below_drewN | apply below_drew1 | refine below_set ?_ GE833.out | refine below_set ?_ GE852.out | refine below_set ?_ GE872.out | refine below_set ?_ GE888.out) | exact HB.out)) : p := h
theorem Z24_20 {p : Prop} (h : p := by exact (Kd.R_lower (Kd.R_new' (Kd.R_new' (Kd.R_new' (Kd.R_new' ho0 (Kd.R_lt Z24_66)) (Kd.R_lt Z24_67)) (Kd.R_lt Z24_68)) (Kd.R_lt (by (with_reducible repeat (first | apply Kd.R_alloc | apply Kd.R_drewN | apply Kd.R_drew)); exact HO892.out))) (below_size Z24_42))) : p := h
theorem Z24_21 {p : Prop} (h : p := by exact (blk_below (g := gb833) (o := .cells #[.int .i64 t820, .int .i64 t821, .int .i64 t822, .int .i64 t823, .int .i64 t824, .int .i64 t825, .int .i64 t826, .int .i64 t827, .int .i64 t828, .int .i64 t829, .int .i64 t830, .bool t831, .bool t832] 25 (0, 0)) (by (with_reducible repeat (first | refine blk_drewN ?_ _ | refine blk_drew ?_ | refine blk_alloc ?_ _)); apply E24_13; (with_reducible repeat (first | refine blk_drewN ?_ _ | refine blk_drew ?_ | refine blk_alloc ?_ _)); exact BK833.out) hb)) : p := h
theorem Z24_22 {p : Prop} (h : p := by exact (blk_below (g := gb852) (o := .cells #[.int .i64 t837, .int .i64 t838, .int .i64 t839, .int .i64 t840, .int .i64 t841, .int .i64 t842, .int .i64 t843, .int .i64 t844, .int .i64 t845, .int .i64 t846, .int .i64 t847, .bool t848, .bool t849] 25 (0, 0)) (by (with_reducible repeat (first | refine blk_drewN ?_ _ | refine blk_drew ?_ | refine blk_alloc ?_ _)); apply E24_13; (with_reducible repeat (first | refine blk_drewN ?_ _ | refine blk_drew ?_ | refine blk_alloc ?_ _)); exact BK852.out) hb)) : p := h
theorem Z24_23 {p : Prop} (h : p := by exact (blk_below (g := gb872) (o := .cells #[.int .i64 t857, .int .i64 t858, .int .i64 t859, .int .i64 t860, .int .i64 t861, .int .i64 t862, .int .i64 t863, .int .i64 t864, .int .i64 t865, .int .i64 t866, .int .i64 t867, .bool t868, .bool t869] 25 (0, 0)) (by (with_reducible repeat (first | refine blk_drewN ?_ _ | refine blk_drew ?_ | refine blk_alloc ?_ _)); apply E24_13; (with_reducible repeat (first | refine blk_drewN ?_ _ | refine blk_drew ?_ | refine blk_alloc ?_ _)); exact BK872.out) hb)) : p := h
theorem Z24_24 {p : Prop} (h : p := by exact ((by rw [hg]; exact Nat.ne_of_lt (blk_lt (g := gb833) (o := .cells #[.int .i64 t820, .int .i64 t821, .int .i64 t822, .int .i64 t823, .int .i64 t824, .int .i64 t825, .int .i64 t826, .int .i64 t827, .int .i64 t828, .int .i64 t829, .int .i64 t830, .bool t831, .bool t832] 25 (0, 0)) (by (with_reducible repeat (first | refine blk_drewN ?_ _ | refine blk_drew ?_ | refine blk_alloc ?_ _)); exact BK833.out)) : gb833 ≠ gb852))) : p := h
theorem Z24_25 {p : Prop} (h : p := by exact ((by rw [hg]; exact Nat.ne_of_gt (blk_lt (g := gb833) (o := .cells #[.int .i64 t820, .int .i64 t821, .int .i64 t822, .int .i64 t823, .int .i64 t824, .int .i64 t825, .int .i64 t826, .int .i64 t827, .int .i64 t828, .int .i64 t829, .int .i64 t830, .bool t831, .bool t832] 25 (0, 0)) (by (with_reducible repeat (first | refine blk_drewN ?_ _ | refine blk_drew ?_ | refine blk_alloc ?_ _)); exact BK833.out)) : gb852 ≠ gb833))) : p := h
theorem Z24_26 {p : Prop} (h : p := by exact ((by rw [hg]; exact Nat.ne_of_lt (blk_lt (g := gb833) (o := .cells #[.int .i64 t820, .int .i64 t821, .int .i64 t822, .int .i64 t823, .int .i64 t824, .int .i64 t825, .int .i64 t826, .int .i64 t827, .int .i64 t828, .int .i64 t829, .int .i64 t830, .bool t831, .bool t832] 25 (0, 0)) (by (with_reducible repeat (first | refine blk_drewN ?_ _ | refine blk_drew ?_ | refine blk_alloc ?_ _)); exact BK833.out)) : gb833 ≠ gb872))) : p := h
theorem Z24_27 {p : Prop} (h : p := by exact ((by rw [hg]; exact Nat.ne_of_gt (blk_lt (g := gb833) (o := .cells #[.int .i64 t820, .int .i64 t821, .int .i64 t822, .int .i64 t823, .int .i64 t824, .int .i64 t825, .int .i64 t826, .int .i64 t827, .int .i64 t828, .int .i64 t829, .int .i64 t830, .bool t831, .bool t832] 25 (0, 0)) (by (with_reducible repeat (first | refine blk_drewN ?_ _ | refine blk_drew ?_ | refine blk_alloc ?_ _)); exact BK833.out)) : gb872 ≠ gb833))) : p := h
theorem Z24_28 {p : Prop} (h : p := by exact ((by rw [hg]; exact Nat.ne_of_lt (blk_lt (g := gb852) (o := .cells #[.int .i64 t837, .int .i64 t838, .int .i64 t839, .int .i64 t840, .int .i64 t841, .int .i64 t842, .int .i64 t843, .int .i64 t844, .int .i64 t845, .int .i64 t846, .int .i64 t847, .bool t848, .bool t849] 25 (0, 0)) (by (with_reducible repeat (first | refine blk_drewN ?_ _ | refine blk_drew ?_ | refine blk_alloc ?_ _)); exact BK852.out)) : gb852 ≠ gb872))) : p := h
theorem Z24_29 {p : Prop} (h : p := by exact ((by rw [hg]; exact Nat.ne_of_gt (blk_lt (g := gb852) (o := .cells #[.int .i64 t837, .int .i64 t838, .int .i64 t839, .int .i64 t840, .int .i64 t841, .int .i64 t842, .int .i64 t843, .int .i64 t844, .int .i64 t845, .int .i64 t846, .int .i64 t847, .bool t848, .bool t849] 25 (0, 0)) (by (with_reducible repeat (first | refine blk_drewN ?_ _ | refine blk_drew ?_ | refine blk_alloc ?_ _)); exact BK852.out)) : gb872 ≠ gb852))) : p := h
theorem Z24_30 {p : Prop} (h : p := by exact ((by rw [hg]; exact Nat.ne_of_lt (blk_lt (g := gb833) (o := .cells #[.int .i64 t820, .int .i64 t821, .int .i64 t822, .int .i64 t823, .int .i64 t824, .int .i64 t825, .int .i64 t826, .int .i64 t827, .int .i64 t828, .int .i64 t829, .int .i64 t830, .bool t831, .bool t832] 25 (0, 0)) (by (with_reducible repeat (first | refine blk_drewN ?_ _ | refine blk_drew ?_ | refine blk_alloc ?_ _)); exact BK833.out)) : gb833 ≠ gb888))) : p := h
theorem Z24_31 {p : Prop} (h : p := by exact ((by rw [hg]; exact Nat.ne_of_gt (blk_lt (g := gb833) (o := .cells #[.int .i64 t820, .int .i64 t821, .int .i64 t822, .int .i64 t823, .int .i64 t824, .int .i64 t825, .int .i64 t826, .int .i64 t827, .int .i64 t828, .int .i64 t829, .int .i64 t830, .bool t831, .bool t832] 25 (0, 0)) (by (with_reducible repeat (first | refine blk_drewN ?_ _ | refine blk_drew ?_ | refine blk_alloc ?_ _)); exact BK833.out)) : gb888 ≠ gb833))) : p := h
theorem Z24_32 {p : Prop} (h : p := by exact ((by rw [hg]; exact Nat.ne_of_lt (blk_lt (g := gb852) (o := .cells #[.int .i64 t837, .int .i64 t838, .int .i64 t839, .int .i64 t840, .int .i64 t841, .int .i64 t842, .int .i64 t843, .int .i64 t844, .int .i64 t845, .int .i64 t846, .int .i64 t847, .bool t848, .bool t849] 25 (0, 0)) (by (with_reducible repeat (first | refine blk_drewN ?_ _ | refine blk_drew ?_ | refine blk_alloc ?_ _)); exact BK852.out)) : gb852 ≠ gb888))) : p := h
theorem Z24_33 {p : Prop} (h : p := by exact ((by rw [hg]; exact Nat.ne_of_gt (blk_lt (g := gb852) (o := .cells #[.int .i64 t837, .int .i64 t838, .int .i64 t839, .int .i64 t840, .int .i64 t841, .int .i64 t842, .int .i64 t843, .int .i64 t844, .int .i64 t845, .int .i64 t846, .int .i64 t847, .bool t848, .bool t849] 25 (0, 0)) (by (with_reducible repeat (first | refine blk_drewN ?_ _ | refine blk_drew ?_ | refine blk_alloc ?_ _)); exact BK852.out)) : gb888 ≠ gb852))) : p := h
theorem Z24_34 {p : Prop} (h : p := by exact ((by rw [hg]; exact Nat.ne_of_lt (blk_lt (g := gb872) (o := .cells #[.int .i64 t857, .int .i64 t858, .int .i64 t859, .int .i64 t860, .int .i64 t861, .int .i64 t862, .int .i64 t863, .int .i64 t864, .int .i64 t865, .int .i64 t866, .int .i64 t867, .bool t868, .bool t869] 25 (0, 0)) (by (with_reducible repeat (first | refine blk_drewN ?_ _ | refine blk_drew ?_ | refine blk_alloc ?_ _)); exact BK872.out)) : gb872 ≠ gb888))) : p := h
theorem Z24_35 {p : Prop} (h : p := by exact ((by rw [hg]; exact Nat.ne_of_gt (blk_lt (g := gb872) (o := .cells #[.int .i64 t857, .int .i64 t858, .int .i64 t859, .int .i64 t860, .int .i64 t861, .int .i64 t862, .int .i64 t863, .int .i64 t864, .int .i64 t865, .int .i64 t866, .int .i64 t867, .bool t868, .bool t869] 25 (0, 0)) (by (with_reducible repeat (first | refine blk_drewN ?_ _ | refine blk_drew ?_ | refine blk_alloc ?_ _)); exact BK872.out)) : gb888 ≠ gb872))) : p := h
theorem Z24_36 {p : Prop} (h : p := by exact (blk_below (g := gb833) (o := .cells #[.int .i64 t820, .int .i64 t821, .int .i64 t822, .int .i64 t823, .int .i64 t824, .int .i64 t825, .int .i64 t826, .int .i64 t827, .int .i64 t828, .int .i64 t829, .int .i64 t830, .bool t831, .bool t832] 25 (0, 0)) (by (with_reducible repeat (first | refine blk_drewN ?_ _ | refine blk_drew ?_ | refine blk_alloc ?_ _)); exact BK833.out) hb)) : p := h
theorem Z24_37 {p : Prop} (h : p := by exact (blk_below (g := gb852) (o := .cells #[.int .i64 t837, .int .i64 t838, .int .i64 t839, .int .i64 t840, .int .i64 t841, .int .i64 t842, .int .i64 t843, .int .i64 t844, .int .i64 t845, .int .i64 t846, .int .i64 t847, .bool t848, .bool t849] 25 (0, 0)) (by (with_reducible repeat (first | refine blk_drewN ?_ _ | refine blk_drew ?_ | refine blk_alloc ?_ _)); exact BK852.out) hb)) : p := h
theorem Z24_38 {p : Prop} (h : p := by exact (blk_below (g := gb872) (o := .cells #[.int .i64 t857, .int .i64 t858, .int .i64 t859, .int .i64 t860, .int .i64 t861, .int .i64 t862, .int .i64 t863, .int .i64 t864, .int .i64 t865, .int .i64 t866, .int .i64 t867, .bool t868, .bool t869] 25 (0, 0)) (by (with_reducible repeat (first | refine blk_drewN ?_ _ | refine blk_drew ?_ | refine blk_alloc ?_ _)); exact BK872.out) hb)) : p := h
theorem Z24_39 {p : Prop} (h : p := by exact (blk_below (g := gb888) (o := .cells #[.int .i64 t873, .int .i64 t874, .int .i64 t875, .int .i64 t876, .int .i64 t877, .int .i64 t878, .int .i64 t879, .int .i64 t880, .int .i64 t881, .int .i64 t882, .int .i64 t883, .bool t884, .bool t885] 25 (0, 0)) (by (with_reducible repeat (first | refine blk_drewN ?_ _ | refine blk_drew ?_ | refine blk_alloc ?_ _)); exact BK888.out) hb)) : p := h
theorem Z24_40 {p : Prop} (h : p := by exact ((by rw [hg]; exact (below_size (by repeat (first | (with_reducible first | exact HB.out | apply below_alloc | apply pw_below_drewN | apply below_drew1 | refine below_set ?_ GE833.out | refine below_set ?_ GE852.out | refine below_set ?_ GE872.out) | exact HB.out))) : w.heap.size ≤ gb888))) : p := h
theorem Z24_41 {p : Prop} (h : p := by exact (below_step Z24_42 hb)) : p := h
theorem Z24_43 {p : Prop} (h : p := by exact ((by rw [hg]; exact (below_size Z24_49) : w.heap.size ≤ gb872))) : p := h
theorem Z24_44 {p : Prop} (h : p := by exact (below_step (by repeat (first | (with_reducible first | exact HB.out | apply below_alloc | apply pw_below_drewN | apply below_drew1 | refine below_set ?_ GE833.out | refine below_set ?_ GE852.out | refine below_set ?_ GE872.out) | exact HB.out)) hb)) : p := h
theorem Z24_45 {p : Prop} (h : p := by (with_reducible repeat (first | refine blk_drewN ?_ _ | refine blk_drew ?_ | refine blk_alloc ?_ _)); apply E24_13; (with_reducible repeat (first | refine blk_drewN ?_ _ | refine blk_drew ?_ | refine blk_alloc ?_ _)); exact BK888.out) : p := h
theorem Z24_46 {p : Prop} (h : p := by exact ((by rw [hg]; exact (below_size (by repeat (first | (with_reducible first | exact HB.out | apply below_alloc | apply pw_below_drewN | apply below_drew1 | refine below_set ?_ GE833.out) | exact HB.out))) : w.heap.size ≤ gb852))) : p := h
theorem Z24_47 {p : Prop} (h : p := by exact (below_step Z24_49 hb)) : p := h
theorem Z24_50 {p : Prop} (h : p := by repeat (first | (with_reducible exact HR899.out) | (with_reducible refine Kd.C_alloc ?_ _) | (with_reducible refine Kd.C_drewN ?_ _) | (with_reducible refine Kd.C_drew ?_) | exact HR899.out)) : p := h
theorem Z24_48 {p : Prop} (h : p := by exact (Kd.C_below Z24_50 hb)) : p := h
theorem Z24_51 {p : Prop} (h : p := by exact ((by rw [hg]; exact (below_size (by repeat (first | (with_reducible first | exact HB.out | apply below_alloc | apply pw_below_drewN | apply below_drew1) | exact HB.out))) : w.heap.size ≤ gb833))) : p := h
theorem Z24_52 {p : Prop} (h : p := by exact (below_step (by repeat (first | (with_reducible first | exact HB.out | apply below_alloc | apply pw_below_drewN | apply below_drew1 | refine below_set ?_ GE833.out) | exact HB.out)) hb)) : p := h
theorem Z24_53 {p : Prop} (h : p := by exact (Kd.R_lower ho0 (below_size (by repeat (first | (with_reducible first | exact HB.out | apply below_alloc | apply pw_below_drewN | apply below_drew1) | exact HB.out))))) : p := h
theorem Z24_54 {p : Prop} (h : p := by exact (below_step (by repeat (first | (with_reducible first | exact HB.out | apply below_alloc | apply pw_below_drewN | apply below_drew1) | exact HB.out)) hb)) : p := h
theorem Z24_55 {p : Prop} (h : p := by (try simp only [List.map_toArray, List.map_cons, List.map_nil]); first | done | rfl | (simp only [List.length_drop, List.length_take]; rfl)) : p := h
theorem Z24_56 {p : Prop} (h : p := by exact (Kd.R_elder' Z24_66 (Kd.R_base ho0) hb)) : p := h
theorem Z24_57 {p : Prop} (h : p := by exact (Kd.R_elder' Z24_67 (Kd.R_base ho0) hb)) : p := h
theorem Z24_58 {p : Prop} (h : p := by exact (Kd.R_elder' Z24_68 (Kd.R_base ho0) hb)) : p := h
theorem Z24_59 {p : Prop} (h : p := by exact (Kd.R_elder' (by (with_reducible repeat (first | apply Kd.R_alloc | apply Kd.R_drewN | apply Kd.R_drew)); exact HO892.out) (Kd.R_base ho0) hb)) : p := h
theorem Z24_60 {p : Prop} (h : p := by exact (Kd.R_below Z24_66 hb)) : p := h
theorem Z24_61 {p : Prop} (h : p := by exact (Kd.R_below Z24_67 hb)) : p := h
theorem Z24_62 {p : Prop} (h : p := by exact (Kd.R_below Z24_68 hb)) : p := h
theorem Z24_63 {p : Prop} (h : p := by exact (Kd.R_below (by (with_reducible repeat (first | apply Kd.R_alloc | apply Kd.R_drewN | apply Kd.R_drew)); exact HO892.out) hb)) : p := h
theorem Z24_64 {p : Prop} (h : p := by exact (Kd.R_below (by (with_reducible repeat (first | apply Kd.R_alloc | apply Kd.R_drewN | apply Kd.R_drew)); exact HO895.out) hb)) : p := h
theorem Z24_65 {p : Prop} (h : p := by simp only [Act.put, List.setIfInBounds_toArray, List.set_cons_zero, List.set_cons_succ, i64_w, i32_w]; rfl) : p := h
theorem Z24_69 {p : Prop} (h : p := by first | rfl | (simp [errW_none, errW_some] <;> rfl) | (simp [*, errW_none, errW_some] <;> rfl)) : p := h
theorem Z24_70 {p : Prop} (h : p := by rintro w' ⟨s0, s1, s2, s3, s4, s5, s6, s7, s8, s9, s10, s11, s12⟩; go_simp; with_reducible rfl) : p := h
theorem Z24_71 {p : Prop} (h : p := by first | (with_reducible assumption) | assumption) : p := h
/-! ### laws_FnPieceBytes: function 4 -/
def laws_FnPieceBytes.f (k : Nat) (l0 : List Int) : Option (Bool) := (laws_big.f l0).bind fun t816 => (if t816 = true then (some true) else ((spec_DrawPutPiece.f k l0).bind fun bt817 => ((impl_PutPiece.f k bt817.1 bt817.2.1 bt817.2.2.1 bt817.2.2.2.1 bt817.2.2.2.2.1 bt817.2.2.2.2.2.1 bt817.2.2.2.2.2.2.1 bt817.2.2.2.2.2.2.2.1 bt817.2.2.2.2.2.2.2.2.1 bt817.2.2.2.2.2.2.2.2.2.1 bt817.2.2.2.2.2.2.2.2.2.2.1 bt817.2.2.2.2.2.2.2.2.2.2.2.1 bt817.2.2.2.2.2.2.2.2.2.2.2.2.1 bt817.2.2.2.2.2.2.2.2.2.2.2.2.2).bind fun t834 => ((impl_GetPiece.f k t834 (bt817.1.length : Int)).bind fun bt837 => ((spec_DrawGetPiece.f k l0).bind fun bt853 => ((impl_GetPiece.f k bt853.1 bt853.2).bind fun bt857 => ((spec_GetPiece.f k bt853.1 bt853.2).bind fun bt873 => (if (bt857.2.2.2.2.2.2.2.2.2.2.2.2.2.2 != bt873.2.2.2.2.2.2.2.2.2.2.2.2.2.2) = true then (some false) else (if bt857.2.2.2.2.2.2.2.2.2.2.2.2.2.2 = true then ((impl_PieceOk.f k bt857.1 bt857.2.1 bt857.2.2.1 bt857.2.2.2.1 bt857.2.2.2.2.1 bt857.2.2.2.2.2.1 bt857.2.2.2.2.2.2.1 bt857.2.2.2.2.2.2.2.1 bt857.2.2.2.2.2.2.2.2.1 bt857.2.2.2.2.2.2.2.2.2.1 bt857.2.2.2.2.2.2.2.2.2.2.1 bt857.2.2.2.2.2.2.2.2.2.2.2.1 bt857.2.2.2.2.2.2.2.2.2.2.2.2.1).bind fun t889 => (if t889 = true then ((impl_PutPiece.f k (([] : List Int)) bt857.1 bt857.2.1 bt857.2.2.1 bt857.2.2.2.1 bt857.2.2.2.2.1 bt857.2.2.2.2.2.1 bt857.2.2.2.2.2.2.1 bt857.2.2.2.2.2.2.2.1 bt857.2.2.2.2.2.2.2.2.1 bt857.2.2.2.2.2.2.2.2.2.1 bt857.2.2.2.2.2.2.2.2.2.2.1 bt857.2.2.2.2.2.2.2.2.2.2.2.1 bt857.2.2.2.2.2.2.2.2.2.2.2.2.1).bind fun t893 => (if 0 ≤ bt853.2 then (if bt853.2 ≤ bt857.2.2.2.2.2.2.2.2.2.2.2.2.2.1 then (if bt857.2.2.2.2.2.2.2.2.2.2.2.2.2.1 ≤ (bt853.1.length : Int) then ((laws_same.f t893 ((bt853.1.take (bt857.2.2.2.2.2.2.2.2.2.2.2.2.2.1 : Int).toNat).drop (bt853.2 : Int).toNat)).bind fun t900 => (if t900 = true then ((impl_PieceOk.f k bt817.2.1 bt817.2.2.1 bt817.2.2.2.1 bt817.2.2.2.2.1 bt817.2.2.2.2.2.1 bt817.2.2.2.2.2.2.1 bt817.2.2.2.2.2.2.2.1 bt817.2.2.2.2.2.2.2.2.1 bt817.2.2.2.2.2.2.2.2.2.1 bt817.2.2.2.2.2.2.2.2.2.2.1 bt817.2.2.2.2.2.2.2.2.2.2.2.1 bt817.2.2.2.2.2.2.2.2.2.2.2.2.1 bt817.2.2.2.2.2.2.2.2.2.2.2.2.2).bind fun t901 => (if t901 = true then (if bt837.2.2.2.2.2.2.2.2.2.2.2.2.2.2 = true then (if (bt837.1 == bt817.2.1 && (bt837.2.1 == bt817.2.2.1 && (bt837.2.2.1 == bt817.2.2.2.1 && (bt837.2.2.2.1 == bt817.2.2.2.2.1 && (bt837.2.2.2.2.1 == bt817.2.2.2.2.2.1 && (bt837.2.2.2.2.2.1 == bt817.2.2.2.2.2.2.1 && (bt837.2.2.2.2.2.2.1 == bt817.2.2.2.2.2.2.2.1 && (bt837.2.2.2.2.2.2.2.1 == bt817.2.2.2.2.2.2.2.2.1 && (bt837.2.2.2.2.2.2.2.2.1 == bt817.2.2.2.2.2.2.2.2.2.1 && (bt837.2.2.2.2.2.2.2.2.2.1 == bt817.2.2.2.2.2.2.2.2.2.2.1 && (bt837.2.2.2.2.2.2.2.2.2.2.1 == bt817.2.2.2.2.2.2.2.2.2.2.2.1 && (bt837.2.2.2.2.2.2.2.2.2.2.2.1 == bt817.2.2.2.2.2.2.2.2.2.2.2.2.1 && (bt837.2.2.2.2.2.2.2.2.2.2.2.2.1 == bt817.2.2.2.2.2.2.2.2.2.2.2.2.2))))))))))))) = true then (if bt837.2.2.2.2.2.2.2.2.2.2.2.2.2.1 = (t834.length : Int) then (if 0 ≤ (bt817.1.length : Int) then (if (bt817.1.length : Int) ≤ (t834.length : Int) then ((laws_same.f (t834.take ((bt817.1.length : Int) : Int).toNat) bt817.1).bind fun t906 => (some t906)) else (none)) else (none)) else (some false)) else (some false)) else (some false)) else ((laws_same.f t834 bt817.1).bind fun t907 => (some t907)))) else (some false))) else (none)) else (none)) else (none))) else (some false))) else (if (!(bt857.1 == 0) || (!(bt857.2.1 == 0) || (!(bt857.2.2.1 == 0) || (!(bt857.2.2.2.1 == 0) || (!(bt857.2.2.2.2.1 == 0) || (!(bt857.2.2.2.2.2.1 == 0) || (!(bt857.2.2.2.2.2.2.1 == 0) || (!(bt857.2.2.2.2.2.2.2.1 == 0) || (!(bt857.2.2.2.2.2.2.2.2.1 == 0) || (!(bt857.2.2.2.2.2.2.2.2.2.1 == 0) || (!(bt857.2.2.2.2.2.2.2.2.2.2.1 == 0) || (bt857.2.2.2.2.2.2.2.2.2.2.2.1 || (bt857.2.2.2.2.2.2.2.2.2.2.2.2.1))))))))))))) = true then (some false) else ((impl_PieceOk.f k bt817.2.1 bt817.2.2.1 bt817.2.2.2.1 bt817.2.2.2.2.1 bt817.2.2.2.2.2.1 bt817.2.2.2.2.2.2.1 bt817.2.2.2.2.2.2.2.1 bt817.2.2.2.2.2.2.2.2.1 bt817.2.2.2.2.2.2.2.2.2.1 bt817.2.2.2.2.2.2.2.2.2.2.1 bt817.2.2.2.2.2.2.2.2.2.2.2.1 bt817.2.2.2.2.2.2.2.2.2.2.2.2.1 bt817.2.2.2.2.2.2.2.2.2.2.2.2.2).bind fun t908 => (if t908 = true then (if bt837.2.2.2.2.2.2.2.2.2.2.2.2.2.2 = true then (if (bt837.1 == bt817.2.1 && (bt837.2.1 == bt817.2.2.1 && (bt837.2.2.1 == bt817.2.2.2.1 && (bt837.2.2.2.1 == bt817.2.2.2.2.1 && (bt837.2.2.2.2.1 == bt817.2.2.2.2.2.1 && (bt837.2.2.2.2.2.1 == bt817.2.2.2.2.2.2.1 && (bt837.2.2.2.2.2.2.1 == bt817.2.2.2.2.2.2.2.1 && (bt837.2.2.2.2.2.2.2.1 == bt817.2.2.2.2.2.2.2.2.1 && (bt837.2.2.2.2.2.2.2.2.1 == bt817.2.2.2.2.2.2.2.2.2.1 && (bt837.2.2.2.2.2.2.2.2.2.1 == bt817.2.2.2.2.2.2.2.2.2.2.1 && (bt837.2.2.2.2.2.2.2.2.2.2.1 == bt817.2.2.2.2.2.2.2.2.2.2.2.1 && (bt837.2.2.2.2.2.2.2.2.2.2.2.1 == bt817.2.2.2.2.2.2.2.2.2.2.2.2.1 && (bt837.2.2.2.2.2.2.2.2.2.2.2.2.1 == bt817.2.2.2.2.2.2.2.2.2.2.2.2.2))))))))))))) = true then (if bt837.2.2.2.2.2.2.2.2.2.2.2.2.2.1 = (t834.length : Int) then (if 0 ≤ (bt817.1.length : Int) then (if (bt817.1.length : Int) ≤ (t834.length : Int) then ((laws_same.f (t834.take ((bt817.1.length : Int) : Int).toNat) bt817.1).bind fun t913 => (some t913)) else (none)) else (none)) else (some false)) else (some false)) else (some false)) else ((laws_same.f t834 bt817.1).bind fun t914 => (some t914))))))))))))))
theorem laws_FnPieceBytes.mono : ∀ a0 k, LeO (laws_FnPieceBytes.f k a0) (laws_FnPieceBytes.f (k + 1) a0) := by
  intro a0 k
  unfold laws_FnPieceBytes.f
  repeat' first
      | (with_reducible exact impl_GetPiece.mono _ _ _)
      | (with_reducible exact impl_PieceOk.mono _ _ _ _ _ _ _ _ _ _ _ _ _ _)
      | (with_reducible exact impl_PutPiece.mono _ _ _ _ _ _ _ _ _ _ _ _ _ _ _)
      | (with_reducible exact spec_DrawGetPiece.mono _ _)
      | (with_reducible exact spec_DrawPutPiece.mono _ _)
      | (with_reducible exact spec_GetPiece.mono _ _ _)
      | (with_reducible exact LeO.refl _)
      | (with_reducible exact LeO.none _)
      | (with_reducible refine LeO.ite ?_ ?_)
      | (with_reducible refine LeO.bind ?_ (fun _ => ?_))
      | exact impl_GetPiece.mono _ _ _
      | exact impl_PieceOk.mono _ _ _ _ _ _ _ _ _ _ _ _ _ _
      | exact impl_PutPiece.mono _ _ _ _ _ _ _ _ _ _ _ _ _ _ _
      | exact spec_DrawGetPiece.mono _ _
      | exact spec_DrawPutPiece.mono _ _
      | exact spec_GetPiece.mono _ _ _
      | exact LeO.none _
      | refine LeO.ite ?_ ?_
      | refine LeO.bind ?_ (fun _ => ?_)
def laws_FnPieceBytes.T9 : Bool × List (List Nat × List Nat) := (true, [([], []), ([], []), ([0, 1], [0, 1]), ([2], [2]), ([3], [3]), ([4, 3, 3], [3, 4]), ([5], [5]), ([6, 5, 5], [5, 6]), ([7, 5], [5, 7]), ([8, 7, 5], [5, 8]), ([9], [9]), ([9], [9]), ([10, 11, 9, 9], [9, 10, 11]), ([9], [9]), ([9], [9]), ([9], [9]), ([13, 14, 15, 9], [9, 13, 14, 15]), ([12, 16, 12, 9], [9, 12, 16]), ([17, 9], [9, 17]), ([9, 18, 5], [5, 9, 18]), ([5, 19, 3], [3, 5, 19]), ([3, 20], [3, 20]), ([21, 17], [21]), ([22], [22]), ([23, 22], [22, 23]), ([24, 22, 22], [22, 24]), ([25], [25]), ([25], [25]), ([26, 27, 25], [25, 26, 27]), ([25, 28, 22], [22, 25, 28]), ([22, 29], [22, 29])])
def laws_FnPieceBytes.B9 : List Nat := [0, 0, 3, 7, 15, 31, 63, 127, 255, 511, 1023, 1023, 4095, 1023, 1023, 1023, 58367, 131071, 262143, 524287, 1048575, 2097151, 4194303, 8388607, 16777215, 33554431, 67108863, 67108863, 268435455, 536870911, 1073741823]
theorem laws_FnPieceBytes.tab9 : rtab .any (opsOf Try.f4 9) = laws_FnPieceBytes.T9 := by kernel_rfl
theorem laws_FnPieceBytes.bits9 : waitsOk laws_FnPieceBytes.T9.2 laws_FnPieceBytes.B9 = true := by kernel_rfl
set_option maxHeartbeats 8000000 in
set_option maxRecDepth 100000 in
theorem laws_FnPieceBytes.calls (k : Nat) (A0 : Option Addr) (c0 : Nat) (l0 : List Int) (r : Bool) (w : World) (hr0 : Kd.C (Kd.int .u8) w A0 l0.length l0) (hc0 : l0.length ≤ c0) (hrt : r = true) (h : laws_FnPieceBytes.f k l0 = some r) :
    Calls Try.prog 4 #[.slice A0 l0.length c0] w fun e w' => e = .returned (.bool r) ∧ Below w.heap.size w w' := by
  have hu25 := Try.underlying25
  have HRT := Aside0.mk hrt
  clear hrt
  have HR0 := Aside0.mk hr0
  have HC0 := Aside0.mk hc0
  clear hr0 hc0
  have HB := Aside0.mk (Below.refl w.heap.size w)
  have H : ((laws_big.f l0).bind fun t816 => (if t816 = true then (some true) else ((spec_DrawPutPiece.f k l0).bind fun bt817 => ((impl_PutPiece.f k bt817.1 bt817.2.1 bt817.2.2.1 bt817.2.2.2.1 bt817.2.2.2.2.1 bt817.2.2.2.2.2.1 bt817.2.2.2.2.2.2.1 bt817.2.2.2.2.2.2.2.1 bt817.2.2.2.2.2.2.2.2.1 bt817.2.2.2.2.2.2.2.2.2.1 bt817.2.2.2.2.2.2.2.2.2.2.1 bt817.2.2.2.2.2.2.2.2.2.2.2.1 bt817.2.2.2.2.2.2.2.2.2.2.2.2.1 bt817.2.2.2.2.2.2.2.2.2.2.2.2.2).bind fun t834 => ((impl_GetPiece.f k t834 (bt817.1.length : Int)).bind fun bt837 => ((spec_DrawGetPiece.f k l0).bind fun bt853 => ((impl_GetPiece.f k bt853.1 bt853.2).bind fun bt857 => ((spec_GetPiece.f k bt853.1 bt853.2).bind fun bt873 => (if (bt857.2.2.2.2.2.2.2.2.2.2.2.2.2.2 != bt873.2.2.2.2.2.2.2.2.2.2.2.2.2.2) = true then (some false) else (if bt857.2.2.2.2.2.2.2.2.2.2.2.2.2.2 = true then ((impl_PieceOk.f k bt857.1 bt857.2.1 bt857.2.2.1 bt857.2.2.2.1 bt857.2.2.2.2.1 bt857.2.2.2.2.2.1 bt857.2.2.2.2.2.2.1 bt857.2.2.2.2.2.2.2.1 bt857.2.2.2.2.2.2.2.2.1 bt857.2.2.2.2.2.2.2.2.2.1 bt857.2.2.2.2.2.2.2.2.2.2.1 bt857.2.2.2.2.2.2.2.2.2.2.2.1 bt857.2.2.2.2.2.2.2.2.2.2.2.2.1).bind fun t889 => (if t889 = true then ((impl_PutPiece.f k (([] : List Int)) bt857.1 bt857.2.1 bt857.2.2.1 bt857.2.2.2.1 bt857.2.2.2.2.1 bt857.2.2.2.2.2.1 bt857.2.2.2.2.2.2.1 bt857.2.2.2.2.2.2.2.1 bt857.2.2.2.2.2.2.2.2.1 bt857.2.2.2.2.2.2.2.2.2.1 bt857.2.2.2.2.2.2.2.2.2.2.1 bt857.2.2.2.2.2.2.2.2.2.2.2.1 bt857.2.2.2.2.2.2.2.2.2.2.2.2.1).bind fun t893 => (if 0 ≤ bt853.2 then (if bt853.2 ≤ bt857.2.2.2.2.2.2.2.2.2.2.2.2.2.1 then (if bt857.2.2.2.2.2.2.2.2.2.2.2.2.2.1 ≤ (bt853.1.length : Int) then ((laws_same.f t893 ((bt853.1.take (bt857.2.2.2.2.2.2.2.2.2.2.2.2.2.1 : Int).toNat).drop (bt853.2 : Int).toNat)).bind fun t900 => (if t900 = true then ((impl_PieceOk.f k bt817.2.1 bt817.2.2.1 bt817.2.2.2.1 bt817.2.2.2.2.1 bt817.2.2.2.2.2.1 bt817.2.2.2.2.2.2.1 bt817.2.2.2.2.2.2.2.1 bt817.2.2.2.2.2.2.2.2.1 bt817.2.2.2.2.2.2.2.2.2.1 bt817.2.2.2.2.2.2.2.2.2.2.1 bt817.2.2.2.2.2.2.2.2.2.2.2.1 bt817.2.2.2.2.2.2.2.2.2.2.2.2.1 bt817.2.2.2.2.2.2.2.2.2.2.2.2.2).bind fun t901 => (if t901 = true then (if bt837.2.2.2.2.2.2.2.2.2.2.2.2.2.2 = true then (if (bt837.1 == bt817.2.1 && (bt837.2.1 == bt817.2.2.1 && (bt837.2.2.1 == bt817.2.2.2.1 && (bt837.2.2.2.1 == bt817.2.2.2.2.1 && (bt837.2.2.2.2.1 == bt817.2.2.2.2.2.1 && (bt837.2.2.2.2.2.1 == bt817.2.2.2.2.2.2.1 && (bt837.2.2.2.2.2.2.1 == bt817.2.2.2.2.2.2.2.1 && (bt837.2.2.2.2.2.2.2.1 == bt817.2.2.2.2.2.2.2.2.1 && (bt837.2.2.2.2.2.2.2.2.1 == bt817.2.2.2.2.2.2.2.2.2.1 && (bt837.2.2.2.2.2.2.2.2.2.1 == bt817.2.2.2.2.2.2.2.2.2.2.1 && (bt837.2.2.2.2.2.2.2.2.2.2.1 == bt817.2.2.2.2.2.2.2.2.2.2.2.1 && (bt837.2.2.2.2.2.2.2.2.2.2.2.1 == bt817.2.2.2.2.2.2.2.2.2.2.2.2.1 && (bt837.2.2.2.2.2.2.2.2.2.2.2.2.1 == bt817.2.2.2.2.2.2.2.2.2.2.2.2.2))))))))))))) = true then (if bt837.2.2.2.2.2.2.2.2.2.2.2.2.2.1 = (t834.length : Int) then (if 0 ≤ (bt817.1.length : Int) then (if (bt817.1.length : Int) ≤ (t834.length : Int) then ((laws_same.f (t834.take ((bt817.1.length : Int) : Int).toNat) bt817.1).bind fun t906 => (some t906)) else (none)) else (none)) else (some false)) else (some false)) else (some false)) else ((laws_same.f t834 bt817.1).bind fun t907 => (some t907)))) else (some false))) else (none)) else (none)) else (none))) else (some false))) else (if (!(bt857.1 == 0) || (!(bt857.2.1 == 0) || (!(bt857.2.2.1 == 0) || (!(bt857.2.2.2.1 == 0) || (!(bt857.2.2.2.2.1 == 0) || (!(bt857.2.2.2.2.2.1 == 0) || (!(bt857.2.2.2.2.2.2.1 == 0) || (!(bt857.2.2.2.2.2.2.2.1 == 0) || (!(bt857.2.2.2.2.2.2.2.2.1 == 0) || (!(bt857.2.2.2.2.2.2.2.2.2.1 == 0) || (!(bt857.2.2.2.2.2.2.2.2.2.2.1 == 0) || (bt857.2.2.2.2.2.2.2.2.2.2.2.1 || (bt857.2.2.2.2.2.2.2.2.2.2.2.2.1))))))))))))) = true then (some false) else ((impl_PieceOk.f k bt817.2.1 bt817.2.2.1 bt817.2.2.2.1 bt817.2.2.2.2.1 bt817.2.2.2.2.2.1 bt817.2.2.2.2.2.2.1 bt817.2.2.2.2.2.2.2.1 bt817.2.2.2.2.2.2.2.2.1 bt817.2.2.2.2.2.2.2.2.2.1 bt817.2.2.2.2.2.2.2.2.2.2.1 bt817.2.2.2.2.2.2.2.2.2.2.2.1 bt817.2.2.2.2.2.2.2.2.2.2.2.2.1 bt817.2.2.2.2.2.2.2.2.2.2.2.2.2).bind fun t908 => (if t908 = true then (if bt837.2.2.2.2.2.2.2.2.2.2.2.2.2.2 = true then (if (bt837.1 == bt817.2.1 && (bt837.2.1 == bt817.2.2.1 && (bt837.2.2.1 == bt817.2.2.2.1 && (bt837.2.2.2.1 == bt817.2.2.2.2.1 && (bt837.2.2.2.2.1 == bt817.2.2.2.2.2.1 && (bt837.2.2.2.2.2.1 == bt817.2.2.2.2.2.2.1 && (bt837.2.2.2.2.2.2.1 == bt817.2.2.2.2.2.2.2.1 && (bt837.2.2.2.2.2.2.2.1 == bt817.2.2.2.2.2.2.2.2.1 && (bt837.2.2.2.2.2.2.2.2.1 == bt817.2.2.2.2.2.2.2.2.2.1 && (bt837.2.2.2.2.2.2.2.2.2.1 == bt817.2.2.2.2.2.2.2.2.2.2.1 && (bt837.2.2.2.2.2.2.2.2.2.2.1 == bt817.2.2.2.2.2.2.2.2.2.2.2.1 && (bt837.2.2.2.2.2.2.2.2.2.2.2.1 == bt817.2.2.2.2.2.2.2.2.2.2.2.2.1 && (bt837.2.2.2.2.2.2.2.2.2.2.2.2.1 == bt817.2.2.2.2.2.2.2.2.2.2.2.2.2))))))))))))) = true then (if bt837.2.2.2.2.2.2.2.2.2.2.2.2.2.1 = (t834.length : Int) then (if 0 ≤ (bt817.1.length : Int) then (if (bt817.1.length : Int) ≤ (t834.length : Int) then ((laws_same.f (t834.take ((bt817.1.length : Int) : Int).toNat) bt817.1).bind fun t913 => (some t913)) else (none)) else (none)) else (some false)) else (some false)) else (some false)) else ((laws_same.f t834 bt817.1).bind fun t914 => (some t914))))))))))))))) = some r := h
  clear h
  replace H := Option.bind_eq_some_iff.mp H
  obtain ⟨t816, A20, H⟩ := H
  (try dsimp only at H)
  have A2 := Aside0.mk A20
  clear A20
  by_cases c3 : t816 = true
  · subst c3
    have H1 : (some true) = some r := by rw [if_pos rfl] at H; exact H
    clear H
    have H := H1
    clear H1
    obtain rfl := Option.some.inj H
    go_enter Try.func4, Try.ntmps4
    go_wp2_with (first | ((with_reducible refine gate_callee (f := 12) rfl ?_); refine goesL_ (some 18) rfl rfl Try.func12 (by kernel_rfl) rfl #[.slice A0 l0.length c0] rfl Z24_55 ?_; (with_reducible refine (laws_big.calls _ _ l0 true _ ?side1 ?side2 A2.out).mono ?_); (case side1 => repeat (first | exact HR0.out | (with_reducible refine Kd.C_alloc ?_ _) | (with_reducible refine Kd.C_drewN ?_ _) | (with_reducible refine Kd.C_drew ?_))); (case side2 => exact HC0.out); rintro e w' ⟨rfl, ⟨nd, rfl⟩⟩; refine ⟨_, rfl, ?_⟩))
    go_ret
    exact ⟨Z24_69, (by repeat (first | (with_reducible first | exact HB.out | apply below_alloc | apply pw_below_drewN | apply below_drew1) | exact HB.out))⟩
  replace c3 := Bool.eq_false_iff.mpr c3
  subst c3
  rw [if_neg (show ¬ (false = true) by decide)] at H
  replace H := Option.bind_eq_some_iff.mp H
  obtain ⟨⟨t817, t820, t821, t822, t823, t824, t825, t826, t827, t828, t829, t830, t831, t832⟩, A40, H⟩ := H
  (try dsimp only at H)
  have A4 := Aside0.mk A40
  clear A40
  replace H := Option.bind_eq_some_iff.mp H
  obtain ⟨t834, A50, H⟩ := H
  (try dsimp only at H)
  have A5 := Aside0.mk A50
  clear A50
  replace H := Option.bind_eq_some_iff.mp H
  obtain ⟨⟨t837, t838, t839, t840, t841, t842, t843, t844, t845, t846, t847, t848, t849, t850, t851⟩, A60, H⟩ := H
  (try dsimp only at H)
  have A6 := Aside0.mk A60
  clear A60
  replace H := Option.bind_eq_some_iff.mp H
  obtain ⟨⟨t853, t854⟩, A70, H⟩ := H
  (try dsimp only at H)
  have A7 := Aside0.mk A70
  clear A70
  replace H := Option.bind_eq_some_iff.mp H
  obtain ⟨⟨t857, t858, t859, t860, t861, t862, t863, t864, t865, t866, t867, t868, t869, t870, t871⟩, A80, H⟩ := H
  (try dsimp only at H)
  have A8 := Aside0.mk A80
  clear A80
  replace H := Option.bind_eq_some_iff.mp H
  obtain ⟨⟨t873, t874, t875, t876, t877, t878, t879, t880, t881, t882, t883, t884, t885, t886, t887⟩, A90, H⟩ := H
  (try dsimp only at H)
  have A9 := Aside0.mk A90
  clear A90
  by_cases c10 : (t871 != t887) = true
  · rw [if_pos c10] at H
    have c10b0 : (t871 != t887) = true := c10
    (try (have c10b1 : decide (t871 = t887) = false := by simpa using c10))
    (try (have c10b2 : (t871 == t887) = false := by simpa using c10))
    (try (have c10b3 : ¬ (t871 = t887) := by simpa using c10))
    clear c10
    exact absurd (H.trans (congrArg some HRT.out)) (by simp)
  rw [if_neg c10] at H
  have c10b0 : (t871 != t887) = false := by simpa using c10
  (try (have c10b1 : decide (t871 = t887) = true := by simpa using c10))
  (try (have c10b2 : (t871 == t887) = true := by simpa using c10))
  clear c10
  by_cases c11 : t871 = true
  rotate_left
  · replace c11 := Bool.eq_false_iff.mpr c11
    subst c11
    rw [if_neg (show ¬ (false = true) by decide)] at H
    by_cases c100 : (!(t857 == 0) || (!(t858 == 0) || (!(t859 == 0) || (!(t860 == 0) || (!(t861 == 0) || (!(t862 == 0) || (!(t863 == 0) || (!(t864 == 0) || (!(t865 == 0) || (!(t866 == 0) || (!(t867 == 0) || (t868 || (t869))))))))))))) = true
    · rw [if_pos c100] at H
      exact absurd (H.trans (congrArg some HRT.out)) (by simp)
    rw [if_neg c100] at H
    have c100b0 : (!(t857 == 0) || (!(t858 == 0) || (!(t859 == 0) || (!(t860 == 0) || (!(t861 == 0) || (!(t862 == 0) || (!(t863 == 0) || (!(t864 == 0) || (!(t865 == 0) || (!(t866 == 0) || (!(t867 == 0) || (t868 || (t869))))))))))))) = false := by simpa using c100
    clear c100
    replace H := Option.bind_eq_some_iff.mp H
    obtain ⟨t908, A1010, H⟩ := H
    (try dsimp only at H)
    have A101 := Aside0.mk A1010
    clear A1010
    by_cases c102 : t908 = true
    rotate_left
    · replace c102 := Bool.eq_false_iff.mpr c102
      subst c102
      have H1 : ((laws_same.f t834 t817).bind fun t914 => (some t914)) = some r := by rw [if_neg (show ¬ (false = true) by decide)] at H; exact H
      clear H
      have H := H1
      clear H1
      replace H := Option.bind_eq_some_iff.mp H
      obtain ⟨t914, A1390, H⟩ := H
      replace H : (some t914) = some r := H
      have A139 := Aside0.mk A1390
      clear A1390
      obtain rfl := Option.some.inj H
      go_enter Try.func4, Try.ntmps4
      try go_wp2_with (first | ((with_reducible refine gate_callee (f := 12) rfl ?_); refine goesL_ (some 18) rfl rfl Try.func12 (by kernel_rfl) rfl #[.slice A0 l0.length c0] rfl Z24_55 ?_; (with_reducible refine (laws_big.calls _ _ l0 false _ ?side1 ?side2 A2.out).mono ?_); (case side1 => repeat (first | exact HR0.out | (with_reducible refine Kd.C_alloc ?_ _) | (with_reducible refine Kd.C_drewN ?_ _) | (with_reducible refine Kd.C_drew ?_))); (case side2 => exact HC0.out); rintro e w' ⟨rfl, ⟨nd, rfl⟩⟩; refine ⟨_, rfl, ?_⟩) | ((with_reducible refine gate_callee (f := 29) rfl ?_); refine goesL_ (some 21) rfl rfl Try.func29 (by kernel_rfl) rfl #[.slice A0 l0.length c0] rfl Z24_55 ?_; (with_reducible refine (spec_DrawPutPiece.calls k _ _ l0 t817 t820 t821 t822 t823 t824 t825 t826 t827 t828 t829 t830 t831 t832 _ ?side1 ?side2 A4.out).mono ?_); (case side1 => repeat (first | exact HR0.out | (with_reducible refine Kd.C_alloc ?_ _) | (with_reducible refine Kd.C_drewN ?_ _) | (with_reducible refine Kd.C_drew ?_))); (case side2 => exact HC0.out); rintro e w140 ⟨v818, rfl, ho0, hb⟩; refine ⟨_, rfl, ?_⟩; have n0_ := Aside0.mk Z24_53; have n1_ := Aside0.mk Z24_54; clear HB; have HO819 := n0_; have HB := n1_; clear n0_ n1_; (try clear hb); (try clear hb2); (try clear hk); (try clear hi); (try clear ho0)) | ((with_reducible refine gate_dst (N := 4) rfl ?_); (try (refine gate_guard (by rfl) ?_; dsimp only)); refine box_event ?hg (N := 4) ?hd (cs := #[.int .i64 0, .int .i64 0, .int .i64 0, .int .i64 0, .int .i64 0, .int .i64 0, .int .i64 0, .int .i64 0, .int .i64 0, .int .i64 0, .int .i64 0, .bool false, .bool false]) (t := 25) ?hr ?_; (case hd => rfl); (case hg => rfl); (case hr => first | (go_simp; done) | (go_simp; rfl)); intro gb833 hg w141 hbox hb; have n0_ := Aside0.mk Z24_60; have n1_ := Aside0.mk Z24_54; have n2_ := Aside0.mk (hbox); have n3_ := Aside0.mk Z24_51; have n4_ := Aside0.mk Z24_51; clear HO819; clear HB; have HO819 := n0_; have HB := n1_; have BK833 := n2_; have GW833 := n3_; have GE833 := n4_; clear n0_ n1_ n2_ n3_ n4_; clear hb hbox hg; obtain ⟨⟨hcz142_0, hcz142_1, hcz142_2, hcz142_3, hcz142_4, hcz142_5, hcz142_6, hcz142_7, hcz142_8, hcz142_9, hcz142_10, hcz142_11, hcz142_12⟩, hfz142_0, hfz142_1, hfz142_2, hfz142_3, hfz142_4, hfz142_5, hfz142_6, hfz142_7, hfz142_8, hfz142_9, hfz142_10, hfz142_11, hfz142_12⟩ := C24_13 BK833.out; obtain ⟨Ao143, co143, eo143⟩ := Kd.R_slice HO819.out; subst eo143) | ((with_reducible refine gate_callee (f := 30) rfl ?_); refine goesL_ (some 26) rfl rfl Try.func30 (by kernel_rfl) rfl #[.slice Ao143 t817.length co143, .agg #[.int .i64 t820, .int .i64 t821, .int .i64 t822, .int .i64 t823, .int .i64 t824, .int .i64 t825, .int .i64 t826, .int .i64 t827, .int .i64 t828, .int .i64 t829, .int .i64 t830, .bool t831, .bool t832]] rfl Z24_55 ?_; (with_reducible refine (impl_PutPiece.calls k _ _ t817 t820 t821 t822 t823 t824 t825 t826 t827 t828 t829 t830 t831 t832 t834 _ ?side1 ?side2 A5.out).mono ?_); (case side1 => refine (Kd.R_reads' (e := 5) (base := w.heap.size) (ok := fun k_ => True) (n := t817.length) (c := co143) ?_).2.2; exact Z24_18); (case side2 => exact (Kd.R_reads' HO819.out).2.1); rintro e w144 ⟨v835, rfl, ho0, hb⟩; refine ⟨_, rfl, ?_⟩; have n0_ := Aside0.mk Z24_9; have n1_ := Aside0.mk Z24_8; have n2_ := Aside0.mk Z24_21; have n3_ := Aside0.mk Z24_52; clear HO819; clear BK833; clear HB; have HO819 := n0_; have HO836 := n1_; have BK833 := n2_; have HB := n3_; clear n0_ n1_ n2_ n3_; (try clear hb); (try clear hb2); (try clear hk); (try clear hi); (try clear ho0); obtain ⟨Ao145, co145, eo145⟩ := Kd.R_slice HO836.out; subst eo145) | ((with_reducible refine gate_callee (f := 31) rfl ?_); refine goesL_ (some 31) rfl rfl Try.func31 (by kernel_rfl) rfl #[.slice Ao145 t834.length co145, .int .i64 (t817.length : Int)] rfl Z24_55 ?_; (with_reducible refine (impl_GetPiece.calls k _ _ t834 (t817.length : Int) t837 t838 t839 t840 t841 t842 t843 t844 t845 t846 t847 t848 t849 t850 t851 _ ?side1 ?side2 A6.out).mono ?_); (case side1 => repeat (first | exact (Kd.R_reads' HO836.out).2.2 | (with_reducible refine Kd.C_alloc ?_ _) | (with_reducible refine Kd.C_drewN ?_ _) | (with_reducible refine Kd.C_drew ?_))); (case side2 => exact (Kd.R_reads' HO836.out).2.1); rintro e w146 ⟨rfl, hb⟩; refine ⟨_, rfl, ?_⟩; have n0_ := Aside0.mk Z24_60; have n1_ := Aside0.mk Z24_61; have n2_ := Aside0.mk Z24_36; have n3_ := Aside0.mk Z24_52; clear HO819; clear HO836; clear BK833; clear HB; have HO819 := n0_; have HO836 := n1_; have BK833 := n2_; have HB := n3_; clear n0_ n1_ n2_ n3_; (try clear hb); (try clear hb2); (try clear hk); (try clear hi); clear A6) | ((with_reducible refine gate_dst (N := 6) rfl ?_); (try (refine gate_guard (by rfl) ?_; dsimp only)); refine box_event ?hg (N := 6) ?hd (cs := #[.int .i64 0, .int .i64 0, .int .i64 0, .int .i64 0, .int .i64 0, .int .i64 0, .int .i64 0, .int .i64 0, .int .i64 0, .int .i64 0, .int .i64 0, .bool false, .bool false]) (t := 25) ?hr ?_; (case hd => rfl); (case hg => rfl); (case hr => first | (go_simp; done) | (go_simp; rfl)); intro gb852 hg w147 hbox hb; have n0_ := Aside0.mk Z24_60; have n1_ := Aside0.mk Z24_61; have n2_ := Aside0.mk Z24_36; have n3_ := Aside0.mk Z24_52; have n4_ := Aside0.mk (hbox); have n5_ := Aside0.mk Z24_46; have n6_ := Aside0.mk Z24_46; have n7_ := Aside0.mk Z24_24; have n8_ := Aside0.mk Z24_25; clear HO819; clear HO836; clear BK833; clear HB; have HO819 := n0_; have HO836 := n1_; have BK833 := n2_; have HB := n3_; have BK852 := n4_; have GW852 := n5_; have GE852 := n6_; have NB833_852 := n7_; have NB852_833 := n8_; clear n0_ n1_ n2_ n3_ n4_ n5_ n6_ n7_ n8_; clear hb hbox hg; have hnb148 := NB852_833.out; have hnc148 := NB833_852.out; obtain ⟨⟨hcz149_0, hcz149_1, hcz149_2, hcz149_3, hcz149_4, hcz149_5, hcz149_6, hcz149_7, hcz149_8, hcz149_9, hcz149_10, hcz149_11, hcz149_12⟩, hfz149_0, hfz149_1, hfz149_2, hfz149_3, hfz149_4, hfz149_5, hfz149_6, hfz149_7, hfz149_8, hfz149_9, hfz149_10, hfz149_11, hfz149_12⟩ := C24_13 BK852.out) | ((with_reducible refine gate_callee (f := 32) rfl ?_); refine goesL_ (some 37) rfl rfl Try.func32 (by kernel_rfl) rfl #[.slice A0 l0.length c0] rfl Z24_55 ?_; (with_reducible refine (spec_DrawGetPiece.calls k _ _ l0 t853 t854 _ ?side1 ?side2 A7.out).mono ?_); (case side1 => exact Kd.C_below HR0.out Z24_49); (case side2 => exact HC0.out); rintro e w150 ⟨v855, rfl, ho0, hb⟩; refine ⟨_, rfl, ?_⟩; have n0_ := Aside0.mk Z24_10; have n1_ := Aside0.mk Z24_11; have n2_ := Aside0.mk Z24_1; have n3_ := Aside0.mk Z24_2; have n4_ := Aside0.mk Z24_22; have n5_ := Aside0.mk Z24_47; clear HO819; clear HO836; clear BK833; clear BK852; clear HB; have HO819 := n0_; have HO836 := n1_; have HO856 := n2_; have BK833 := n3_; have BK852 := n4_; have HB := n5_; clear n0_ n1_ n2_ n3_ n4_ n5_; (try clear hb); (try clear hb2); (try clear hk); (try clear hi); (try clear ho0); obtain ⟨Ao151, co151, eo151⟩ := Kd.R_slice HO856.out; subst eo151) | ((with_reducible refine gate_callee (f := 31) rfl ?_); refine goesL_ (some 43) rfl rfl Try.func31 (by kernel_rfl) rfl #[.slice Ao151 t853.length co151, .int .i64 t854] rfl Z24_55 ?_; (with_reducible refine (impl_GetPiece.calls k _ _ t853 t854 t857 t858 t859 t860 t861 t862 t863 t864 t865 t866 t867 t868 t869 t870 false _ ?side1 ?side2 A8.out).mono ?_); (case side1 => repeat (first | exact (Kd.R_reads' HO856.out).2.2 | (with_reducible refine Kd.C_alloc ?_ _) | (with_reducible refine Kd.C_drewN ?_ _) | (with_reducible refine Kd.C_drew ?_))); (case side2 => exact (Kd.R_reads' HO856.out).2.1); rintro e w152 ⟨rfl, hb⟩; refine ⟨_, rfl, ?_⟩; have n0_ := Aside0.mk Z24_60; have n1_ := Aside0.mk Z24_61; have n2_ := Aside0.mk Z24_62; have n3_ := Aside0.mk Z24_36; have n4_ := Aside0.mk Z24_37; have n5_ := Aside0.mk Z24_47; clear HO819; clear HO836; clear HO856; clear BK833; clear BK852; clear HB; have HO819 := n0_; have HO836 := n1_; have HO856 := n2_; have BK833 := n3_; have BK852 := n4_; have HB := n5_; clear n0_ n1_ n2_ n3_ n4_ n5_; (try clear hb); (try clear hb2); (try clear hk); (try clear hi); clear A8) | ((with_reducible refine gate_dst (N := 11) rfl ?_); (try (refine gate_guard (by rfl) ?_; dsimp only)); refine box_event ?hg (N := 11) ?hd (cs := #[.int .i64 0, .int .i64 0, .int .i64 0, .int .i64 0, .int .i64 0, .int .i64 0, .int .i64 0, .int .i64 0, .int .i64 0, .int .i64 0, .int .i64 0, .bool false, .bool false]) (t := 25) ?hr ?_; (case hd => rfl); (case hg => rfl); (case hr => first | (go_simp; done) | (go_simp; rfl)); intro gb872 hg w153 hbox hb; have n0_ := Aside0.mk Z24_60; have n1_ := Aside0.mk Z24_61; have n2_ := Aside0.mk Z24_62; have n3_ := Aside0.mk Z24_36; have n4_ := Aside0.mk Z24_37; have n5_ := Aside0.mk Z24_47; have n6_ := Aside0.mk (hbox); have n7_ := Aside0.mk Z24_43; have n8_ := Aside0.mk Z24_43; have n9_ := Aside0.mk Z24_26; have n10_ := Aside0.mk Z24_27; have n11_ := Aside0.mk Z24_28; have n12_ := Aside0.mk Z24_29; clear HO819; clear HO836; clear HO856; clear BK833; clear BK852; clear HB; have HO819 := n0_; have HO836 := n1_; have HO856 := n2_; have BK833 := n3_; have BK852 := n4_; have HB := n5_; have BK872 := n6_; have GW872 := n7_; have GE872 := n8_; have NB833_872 := n9_; have NB872_833 := n10_; have NB852_872 := n11_; have NB872_852 := n12_; clear n0_ n1_ n2_ n3_ n4_ n5_ n6_ n7_ n8_ n9_ n10_ n11_ n12_; clear hb hbox hg; have hnb154 := NB872_833.out; have hnc154 := NB833_872.out; have hnb155 := NB872_852.out; have hnc155 := NB852_872.out; obtain ⟨⟨hcz156_0, hcz156_1, hcz156_2, hcz156_3, hcz156_4, hcz156_5, hcz156_6, hcz156_7, hcz156_8, hcz156_9, hcz156_10, hcz156_11, hcz156_12⟩, hfz156_0, hfz156_1, hfz156_2, hfz156_3, hfz156_4, hfz156_5, hfz156_6, hfz156_7, hfz156_8, hfz156_9, hfz156_10, hfz156_11, hfz156_12⟩ := C24_13 BK872.out) | ((with_reducible refine gate_callee (f := 33) rfl ?_); refine goesL_ (some 50) rfl rfl Try.func33 (by kernel_rfl) rfl #[.slice Ao151 t853.length co151, .int .i64 t854] rfl Z24_55 ?_; (with_reducible refine (spec_GetPiece.calls k _ _ t853 t854 t873 t874 t875 t876 t877 t878 t879 t880 t881 t882 t883 t884 t885 t886 t887 _ ?side1 ?side2 A9.out).mono ?_); (case side1 => refine (Kd.R_reads' (e := 5) (base := w.heap.size) (ok := fun k_ => ((True ∧ some k_ ≠ (.slice Ao143 t817.length co143 : Value).ownBlock) ∧ some k_ ≠ (.slice Ao145 t834.length co145 : Value).ownBlock)) (n := t853.length) (c := co151) ?_).2.2; exact Z24_19); (case side2 => exact (Kd.R_reads' HO856.out).2.1); rintro e w157 ⟨rfl, hb⟩; refine ⟨_, rfl, ?_⟩; have n0_ := Aside0.mk Z24_12; have n1_ := Aside0.mk Z24_13; have n2_ := Aside0.mk Z24_14; have n3_ := Aside0.mk Z24_3; have n4_ := Aside0.mk Z24_4; have n5_ := Aside0.mk Z24_23; have n6_ := Aside0.mk Z24_44; clear HO819; clear HO836; clear HO856; clear BK833; clear BK852; clear BK872; clear HB; have HO819 := n0_; have HO836 := n1_; have HO856 := n2_; have BK833 := n3_; have BK852 := n4_; have BK872 := n5_; have HB := n6_; clear n0_ n1_ n2_ n3_ n4_ n5_ n6_; (try clear hb); (try clear hb2); (try clear hk); (try clear hi)) | ((with_reducible refine gate_dst (N := 14) rfl ?_); (try (refine gate_guard (by rfl) ?_; dsimp only)); refine box_event ?hg (N := 14) ?hd (cs := #[.int .i64 0, .int .i64 0, .int .i64 0, .int .i64 0, .int .i64 0, .int .i64 0, .int .i64 0, .int .i64 0, .int .i64 0, .int .i64 0, .int .i64 0, .bool false, .bool false]) (t := 25) ?hr ?_; (case hd => rfl); (case hg => rfl); (case hr => first | (go_simp; done) | (go_simp; rfl)); intro gb888 hg w158 hbox hb; have n0_ := Aside0.mk Z24_60; have n1_ := Aside0.mk Z24_61; have n2_ := Aside0.mk Z24_62; have n3_ := Aside0.mk Z24_36; have n4_ := Aside0.mk Z24_37; have n5_ := Aside0.mk Z24_38; have n6_ := Aside0.mk Z24_44; have n7_ := Aside0.mk (hbox); have n8_ := Aside0.mk Z24_40; have n9_ := Aside0.mk Z24_40; have n10_ := Aside0.mk Z24_30; have n11_ := Aside0.mk Z24_31; have n12_ := Aside0.mk Z24_32; have n13_ := Aside0.mk Z24_33; have n14_ := Aside0.mk Z24_34; have n15_ := Aside0.mk Z24_35; clear HO819; clear HO836; clear HO856; clear BK833; clear BK852; clear BK872; clear HB; have HO819 := n0_; have HO836 := n1_; have HO856 := n2_; have BK833 := n3_; have BK852 := n4_; have BK872 := n5_; have HB := n6_; have BK888 := n7_; have GW888 := n8_; have GE888 := n9_; have NB833_888 := n10_; have NB888_833 := n11_; have NB852_888 := n12_; have NB888_852 := n13_; have NB872_888 := n14_; have NB888_872 := n15_; clear n0_ n1_ n2_ n3_ n4_ n5_ n6_ n7_ n8_ n9_ n10_ n11_ n12_ n13_ n14_ n15_; clear hb hbox hg; have hnb159 := NB888_833.out; have hnc159 := NB833_888.out; have hnb160 := NB888_852.out; have hnc160 := NB852_888.out; have hnb161 := NB888_872.out; have hnc161 := NB872_888.out; obtain ⟨⟨hcz162_0, hcz162_1, hcz162_2, hcz162_3, hcz162_4, hcz162_5, hcz162_6, hcz162_7, hcz162_8, hcz162_9, hcz162_10, hcz162_11, hcz162_12⟩, hfz162_0, hfz162_1, hfz162_2, hfz162_3, hfz162_4, hfz162_5, hfz162_6, hfz162_7, hfz162_8, hfz162_9, hfz162_10, hfz162_11, hfz162_12⟩ := C24_13 BK888.out))
      have n0_ : Aside0 (Kd.R (Kd.int .u8) 5 (((((((((((((w158.setCell ⟨gb888, 0, none⟩ (.int .i64 t873)).setCell ⟨gb888, 1, none⟩ (.int .i64 t874)).setCell ⟨gb888, 2, none⟩ (.int .i64 t875)).setCell ⟨gb888, 3, none⟩ (.int .i64 t876)).setCell ⟨gb888, 4, none⟩ (.int .i64 t877)).setCell ⟨gb888, 5, none⟩ (.int .i64 t878)).setCell ⟨gb888, 6, none⟩ (.int .i64 t879)).setCell ⟨gb888, 7, none⟩ (.int .i64 t880)).setCell ⟨gb888, 8, none⟩ (.int .i64 t881)).setCell ⟨gb888, 9, none⟩ (.int .i64 t882)).setCell ⟨gb888, 10, none⟩ (.int .i64 t883)).setCell ⟨gb888, 11, none⟩ (.bool t884)).setCell ⟨gb888, 12, none⟩ (.bool t885)) w.heap.size (fun k_ => some k_ ≠ (.slice Ao145 t834.length co145 : Value).ownBlock ∧ some k_ ≠ (.slice Ao151 t853.length co151 : Value).ownBlock) (.slice Ao143 t817.length co143) t817) := ⟨Z24_15⟩
      have n1_ : Aside0 (Kd.R (Kd.int .u8) 5 (((((((((((((w158.setCell ⟨gb888, 0, none⟩ (.int .i64 t873)).setCell ⟨gb888, 1, none⟩ (.int .i64 t874)).setCell ⟨gb888, 2, none⟩ (.int .i64 t875)).setCell ⟨gb888, 3, none⟩ (.int .i64 t876)).setCell ⟨gb888, 4, none⟩ (.int .i64 t877)).setCell ⟨gb888, 5, none⟩ (.int .i64 t878)).setCell ⟨gb888, 6, none⟩ (.int .i64 t879)).setCell ⟨gb888, 7, none⟩ (.int .i64 t880)).setCell ⟨gb888, 8, none⟩ (.int .i64 t881)).setCell ⟨gb888, 9, none⟩ (.int .i64 t882)).setCell ⟨gb888, 10, none⟩ (.int .i64 t883)).setCell ⟨gb888, 11, none⟩ (.bool t884)).setCell ⟨gb888, 12, none⟩ (.bool t885)) w.heap.size (fun k_ => some k_ ≠ (.slice Ao143 t817.length co143 : Value).ownBlock ∧ some k_ ≠ (.slice Ao151 t853.length co151 : Value).ownBlock) (.slice Ao145 t834.length co145) t834) := ⟨Z24_16⟩
      have n2_ : Aside0 (Kd.R (Kd.int .u8) 5 (((((((((((((w158.setCell ⟨gb888, 0, none⟩ (.int .i64 t873)).setCell ⟨gb888, 1, none⟩ (.int .i64 t874)).setCell ⟨gb888, 2, none⟩ (.int .i64 t875)).setCell ⟨gb888, 3, none⟩ (.int .i64 t876)).setCell ⟨gb888, 4, none⟩ (.int .i64 t877)).setCell ⟨gb888, 5, none⟩ (.int .i64 t878)).setCell ⟨gb888, 6, none⟩ (.int .i64 t879)).setCell ⟨gb888, 7, none⟩ (.int .i64 t880)).setCell ⟨gb888, 8, none⟩ (.int .i64 t881)).setCell ⟨gb888, 9, none⟩ (.int .i64 t882)).setCell ⟨gb888, 10, none⟩ (.int .i64 t883)).setCell ⟨gb888, 11, none⟩ (.bool t884)).setCell ⟨gb888, 12, none⟩ (.bool t885)) w.heap.size (fun k_ => some k_ ≠ (.slice Ao143 t817.length co143 : Value).ownBlock ∧ some k_ ≠ (.slice Ao145 t834.length co145 : Value).ownBlock) (.slice Ao151 t853.length co151) t853) := ⟨Z24_17⟩
      have n3_ : Aside0 ((((((((((((((w158.setCell ⟨gb888, 0, none⟩ (.int .i64 t873)).setCell ⟨gb888, 1, none⟩ (.int .i64 t874)).setCell ⟨gb888, 2, none⟩ (.int .i64 t875)).setCell ⟨gb888, 3, none⟩ (.int .i64 t876)).setCell ⟨gb888, 4, none⟩ (.int .i64 t877)).setCell ⟨gb888, 5, none⟩ (.int .i64 t878)).setCell ⟨gb888, 6, none⟩ (.int .i64 t879)).setCell ⟨gb888, 7, none⟩ (.int .i64 t880)).setCell ⟨gb888, 8, none⟩ (.int .i64 t881)).setCell ⟨gb888, 9, none⟩ (.int .i64 t882)).setCell ⟨gb888, 10, none⟩ (.int .i64 t883)).setCell ⟨gb888, 11, none⟩ (.bool t884)).setCell ⟨gb888, 12, none⟩ (.bool t885)).heap[gb833]? = some (.cells #[.int .i64 t820, .int .i64 t821, .int .i64 t822, .int .i64 t823, .int .i64 t824, .int .i64 t825, .int .i64 t826, .int .i64 t827, .int .i64 t828, .int .i64 t829, .int .i64 t830, .bool t831, .bool t832] 25 (0, 0))) := ⟨Z24_5⟩
      have n4_ : Aside0 ((((((((((((((w158.setCell ⟨gb888, 0, none⟩ (.int .i64 t873)).setCell ⟨gb888, 1, none⟩ (.int .i64 t874)).setCell ⟨gb888, 2, none⟩ (.int .i64 t875)).setCell ⟨gb888, 3, none⟩ (.int .i64 t876)).setCell ⟨gb888, 4, none⟩ (.int .i64 t877)).setCell ⟨gb888, 5, none⟩ (.int .i64 t878)).setCell ⟨gb888, 6, none⟩ (.int .i64 t879)).setCell ⟨gb888, 7, none⟩ (.int .i64 t880)).setCell ⟨gb888, 8, none⟩ (.int .i64 t881)).setCell ⟨gb888, 9, none⟩ (.int .i64 t882)).setCell ⟨gb888, 10, none⟩ (.int .i64 t883)).setCell ⟨gb888, 11, none⟩ (.bool t884)).setCell ⟨gb888, 12, none⟩ (.bool t885)).heap[gb852]? = some (.cells #[.int .i64 t837, .int .i64 t838, .int .i64 t839, .int .i64 t840, .int .i64 t841, .int .i64 t842, .int .i64 t843, .int .i64 t844, .int .i64 t845, .int .i64 t846, .int .i64 t847, .bool t848, .bool t849] 25 (0, 0))) := ⟨Z24_6⟩
      have n5_ : Aside0 ((((((((((((((w158.setCell ⟨gb888, 0, none⟩ (.int .i64 t873)).setCell ⟨gb888, 1, none⟩ (.int .i64 t874)).setCell ⟨gb888, 2, none⟩ (.int .i64 t875)).setCell ⟨gb888, 3, none⟩ (.int .i64 t876)).setCell ⟨gb888, 4, none⟩ (.int .i64 t877)).setCell ⟨gb888, 5, none⟩ (.int .i64 t878)).setCell ⟨gb888, 6, none⟩ (.int .i64 t879)).setCell ⟨gb888, 7, none⟩ (.int .i64 t880)).setCell ⟨gb888, 8, none⟩ (.int .i64 t881)).setCell ⟨gb888, 9, none⟩ (.int .i64 t882)).setCell ⟨gb888, 10, none⟩ (.int .i64 t883)).setCell ⟨gb888, 11, none⟩ (.bool t884)).setCell ⟨gb888, 12, none⟩ (.bool t885)).heap[gb872]? = some (.cells #[.int .i64 t857, .int .i64 t858, .int .i64 t859, .int .i64 t860, .int .i64 t861, .int .i64 t862, .int .i64 t863, .int .i64 t864, .int .i64 t865, .int .i64 t866, .int .i64 t867, .bool t868, .bool t869] 25 (0, 0))) := ⟨Z24_7⟩
      have n6_ : Aside0 ((((((((((((((w158.setCell ⟨gb888, 0, none⟩ (.int .i64 t873)).setCell ⟨gb888, 1, none⟩ (.int .i64 t874)).setCell ⟨gb888, 2, none⟩ (.int .i64 t875)).setCell ⟨gb888, 3, none⟩ (.int .i64 t876)).setCell ⟨gb888, 4, none⟩ (.int .i64 t877)).setCell ⟨gb888, 5, none⟩ (.int .i64 t878)).setCell ⟨gb888, 6, none⟩ (.int .i64 t879)).setCell ⟨gb888, 7, none⟩ (.int .i64 t880)).setCell ⟨gb888, 8, none⟩ (.int .i64 t881)).setCell ⟨gb888, 9, none⟩ (.int .i64 t882)).setCell ⟨gb888, 10, none⟩ (.int .i64 t883)).setCell ⟨gb888, 11, none⟩ (.bool t884)).setCell ⟨gb888, 12, none⟩ (.bool t885)).heap[gb888]? = some (.cells #[.int .i64 t873, .int .i64 t874, .int .i64 t875, .int .i64 t876, .int .i64 t877, .int .i64 t878, .int .i64 t879, .int .i64 t880, .int .i64 t881, .int .i64 t882, .int .i64 t883, .bool t884, .bool t885] 25 (0, 0))) := ⟨Z24_45⟩
      have n7_ : Aside0 (Below w.heap.size w (((((((((((((w158.setCell ⟨gb888, 0, none⟩ (.int .i64 t873)).setCell ⟨gb888, 1, none⟩ (.int .i64 t874)).setCell ⟨gb888, 2, none⟩ (.int .i64 t875)).setCell ⟨gb888, 3, none⟩ (.int .i64 t876)).setCell ⟨gb888, 4, none⟩ (.int .i64 t877)).setCell ⟨gb888, 5, none⟩ (.int .i64 t878)).setCell ⟨gb888, 6, none⟩ (.int .i64 t879)).setCell ⟨gb888, 7, none⟩ (.int .i64 t880)).setCell ⟨gb888, 8, none⟩ (.int .i64 t881)).setCell ⟨gb888, 9, none⟩ (.int .i64 t882)).setCell ⟨gb888, 10, none⟩ (.int .i64 t883)).setCell ⟨gb888, 11, none⟩ (.bool t884)).setCell ⟨gb888, 12, none⟩ (.bool t885))) := ⟨Z24_42⟩
      (try clear HO819)
      (try clear HO836)
      (try clear HO856)
      (try clear BK833)
      (try clear BK852)
      (try clear BK872)
      (try clear BK888)
      (try clear HB)
      generalize (((((((((((((w158.setCell ⟨gb888, 0, none⟩ (.int .i64 t873)).setCell ⟨gb888, 1, none⟩ (.int .i64 t874)).setCell ⟨gb888, 2, none⟩ (.int .i64 t875)).setCell ⟨gb888, 3, none⟩ (.int .i64 t876)).setCell ⟨gb888, 4, none⟩ (.int .i64 t877)).setCell ⟨gb888, 5, none⟩ (.int .i64 t878)).setCell ⟨gb888, 6, none⟩ (.int .i64 t879)).setCell ⟨gb888, 7, none⟩ (.int .i64 t880)).setCell ⟨gb888, 8, none⟩ (.int .i64 t881)).setCell ⟨gb888, 9, none⟩ (.int .i64 t882)).setCell ⟨gb888, 10, none⟩ (.int .i64 t883)).setCell ⟨gb888, 11, none⟩ (.bool t884)).setCell ⟨gb888, 12, none⟩ (.bool t885)) = w163 at n0_ n1_ n2_ n3_ n4_ n5_ n6_ n7_ ⊢
      have HO819 := n0_
      have HO836 := n1_
      have HO856 := n2_
      have BK833 := n3_
      have BK852 := n4_
      have BK872 := n5_
      have BK888 := n6_
      have HB := n7_
      clear n0_ n1_ n2_ n3_ n4_ n5_ n6_ n7_
      have n0_ := Aside0.mk (Kd.R_drew HO819.out)
      have n1_ := Aside0.mk (Kd.R_drew HO836.out)
      have n2_ := Aside0.mk (Kd.R_drew HO856.out)
      have n3_ := Aside0.mk (blk_drew BK833.out)
      have n4_ := Aside0.mk (blk_drew BK852.out)
      have n5_ := Aside0.mk (blk_drew BK872.out)
      have n6_ := Aside0.mk (blk_drew BK888.out)
      have n7_ := Aside0.mk (below_drew1 HB.out)
      clear HO819
      clear HO836
      clear HO856
      clear BK833
      clear BK852
      clear BK872
      clear BK888
      clear HB
      have HO819 := n0_
      have HO836 := n1_
      have HO856 := n2_
      have BK833 := n3_
      have BK852 := n4_
      have BK872 := n5_
      have BK888 := n6_
      have HB := n7_
      clear n0_ n1_ n2_ n3_ n4_ n5_ n6_ n7_
      as_aux_lemma =>
       refine start_ (n := 31) (S := fun w' => w'.cell? ⟨gb872, 0, none⟩ = some (.int .i64 t857) ∧ w'.cell? ⟨gb872, 1, none⟩ = some (.int .i64 t858) ∧ w'.cell? ⟨gb872, 2, none⟩ = some (.int .i64 t859) ∧ w'.cell? ⟨gb872, 3, none⟩ = some (.int .i64 t860) ∧ w'.cell? ⟨gb872, 4, none⟩ = some (.int .i64 t861) ∧ w'.cell? ⟨gb872, 5, none⟩ = some (.int .i64 t862) ∧ w'.cell? ⟨gb872, 6, none⟩ = some (.int .i64 t863) ∧ w'.cell? ⟨gb872, 7, none⟩ = some (.int .i64 t864) ∧ w'.cell? ⟨gb872, 8, none⟩ = some (.int .i64 t865) ∧ w'.cell? ⟨gb872, 9, none⟩ = some (.int .i64 t866) ∧ w'.cell? ⟨gb872, 10, none⟩ = some (.int .i64 t867) ∧ w'.cell? ⟨gb872, 11, none⟩ = some (.bool t868) ∧ w'.cell? ⟨gb872, 12, none⟩ = some (.bool t869)) (ds := []) #[false, false, false, false, false, false, false, false, false, false, false, false, false, false, false, false, false, false, false, false, false, false, false, false, false, false, false, false, false, false, false] (by kernel_rfl) rfl rfl ⟨(blk_cell BK872.out 0).trans rfl, (blk_cell BK872.out 1).trans rfl, (blk_cell BK872.out 2).trans rfl, (blk_cell BK872.out 3).trans rfl, (blk_cell BK872.out 4).trans rfl, (blk_cell BK872.out 5).trans rfl, (blk_cell BK872.out 6).trans rfl, (blk_cell BK872.out 7).trans rfl, (blk_cell BK872.out 8).trans rfl, (blk_cell BK872.out 9).trans rfl, (blk_cell BK872.out 10).trans rfl, (blk_cell BK872.out 11).trans rfl, (blk_cell BK872.out 12).trans rfl⟩ (fun hHeld => ?_); refine with_tabW laws_FnPieceBytes.tab9 laws_FnPieceBytes.bits9 (fun HT_ HW_ => ?_)
       generalize w163.drew = w164 at HO819 HO836 HO856 BK833 BK852 BK872 BK888 HB hHeld ⊢
       refine pure_ (i := 0) (N := some 54) (v := _) (a' := _) (M24_31 1) rfl rfl (any_of HT_.out (by kernel_rfl)) (fun _ _ _ h => h) (Or.inl ⟨(by rfl), (by intro w'; go_simp; with_reducible rfl)⟩) Z24_65 ?_
       refine pure_ (i := 1) (N := some 55) (v := _) (a' := _) (M24_31 3) rfl rfl (any_of HT_.out (by kernel_rfl)) (fun _ _ _ h => h) (Or.inl ⟨(by rfl), (by intro w'; go_simp; with_reducible rfl)⟩) Z24_65 ?_
       refine pure_ (i := 2) (N := some 56) (v := _) (a' := _) (M24_31 7) rfl rfl (any_of HT_.out (by kernel_rfl)) (fun _ _ _ h => h) (Or.inl ⟨(by rfl), (by intro w'; go_simp; with_reducible rfl)⟩) Z24_65 ?_
       refine pure_ (i := 3) (N := some 57) (v := _) (a' := _) (M24_31 15) rfl rfl (any_of HT_.out (by kernel_rfl)) (fun _ _ _ h => h) (Or.inl ⟨(by rfl), (by intro w'; go_simp; with_reducible rfl)⟩) Z24_65 ?_
       refine pure_ (i := 4) (N := some 58) (v := _) (a' := _) (M24_31 31) rfl rfl (any_of HT_.out (by kernel_rfl)) (fun _ _ _ h => h) (Or.inl ⟨(by rfl), (by intro w'; go_simp; with_reducible rfl)⟩) Z24_65 ?_
       refine pure_ (i := 5) (N := some 59) (v := _) (a' := _) (M24_31 63) rfl rfl (any_of HT_.out (by kernel_rfl)) (fun _ _ _ h => h) (Or.inl ⟨(by rfl), (by intro w'; go_simp; with_reducible rfl)⟩) Z24_65 ?_
       refine pure_ (i := 6) (N := some 60) (v := undef) (a' := ?_) (M24_31 127) rfl rfl (any_of HT_.out (by kernel_rfl)) (fun _ _ _ h => h) (Or.inr ⟨(by rfl), rfl⟩) ?_ ?_
       rotate_left
       · simp only [Act.put, List.setIfInBounds_toArray, List.set_cons_zero, List.set_cons_succ, i64_w, i32_w]
         rfl
       as_aux_lemma =>
        refine pure_ (i := 7) (N := some 61) (v := undef) (a' := ?_) (M24_31 255) rfl rfl (any_of HT_.out (by kernel_rfl)) (fun _ _ _ h => h) (Or.inr ⟨(by rfl), rfl⟩) ?_ ?_
        rotate_left
        · simp only [Act.put, List.setIfInBounds_toArray, List.set_cons_zero, List.set_cons_succ, i64_w, i32_w]
          rfl
        refine pure_ (i := 8) (N := some 62) (v := undef) (a' := ?_) (M24_31 511) rfl rfl (any_of HT_.out (by kernel_rfl)) (fun _ _ _ h => h) (Or.inr ⟨(by rfl), rfl⟩) ?_ ?_
        rotate_left
        · simp only [Act.put, List.setIfInBounds_toArray, List.set_cons_zero, List.set_cons_succ, i64_w, i32_w]
          rfl
        refine pure_ (i := 9) (N := some 63) (v := undef) (a' := ?_) (M24_31 1023) rfl rfl (any_of HT_.out (by kernel_rfl)) (fun _ _ _ h => h) (Or.inr ⟨(by rfl), rfl⟩) ?_ ?_
        rotate_left
        · simp only [Act.put, List.setIfInBounds_toArray, List.set_cons_zero, List.set_cons_succ, i64_w, i32_w]
          rfl
        refine pure_ (i := 10) (N := some 64) (v := undef) (a' := ?_) (M24_31 2047) rfl rfl (any_of HT_.out (by kernel_rfl)) (fun _ _ _ h => h) (Or.inr ⟨(by rfl), rfl⟩) ?_ ?_
        rotate_left
        · simp only [Act.put, List.setIfInBounds_toArray, List.set_cons_zero, List.set_cons_succ, i64_w, i32_w]
          rfl
        refine pure_ (i := 11) (N := some 65) (v := undef) (a' := ?_) (M24_31 4095) rfl rfl (any_of HT_.out (by kernel_rfl)) (fun _ _ _ h => h) (Or.inr ⟨(by rfl), rfl⟩) ?_ ?_
        rotate_left
        · simp only [Act.put, List.setIfInBounds_toArray, List.set_cons_zero, List.set_cons_succ, i64_w, i32_w]
          rfl
        refine pure_ (i := 12) (N := some 66) (v := undef) (a' := ?_) (M24_31 8191) rfl rfl (any_of HT_.out (by kernel_rfl)) (fun _ _ _ h => h) (Or.inr ⟨(by rfl), rfl⟩) ?_ ?_
        rotate_left
        · simp only [Act.put, List.setIfInBounds_toArray, List.set_cons_zero, List.set_cons_succ, i64_w, i32_w]
          rfl
        refine pure_ (i := 13) (N := some 67) (v := undef) (a' := ?_) (M24_31 16383) rfl rfl (any_of HT_.out (by kernel_rfl)) (fun _ _ _ h => h) (Or.inr ⟨(by rfl), rfl⟩) ?_ ?_
        rotate_left
        · simp only [Act.put, List.setIfInBounds_toArray, List.set_cons_zero, List.set_cons_succ, i64_w, i32_w]
          rfl
        refine pure_ (i := 14) (N := some 68) (v := undef) (a' := ?_) (M24_31 32767) rfl rfl (any_of HT_.out (by kernel_rfl)) (fun _ _ _ h => h) (Or.inr ⟨(by rfl), rfl⟩) ?_ ?_
        rotate_left
        · simp only [Act.put, List.setIfInBounds_toArray, List.set_cons_zero, List.set_cons_succ, i64_w, i32_w]
          rfl
        as_aux_lemma =>
         refine pure_ (i := 15) (N := some 69) (v := undef) (a' := ?_) (M24_31 65535) rfl rfl (any_of HT_.out (by kernel_rfl)) (fun _ _ _ h => h) (Or.inr ⟨(by rfl), rfl⟩) ?_ ?_
         rotate_left
         · simp only [Act.put, List.setIfInBounds_toArray, List.set_cons_zero, List.set_cons_succ, i64_w, i32_w]
           rfl
         refine pure_ (i := 16) (N := some 70) (v := undef) (a' := ?_) (M24_31 131071) rfl rfl (any_of HT_.out (by kernel_rfl)) (fun _ _ _ h => h) (Or.inr ⟨(by rfl), rfl⟩) ?_ ?_
         rotate_left
         · simp only [Act.put, List.setIfInBounds_toArray, List.set_cons_zero, List.set_cons_succ, i64_w, i32_w]
           rfl
         refine pure_ (i := 17) (N := some 71) (v := undef) (a' := ?_) (M24_31 262143) rfl rfl (any_of HT_.out (by kernel_rfl)) (fun _ _ _ h => h) (Or.inr ⟨(by rfl), rfl⟩) ?_ ?_
         rotate_left
         · simp only [Act.put, List.setIfInBounds_toArray, List.set_cons_zero, List.set_cons_succ, i64_w, i32_w]
           rfl
         refine pure_ (i := 18) (N := some 72) (v := undef) (a' := ?_) (M24_31 524287) rfl rfl (any_of HT_.out (by kernel_rfl)) (fun _ _ _ h => h) (Or.inr ⟨(by rfl), rfl⟩) ?_ ?_
         rotate_left
         · simp only [Act.put, List.setIfInBounds_toArray, List.set_cons_zero, List.set_cons_succ, i64_w, i32_w]
           rfl
         refine pure_ (i := 19) (N := some 73) (v := undef) (a' := ?_) (M24_31 1048575) rfl rfl (any_of HT_.out (by kernel_rfl)) (fun _ _ _ h => h) (Or.inr ⟨(by rfl), rfl⟩) ?_ ?_
         rotate_left
         · simp only [Act.put, List.setIfInBounds_toArray, List.set_cons_zero, List.set_cons_succ, i64_w, i32_w]
           rfl
         refine pure_ (i := 20) (N := some 74) (v := _) (a' := _) (M24_31 2097151) rfl rfl (any_of HT_.out (by kernel_rfl)) (fun _ _ _ h => h) (Or.inl ⟨(by rfl), (by intro w'; go_simp; with_reducible rfl)⟩) Z24_65 ?_
         refine pure_ (i := 21) (N := some 75) (v := _) (a' := _) (M24_31 4194303) rfl rfl (any_of HT_.out (by kernel_rfl)) (fun _ _ _ h => h) (Or.inl ⟨(by rfl), (by intro w'; go_simp; with_reducible rfl)⟩) Z24_65 ?_
         refine pure_ (i := 22) (N := some 76) (v := _) (a' := _) (M24_31 8388607) rfl rfl (any_of HT_.out (by kernel_rfl)) (fun _ _ _ h => h) (Or.inl ⟨(by rfl), (by intro w'; go_simp; with_reducible rfl)⟩) Z24_65 ?_
         as_aux_lemma =>
          refine pure_ (i := 23) (N := some 77) (v := _) (a' := _) (M24_31 16777215) rfl rfl (any_of HT_.out (by kernel_rfl)) (fun _ _ _ h => h) (Or.inl ⟨(by rfl), (by intro w'; go_simp; with_reducible rfl)⟩) Z24_65 ?_
          refine pure_ (i := 24) (N := some 78) (v := _) (a' := _) (M24_31 33554431) rfl rfl (any_of HT_.out (by kernel_rfl)) (fun _ _ _ h => h) (Or.inl ⟨(by rfl), (by intro w'; go_simp; with_reducible rfl)⟩) Z24_65 ?_
          refine pure_ (i := 25) (N := some 79) (v := _) (a' := _) (M24_31 67108863) rfl rfl (any_of HT_.out (by kernel_rfl)) (fun _ _ _ h => h) (Or.inl ⟨(by rfl), (by intro w'; go_simp; with_reducible rfl)⟩) Z24_65 ?_
          refine pure_ (i := 27) (N := some 81) (v := _) (a' := _) (M24_31 201326591) rfl rfl (any_of HT_.out (by kernel_rfl)) (fun _ _ _ h => h) (Or.inl ⟨(by rfl), (by intro w'; go_simp; with_reducible rfl)⟩) Z24_65 ?_
          refine take_ (i := 26) (N := some 80) (v := _) (a' := _) (M24_31 268435455) rfl rfl (take_ofW HT_.out HW_.out (by kernel_rfl)) (fun _ _ _ h => h) (Or.inl ⟨(by rfl), Z24_70⟩) hHeld Z24_65 ?_
          refine pure_ (i := 28) (N := some 82) (v := _) (a' := _) (M24_31 536870911) rfl rfl (any_of HT_.out (by kernel_rfl)) (fun _ _ _ h => h) (Or.inl ⟨(by rfl), (by intro w'; go_simp; with_reducible rfl)⟩) Z24_65 ?_
          refine pure_ (i := 29) (N := some 83) (v := _) (a' := _) (M24_31 1073741823) rfl rfl (any_of HT_.out (by kernel_rfl)) (fun _ _ _ h => h) (Or.inl ⟨(by rfl), (by intro w'; go_simp; with_reducible rfl)⟩) Z24_65 ?_
          refine pure_ (i := 30) (N := some 84) (v := _) (a' := _) (M24_31 2147483647) rfl rfl (any_of HT_.out (by kernel_rfl)) (fun _ _ _ h => h) (Or.inl ⟨(by rfl), (by intro w'; go_simp; with_reducible rfl)⟩) Z24_65 ?_
          refine done_ (done_of HT_.out (by kernel_rfl)) ?_
          obtain ⟨⟨hcz165_0, hcz165_1, hcz165_2, hcz165_3, hcz165_4, hcz165_5, hcz165_6, hcz165_7, hcz165_8, hcz165_9, hcz165_10, hcz165_11, hcz165_12⟩, hfz165_0, hfz165_1, hfz165_2, hfz165_3, hfz165_4, hfz165_5, hfz165_6, hfz165_7, hfz165_8, hfz165_9, hfz165_10, hfz165_11, hfz165_12⟩ := C24_13 BK833.out
          try go_wp2_with (first | ((with_reducible refine gate_callee (f := 18) rfl ?_); refine goesL_ (some 86) rfl rfl Try.func18 (by kernel_rfl) rfl #[.agg #[.int .i64 t820, .int .i64 t821, .int .i64 t822, .int .i64 t823, .int .i64 t824, .int .i64 t825, .int .i64 t826, .int .i64 t827, .int .i64 t828, .int .i64 t829, .int .i64 t830, .bool t831, .bool t832]] rfl Z24_55 ?_; (with_reducible refine (impl_PieceOk.calls k t820 t821 t822 t823 t824 t825 t826 t827 t828 t829 t830 t831 t832 false _ A101.out).mono ?_); rintro e w166 ⟨rfl, hb⟩; refine ⟨_, rfl, ?_⟩; have n0_ := Aside0.mk Z24_60; have n1_ := Aside0.mk Z24_61; have n2_ := Aside0.mk Z24_62; have n3_ := Aside0.mk Z24_36; have n4_ := Aside0.mk Z24_37; have n5_ := Aside0.mk Z24_38; have n6_ := Aside0.mk Z24_39; have n7_ := Aside0.mk Z24_41; clear HO819; clear HO836; clear HO856; clear BK833; clear BK852; clear BK872; clear BK888; clear HB; have HO819 := n0_; have HO836 := n1_; have HO856 := n2_; have BK833 := n3_; have BK852 := n4_; have BK872 := n5_; have BK888 := n6_; have HB := n7_; clear n0_ n1_ n2_ n3_ n4_ n5_ n6_ n7_; (try clear hb); (try clear hb2); (try clear hk); (try clear hi)) | ((with_reducible refine gate_callee (f := 34) rfl ?_); refine goesL_ (some 90) rfl rfl Try.func34 (by kernel_rfl) rfl #[.slice Ao145 t834.length co145, .slice Ao143 t817.length co143] rfl Z24_55 ?_; (with_reducible refine (laws_same.calls _ _ t834 _ _ t817 t914 _ ?side1 ?side2 ?side3 ?side4 A139.out).mono ?_); (case side1 => repeat (first | exact (Kd.R_reads' HO836.out).2.2 | (with_reducible refine Kd.C_alloc ?_ _) | (with_reducible refine Kd.C_drewN ?_ _) | (with_reducible refine Kd.C_drew ?_))); (case side2 => exact (Kd.R_reads' HO836.out).2.1); (case side3 => repeat (first | exact (Kd.R_reads' HO819.out).2.2 | (with_reducible refine Kd.C_alloc ?_ _) | (with_reducible refine Kd.C_drewN ?_ _) | (with_reducible refine Kd.C_drew ?_))); (case side4 => exact (Kd.R_reads' HO819.out).2.1); rintro e w' ⟨rfl, ⟨nd, rfl⟩⟩; refine ⟨_, rfl, ?_⟩))
          go_ret
          exact ⟨Z24_69, Z24_42⟩
    subst c102
    rw [if_pos rfl] at H
    by_cases c103 : t851 = true
    rotate_left
    · replace c103 := Bool.eq_false_iff.mpr c103
      subst c103
      have H1 : (some false) = some r := by rw [if_neg (show ¬ (false = true) by decide)] at H; exact H
      clear H
      have H := H1
      clear H1
      exact absurd (H.trans (congrArg some HRT.out)) (by simp)
    subst c103
    rw [if_pos rfl] at H
    by_cases c104 : (t837 == t820 && (t838 == t821 && (t839 == t822 && (t840 == t823 && (t841 == t824 && (t842 == t825 && (t843 == t826 && (t844 == t827 && (t845 == t828 && (t846 == t829 && (t847 == t830 && (t848 == t831 && (t849 == t832))))))))))))) = true
    rotate_left
    · rw [if_neg c104] at H
      exact absurd (H.trans (congrArg some HRT.out)) (by simp)
    rw [if_pos c104] at H
    have c104b0 : (t837 == t820 && (t838 == t821 && (t839 == t822 && (t840 == t823 && (t841 == t824 && (t842 == t825 && (t843 == t826 && (t844 == t827 && (t845 == t828 && (t846 == t829 && (t847 == t830 && (t848 == t831 && (t849 == t832))))))))))))) = true := c104
    (try (have c104b1 : decide (t837 = t820 && (t838 == t821 && (t839 == t822 && (t840 == t823 && (t841 == t824 && (t842 == t825 && (t843 == t826 && (t844 == t827 && (t845 == t828 && (t846 == t829 && (t847 == t830 && (t848 == t831 && (t849 == t832))))))))))))) = true := by simpa using c104))
    (try (have c104b2 : (t837 == t820 && (t838 == t821 && (t839 == t822 && (t840 == t823 && (t841 == t824 && (t842 == t825 && (t843 == t826 && (t844 == t827 && (t845 == t828 && (t846 == t829 && (t847 == t830 && (t848 == t831 && (t849 == t832))))))))))))) = true := by simpa using c104))
    clear c104
    by_cases c105 : t850 = (t834.length : Int)
    rotate_left
    · rw [if_neg c105] at H
      exact absurd (H.trans (congrArg some HRT.out)) (by simp)
    rw [if_pos c105] at H
    have c105b0 : (t850 == (t834.length : Int)) = true := beq_iff_eq.mpr c105
    have c105b1 : (t850 != (t834.length : Int)) = false := bne_eq_false_iff_eq.mpr c105
    clear c105
    by_cases c106 : 0 ≤ (t817.length : Int)
    rotate_left
    · rw [if_neg c106] at H
      exact absurd H (by simp)
    rw [if_pos c106] at H
    have c106b0 := eq_true c106
    have c106b1 : decide (0 ≤ (t817.length : Int)) = true := decide_eq_true c106
    clear c106
    by_cases c107 : (t817.length : Int) ≤ (t834.length : Int)
    rotate_left
    · rw [if_neg c107] at H
      exact absurd H (by simp)
    rw [if_pos c107] at H
    have c107b0 := eq_true c107
    have c107b1 : decide ((t817.length : Int) ≤ (t834.length : Int)) = true := decide_eq_true c107
    clear c107
    obtain ⟨y909, hy909⟩ : ∃ y_ : List Int, y_ = (t834.take ((t817.length : Int) : Int).toNat) := ⟨_, rfl⟩
    replace H : ((laws_same.f y909 t817).bind fun t913 => (some t913)) = some r := by first | (rw [hy909]; with_reducible exact H) | (have H2_ := (Option.bind_some _ _).symm.trans H; rw [hy909]; with_reducible exact H2_) | (have H2_ := (Option.bind_some _ _).symm.trans H; with_reducible exact H2_) | with_reducible exact H | (rw [hy909]; exact H) | exact H
    have Ny909 := Aside0.mk hy909
    clear hy909
    replace H := Option.bind_eq_some_iff.mp H
    obtain ⟨t913, A1080, H⟩ := H
    replace H : (some t913) = some r := H
    have A108 := Aside0.mk A1080
    clear A1080
    obtain rfl := Option.some.inj H
    go_enter Try.func4, Try.ntmps4
    try go_wp2_with (first | ((with_reducible refine gate_callee (f := 12) rfl ?_); refine goesL_ (some 18) rfl rfl Try.func12 (by kernel_rfl) rfl #[.slice A0 l0.length c0] rfl Z24_55 ?_; (with_reducible refine (laws_big.calls _ _ l0 false _ ?side1 ?side2 A2.out).mono ?_); (case side1 => repeat (first | exact HR0.out | (with_reducible refine Kd.C_alloc ?_ _) | (with_reducible refine Kd.C_drewN ?_ _) | (with_reducible refine Kd.C_drew ?_))); (case side2 => exact HC0.out); rintro e w' ⟨rfl, ⟨nd, rfl⟩⟩; refine ⟨_, rfl, ?_⟩) | ((with_reducible refine gate_callee (f := 29) rfl ?_); refine goesL_ (some 21) rfl rfl Try.func29 (by kernel_rfl) rfl #[.slice A0 l0.length c0] rfl Z24_55 ?_; (with_reducible refine (spec_DrawPutPiece.calls k _ _ l0 t817 t820 t821 t822 t823 t824 t825 t826 t827 t828 t829 t830 t831 t832 _ ?side1 ?side2 A4.out).mono ?_); (case side1 => repeat (first | exact HR0.out | (with_reducible refine Kd.C_alloc ?_ _) | (with_reducible refine Kd.C_drewN ?_ _) | (with_reducible refine Kd.C_drew ?_))); (case side2 => exact HC0.out); rintro e w109 ⟨v818, rfl, ho0, hb⟩; refine ⟨_, rfl, ?_⟩; have n0_ := Aside0.mk Z24_53; have n1_ := Aside0.mk Z24_54; clear HB; have HO819 := n0_; have HB := n1_; clear n0_ n1_; (try clear hb); (try clear hb2); (try clear hk); (try clear hi); (try clear ho0)) | ((with_reducible refine gate_dst (N := 4) rfl ?_); (try (refine gate_guard (by rfl) ?_; dsimp only)); refine box_event ?hg (N := 4) ?hd (cs := #[.int .i64 0, .int .i64 0, .int .i64 0, .int .i64 0, .int .i64 0, .int .i64 0, .int .i64 0, .int .i64 0, .int .i64 0, .int .i64 0, .int .i64 0, .bool false, .bool false]) (t := 25) ?hr ?_; (case hd => rfl); (case hg => rfl); (case hr => first | (go_simp; done) | (go_simp; rfl)); intro gb833 hg w110 hbox hb; have n0_ := Aside0.mk Z24_60; have n1_ := Aside0.mk Z24_54; have n2_ := Aside0.mk (hbox); have n3_ := Aside0.mk Z24_51; have n4_ := Aside0.mk Z24_51; clear HO819; clear HB; have HO819 := n0_; have HB := n1_; have BK833 := n2_; have GW833 := n3_; have GE833 := n4_; clear n0_ n1_ n2_ n3_ n4_; clear hb hbox hg; obtain ⟨⟨hcz111_0, hcz111_1, hcz111_2, hcz111_3, hcz111_4, hcz111_5, hcz111_6, hcz111_7, hcz111_8, hcz111_9, hcz111_10, hcz111_11, hcz111_12⟩, hfz111_0, hfz111_1, hfz111_2, hfz111_3, hfz111_4, hfz111_5, hfz111_6, hfz111_7, hfz111_8, hfz111_9, hfz111_10, hfz111_11, hfz111_12⟩ := C24_13 BK833.out; obtain ⟨Ao112, co112, eo112⟩ := Kd.R_slice HO819.out; subst eo112) | ((with_reducible refine gate_callee (f := 30) rfl ?_); refine goesL_ (some 26) rfl rfl Try.func30 (by kernel_rfl) rfl #[.slice Ao112 t817.length co112, .agg #[.int .i64 t820, .int .i64 t821, .int .i64 t822, .int .i64 t823, .int .i64 t824, .int .i64 t825, .int .i64 t826, .int .i64 t827, .int .i64 t828, .int .i64 t829, .int .i64 t830, .bool t831, .bool t832]] rfl Z24_55 ?_; (with_reducible refine (impl_PutPiece.calls k _ _ t817 t820 t821 t822 t823 t824 t825 t826 t827 t828 t829 t830 t831 t832 t834 _ ?side1 ?side2 A5.out).mono ?_); (case side1 => refine (Kd.R_reads' (e := 5) (base := w.heap.size) (ok := fun k_ => True) (n := t817.length) (c := co112) ?_).2.2; exact Z24_18); (case side2 => exact (Kd.R_reads' HO819.out).2.1); rintro e w113 ⟨v835, rfl, ho0, hb⟩; refine ⟨_, rfl, ?_⟩; have n0_ := Aside0.mk Z24_9; have n1_ := Aside0.mk Z24_8; have n2_ := Aside0.mk Z24_21; have n3_ := Aside0.mk Z24_52; clear HO819; clear BK833; clear HB; have HO819 := n0_; have HO836 := n1_; have BK833 := n2_; have HB := n3_; clear n0_ n1_ n2_ n3_; (try clear hb); (try clear hb2); (try clear hk); (try clear hi); (try clear ho0); obtain ⟨Ao114, co114, eo114⟩ := Kd.R_slice HO836.out; subst eo114) | ((with_reducible refine gate_callee (f := 31) rfl ?_); refine goesL_ (some 31) rfl rfl Try.func31 (by kernel_rfl) rfl #[.slice Ao114 t834.length co114, .int .i64 (t817.length : Int)] rfl Z24_55 ?_; (with_reducible refine (impl_GetPiece.calls k _ _ t834 (t817.length : Int) t837 t838 t839 t840 t841 t842 t843 t844 t845 t846 t847 t848 t849 t850 true _ ?side1 ?side2 A6.out).mono ?_); (case side1 => repeat (first | exact (Kd.R_reads' HO836.out).2.2 | (with_reducible refine Kd.C_alloc ?_ _) | (with_reducible refine Kd.C_drewN ?_ _) | (with_reducible refine Kd.C_drew ?_))); (case side2 => exact (Kd.R_reads' HO836.out).2.1); rintro e w115 ⟨rfl, hb⟩; refine ⟨_, rfl, ?_⟩; have n0_ := Aside0.mk Z24_60; have n1_ := Aside0.mk Z24_61; have n2_ := Aside0.mk Z24_36; have n3_ := Aside0.mk Z24_52; clear HO819; clear HO836; clear BK833; clear HB; have HO819 := n0_; have HO836 := n1_; have BK833 := n2_; have HB := n3_; clear n0_ n1_ n2_ n3_; (try clear hb); (try clear hb2); (try clear hk); (try clear hi); clear A6) | ((with_reducible refine gate_dst (N := 6) rfl ?_); (try (refine gate_guard (by rfl) ?_; dsimp only)); refine box_event ?hg (N := 6) ?hd (cs := #[.int .i64 0, .int .i64 0, .int .i64 0, .int .i64 0, .int .i64 0, .int .i64 0, .int .i64 0, .int .i64 0, .int .i64 0, .int .i64 0, .int .i64 0, .bool false, .bool false]) (t := 25) ?hr ?_; (case hd => rfl); (case hg => rfl); (case hr => first | (go_simp; done) | (go_simp; rfl)); intro gb852 hg w116 hbox hb; have n0_ := Aside0.mk Z24_60; have n1_ := Aside0.mk Z24_61; have n2_ := Aside0.mk Z24_36; have n3_ := Aside0.mk Z24_52; have n4_ := Aside0.mk (hbox); have n5_ := Aside0.mk Z24_46; have n6_ := Aside0.mk Z24_46; have n7_ := Aside0.mk Z24_24; have n8_ := Aside0.mk Z24_25; clear HO819; clear HO836; clear BK833; clear HB; have HO819 := n0_; have HO836 := n1_; have BK833 := n2_; have HB := n3_; have BK852 := n4_; have GW852 := n5_; have GE852 := n6_; have NB833_852 := n7_; have NB852_833 := n8_; clear n0_ n1_ n2_ n3_ n4_ n5_ n6_ n7_ n8_; clear hb hbox hg; have hnb117 := NB852_833.out; have hnc117 := NB833_852.out; obtain ⟨⟨hcz118_0, hcz118_1, hcz118_2, hcz118_3, hcz118_4, hcz118_5, hcz118_6, hcz118_7, hcz118_8, hcz118_9, hcz118_10, hcz118_11, hcz118_12⟩, hfz118_0, hfz118_1, hfz118_2, hfz118_3, hfz118_4, hfz118_5, hfz118_6, hfz118_7, hfz118_8, hfz118_9, hfz118_10, hfz118_11, hfz118_12⟩ := C24_13 BK852.out) | ((with_reducible refine gate_callee (f := 32) rfl ?_); refine goesL_ (some 37) rfl rfl Try.func32 (by kernel_rfl) rfl #[.slice A0 l0.length c0] rfl Z24_55 ?_; (with_reducible refine (spec_DrawGetPiece.calls k _ _ l0 t853 t854 _ ?side1 ?side2 A7.out).mono ?_); (case side1 => exact Kd.C_below HR0.out Z24_49); (case side2 => exact HC0.out); rintro e w119 ⟨v855, rfl, ho0, hb⟩; refine ⟨_, rfl, ?_⟩; have n0_ := Aside0.mk Z24_10; have n1_ := Aside0.mk Z24_11; have n2_ := Aside0.mk Z24_1; have n3_ := Aside0.mk Z24_2; have n4_ := Aside0.mk Z24_22; have n5_ := Aside0.mk Z24_47; clear HO819; clear HO836; clear BK833; clear BK852; clear HB; have HO819 := n0_; have HO836 := n1_; have HO856 := n2_; have BK833 := n3_; have BK852 := n4_; have HB := n5_; clear n0_ n1_ n2_ n3_ n4_ n5_; (try clear hb); (try clear hb2); (try clear hk); (try clear hi); (try clear ho0); obtain ⟨Ao120, co120, eo120⟩ := Kd.R_slice HO856.out; subst eo120) | ((with_reducible refine gate_callee (f := 31) rfl ?_); refine goesL_ (some 43) rfl rfl Try.func31 (by kernel_rfl) rfl #[.slice Ao120 t853.length co120, .int .i64 t854] rfl Z24_55 ?_; (with_reducible refine (impl_GetPiece.calls k _ _ t853 t854 t857 t858 t859 t860 t861 t862 t863 t864 t865 t866 t867 t868 t869 t870 false _ ?side1 ?side2 A8.out).mono ?_); (case side1 => repeat (first | exact (Kd.R_reads' HO856.out).2.2 | (with_reducible refine Kd.C_alloc ?_ _) | (with_reducible refine Kd.C_drewN ?_ _) | (with_reducible refine Kd.C_drew ?_))); (case side2 => exact (Kd.R_reads' HO856.out).2.1); rintro e w121 ⟨rfl, hb⟩; refine ⟨_, rfl, ?_⟩; have n0_ := Aside0.mk Z24_60; have n1_ := Aside0.mk Z24_61; have n2_ := Aside0.mk Z24_62; have n3_ := Aside0.mk Z24_36; have n4_ := Aside0.mk Z24_37; have n5_ := Aside0.mk Z24_47; clear HO819; clear HO836; clear HO856; clear BK833; clear BK852; clear HB; have HO819 := n0_; have HO836 := n1_; have HO856 := n2_; have BK833 := n3_; have BK852 := n4_; have HB := n5_; clear n0_ n1_ n2_ n3_ n4_ n5_; (try clear hb); (try clear hb2); (try clear hk); (try clear hi); clear A8) | ((with_reducible refine gate_dst (N := 11) rfl ?_); (try (refine gate_guard (by rfl) ?_; dsimp only)); refine box_event ?hg (N := 11) ?hd (cs := #[.int .i64 0, .int .i64 0, .int .i64 0, .int .i64 0, .int .i64 0, .int .i64 0, .int .i64 0, .int .i64 0, .int .i64 0, .int .i64 0, .int .i64 0, .bool false, .bool false]) (t := 25) ?hr ?_; (case hd => rfl); (case hg => rfl); (case hr => first | (go_simp; done) | (go_simp; rfl)); intro gb872 hg w122 hbox hb; have n0_ := Aside0.mk Z24_60; have n1_ := Aside0.mk Z24_61; have n2_ := Aside0.mk Z24_62; have n3_ := Aside0.mk Z24_36; have n4_ := Aside0.mk Z24_37; have n5_ := Aside0.mk Z24_47; have n6_ := Aside0.mk (hbox); have n7_ := Aside0.mk Z24_43; have n8_ := Aside0.mk Z24_43; have n9_ := Aside0.mk Z24_26; have n10_ := Aside0.mk Z24_27; have n11_ := Aside0.mk Z24_28; have n12_ := Aside0.mk Z24_29; clear HO819; clear HO836; clear HO856; clear BK833; clear BK852; clear HB; have HO819 := n0_; have HO836 := n1_; have HO856 := n2_; have BK833 := n3_; have BK852 := n4_; have HB := n5_; have BK872 := n6_; have GW872 := n7_; have GE872 := n8_; have NB833_872 := n9_; have NB872_833 := n10_; have NB852_872 := n11_; have NB872_852 := n12_; clear n0_ n1_ n2_ n3_ n4_ n5_ n6_ n7_ n8_ n9_ n10_ n11_ n12_; clear hb hbox hg; have hnb123 := NB872_833.out; have hnc123 := NB833_872.out; have hnb124 := NB872_852.out; have hnc124 := NB852_872.out; obtain ⟨⟨hcz125_0, hcz125_1, hcz125_2, hcz125_3, hcz125_4, hcz125_5, hcz125_6, hcz125_7, hcz125_8, hcz125_9, hcz125_10, hcz125_11, hcz125_12⟩, hfz125_0, hfz125_1, hfz125_2, hfz125_3, hfz125_4, hfz125_5, hfz125_6, hfz125_7, hfz125_8, hfz125_9, hfz125_10, hfz125_11, hfz125_12⟩ := C24_13 BK872.out) | ((with_reducible refine gate_callee (f := 33) rfl ?_); refine goesL_ (some 50) rfl rfl Try.func33 (by kernel_rfl) rfl #[.slice Ao120 t853.length co120, .int .i64 t854] rfl Z24_55 ?_; (with_reducible refine (spec_GetPiece.calls k _ _ t853 t854 t873 t874 t875 t876 t877 t878 t879 t880 t881 t882 t883 t884 t885 t886 t887 _ ?side1 ?side2 A9.out).mono ?_); (case side1 => refine (Kd.R_reads' (e := 5) (base := w.heap.size) (ok := fun k_ => ((True ∧ some k_ ≠ (.slice Ao112 t817.length co112 : Value).ownBlock) ∧ some k_ ≠ (.slice Ao114 t834.length co114 : Value).ownBlock)) (n := t853.length) (c := co120) ?_).2.2; exact Z24_19); (case side2 => exact (Kd.R_reads' HO856.out).2.1); rintro e w126 ⟨rfl, hb⟩; refine ⟨_, rfl, ?_⟩; have n0_ := Aside0.mk Z24_12; have n1_ := Aside0.mk Z24_13; have n2_ := Aside0.mk Z24_14; have n3_ := Aside0.mk Z24_3; have n4_ := Aside0.mk Z24_4; have n5_ := Aside0.mk Z24_23; have n6_ := Aside0.mk Z24_44; clear HO819; clear HO836; clear HO856; clear BK833; clear BK852; clear BK872; clear HB; have HO819 := n0_; have HO836 := n1_; have HO856 := n2_; have BK833 := n3_; have BK852 := n4_; have BK872 := n5_; have HB := n6_; clear n0_ n1_ n2_ n3_ n4_ n5_ n6_; (try clear hb); (try clear hb2); (try clear hk); (try clear hi)) | ((with_reducible refine gate_dst (N := 14) rfl ?_); (try (refine gate_guard (by rfl) ?_; dsimp only)); refine box_event ?hg (N := 14) ?hd (cs := #[.int .i64 0, .int .i64 0, .int .i64 0, .int .i64 0, .int .i64 0, .int .i64 0, .int .i64 0, .int .i64 0, .int .i64 0, .int .i64 0, .int .i64 0, .bool false, .bool false]) (t := 25) ?hr ?_; (case hd => rfl); (case hg => rfl); (case hr => first | (go_simp; done) | (go_simp; rfl)); intro gb888 hg w127 hbox hb; have n0_ := Aside0.mk Z24_60; have n1_ := Aside0.mk Z24_61; have n2_ := Aside0.mk Z24_62; have n3_ := Aside0.mk Z24_36; have n4_ := Aside0.mk Z24_37; have n5_ := Aside0.mk Z24_38; have n6_ := Aside0.mk Z24_44; have n7_ := Aside0.mk (hbox); have n8_ := Aside0.mk Z24_40; have n9_ := Aside0.mk Z24_40; have n10_ := Aside0.mk Z24_30; have n11_ := Aside0.mk Z24_31; have n12_ := Aside0.mk Z24_32; have n13_ := Aside0.mk Z24_33; have n14_ := Aside0.mk Z24_34; have n15_ := Aside0.mk Z24_35; clear HO819; clear HO836; clear HO856; clear BK833; clear BK852; clear BK872; clear HB; have HO819 := n0_; have HO836 := n1_; have HO856 := n2_; have BK833 := n3_; have BK852 := n4_; have BK872 := n5_; have HB := n6_; have BK888 := n7_; have GW888 := n8_; have GE888 := n9_; have NB833_888 := n10_; have NB888_833 := n11_; have NB852_888 := n12_; have NB888_852 := n13_; have NB872_888 := n14_; have NB888_872 := n15_; clear n0_ n1_ n2_ n3_ n4_ n5_ n6_ n7_ n8_ n9_ n10_ n11_ n12_ n13_ n14_ n15_; clear hb hbox hg; have hnb128 := NB888_833.out; have hnc128 := NB833_888.out; have hnb129 := NB888_852.out; have hnc129 := NB852_888.out; have hnb130 := NB888_872.out; have hnc130 := NB872_888.out; obtain ⟨⟨hcz131_0, hcz131_1, hcz131_2, hcz131_3, hcz131_4, hcz131_5, hcz131_6, hcz131_7, hcz131_8, hcz131_9, hcz131_10, hcz131_11, hcz131_12⟩, hfz131_0, hfz131_1, hfz131_2, hfz131_3, hfz131_4, hfz131_5, hfz131_6, hfz131_7, hfz131_8, hfz131_9, hfz131_10, hfz131_11, hfz131_12⟩ := C24_13 BK888.out))
    have n0_ : Aside0 (Kd.R (Kd.int .u8) 5 (((((((((((((w127.setCell ⟨gb888, 0, none⟩ (.int .i64 t873)).setCell ⟨gb888, 1, none⟩ (.int .i64 t874)).setCell ⟨gb888, 2, none⟩ (.int .i64 t875)).setCell ⟨gb888, 3, none⟩ (.int .i64 t876)).setCell ⟨gb888, 4, none⟩ (.int .i64 t877)).setCell ⟨gb888, 5, none⟩ (.int .i64 t878)).setCell ⟨gb888, 6, none⟩ (.int .i64 t879)).setCell ⟨gb888, 7, none⟩ (.int .i64 t880)).setCell ⟨gb888, 8, none⟩ (.int .i64 t881)).setCell ⟨gb888, 9, none⟩ (.int .i64 t882)).setCell ⟨gb888, 10, none⟩ (.int .i64 t883)).setCell ⟨gb888, 11, none⟩ (.bool t884)).setCell ⟨gb888, 12, none⟩ (.bool t885)) w.heap.size (fun k_ => some k_ ≠ (.slice Ao114 t834.length co114 : Value).ownBlock ∧ some k_ ≠ (.slice Ao120 t853.length co120 : Value).ownBlock) (.slice Ao112 t817.length co112) t817) := ⟨Z24_15⟩
    have n1_ : Aside0 (Kd.R (Kd.int .u8) 5 (((((((((((((w127.setCell ⟨gb888, 0, none⟩ (.int .i64 t873)).setCell ⟨gb888, 1, none⟩ (.int .i64 t874)).setCell ⟨gb888, 2, none⟩ (.int .i64 t875)).setCell ⟨gb888, 3, none⟩ (.int .i64 t876)).setCell ⟨gb888, 4, none⟩ (.int .i64 t877)).setCell ⟨gb888, 5, none⟩ (.int .i64 t878)).setCell ⟨gb888, 6, none⟩ (.int .i64 t879)).setCell ⟨gb888, 7, none⟩ (.int .i64 t880)).setCell ⟨gb888, 8, none⟩ (.int .i64 t881)).setCell ⟨gb888, 9, none⟩ (.int .i64 t882)).setCell ⟨gb888, 10, none⟩ (.int .i64 t883)).setCell ⟨gb888, 11, none⟩ (.bool t884)).setCell ⟨gb888, 12, none⟩ (.bool t885)) w.heap.size (fun k_ => some k_ ≠ (.slice Ao112 t817.length co112 : Value).ownBlock ∧ some k_ ≠ (.slice Ao120 t853.length co120 : Value).ownBlock) (.slice Ao114 t834.length co114) t834) := ⟨Z24_16⟩
    have n2_ : Aside0 (Kd.R (Kd.int .u8) 5 (((((((((((((w127.setCell ⟨gb888, 0, none⟩ (.int .i64 t873)).setCell ⟨gb888, 1, none⟩ (.int .i64 t874)).setCell ⟨gb888, 2, none⟩ (.int .i64 t875)).setCell ⟨gb888, 3, none⟩ (.int .i64 t876)).setCell ⟨gb888, 4, none⟩ (.int .i64 t877)).setCell ⟨gb888, 5, none⟩ (.int .i64 t878)).setCell ⟨gb888, 6, none⟩ (.int .i64 t879)).setCell ⟨gb888, 7, none⟩ (.int .i64 t880)).setCell ⟨gb888, 8, none⟩ (.int .i64 t881)).setCell ⟨gb888, 9, none⟩ (.int .i64 t882)).setCell ⟨gb888, 10, none⟩ (.int .i64 t883)).setCell ⟨gb888, 11, none⟩ (.bool t884)).setCell ⟨gb888, 12, none⟩ (.bool t885)) w.heap.size (fun k_ => some k_ ≠ (.slice Ao112 t817.length co112 : Value).ownBlock ∧ some k_ ≠ (.slice Ao114 t834.length co114 : Value).ownBlock) (.slice Ao120 t853.length co120) t853) := ⟨Z24_17⟩
    have n3_ : Aside0 ((((((((((((((w127.setCell ⟨gb888, 0, none⟩ (.int .i64 t873)).setCell ⟨gb888, 1, none⟩ (.int .i64 t874)).setCell ⟨gb888, 2, none⟩ (.int .i64 t875)).setCell ⟨gb888, 3, none⟩ (.int .i64 t876)).setCell ⟨gb888, 4, none⟩ (.int .i64 t877)).setCell ⟨gb888, 5, none⟩ (.int .i64 t878)).setCell ⟨gb888, 6, none⟩ (.int .i64 t879)).setCell ⟨gb888, 7, none⟩ (.int .i64 t880)).setCell ⟨gb888, 8, none⟩ (.int .i64 t881)).setCell ⟨gb888, 9, none⟩ (.int .i64 t882)).setCell ⟨gb888, 10, none⟩ (.int .i64 t883)).setCell ⟨gb888, 11, none⟩ (.bool t884)).setCell ⟨gb888, 12, none⟩ (.bool t885)).heap[gb833]? = some (.cells #[.int .i64 t820, .int .i64 t821, .int .i64 t822, .int .i64 t823, .int .i64 t824, .int .i64 t825, .int .i64 t826, .int .i64 t827, .int .i64 t828, .int .i64 t829, .int .i64 t830, .bool t831, .bool t832] 25 (0, 0))) := ⟨Z24_5⟩
    have n4_ : Aside0 ((((((((((((((w127.setCell ⟨gb888, 0, none⟩ (.int .i64 t873)).setCell ⟨gb888, 1, none⟩ (.int .i64 t874)).setCell ⟨gb888, 2, none⟩ (.int .i64 t875)).setCell ⟨gb888, 3, none⟩ (.int .i64 t876)).setCell ⟨gb888, 4, none⟩ (.int .i64 t877)).setCell ⟨gb888, 5, none⟩ (.int .i64 t878)).setCell ⟨gb888, 6, none⟩ (.int .i64 t879)).setCell ⟨gb888, 7, none⟩ (.int .i64 t880)).setCell ⟨gb888, 8, none⟩ (.int .i64 t881)).setCell ⟨gb888, 9, none⟩ (.int .i64 t882)).setCell ⟨gb888, 10, none⟩ (.int .i64 t883)).setCell ⟨gb888, 11, none⟩ (.bool t884)).setCell ⟨gb888, 12, none⟩ (.bool t885)).heap[gb852]? = some (.cells #[.int .i64 t837, .int .i64 t838, .int .i64 t839, .int .i64 t840, .int .i64 t841, .int .i64 t842, .int .i64 t843, .int .i64 t844, .int .i64 t845, .int .i64 t846, .int .i64 t847, .bool t848, .bool t849] 25 (0, 0))) := ⟨Z24_6⟩
    have n5_ : Aside0 ((((((((((((((w127.setCell ⟨gb888, 0, none⟩ (.int .i64 t873)).setCell ⟨gb888, 1, none⟩ (.int .i64 t874)).setCell ⟨gb888, 2, none⟩ (.int .i64 t875)).setCell ⟨gb888, 3, none⟩ (.int .i64 t876)).setCell ⟨gb888, 4, none⟩ (.int .i64 t877)).setCell ⟨gb888, 5, none⟩ (.int .i64 t878)).setCell ⟨gb888, 6, none⟩ (.int .i64 t879)).setCell ⟨gb888, 7, none⟩ (.int .i64 t880)).setCell ⟨gb888, 8, none⟩ (.int .i64 t881)).setCell ⟨gb888, 9, none⟩ (.int .i64 t882)).setCell ⟨gb888, 10, none⟩ (.int .i64 t883)).setCell ⟨gb888, 11, none⟩ (.bool t884)).setCell ⟨gb888, 12, none⟩ (.bool t885)).heap[gb872]? = some (.cells #[.int .i64 t857, .int .i64 t858, .int .i64 t859, .int .i64 t860, .int .i64 t861, .int .i64 t862, .int .i64 t863, .int .i64 t864, .int .i64 t865, .int .i64 t866, .int .i64 t867, .bool t868, .bool t869] 25 (0, 0))) := ⟨Z24_7⟩
    have n6_ : Aside0 ((((((((((((((w127.setCell ⟨gb888, 0, none⟩ (.int .i64 t873)).setCell ⟨gb888, 1, none⟩ (.int .i64 t874)).setCell ⟨gb888, 2, none⟩ (.int .i64 t875)).setCell ⟨gb888, 3, none⟩ (.int .i64 t876)).setCell ⟨gb888, 4, none⟩ (.int .i64 t877)).setCell ⟨gb888, 5, none⟩ (.int .i64 t878)).setCell ⟨gb888, 6, none⟩ (.int .i64 t879)).setCell ⟨gb888, 7, none⟩ (.int .i64 t880)).setCell ⟨gb888, 8, none⟩ (.int .i64 t881)).setCell ⟨gb888, 9, none⟩ (.int .i64 t882)).setCell ⟨gb888, 10, none⟩ (.int .i64 t883)).setCell ⟨gb888, 11, none⟩ (.bool t884)).setCell ⟨gb888, 12, none⟩ (.bool t885)).heap[gb888]? = some (.cells #[.int .i64 t873, .int .i64 t874, .int .i64 t875, .int .i64 t876, .int .i64 t877, .int .i64 t878, .int .i64 t879, .int .i64 t880, .int .i64 t881, .int .i64 t882, .int .i64 t883, .bool t884, .bool t885] 25 (0, 0))) := ⟨Z24_45⟩
    have n7_ : Aside0 (Below w.heap.size w (((((((((((((w127.setCell ⟨gb888, 0, none⟩ (.int .i64 t873)).setCell ⟨gb888, 1, none⟩ (.int .i64 t874)).setCell ⟨gb888, 2, none⟩ (.int .i64 t875)).setCell ⟨gb888, 3, none⟩ (.int .i64 t876)).setCell ⟨gb888, 4, none⟩ (.int .i64 t877)).setCell ⟨gb888, 5, none⟩ (.int .i64 t878)).setCell ⟨gb888, 6, none⟩ (.int .i64 t879)).setCell ⟨gb888, 7, none⟩ (.int .i64 t880)).setCell ⟨gb888, 8, none⟩ (.int .i64 t881)).setCell ⟨gb888, 9, none⟩ (.int .i64 t882)).setCell ⟨gb888, 10, none⟩ (.int .i64 t883)).setCell ⟨gb888, 11, none⟩ (.bool t884)).setCell ⟨gb888, 12, none⟩ (.bool t885))) := ⟨Z24_42⟩
    (try clear HO819)
    (try clear HO836)
    (try clear HO856)
    (try clear BK833)
    (try clear BK852)
    (try clear BK872)
    (try clear BK888)
    (try clear HB)
    generalize (((((((((((((w127.setCell ⟨gb888, 0, none⟩ (.int .i64 t873)).setCell ⟨gb888, 1, none⟩ (.int .i64 t874)).setCell ⟨gb888, 2, none⟩ (.int .i64 t875)).setCell ⟨gb888, 3, none⟩ (.int .i64 t876)).setCell ⟨gb888, 4, none⟩ (.int .i64 t877)).setCell ⟨gb888, 5, none⟩ (.int .i64 t878)).setCell ⟨gb888, 6, none⟩ (.int .i64 t879)).setCell ⟨gb888, 7, none⟩ (.int .i64 t880)).setCell ⟨gb888, 8, none⟩ (.int .i64 t881)).setCell ⟨gb888, 9, none⟩ (.int .i64 t882)).setCell ⟨gb888, 10, none⟩ (.int .i64 t883)).setCell ⟨gb888, 11, none⟩ (.bool t884)).setCell ⟨gb888, 12, none⟩ (.bool t885)) = w132 at n0_ n1_ n2_ n3_ n4_ n5_ n6_ n7_ ⊢
    have HO819 := n0_
    have HO836 := n1_
    have HO856 := n2_
    have BK833 := n3_
    have BK852 := n4_
    have BK872 := n5_
    have BK888 := n6_
    have HB := n7_
    clear n0_ n1_ n2_ n3_ n4_ n5_ n6_ n7_
    have n0_ := Aside0.mk (Kd.R_drew HO819.out)
    have n1_ := Aside0.mk (Kd.R_drew HO836.out)
    have n2_ := Aside0.mk (Kd.R_drew HO856.out)
    have n3_ := Aside0.mk (blk_drew BK833.out)
    have n4_ := Aside0.mk (blk_drew BK852.out)
    have n5_ := Aside0.mk (blk_drew BK872.out)
    have n6_ := Aside0.mk (blk_drew BK888.out)
    have n7_ := Aside0.mk (below_drew1 HB.out)
    clear HO819
    clear HO836
    clear HO856
    clear BK833
    clear BK852
    clear BK872
    clear BK888
    clear HB
    have HO819 := n0_
    have HO836 := n1_
    have HO856 := n2_
    have BK833 := n3_
    have BK852 := n4_
    have BK872 := n5_
    have BK888 := n6_
    have HB := n7_
    clear n0_ n1_ n2_ n3_ n4_ n5_ n6_ n7_
    as_aux_lemma =>
     refine start_ (n := 31) (S := fun w' => w'.cell? ⟨gb872, 0, none⟩ = some (.int .i64 t857) ∧ w'.cell? ⟨gb872, 1, none⟩ = some (.int .i64 t858) ∧ w'.cell? ⟨gb872, 2, none⟩ = some (.int .i64 t859) ∧ w'.cell? ⟨gb872, 3, none⟩ = some (.int .i64 t860) ∧ w'.cell? ⟨gb872, 4, none⟩ = some (.int .i64 t861) ∧ w'.cell? ⟨gb872, 5, none⟩ = some (.int .i64 t862) ∧ w'.cell? ⟨gb872, 6, none⟩ = some (.int .i64 t863) ∧ w'.cell? ⟨gb872, 7, none⟩ = some (.int .i64 t864) ∧ w'.cell? ⟨gb872, 8, none⟩ = some (.int .i64 t865) ∧ w'.cell? ⟨gb872, 9, none⟩ = some (.int .i64 t866) ∧ w'.cell? ⟨gb872, 10, none⟩ = some (.int .i64 t867) ∧ w'.cell? ⟨gb872, 11, none⟩ = some (.bool t868) ∧ w'.cell? ⟨gb872, 12, none⟩ = some (.bool t869)) (ds := []) #[false, false, false, false, false, false, false, false, false, false, false, false, false, false, false, false, false, false, false, false, false, false, false, false, false, false, false, false, false, false, false] (by kernel_rfl) rfl rfl ⟨(blk_cell BK872.out 0).trans rfl, (blk_cell BK872.out 1).trans rfl, (blk_cell BK872.out 2).trans rfl, (blk_cell BK872.out 3).trans rfl, (blk_cell BK872.out 4).trans rfl, (blk_cell BK872.out 5).trans rfl, (blk_cell BK872.out 6).trans rfl, (blk_cell BK872.out 7).trans rfl, (blk_cell BK872.out 8).trans rfl, (blk_cell BK872.out 9).trans rfl, (blk_cell BK872.out 10).trans rfl, (blk_cell BK872.out 11).trans rfl, (blk_cell BK872.out 12).trans rfl⟩ (fun hHeld => ?_); refine with_tabW laws_FnPieceBytes.tab9 laws_FnPieceBytes.bits9 (fun HT_ HW_ => ?_)
     generalize w132.drew = w133 at HO819 HO836 HO856 BK833 BK852 BK872 BK888 HB hHeld ⊢
     refine pure_ (i := 0) (N := some 54) (v := _) (a' := _) (M24_31 1) rfl rfl (any_of HT_.out (by kernel_rfl)) (fun _ _ _ h => h) (Or.inl ⟨(by rfl), (by intro w'; go_simp; with_reducible rfl)⟩) Z24_65 ?_
     refine pure_ (i := 1) (N := some 55) (v := _) (a' := _) (M24_31 3) rfl rfl (any_of HT_.out (by kernel_rfl)) (fun _ _ _ h => h) (Or.inl ⟨(by rfl), (by intro w'; go_simp; with_reducible rfl)⟩) Z24_65 ?_
     refine pure_ (i := 2) (N := some 56) (v := _) (a' := _) (M24_31 7) rfl rfl (any_of HT_.out (by kernel_rfl)) (fun _ _ _ h => h) (Or.inl ⟨(by rfl), (by intro w'; go_simp; with_reducible rfl)⟩) Z24_65 ?_
     refine pure_ (i := 3) (N := some 57) (v := _) (a' := _) (M24_31 15) rfl rfl (any_of HT_.out (by kernel_rfl)) (fun _ _ _ h => h) (Or.inl ⟨(by rfl), (by intro w'; go_simp; with_reducible rfl)⟩) Z24_65 ?_
     refine pure_ (i := 4) (N := some 58) (v := _) (a' := _) (M24_31 31) rfl rfl (any_of HT_.out (by kernel_rfl)) (fun _ _ _ h => h) (Or.inl ⟨(by rfl), (by intro w'; go_simp; with_reducible rfl)⟩) Z24_65 ?_
     refine pure_ (i := 5) (N := some 59) (v := _) (a' := _) (M24_31 63) rfl rfl (any_of HT_.out (by kernel_rfl)) (fun _ _ _ h => h) (Or.inl ⟨(by rfl), (by intro w'; go_simp; with_reducible rfl)⟩) Z24_65 ?_
     refine pure_ (i := 6) (N := some 60) (v := undef) (a' := ?_) (M24_31 127) rfl rfl (any_of HT_.out (by kernel_rfl)) (fun _ _ _ h => h) (Or.inr ⟨(by rfl), rfl⟩) ?_ ?_
     rotate_left
     · simp only [Act.put, List.setIfInBounds_toArray, List.set_cons_zero, List.set_cons_succ, i64_w, i32_w]
       rfl
     as_aux_lemma =>
      refine pure_ (i := 7) (N := some 61) (v := undef) (a' := ?_) (M24_31 255) rfl rfl (any_of HT_.out (by kernel_rfl)) (fun _ _ _ h => h) (Or.inr ⟨(by rfl), rfl⟩) ?_ ?_
      rotate_left
      · simp only [Act.put, List.setIfInBounds_toArray, List.set_cons_zero, List.set_cons_succ, i64_w, i32_w]
        rfl
      refine pure_ (i := 8) (N := some 62) (v := undef) (a' := ?_) (M24_31 511) rfl rfl (any_of HT_.out (by kernel_rfl)) (fun _ _ _ h => h) (Or.inr ⟨(by rfl), rfl⟩) ?_ ?_
      rotate_left
      · simp only [Act.put, List.setIfInBounds_toArray, List.set_cons_zero, List.set_cons_succ, i64_w, i32_w]
        rfl
      refine pure_ (i := 9) (N := some 63) (v := undef) (a' := ?_) (M24_31 1023) rfl rfl (any_of HT_.out (by kernel_rfl)) (fun _ _ _ h => h) (Or.inr ⟨(by rfl), rfl⟩) ?_ ?_
      rotate_left
      · simp only [Act.put, List.setIfInBounds_toArray, List.set_cons_zero, List.set_cons_succ, i64_w, i32_w]
        rfl
      refine pure_ (i := 10) (N := some 64) (v := undef) (a' := ?_) (M24_31 2047) rfl rfl (any_of HT_.out (by kernel_rfl)) (fun _ _ _ h => h) (Or.inr ⟨(by rfl), rfl⟩) ?_ ?_
      rotate_left
      · simp only [Act.put, List.setIfInBounds_toArray, List.set_cons_zero, List.set_cons_succ, i64_w, i32_w]
        rfl
      refine pure_ (i := 11) (N := some 65) (v := undef) (a' := ?_) (M24_31 4095) rfl rfl (any_of HT_.out (by kernel_rfl)) (fun _ _ _ h => h) (Or.inr ⟨(by rfl), rfl⟩) ?_ ?_
      rotate_left
      · simp only [Act.put, List.setIfInBounds_toArray, List.set_cons_zero, List.set_cons_succ, i64_w, i32_w]
        rfl
      refine pure_ (i := 12) (N := some 66) (v := undef) (a' := ?_) (M24_31 8191) rfl rfl (any_of HT_.out (by kernel_rfl)) (fun _ _ _ h => h) (Or.inr ⟨(by rfl), rfl⟩) ?_ ?_
      rotate_left
      · simp only [Act.put, List.setIfInBounds_toArray, List.set_cons_zero, List.set_cons_succ, i64_w, i32_w]
        rfl
      refine pure_ (i := 13) (N := some 67) (v := undef) (a' := ?_) (M24_31 16383) rfl rfl (any_of HT_.out (by kernel_rfl)) (fun _ _ _ h => h) (Or.inr ⟨(by rfl), rfl⟩) ?_ ?_
      rotate_left
      · simp only [Act.put, List.setIfInBounds_toArray, List.set_cons_zero, List.set_cons_succ, i64_w, i32_w]
        rfl
      refine pure_ (i := 14) (N := some 68) (v := undef) (a' := ?_) (M24_31 32767) rfl rfl (any_of HT_.out (by kernel_rfl)) (fun _ _ _ h => h) (Or.inr ⟨(by rfl), rfl⟩) ?_ ?_
      rotate_left
      · simp only [Act.put, List.setIfInBounds_toArray, List.set_cons_zero, List.set_cons_succ, i64_w, i32_w]
        rfl
      as_aux_lemma =>
       refine pure_ (i := 15) (N := some 69) (v := undef) (a' := ?_) (M24_31 65535) rfl rfl (any_of HT_.out (by kernel_rfl)) (fun _ _ _ h => h) (Or.inr ⟨(by rfl), rfl⟩) ?_ ?_
       rotate_left
       · simp only [Act.put, List.setIfInBounds_toArray, List.set_cons_zero, List.set_cons_succ, i64_w, i32_w]
         rfl
       refine pure_ (i := 16) (N := some 70) (v := undef) (a' := ?_) (M24_31 131071) rfl rfl (any_of HT_.out (by kernel_rfl)) (fun _ _ _ h => h) (Or.inr ⟨(by rfl), rfl⟩) ?_ ?_
       rotate_left
       · simp only [Act.put, List.setIfInBounds_toArray, List.set_cons_zero, List.set_cons_succ, i64_w, i32_w]
         rfl
       refine pure_ (i := 17) (N := some 71) (v := undef) (a' := ?_) (M24_31 262143) rfl rfl (any_of HT_.out (by kernel_rfl)) (fun _ _ _ h => h) (Or.inr ⟨(by rfl), rfl⟩) ?_ ?_
       rotate_left
       · simp only [Act.put, List.setIfInBounds_toArray, List.set_cons_zero, List.set_cons_succ, i64_w, i32_w]
         rfl
       refine pure_ (i := 18) (N := some 72) (v := undef) (a' := ?_) (M24_31 524287) rfl rfl (any_of HT_.out (by kernel_rfl)) (fun _ _ _ h => h) (Or.inr ⟨(by rfl), rfl⟩) ?_ ?_
       rotate_left
       · simp only [Act.put, List.setIfInBounds_toArray, List.set_cons_zero, List.set_cons_succ, i64_w, i32_w]
         rfl
       refine pure_ (i := 19) (N := some 73) (v := undef) (a' := ?_) (M24_31 1048575) rfl rfl (any_of HT_.out (by kernel_rfl)) (fun _ _ _ h => h) (Or.inr ⟨(by rfl), rfl⟩) ?_ ?_
       rotate_left
       · simp only [Act.put, List.setIfInBounds_toArray, List.set_cons_zero, List.set_cons_succ, i64_w, i32_w]
         rfl
       refine pure_ (i := 20) (N := some 74) (v := _) (a' := _) (M24_31 2097151) rfl rfl (any_of HT_.out (by kernel_rfl)) (fun _ _ _ h => h) (Or.inl ⟨(by rfl), (by intro w'; go_simp; with_reducible rfl)⟩) Z24_65 ?_
       refine pure_ (i := 21) (N := some 75) (v := _) (a' := _) (M24_31 4194303) rfl rfl (any_of HT_.out (by kernel_rfl)) (fun _ _ _ h => h) (Or.inl ⟨(by rfl), (by intro w'; go_simp; with_reducible rfl)⟩) Z24_65 ?_
       refine pure_ (i := 22) (N := some 76) (v := _) (a' := _) (M24_31 8388607) rfl rfl (any_of HT_.out (by kernel_rfl)) (fun _ _ _ h => h) (Or.inl ⟨(by rfl), (by intro w'; go_simp; with_reducible rfl)⟩) Z24_65 ?_
       as_aux_lemma =>
        refine pure_ (i := 23) (N := some 77) (v := _) (a' := _) (M24_31 16777215) rfl rfl (any_of HT_.out (by kernel_rfl)) (fun _ _ _ h => h) (Or.inl ⟨(by rfl), (by intro w'; go_simp; with_reducible rfl)⟩) Z24_65 ?_
        refine pure_ (i := 24) (N := some 78) (v := _) (a' := _) (M24_31 33554431) rfl rfl (any_of HT_.out (by kernel_rfl)) (fun _ _ _ h => h) (Or.inl ⟨(by rfl), (by intro w'; go_simp; with_reducible rfl)⟩) Z24_65 ?_
        refine pure_ (i := 25) (N := some 79) (v := _) (a' := _) (M24_31 67108863) rfl rfl (any_of HT_.out (by kernel_rfl)) (fun _ _ _ h => h) (Or.inl ⟨(by rfl), (by intro w'; go_simp; with_reducible rfl)⟩) Z24_65 ?_
        refine pure_ (i := 27) (N := some 81) (v := _) (a' := _) (M24_31 201326591) rfl rfl (any_of HT_.out (by kernel_rfl)) (fun _ _ _ h => h) (Or.inl ⟨(by rfl), (by intro w'; go_simp; with_reducible rfl)⟩) Z24_65 ?_
        refine take_ (i := 26) (N := some 80) (v := _) (a' := _) (M24_31 268435455) rfl rfl (take_ofW HT_.out HW_.out (by kernel_rfl)) (fun _ _ _ h => h) (Or.inl ⟨(by rfl), Z24_70⟩) hHeld Z24_65 ?_
        refine pure_ (i := 28) (N := some 82) (v := _) (a' := _) (M24_31 536870911) rfl rfl (any_of HT_.out (by kernel_rfl)) (fun _ _ _ h => h) (Or.inl ⟨(by rfl), (by intro w'; go_simp; with_reducible rfl)⟩) Z24_65 ?_
        refine pure_ (i := 29) (N := some 83) (v := _) (a' := _) (M24_31 1073741823) rfl rfl (any_of HT_.out (by kernel_rfl)) (fun _ _ _ h => h) (Or.inl ⟨(by rfl), (by intro w'; go_simp; with_reducible rfl)⟩) Z24_65 ?_
        refine pure_ (i := 30) (N := some 84) (v := _) (a' := _) (M24_31 2147483647) rfl rfl (any_of HT_.out (by kernel_rfl)) (fun _ _ _ h => h) (Or.inl ⟨(by rfl), (by intro w'; go_simp; with_reducible rfl)⟩) Z24_65 ?_
        refine done_ (done_of HT_.out (by kernel_rfl)) ?_
        obtain ⟨⟨hcz134_0, hcz134_1, hcz134_2, hcz134_3, hcz134_4, hcz134_5, hcz134_6, hcz134_7, hcz134_8, hcz134_9, hcz134_10, hcz134_11, hcz134_12⟩, hfz134_0, hfz134_1, hfz134_2, hfz134_3, hfz134_4, hfz134_5, hfz134_6, hfz134_7, hfz134_8, hfz134_9, hfz134_10, hfz134_11, hfz134_12⟩ := C24_13 BK833.out
        try go_wp2_with (first | ((with_reducible refine gate_callee (f := 18) rfl ?_); refine goesL_ (some 86) rfl rfl Try.func18 (by kernel_rfl) rfl #[.agg #[.int .i64 t820, .int .i64 t821, .int .i64 t822, .int .i64 t823, .int .i64 t824, .int .i64 t825, .int .i64 t826, .int .i64 t827, .int .i64 t828, .int .i64 t829, .int .i64 t830, .bool t831, .bool t832]] rfl Z24_55 ?_; (with_reducible refine (impl_PieceOk.calls k t820 t821 t822 t823 t824 t825 t826 t827 t828 t829 t830 t831 t832 true _ A101.out).mono ?_); rintro e w135 ⟨rfl, hb⟩; refine ⟨_, rfl, ?_⟩; have n0_ := Aside0.mk Z24_60; have n1_ := Aside0.mk Z24_61; have n2_ := Aside0.mk Z24_62; have n3_ := Aside0.mk Z24_36; have n4_ := Aside0.mk Z24_37; have n5_ := Aside0.mk Z24_38; have n6_ := Aside0.mk Z24_39; have n7_ := Aside0.mk Z24_41; clear HO819; clear HO836; clear HO856; clear BK833; clear BK852; clear BK872; clear BK888; clear HB; have HO819 := n0_; have HO836 := n1_; have HO856 := n2_; have BK833 := n3_; have BK852 := n4_; have BK872 := n5_; have BK888 := n6_; have HB := n7_; clear n0_ n1_ n2_ n3_ n4_ n5_ n6_ n7_; (try clear hb); (try clear hb2); (try clear hk); (try clear hi); obtain ⟨⟨hcz136_0, hcz136_1, hcz136_2, hcz136_3, hcz136_4, hcz136_5, hcz136_6, hcz136_7, hcz136_8, hcz136_9, hcz136_10, hcz136_11, hcz136_12⟩, hfz136_0, hfz136_1, hfz136_2, hfz136_3, hfz136_4, hfz136_5, hfz136_6, hfz136_7, hfz136_8, hfz136_9, hfz136_10, hfz136_11, hfz136_12⟩ := C24_13 BK852.out; obtain ⟨⟨hcz137_0, hcz137_1, hcz137_2, hcz137_3, hcz137_4, hcz137_5, hcz137_6, hcz137_7, hcz137_8, hcz137_9, hcz137_10, hcz137_11, hcz137_12⟩, hfz137_0, hfz137_1, hfz137_2, hfz137_3, hfz137_4, hfz137_5, hfz137_6, hfz137_7, hfz137_8, hfz137_9, hfz137_10, hfz137_11, hfz137_12⟩ := C24_13 BK833.out; have q138 : ((t817.length : Int) : Int) ≤ ((t834.length : Int) : Int) := of_decide_eq_true Z24_71; obtain ⟨i0138, hi0138, _, hsz138, _⟩ := info_parts info5; have hroom138 : t834.length ≤ co114 := (Kd.R_reads' HO836.out).2.1; have hC138 : Kd.C (Kd.int .u8) _ Ao114 t834.length t834 := (Kd.R_reads' HO836.out).2.2; have hcut138 := cut_to (P := Try.prog) 22 5 .i64 Try.underlying22 hi0138 Ao114 t834.length co114 (t817.length : Int) (of_decide_eq_true Z24_71) q138 hroom138; have hr138 := Kd.C_take (m := ((t817.length : Int) : Int).toNat) hC138 (by omega); have hy138 : y909.length = ((t817.length : Int) : Int).toNat := (by rw [Ny909.out, List.length_take]; omega); rw [← Ny909.out] at hr138; rw [← hy138] at hcut138; have HR912 := Aside0.mk hr138; have HC912 := Aside0.mk (show y909.length ≤ co114 from by omega); clear hr138 hC138 hroom138 hi0138 hsz138; have KY138 := Aside0.mk hy138; clear hy138; have KL138 := Aside0.mk (show ((t817.length : Int) : Int).toNat ≤ t834.length from by omega); replace q138 := eq_true q138) | (go_at_call 34; (with_reducible refine (laws_same.calls _ _ y909 _ _ t817 t913 _ ?side1 ?side2 ?side3 ?side4 A108.out).mono ?_); (case side1 => repeat (first | exact (by repeat (first | (with_reducible exact HR912.out) | (with_reducible refine Kd.C_alloc ?_ _) | (with_reducible refine Kd.C_drewN ?_ _) | (with_reducible refine Kd.C_drew ?_) | exact HR912.out)) | (with_reducible refine Kd.C_alloc ?_ _) | (with_reducible refine Kd.C_drewN ?_ _) | (with_reducible refine Kd.C_drew ?_))); (case side2 => exact HC912.out); (case side3 => repeat (first | exact (Kd.R_reads' HO819.out).2.2 | (with_reducible refine Kd.C_alloc ?_ _) | (with_reducible refine Kd.C_drewN ?_ _) | (with_reducible refine Kd.C_drew ?_))); (case side4 => exact (Kd.R_reads' HO819.out).2.1); rintro e w' ⟨rfl, ⟨nd, rfl⟩⟩))
        go_ret
        exact ⟨Z24_69, Z24_42⟩
  subst c11
  rw [if_pos rfl] at H
  replace H := Option.bind_eq_some_iff.mp H
  obtain ⟨t889, A120, H⟩ := H
  (try dsimp only at H)
  have A12 := Aside0.mk A120
  clear A120
  by_cases c13 : t889 = true
  rotate_left
  · replace c13 := Bool.eq_false_iff.mpr c13
    subst c13
    have H1 : (some false) = some r := by rw [if_neg (show ¬ (false = true) by decide)] at H; exact H
    clear H
    have H := H1
    clear H1
    exact absurd (H.trans (congrArg some HRT.out)) (by simp)
  subst c13
  rw [if_pos rfl] at H
  obtain ⟨y890, hy890⟩ : ∃ y_ : List Int, y_ = (([] : List Int)) := ⟨_, rfl⟩
  replace H : ((impl_PutPiece.f k y890 t857 t858 t859 t860 t861 t862 t863 t864 t865 t866 t867 t868 t869).bind fun t893 => (if 0 ≤ t854 then (if t854 ≤ t870 then (if t870 ≤ (t853.length : Int) then ((laws_same.f t893 ((t853.take (t870 : Int).toNat).drop (t854 : Int).toNat)).bind fun t900 => (if t900 = true then ((impl_PieceOk.f k t820 t821 t822 t823 t824 t825 t826 t827 t828 t829 t830 t831 t832).bind fun t901 => (if t901 = true then (if t851 = true then (if (t837 == t820 && (t838 == t821 && (t839 == t822 && (t840 == t823 && (t841 == t824 && (t842 == t825 && (t843 == t826 && (t844 == t827 && (t845 == t828 && (t846 == t829 && (t847 == t830 && (t848 == t831 && (t849 == t832))))))))))))) = true then (if t850 = (t834.length : Int) then (if 0 ≤ (t817.length : Int) then (if (t817.length : Int) ≤ (t834.length : Int) then ((laws_same.f (t834.take ((t817.length : Int) : Int).toNat) t817).bind fun t906 => (some t906)) else (none)) else (none)) else (some false)) else (some false)) else (some false)) else ((laws_same.f t834 t817).bind fun t907 => (some t907)))) else (some false))) else (none)) else (none)) else (none))) = some r := by first | (rw [hy890]; with_reducible exact H) | (have H2_ := (Option.bind_some _ _).symm.trans H; rw [hy890]; with_reducible exact H2_) | (have H2_ := (Option.bind_some _ _).symm.trans H; with_reducible exact H2_) | with_reducible exact H | (rw [hy890]; exact H) | exact H
  have Ny890 := Aside0.mk hy890
  clear hy890
  replace H := Option.bind_eq_some_iff.mp H
  obtain ⟨t893, A140, H⟩ := H
  (try dsimp only at H)
  have A14 := Aside0.mk A140
  clear A140
  by_cases c15 : 0 ≤ t854
  rotate_left
  · rw [if_neg c15] at H
    exact absurd H (by simp)
  rw [if_pos c15] at H
  have c15b0 := eq_true c15
  have c15b1 : decide (0 ≤ t854) = true := decide_eq_true c15
  clear c15
  by_cases c16 : t854 ≤ t870
  rotate_left
  · rw [if_neg c16] at H
    exact absurd H (by simp)
  rw [if_pos c16] at H
  have c16b0 := eq_true c16
  have c16b1 : decide (t854 ≤ t870) = true := decide_eq_true c16
  clear c16
  by_cases c17 : t870 ≤ (t853.length : Int)
  rotate_left
  · rw [if_neg c17] at H
    exact absurd H (by simp)
  rw [if_pos c17] at H
  have c17b0 := eq_true c17
  have c17b1 : decide (t870 ≤ (t853.length : Int)) = true := decide_eq_true c17
  clear c17
  obtain ⟨y896, hy896⟩ : ∃ y_ : List Int, y_ = ((t853.take (t870 : Int).toNat).drop (t854 : Int).toNat) := ⟨_, rfl⟩
  replace H : ((laws_same.f t893 y896).bind fun t900 => (if t900 = true then ((impl_PieceOk.f k t820 t821 t822 t823 t824 t825 t826 t827 t828 t829 t830 t831 t832).bind fun t901 => (if t901 = true then (if t851 = true then (if (t837 == t820 && (t838 == t821 && (t839 == t822 && (t840 == t823 && (t841 == t824 && (t842 == t825 && (t843 == t826 && (t844 == t827 && (t845 == t828 && (t846 == t829 && (t847 == t830 && (t848 == t831 && (t849 == t832))))))))))))) = true then (if t850 = (t834.length : Int) then (if 0 ≤ (t817.length : Int) then (if (t817.length : Int) ≤ (t834.length : Int) then ((laws_same.f (t834.take ((t817.length : Int) : Int).toNat) t817).bind fun t906 => (some t906)) else (none)) else (none)) else (some false)) else (some false)) else (some false)) else ((laws_same.f t834 t817).bind fun t907 => (some t907)))) else (some false))) = some r := by first | (rw [hy896]; with_reducible exact H) | (have H2_ := (Option.bind_some _ _).symm.trans H; rw [hy896]; with_reducible exact H2_) | (have H2_ := (Option.bind_some _ _).symm.trans H; with_reducible exact H2_) | with_reducible exact H | (rw [hy896]; exact H) | exact H
  have Ny896 := Aside0.mk hy896
  clear hy896
  replace H := Option.bind_eq_some_iff.mp H
  obtain ⟨t900, A180, H⟩ := H
  (try dsimp only at H)
  have A18 := Aside0.mk A180
  clear A180
  by_cases c19 : t900 = true
  rotate_left
  · replace c19 := Bool.eq_false_iff.mpr c19
    subst c19
    have H1 : (some false) = some r := by rw [if_neg (show ¬ (false = true) by decide)] at H; exact H
    clear H
    have H := H1
    clear H1
    exact absurd (H.trans (congrArg some HRT.out)) (by simp)
  subst c19
  rw [if_pos rfl] at H
  replace H := Option.bind_eq_some_iff.mp H
  obtain ⟨t901, A200, H⟩ := H
  (try dsimp only at H)
  have A20 := Aside0.mk A200
  clear A200
  by_cases c21 : t901 = true
  rotate_left
  · replace c21 := Bool.eq_false_iff.mpr c21
    subst c21
    have H1 : ((laws_same.f t834 t817).bind fun t907 => (some t907)) = some r := by rw [if_neg (show ¬ (false = true) by decide)] at H; exact H
    clear H
    have H := H1
    clear H1
    replace H := Option.bind_eq_some_iff.mp H
    obtain ⟨t907, A650, H⟩ := H
    replace H : (some t907) = some r := H
    have A65 := Aside0.mk A650
    clear A650
    obtain rfl := Option.some.inj H
    go_enter Try.func4, Try.ntmps4
    try go_wp2_with (first | ((with_reducible refine gate_callee (f := 12) rfl ?_); refine goesL_ (some 18) rfl rfl Try.func12 (by kernel_rfl) rfl #[.slice A0 l0.length c0] rfl Z24_55 ?_; (with_reducible refine (laws_big.calls _ _ l0 false _ ?side1 ?side2 A2.out).mono ?_); (case side1 => repeat (first | exact HR0.out | (with_reducible refine Kd.C_alloc ?_ _) | (with_reducible refine Kd.C_drewN ?_ _) | (with_reducible refine Kd.C_drew ?_))); (case side2 => exact HC0.out); rintro e w' ⟨rfl, ⟨nd, rfl⟩⟩; refine ⟨_, rfl, ?_⟩) | ((with_reducible refine gate_callee (f := 29) rfl ?_); refine goesL_ (some 21) rfl rfl Try.func29 (by kernel_rfl) rfl #[.slice A0 l0.length c0] rfl Z24_55 ?_; (with_reducible refine (spec_DrawPutPiece.calls k _ _ l0 t817 t820 t821 t822 t823 t824 t825 t826 t827 t828 t829 t830 t831 t832 _ ?side1 ?side2 A4.out).mono ?_); (case side1 => repeat (first | exact HR0.out | (with_reducible refine Kd.C_alloc ?_ _) | (with_reducible refine Kd.C_drewN ?_ _) | (with_reducible refine Kd.C_drew ?_))); (case side2 => exact HC0.out); rintro e w66 ⟨v818, rfl, ho0, hb⟩; refine ⟨_, rfl, ?_⟩; have n0_ := Aside0.mk Z24_53; have n1_ := Aside0.mk Z24_54; clear HB; have HO819 := n0_; have HB := n1_; clear n0_ n1_; (try clear hb); (try clear hb2); (try clear hk); (try clear hi); (try clear ho0)) | ((with_reducible refine gate_dst (N := 4) rfl ?_); (try (refine gate_guard (by rfl) ?_; dsimp only)); refine box_event ?hg (N := 4) ?hd (cs := #[.int .i64 0, .int .i64 0, .int .i64 0, .int .i64 0, .int .i64 0, .int .i64 0, .int .i64 0, .int .i64 0, .int .i64 0, .int .i64 0, .int .i64 0, .bool false, .bool false]) (t := 25) ?hr ?_; (case hd => rfl); (case hg => rfl); (case hr => first | (go_simp; done) | (go_simp; rfl)); intro gb833 hg w67 hbox hb; have n0_ := Aside0.mk Z24_60; have n1_ := Aside0.mk Z24_54; have n2_ := Aside0.mk (hbox); have n3_ := Aside0.mk Z24_51; have n4_ := Aside0.mk Z24_51; clear HO819; clear HB; have HO819 := n0_; have HB := n1_; have BK833 := n2_; have GW833 := n3_; have GE833 := n4_; clear n0_ n1_ n2_ n3_ n4_; clear hb hbox hg; obtain ⟨⟨hcz68_0, hcz68_1, hcz68_2, hcz68_3, hcz68_4, hcz68_5, hcz68_6, hcz68_7, hcz68_8, hcz68_9, hcz68_10, hcz68_11, hcz68_12⟩, hfz68_0, hfz68_1, hfz68_2, hfz68_3, hfz68_4, hfz68_5, hfz68_6, hfz68_7, hfz68_8, hfz68_9, hfz68_10, hfz68_11, hfz68_12⟩ := C24_13 BK833.out; obtain ⟨Ao69, co69, eo69⟩ := Kd.R_slice HO819.out; subst eo69) | ((with_reducible refine gate_callee (f := 30) rfl ?_); refine goesL_ (some 26) rfl rfl Try.func30 (by kernel_rfl) rfl #[.slice Ao69 t817.length co69, .agg #[.int .i64 t820, .int .i64 t821, .int .i64 t822, .int .i64 t823, .int .i64 t824, .int .i64 t825, .int .i64 t826, .int .i64 t827, .int .i64 t828, .int .i64 t829, .int .i64 t830, .bool t831, .bool t832]] rfl Z24_55 ?_; (with_reducible refine (impl_PutPiece.calls k _ _ t817 t820 t821 t822 t823 t824 t825 t826 t827 t828 t829 t830 t831 t832 t834 _ ?side1 ?side2 A5.out).mono ?_); (case side1 => refine (Kd.R_reads' (e := 5) (base := w.heap.size) (ok := fun k_ => True) (n := t817.length) (c := co69) ?_).2.2; exact Z24_18); (case side2 => exact (Kd.R_reads' HO819.out).2.1); rintro e w70 ⟨v835, rfl, ho0, hb⟩; refine ⟨_, rfl, ?_⟩; have n0_ := Aside0.mk Z24_9; have n1_ := Aside0.mk Z24_8; have n2_ := Aside0.mk Z24_21; have n3_ := Aside0.mk Z24_52; clear HO819; clear BK833; clear HB; have HO819 := n0_; have HO836 := n1_; have BK833 := n2_; have HB := n3_; clear n0_ n1_ n2_ n3_; (try clear hb); (try clear hb2); (try clear hk); (try clear hi); (try clear ho0); obtain ⟨Ao71, co71, eo71⟩ := Kd.R_slice HO836.out; subst eo71) | ((with_reducible refine gate_callee (f := 31) rfl ?_); refine goesL_ (some 31) rfl rfl Try.func31 (by kernel_rfl) rfl #[.slice Ao71 t834.length co71, .int .i64 (t817.length : Int)] rfl Z24_55 ?_; (with_reducible refine (impl_GetPiece.calls k _ _ t834 (t817.length : Int) t837 t838 t839 t840 t841 t842 t843 t844 t845 t846 t847 t848 t849 t850 t851 _ ?side1 ?side2 A6.out).mono ?_); (case side1 => repeat (first | exact (Kd.R_reads' HO836.out).2.2 | (with_reducible refine Kd.C_alloc ?_ _) | (with_reducible refine Kd.C_drewN ?_ _) | (with_reducible refine Kd.C_drew ?_))); (case side2 => exact (Kd.R_reads' HO836.out).2.1); rintro e w72 ⟨rfl, hb⟩; refine ⟨_, rfl, ?_⟩; have n0_ := Aside0.mk Z24_60; have n1_ := Aside0.mk Z24_61; have n2_ := Aside0.mk Z24_36; have n3_ := Aside0.mk Z24_52; clear HO819; clear HO836; clear BK833; clear HB; have HO819 := n0_; have HO836 := n1_; have BK833 := n2_; have HB := n3_; clear n0_ n1_ n2_ n3_; (try clear hb); (try clear hb2); (try clear hk); (try clear hi); clear A6) | ((with_reducible refine gate_dst (N := 6) rfl ?_); (try (refine gate_guard (by rfl) ?_; dsimp only)); refine box_event ?hg (N := 6) ?hd (cs := #[.int .i64 0, .int .i64 0, .int .i64 0, .int .i64 0, .int .i64 0, .int .i64 0, .int .i64 0, .int .i64 0, .int .i64 0, .int .i64 0, .int .i64 0, .bool false, .bool false]) (t := 25) ?hr ?_; (case hd => rfl); (case hg => rfl); (case hr => first | (go_simp; done) | (go_simp; rfl)); intro gb852 hg w73 hbox hb; have n0_ := Aside0.mk Z24_60; have n1_ := Aside0.mk Z24_61; have n2_ := Aside0.mk Z24_36; have n3_ := Aside0.mk Z24_52; have n4_ := Aside0.mk (hbox); have n5_ := Aside0.mk Z24_46; have n6_ := Aside0.mk Z24_46; have n7_ := Aside0.mk Z24_24; have n8_ := Aside0.mk Z24_25; clear HO819; clear HO836; clear BK833; clear HB; have HO819 := n0_; have HO836 := n1_; have BK833 := n2_; have HB := n3_; have BK852 := n4_; have GW852 := n5_; have GE852 := n6_; have NB833_852 := n7_; have NB852_833 := n8_; clear n0_ n1_ n2_ n3_ n4_ n5_ n6_ n7_ n8_; clear hb hbox hg; have hnb74 := NB852_833.out; have hnc74 := NB833_852.out; obtain ⟨⟨hcz75_0, hcz75_1, hcz75_2, hcz75_3, hcz75_4, hcz75_5, hcz75_6, hcz75_7, hcz75_8, hcz75_9, hcz75_10, hcz75_11, hcz75_12⟩, hfz75_0, hfz75_1, hfz75_2, hfz75_3, hfz75_4, hfz75_5, hfz75_6, hfz75_7, hfz75_8, hfz75_9, hfz75_10, hfz75_11, hfz75_12⟩ := C24_13 BK852.out) | ((with_reducible refine gate_callee (f := 32) rfl ?_); refine goesL_ (some 37) rfl rfl Try.func32 (by kernel_rfl) rfl #[.slice A0 l0.length c0] rfl Z24_55 ?_; (with_reducible refine (spec_DrawGetPiece.calls k _ _ l0 t853 t854 _ ?side1 ?side2 A7.out).mono ?_); (case side1 => exact Kd.C_below HR0.out Z24_49); (case side2 => exact HC0.out); rintro e w76 ⟨v855, rfl, ho0, hb⟩; refine ⟨_, rfl, ?_⟩; have n0_ := Aside0.mk Z24_10; have n1_ := Aside0.mk Z24_11; have n2_ := Aside0.mk Z24_1; have n3_ := Aside0.mk Z24_2; have n4_ := Aside0.mk Z24_22; have n5_ := Aside0.mk Z24_47; clear HO819; clear HO836; clear BK833; clear BK852; clear HB; have HO819 := n0_; have HO836 := n1_; have HO856 := n2_; have BK833 := n3_; have BK852 := n4_; have HB := n5_; clear n0_ n1_ n2_ n3_ n4_ n5_; (try clear hb); (try clear hb2); (try clear hk); (try clear hi); (try clear ho0); obtain ⟨Ao77, co77, eo77⟩ := Kd.R_slice HO856.out; subst eo77) | ((with_reducible refine gate_callee (f := 31) rfl ?_); refine goesL_ (some 43) rfl rfl Try.func31 (by kernel_rfl) rfl #[.slice Ao77 t853.length co77, .int .i64 t854] rfl Z24_55 ?_; (with_reducible refine (impl_GetPiece.calls k _ _ t853 t854 t857 t858 t859 t860 t861 t862 t863 t864 t865 t866 t867 t868 t869 t870 true _ ?side1 ?side2 A8.out).mono ?_); (case side1 => repeat (first | exact (Kd.R_reads' HO856.out).2.2 | (with_reducible refine Kd.C_alloc ?_ _) | (with_reducible refine Kd.C_drewN ?_ _) | (with_reducible refine Kd.C_drew ?_))); (case side2 => exact (Kd.R_reads' HO856.out).2.1); rintro e w78 ⟨rfl, hb⟩; refine ⟨_, rfl, ?_⟩; have n0_ := Aside0.mk Z24_60; have n1_ := Aside0.mk Z24_61; have n2_ := Aside0.mk Z24_62; have n3_ := Aside0.mk Z24_36; have n4_ := Aside0.mk Z24_37; have n5_ := Aside0.mk Z24_47; clear HO819; clear HO836; clear HO856; clear BK833; clear BK852; clear HB; have HO819 := n0_; have HO836 := n1_; have HO856 := n2_; have BK833 := n3_; have BK852 := n4_; have HB := n5_; clear n0_ n1_ n2_ n3_ n4_ n5_; (try clear hb); (try clear hb2); (try clear hk); (try clear hi); clear A8) | ((with_reducible refine gate_dst (N := 11) rfl ?_); (try (refine gate_guard (by rfl) ?_; dsimp only)); refine box_event ?hg (N := 11) ?hd (cs := #[.int .i64 0, .int .i64 0, .int .i64 0, .int .i64 0, .int .i64 0, .int .i64 0, .int .i64 0, .int .i64 0, .int .i64 0, .int .i64 0, .int .i64 0, .bool false, .bool false]) (t := 25) ?hr ?_; (case hd => rfl); (case hg => rfl); (case hr => first | (go_simp; done) | (go_simp; rfl)); intro gb872 hg w79 hbox hb; have n0_ := Aside0.mk Z24_60; have n1_ := Aside0.mk Z24_61; have n2_ := Aside0.mk Z24_62; have n3_ := Aside0.mk Z24_36; have n4_ := Aside0.mk Z24_37; have n5_ := Aside0.mk Z24_47; have n6_ := Aside0.mk (hbox); have n7_ := Aside0.mk Z24_43; have n8_ := Aside0.mk Z24_43; have n9_ := Aside0.mk Z24_26; have n10_ := Aside0.mk Z24_27; have n11_ := Aside0.mk Z24_28; have n12_ := Aside0.mk Z24_29; clear HO819; clear HO836; clear HO856; clear BK833; clear BK852; clear HB; have HO819 := n0_; have HO836 := n1_; have HO856 := n2_; have BK833 := n3_; have BK852 := n4_; have HB := n5_; have BK872 := n6_; have GW872 := n7_; have GE872 := n8_; have NB833_872 := n9_; have NB872_833 := n10_; have NB852_872 := n11_; have NB872_852 := n12_; clear n0_ n1_ n2_ n3_ n4_ n5_ n6_ n7_ n8_ n9_ n10_ n11_ n12_; clear hb hbox hg; have hnb80 := NB872_833.out; have hnc80 := NB833_872.out; have hnb81 := NB872_852.out; have hnc81 := NB852_872.out; obtain ⟨⟨hcz82_0, hcz82_1, hcz82_2, hcz82_3, hcz82_4, hcz82_5, hcz82_6, hcz82_7, hcz82_8, hcz82_9, hcz82_10, hcz82_11, hcz82_12⟩, hfz82_0, hfz82_1, hfz82_2, hfz82_3, hfz82_4, hfz82_5, hfz82_6, hfz82_7, hfz82_8, hfz82_9, hfz82_10, hfz82_11, hfz82_12⟩ := C24_13 BK872.out) | ((with_reducible refine gate_callee (f := 33) rfl ?_); refine goesL_ (some 50) rfl rfl Try.func33 (by kernel_rfl) rfl #[.slice Ao77 t853.length co77, .int .i64 t854] rfl Z24_55 ?_; (with_reducible refine (spec_GetPiece.calls k _ _ t853 t854 t873 t874 t875 t876 t877 t878 t879 t880 t881 t882 t883 t884 t885 t886 t887 _ ?side1 ?side2 A9.out).mono ?_); (case side1 => refine (Kd.R_reads' (e := 5) (base := w.heap.size) (ok := fun k_ => ((True ∧ some k_ ≠ (.slice Ao69 t817.length co69 : Value).ownBlock) ∧ some k_ ≠ (.slice Ao71 t834.length co71 : Value).ownBlock)) (n := t853.length) (c := co77) ?_).2.2; exact Z24_19); (case side2 => exact (Kd.R_reads' HO856.out).2.1); rintro e w83 ⟨rfl, hb⟩; refine ⟨_, rfl, ?_⟩; have n0_ := Aside0.mk Z24_12; have n1_ := Aside0.mk Z24_13; have n2_ := Aside0.mk Z24_14; have n3_ := Aside0.mk Z24_3; have n4_ := Aside0.mk Z24_4; have n5_ := Aside0.mk Z24_23; have n6_ := Aside0.mk Z24_44; clear HO819; clear HO836; clear HO856; clear BK833; clear BK852; clear BK872; clear HB; have HO819 := n0_; have HO836 := n1_; have HO856 := n2_; have BK833 := n3_; have BK852 := n4_; have BK872 := n5_; have HB := n6_; clear n0_ n1_ n2_ n3_ n4_ n5_ n6_; (try clear hb); (try clear hb2); (try clear hk); (try clear hi)) | ((with_reducible refine gate_dst (N := 14) rfl ?_); (try (refine gate_guard (by rfl) ?_; dsimp only)); refine box_event ?hg (N := 14) ?hd (cs := #[.int .i64 0, .int .i64 0, .int .i64 0, .int .i64 0, .int .i64 0, .int .i64 0, .int .i64 0, .int .i64 0, .int .i64 0, .int .i64 0, .int .i64 0, .bool false, .bool false]) (t := 25) ?hr ?_; (case hd => rfl); (case hg => rfl); (case hr => first | (go_simp; done) | (go_simp; rfl)); intro gb888 hg w84 hbox hb; have n0_ := Aside0.mk Z24_60; have n1_ := Aside0.mk Z24_61; have n2_ := Aside0.mk Z24_62; have n3_ := Aside0.mk Z24_36; have n4_ := Aside0.mk Z24_37; have n5_ := Aside0.mk Z24_38; have n6_ := Aside0.mk Z24_44; have n7_ := Aside0.mk (hbox); have n8_ := Aside0.mk Z24_40; have n9_ := Aside0.mk Z24_40; have n10_ := Aside0.mk Z24_30; have n11_ := Aside0.mk Z24_31; have n12_ := Aside0.mk Z24_32; have n13_ := Aside0.mk Z24_33; have n14_ := Aside0.mk Z24_34; have n15_ := Aside0.mk Z24_35; clear HO819; clear HO836; clear HO856; clear BK833; clear BK852; clear BK872; clear HB; have HO819 := n0_; have HO836 := n1_; have HO856 := n2_; have BK833 := n3_; have BK852 := n4_; have BK872 := n5_; have HB := n6_; have BK888 := n7_; have GW888 := n8_; have GE888 := n9_; have NB833_888 := n10_; have NB888_833 := n11_; have NB852_888 := n12_; have NB888_852 := n13_; have NB872_888 := n14_; have NB888_872 := n15_; clear n0_ n1_ n2_ n3_ n4_ n5_ n6_ n7_ n8_ n9_ n10_ n11_ n12_ n13_ n14_ n15_; clear hb hbox hg; have hnb85 := NB888_833.out; have hnc85 := NB833_888.out; have hnb86 := NB888_852.out; have hnc86 := NB852_888.out; have hnb87 := NB888_872.out; have hnc87 := NB872_888.out; obtain ⟨⟨hcz88_0, hcz88_1, hcz88_2, hcz88_3, hcz88_4, hcz88_5, hcz88_6, hcz88_7, hcz88_8, hcz88_9, hcz88_10, hcz88_11, hcz88_12⟩, hfz88_0, hfz88_1, hfz88_2, hfz88_3, hfz88_4, hfz88_5, hfz88_6, hfz88_7, hfz88_8, hfz88_9, hfz88_10, hfz88_11, hfz88_12⟩ := C24_13 BK888.out))
    have n0_ : Aside0 (Kd.R (Kd.int .u8) 5 (((((((((((((w84.setCell ⟨gb888, 0, none⟩ (.int .i64 t873)).setCell ⟨gb888, 1, none⟩ (.int .i64 t874)).setCell ⟨gb888, 2, none⟩ (.int .i64 t875)).setCell ⟨gb888, 3, none⟩ (.int .i64 t876)).setCell ⟨gb888, 4, none⟩ (.int .i64 t877)).setCell ⟨gb888, 5, none⟩ (.int .i64 t878)).setCell ⟨gb888, 6, none⟩ (.int .i64 t879)).setCell ⟨gb888, 7, none⟩ (.int .i64 t880)).setCell ⟨gb888, 8, none⟩ (.int .i64 t881)).setCell ⟨gb888, 9, none⟩ (.int .i64 t882)).setCell ⟨gb888, 10, none⟩ (.int .i64 t883)).setCell ⟨gb888, 11, none⟩ (.bool t884)).setCell ⟨gb888, 12, none⟩ (.bool t885)) w.heap.size (fun k_ => some k_ ≠ (.slice Ao71 t834.length co71 : Value).ownBlock ∧ some k_ ≠ (.slice Ao77 t853.length co77 : Value).ownBlock) (.slice Ao69 t817.length co69) t817) := ⟨Z24_15⟩
    have n1_ : Aside0 (Kd.R (Kd.int .u8) 5 (((((((((((((w84.setCell ⟨gb888, 0, none⟩ (.int .i64 t873)).setCell ⟨gb888, 1, none⟩ (.int .i64 t874)).setCell ⟨gb888, 2, none⟩ (.int .i64 t875)).setCell ⟨gb888, 3, none⟩ (.int .i64 t876)).setCell ⟨gb888, 4, none⟩ (.int .i64 t877)).setCell ⟨gb888, 5, none⟩ (.int .i64 t878)).setCell ⟨gb888, 6, none⟩ (.int .i64 t879)).setCell ⟨gb888, 7, none⟩ (.int .i64 t880)).setCell ⟨gb888, 8, none⟩ (.int .i64 t881)).setCell ⟨gb888, 9, none⟩ (.int .i64 t882)).setCell ⟨gb888, 10, none⟩ (.int .i64 t883)).setCell ⟨gb888, 11, none⟩ (.bool t884)).setCell ⟨gb888, 12, none⟩ (.bool t885)) w.heap.size (fun k_ => some k_ ≠ (.slice Ao69 t817.length co69 : Value).ownBlock ∧ some k_ ≠ (.slice Ao77 t853.length co77 : Value).ownBlock) (.slice Ao71 t834.length co71) t834) := ⟨Z24_16⟩
    have n2_ : Aside0 (Kd.R (Kd.int .u8) 5 (((((((((((((w84.setCell ⟨gb888, 0, none⟩ (.int .i64 t873)).setCell ⟨gb888, 1, none⟩ (.int .i64 t874)).setCell ⟨gb888, 2, none⟩ (.int .i64 t875)).setCell ⟨gb888, 3, none⟩ (.int .i64 t876)).setCell ⟨gb888, 4, none⟩ (.int .i64 t877)).setCell ⟨gb888, 5, none⟩ (.int .i64 t878)).setCell ⟨gb888, 6, none⟩ (.int .i64 t879)).setCell ⟨gb888, 7, none⟩ (.int .i64 t880)).setCell ⟨gb888, 8, none⟩ (.int .i64 t881)).setCell ⟨gb888, 9, none⟩ (.int .i64 t882)).setCell ⟨gb888, 10, none⟩ (.int .i64 t883)).setCell ⟨gb888, 11, none⟩ (.bool t884)).setCell ⟨gb888, 12, none⟩ (.bool t885)) w.heap.size (fun k_ => some k_ ≠ (.slice Ao69 t817.length co69 : Value).ownBlock ∧ some k_ ≠ (.slice Ao71 t834.length co71 : Value).ownBlock) (.slice Ao77 t853.length co77) t853) := ⟨Z24_17⟩
    have n3_ : Aside0 ((((((((((((((w84.setCell ⟨gb888, 0, none⟩ (.int .i64 t873)).setCell ⟨gb888, 1, none⟩ (.int .i64 t874)).setCell ⟨gb888, 2, none⟩ (.int .i64 t875)).setCell ⟨gb888, 3, none⟩ (.int .i64 t876)).setCell ⟨gb888, 4, none⟩ (.int .i64 t877)).setCell ⟨gb888, 5, none⟩ (.int .i64 t878)).setCell ⟨gb888, 6, none⟩ (.int .i64 t879)).setCell ⟨gb888, 7, none⟩ (.int .i64 t880)).setCell ⟨gb888, 8, none⟩ (.int .i64 t881)).setCell ⟨gb888, 9, none⟩ (.int .i64 t882)).setCell ⟨gb888, 10, none⟩ (.int .i64 t883)).setCell ⟨gb888, 11, none⟩ (.bool t884)).setCell ⟨gb888, 12, none⟩ (.bool t885)).heap[gb833]? = some (.cells #[.int .i64 t820, .int .i64 t821, .int .i64 t822, .int .i64 t823, .int .i64 t824, .int .i64 t825, .int .i64 t826, .int .i64 t827, .int .i64 t828, .int .i64 t829, .int .i64 t830, .bool t831, .bool t832] 25 (0, 0))) := ⟨Z24_5⟩
    have n4_ : Aside0 ((((((((((((((w84.setCell ⟨gb888, 0, none⟩ (.int .i64 t873)).setCell ⟨gb888, 1, none⟩ (.int .i64 t874)).setCell ⟨gb888, 2, none⟩ (.int .i64 t875)).setCell ⟨gb888, 3, none⟩ (.int .i64 t876)).setCell ⟨gb888, 4, none⟩ (.int .i64 t877)).setCell ⟨gb888, 5, none⟩ (.int .i64 t878)).setCell ⟨gb888, 6, none⟩ (.int .i64 t879)).setCell ⟨gb888, 7, none⟩ (.int .i64 t880)).setCell ⟨gb888, 8, none⟩ (.int .i64 t881)).setCell ⟨gb888, 9, none⟩ (.int .i64 t882)).setCell ⟨gb888, 10, none⟩ (.int .i64 t883)).setCell ⟨gb888, 11, none⟩ (.bool t884)).setCell ⟨gb888, 12, none⟩ (.bool t885)).heap[gb852]? = some (.cells #[.int .i64 t837, .int .i64 t838, .int .i64 t839, .int .i64 t840, .int .i64 t841, .int .i64 t842, .int .i64 t843, .int .i64 t844, .int .i64 t845, .int .i64 t846, .int .i64 t847, .bool t848, .bool t849] 25 (0, 0))) := ⟨Z24_6⟩
    have n5_ : Aside0 ((((((((((((((w84.setCell ⟨gb888, 0, none⟩ (.int .i64 t873)).setCell ⟨gb888, 1, none⟩ (.int .i64 t874)).setCell ⟨gb888, 2, none⟩ (.int .i64 t875)).setCell ⟨gb888, 3, none⟩ (.int .i64 t876)).setCell ⟨gb888, 4, none⟩ (.int .i64 t877)).setCell ⟨gb888, 5, none⟩ (.int .i64 t878)).setCell ⟨gb888, 6, none⟩ (.int .i64 t879)).setCell ⟨gb888, 7, none⟩ (.int .i64 t880)).setCell ⟨gb888, 8, none⟩ (.int .i64 t881)).setCell ⟨gb888, 9, none⟩ (.int .i64 t882)).setCell ⟨gb888, 10, none⟩ (.int .i64 t883)).setCell ⟨gb888, 11, none⟩ (.bool t884)).setCell ⟨gb888, 12, none⟩ (.bool t885)).heap[gb872]? = some (.cells #[.int .i64 t857, .int .i64 t858, .int .i64 t859, .int .i64 t860, .int .i64 t861, .int .i64 t862, .int .i64 t863, .int .i64 t864, .int .i64 t865, .int .i64 t866, .int .i64 t867, .bool t868, .bool t869] 25 (0, 0))) := ⟨Z24_7⟩
    have n6_ : Aside0 ((((((((((((((w84.setCell ⟨gb888, 0, none⟩ (.int .i64 t873)).setCell ⟨gb888, 1, none⟩ (.int .i64 t874)).setCell ⟨gb888, 2, none⟩ (.int .i64 t875)).setCell ⟨gb888, 3, none⟩ (.int .i64 t876)).setCell ⟨gb888, 4, none⟩ (.int .i64 t877)).setCell ⟨gb888, 5, none⟩ (.int .i64 t878)).setCell ⟨gb888, 6, none⟩ (.int .i64 t879)).setCell ⟨gb888, 7, none⟩ (.int .i64 t880)).setCell ⟨gb888, 8, none⟩ (.int .i64 t881)).setCell ⟨gb888, 9, none⟩ (.int .i64 t882)).setCell ⟨gb888, 10, none⟩ (.int .i64 t883)).setCell ⟨gb888, 11, none⟩ (.bool t884)).setCell ⟨gb888, 12, none⟩ (.bool t885)).heap[gb888]? = some (.cells #[.int .i64 t873, .int .i64 t874, .int .i64 t875, .int .i64 t876, .int .i64 t877, .int .i64 t878, .int .i64 t879, .int .i64 t880, .int .i64 t881, .int .i64 t882, .int .i64 t883, .bool t884, .bool t885] 25 (0, 0))) := ⟨Z24_45⟩
    have n7_ : Aside0 (Below w.heap.size w (((((((((((((w84.setCell ⟨gb888, 0, none⟩ (.int .i64 t873)).setCell ⟨gb888, 1, none⟩ (.int .i64 t874)).setCell ⟨gb888, 2, none⟩ (.int .i64 t875)).setCell ⟨gb888, 3, none⟩ (.int .i64 t876)).setCell ⟨gb888, 4, none⟩ (.int .i64 t877)).setCell ⟨gb888, 5, none⟩ (.int .i64 t878)).setCell ⟨gb888, 6, none⟩ (.int .i64 t879)).setCell ⟨gb888, 7, none⟩ (.int .i64 t880)).setCell ⟨gb888, 8, none⟩ (.int .i64 t881)).setCell ⟨gb888, 9, none⟩ (.int .i64 t882)).setCell ⟨gb888, 10, none⟩ (.int .i64 t883)).setCell ⟨gb888, 11, none⟩ (.bool t884)).setCell ⟨gb888, 12, none⟩ (.bool t885))) := ⟨Z24_42⟩
    (try clear HO819)
    (try clear HO836)
    (try clear HO856)
    (try clear BK833)
    (try clear BK852)
    (try clear BK872)
    (try clear BK888)
    (try clear HB)
    generalize (((((((((((((w84.setCell ⟨gb888, 0, none⟩ (.int .i64 t873)).setCell ⟨gb888, 1, none⟩ (.int .i64 t874)).setCell ⟨gb888, 2, none⟩ (.int .i64 t875)).setCell ⟨gb888, 3, none⟩ (.int .i64 t876)).setCell ⟨gb888, 4, none⟩ (.int .i64 t877)).setCell ⟨gb888, 5, none⟩ (.int .i64 t878)).setCell ⟨gb888, 6, none⟩ (.int .i64 t879)).setCell ⟨gb888, 7, none⟩ (.int .i64 t880)).setCell ⟨gb888, 8, none⟩ (.int .i64 t881)).setCell ⟨gb888, 9, none⟩ (.int .i64 t882)).setCell ⟨gb888, 10, none⟩ (.int .i64 t883)).setCell ⟨gb888, 11, none⟩ (.bool t884)).setCell ⟨gb888, 12, none⟩ (.bool t885)) = w89 at n0_ n1_ n2_ n3_ n4_ n5_ n6_ n7_ ⊢
    have HO819 := n0_
    have HO836 := n1_
    have HO856 := n2_
    have BK833 := n3_
    have BK852 := n4_
    have BK872 := n5_
    have BK888 := n6_
    have HB := n7_
    clear n0_ n1_ n2_ n3_ n4_ n5_ n6_ n7_
    have n0_ := Aside0.mk (Kd.R_drew HO819.out)
    have n1_ := Aside0.mk (Kd.R_drew HO836.out)
    have n2_ := Aside0.mk (Kd.R_drew HO856.out)
    have n3_ := Aside0.mk (blk_drew BK833.out)
    have n4_ := Aside0.mk (blk_drew BK852.out)
    have n5_ := Aside0.mk (blk_drew BK872.out)
    have n6_ := Aside0.mk (blk_drew BK888.out)
    have n7_ := Aside0.mk (below_drew1 HB.out)
    clear HO819
    clear HO836
    clear HO856
    clear BK833
    clear BK852
    clear BK872
    clear BK888
    clear HB
    have HO819 := n0_
    have HO836 := n1_
    have HO856 := n2_
    have BK833 := n3_
    have BK852 := n4_
    have BK872 := n5_
    have BK888 := n6_
    have HB := n7_
    clear n0_ n1_ n2_ n3_ n4_ n5_ n6_ n7_
    as_aux_lemma =>
     refine start_ (n := 31) (S := fun w' => w'.cell? ⟨gb872, 0, none⟩ = some (.int .i64 t857) ∧ w'.cell? ⟨gb872, 1, none⟩ = some (.int .i64 t858) ∧ w'.cell? ⟨gb872, 2, none⟩ = some (.int .i64 t859) ∧ w'.cell? ⟨gb872, 3, none⟩ = some (.int .i64 t860) ∧ w'.cell? ⟨gb872, 4, none⟩ = some (.int .i64 t861) ∧ w'.cell? ⟨gb872, 5, none⟩ = some (.int .i64 t862) ∧ w'.cell? ⟨gb872, 6, none⟩ = some (.int .i64 t863) ∧ w'.cell? ⟨gb872, 7, none⟩ = some (.int .i64 t864) ∧ w'.cell? ⟨gb872, 8, none⟩ = some (.int .i64 t865) ∧ w'.cell? ⟨gb872, 9, none⟩ = some (.int .i64 t866) ∧ w'.cell? ⟨gb872, 10, none⟩ = some (.int .i64 t867) ∧ w'.cell? ⟨gb872, 11, none⟩ = some (.bool t868) ∧ w'.cell? ⟨gb872, 12, none⟩ = some (.bool t869)) (ds := []) #[false, false, false, false, false, false, false, false, false, false, false, false, false, false, false, false, false, false, false, false, false, false, false, false, false, false, false, false, false, false, false] (by kernel_rfl) rfl rfl ⟨(blk_cell BK872.out 0).trans rfl, (blk_cell BK872.out 1).trans rfl, (blk_cell BK872.out 2).trans rfl, (blk_cell BK872.out 3).trans rfl, (blk_cell BK872.out 4).trans rfl, (blk_cell BK872.out 5).trans rfl, (blk_cell BK872.out 6).trans rfl, (blk_cell BK872.out 7).trans rfl, (blk_cell BK872.out 8).trans rfl, (blk_cell BK872.out 9).trans rfl, (blk_cell BK872.out 10).trans rfl, (blk_cell BK872.out 11).trans rfl, (blk_cell BK872.out 12).trans rfl⟩ (fun hHeld => ?_); refine with_tabW laws_FnPieceBytes.tab9 laws_FnPieceBytes.bits9 (fun HT_ HW_ => ?_)
     generalize w89.drew = w90 at HO819 HO836 HO856 BK833 BK852 BK872 BK888 HB hHeld ⊢
     refine pure_ (i := 0) (N := some 54) (v := _) (a' := _) (M24_31 1) rfl rfl (any_of HT_.out (by kernel_rfl)) (fun _ _ _ h => h) (Or.inl ⟨(by rfl), (by intro w'; go_simp; with_reducible rfl)⟩) Z24_65 ?_
     refine pure_ (i := 1) (N := some 55) (v := _) (a' := _) (M24_31 3) rfl rfl (any_of HT_.out (by kernel_rfl)) (fun _ _ _ h => h) (Or.inl ⟨(by rfl), (by intro w'; go_simp; with_reducible rfl)⟩) Z24_65 ?_
     refine pure_ (i := 2) (N := some 56) (v := _) (a' := _) (M24_31 7) rfl rfl (any_of HT_.out (by kernel_rfl)) (fun _ _ _ h => h) (Or.inl ⟨(by rfl), (by intro w'; go_simp; with_reducible rfl)⟩) Z24_65 ?_
     refine pure_ (i := 3) (N := some 57) (v := _) (a' := _) (M24_31 15) rfl rfl (any_of HT_.out (by kernel_rfl)) (fun _ _ _ h => h) (Or.inl ⟨(by rfl), (by intro w'; go_simp; with_reducible rfl)⟩) Z24_65 ?_
     refine pure_ (i := 4) (N := some 58) (v := _) (a' := _) (M24_31 31) rfl rfl (any_of HT_.out (by kernel_rfl)) (fun _ _ _ h => h) (Or.inl ⟨(by rfl), (by intro w'; go_simp; with_reducible rfl)⟩) Z24_65 ?_
     refine pure_ (i := 5) (N := some 59) (v := _) (a' := _) (M24_31 63) rfl rfl (any_of HT_.out (by kernel_rfl)) (fun _ _ _ h => h) (Or.inl ⟨(by rfl), (by intro w'; go_simp; with_reducible rfl)⟩) Z24_65 ?_
     refine take_ (i := 6) (N := some 60) (v := _) (a' := _) (M24_31 127) rfl rfl (take_ofW HT_.out HW_.out (by kernel_rfl)) (fun _ _ _ h => h) (Or.inl ⟨(by rfl), Z24_70⟩) hHeld Z24_65 ?_
     as_aux_lemma =>
      refine one_ (i := 7) (N := some 61) (M24_31 255) rfl rfl (one_of HT_.out (by kernel_rfl)) (by decide) (fun K hK => ?_)
      refine goes_ Try.func18 (by kernel_rfl) rfl #[.agg #[.int .i64 t857, .int .i64 t858, .int .i64 t859, .int .i64 t860, .int .i64 t861, .int .i64 t862, .int .i64 t863, .int .i64 t864, .int .i64 t865, .int .i64 t866, .int .i64 t867, .bool t868, .bool t869]] (by rfl) rfl rfl Z24_55 ?_
      with_reducible refine (impl_PieceOk.calls k t857 t858 t859 t860 t861 t862 t863 t864 t865 t866 t867 t868 t869 true _ A12.out).mono ?_
      rintro e w91 ⟨rfl, hb⟩
      refine ⟨_, rfl, ?_⟩
      have n0_ := Aside0.mk Z24_60
      have n1_ := Aside0.mk Z24_61
      have n2_ := Aside0.mk Z24_62
      have n3_ := Aside0.mk Z24_36
      have n4_ := Aside0.mk Z24_37
      have n5_ := Aside0.mk Z24_38
      have n6_ := Aside0.mk Z24_39
      have n7_ := Aside0.mk Z24_41
      clear HO819
      clear HO836
      clear HO856
      clear BK833
      clear BK852
      clear BK872
      clear BK888
      clear HB
      have HO819 := n0_
      have HO836 := n1_
      have HO856 := n2_
      have BK833 := n3_
      have BK852 := n4_
      have BK872 := n5_
      have BK888 := n6_
      have HB := n7_
      clear n0_ n1_ n2_ n3_ n4_ n5_ n6_ n7_
      (try clear hb)
      (try clear hb2)
      (try clear hk)
      (try clear hi)
      refine hK.out _ _ (C24_13 BK872.out).1 (fun hHeld => ?_)
      clear hK K
      refine norm_ (a' := ?_) ?_ ?_
      rotate_left
      · show Act.put _ (some 61) _ = _
        simp only [Act.put, List.setIfInBounds_toArray, List.set_cons_zero, List.set_cons_succ, i64_w, i32_w]
        rfl
      refine pure_ (i := 8) (N := some 62) (v := _) (a' := _) (M24_31 511) rfl rfl (any_of HT_.out (by kernel_rfl)) (fun _ _ _ h => h) (Or.inl ⟨(by rfl), (by intro w'; go_simp; with_reducible rfl)⟩) Z24_65 ?_
      refine pure_ (i := 9) (N := some 63) (v := _) (a' := _) (M24_31 1023) rfl rfl (any_of HT_.out (by kernel_rfl)) (fun _ _ _ h => h) (Or.inl ⟨(by rfl), (by intro w'; go_simp; with_reducible rfl)⟩) Z24_65 ?_
      refine pure_ (i := 13) (N := some 67) (v := _) (a' := _) (M24_31 9215) rfl rfl (any_of HT_.out (by kernel_rfl)) (fun _ _ _ h => h) (Or.inl ⟨(by rfl), (by intro w'; go_simp; with_reducible rfl)⟩) Z24_65 ?_
      refine pure_ (i := 14) (N := some 68) (v := _) (a' := _) (M24_31 25599) rfl rfl (any_of HT_.out (by kernel_rfl)) (fun _ _ _ h => h) (Or.inl ⟨(by rfl), (by intro w'; go_simp; with_reducible rfl)⟩) Z24_65 ?_
      refine pure_ (i := 15) (N := some 69) (v := _) (a' := _) (M24_31 58367) rfl rfl (any_of HT_.out (by kernel_rfl)) (fun _ _ _ h => h) (Or.inl ⟨(by rfl), (by intro w'; go_simp; with_reducible rfl)⟩) Z24_65 ?_
      have q96 : (t870 : Int) ≤ ((t853.length : Int) : Int) := of_decide_eq_true Z24_71
      obtain ⟨i096, hi096, _, hsz96, _⟩ := info_parts info5
      have hroom96 : t853.length ≤ co77 := (Kd.R_reads' HO856.out).2.1
      have ql96 : (t854 : Int) ≤ (t870 : Int) := of_decide_eq_true Z24_71
      have q096 : (0 : Int) ≤ (t854 : Int) := of_decide_eq_true Z24_71
      have hcut96 := cut_mid (P := Try.prog) 22 5 .i64 .i64 Try.underlying22 hi096 1 hsz96 Ao77 t853.length co77 t854 t870 q096 ql96 q96 hroom96
      obtain ⟨A96, hA96⟩ : ∃ A1, A1 = (if co77 = (t854 : Int).toNat then Ao77 else (Ao77 : Option Addr).map (·.add ((t854 : Int).toNat * 1))) := ⟨_, rfl⟩
      obtain ⟨c96, hc96⟩ : ∃ c1, c1 = co77 - (t854 : Int).toNat := ⟨_, rfl⟩
      have hy96 : y896.length = (t870 : Int).toNat - (t854 : Int).toNat := (by rw [Ny896.out, List.length_drop, List.length_take] <;> omega)
      rw [← hy96, ← hA96, ← hc96] at hcut96
      have Xhroom96 := Aside0.mk hroom96
      have XhA96 := Aside0.mk hA96
      have Xhc96 := Aside0.mk hc96
      have Xhy96 := Aside0.mk hy96
      have Xq96 := Aside0.mk q96
      have Xql96 := Aside0.mk ql96
      have Xq096 := Aside0.mk q096
      clear hroom96 hA96 hc96 hy96 q96 ql96 q096 hi096 hsz96
      refine pure_ (i := 16) (N := some 70) (v := _) (a' := _) (M24_31 123903) rfl rfl (any_of HT_.out (by kernel_rfl)) (fun _ _ _ h => h) (Or.inl ⟨(by rfl), (by intro w'; go_simp; with_reducible rfl)⟩) Z24_65 ?_
      refine take_ (i := 11) (N := some 65) (v := _) (a' := _) (M24_31 125951) rfl rfl (take_ofW HT_.out HW_.out (by kernel_rfl)) (fun _ _ _ h => h) (Or.inl ⟨(by rfl), Z24_70⟩) hHeld Z24_65 ?_
      as_aux_lemma =>
       refine one_ (i := 10) (N := some 64) (M24_31 126975) rfl rfl (one_of HT_.out (by kernel_rfl)) (by decide) (fun K hK => ?_)
       refine Kd.R_lit_step (Kd.int .u8) _ 5 ?hg (N := 64) ?hd (xs := ([] : List Int)) (inner := []) (ok := fun _ => True) (okp := fun _ => True) ?hr ?hp (fun _ hk => hk) trivial (Below.refl _ _) (Nat.le_refl _) (by simp) ?_; (case hd => rfl); (case hg => rfl); (case hr => first | (go_simp; done) | (go_simp; rfl)); (case hp => exact (Reps.none _ _))
       intro v891 w92 ho93 hb hg_ hnew_
       clear hg_ hnew_
       (first | rw [← Ny890.out] at ho93 | (simp only [Int.reduceToNat] at ho93; rw [← Ny890.out] at ho93))
       have n0_ := Aside0.mk (Kd.R_elder' Z24_66 (Kd.R_base ho93) hb)
       have n1_ := Aside0.mk (Kd.R_elder' Z24_67 (Kd.R_base ho93) hb)
       have n2_ := Aside0.mk (Kd.R_elder' Z24_68 (Kd.R_base ho93) hb)
       have n3_ := Aside0.mk (Kd.R_lower (Kd.R_new' (Kd.R_new' (Kd.R_new' ho93 (Kd.R_lt Z24_66)) (Kd.R_lt Z24_67)) (Kd.R_lt Z24_68)) (below_size Z24_42))
       have n4_ := Aside0.mk Z24_36
       have n5_ := Aside0.mk Z24_37
       have n6_ := Aside0.mk Z24_38
       have n7_ := Aside0.mk Z24_39
       have n8_ := Aside0.mk Z24_41
       clear HO819
       clear HO836
       clear HO856
       clear BK833
       clear BK852
       clear BK872
       clear BK888
       clear HB
       have HO819 := n0_
       have HO836 := n1_
       have HO856 := n2_
       have HO892 := n3_
       have BK833 := n4_
       have BK852 := n5_
       have BK872 := n6_
       have BK888 := n7_
       have HB := n8_
       clear n0_ n1_ n2_ n3_ n4_ n5_ n6_ n7_ n8_
       clear hb ho93
       obtain ⟨Ao94, co94, eo94⟩ := Kd.R_slice HO892.out
       (first | subst eo94 | (injection eo94 with f1_ f2_ f3_; have f4_ := f1_.symm; have f5_ := f3_.symm; clear f1_ f2_ f3_; subst f4_; subst f5_))
       refine hK.out _ _ (C24_13 BK872.out).1 (fun hHeld => ?_)
       clear hK K
       refine norm_ (a' := ?_) ?_ ?_
       rotate_left
       · show Act.put _ (some 64) _ = _
         simp only [Act.put, List.setIfInBounds_toArray, List.set_cons_zero, List.set_cons_succ, i64_w, i32_w]
         rfl
       refine one_ (i := 12) (N := some 66) (M24_31 131071) rfl rfl (one_of HT_.out (by kernel_rfl)) (by decide) (fun K hK => ?_)
       refine goes_ Try.func30 (by kernel_rfl) rfl #[.slice Ao94 y890.length co94, .agg #[.int .i64 t857, .int .i64 t858, .int .i64 t859, .int .i64 t860, .int .i64 t861, .int .i64 t862, .int .i64 t863, .int .i64 t864, .int .i64 t865, .int .i64 t866, .int .i64 t867, .bool t868, .bool t869]] (by rfl) rfl rfl Z24_55 ?_
       with_reducible refine (impl_PutPiece.calls k _ _ y890 t857 t858 t859 t860 t861 t862 t863 t864 t865 t866 t867 t868 t869 t893 _ ?side1 ?side2 A14.out).mono ?_
       (case side1 => repeat (first | exact (Kd.R_reads' HO892.out).2.2 | (with_reducible refine Kd.C_alloc ?_ _) | (with_reducible refine Kd.C_drewN ?_ _) | (with_reducible refine Kd.C_drew ?_)))
       (case side2 => exact (Kd.R_reads' HO892.out).2.1)
       rintro e w95 ⟨v894, rfl, ho0, hb⟩
       refine ⟨_, rfl, ?_⟩
       have n0_ := Aside0.mk Z24_56
       have n1_ := Aside0.mk Z24_57
       have n2_ := Aside0.mk Z24_58
       have n3_ := Aside0.mk Z24_59
       have n4_ := Aside0.mk Z24_20
       have n5_ := Aside0.mk Z24_36
       have n6_ := Aside0.mk Z24_37
       have n7_ := Aside0.mk Z24_38
       have n8_ := Aside0.mk Z24_39
       have n9_ := Aside0.mk Z24_41
       clear HO819
       clear HO836
       clear HO856
       clear HO892
       clear BK833
       clear BK852
       clear BK872
       clear BK888
       clear HB
       have HO819 := n0_
       have HO836 := n1_
       have HO856 := n2_
       have HO892 := n3_
       have HO895 := n4_
       have BK833 := n5_
       have BK852 := n6_
       have BK872 := n7_
       have BK888 := n8_
       have HB := n9_
       clear n0_ n1_ n2_ n3_ n4_ n5_ n6_ n7_ n8_ n9_
       (try clear hb)
       (try clear hb2)
       (try clear hk)
       (try clear hi)
       (try clear ho0)
       have hroom96 := Xhroom96.out
       have hA96 := XhA96.out
       have hc96 := Xhc96.out
       have hy96 := Xhy96.out
       have q96 := Xq96.out
       have ql96 := Xql96.out
       have q096 := Xq096.out
       have hC96 : Kd.C (Kd.int .u8) _ Ao77 t853.length t853 := (Kd.R_reads' HO856.out).2.2
       have hr96 := Kd.C_mid (lo := (t854 : Int).toNat) (hi := (t870 : Int).toNat) (c := co77) hC96 (by omega) (by omega) hroom96
       rw [show ((t853).take (t870 : Int).toNat).drop (t854 : Int).toNat = y896 from Ny896.out.symm] at hr96
       replace hr96 : Kd.C (Kd.int .u8) _ A96 y896.length y896 := (by rw [hA96]; exact hr96)
       have HR899 := Aside0.mk hr96
       have HC899 := Aside0.mk (show y896.length ≤ c96 from by rw [hy96, hc96]; exact Nat.sub_le_sub_right (Nat.le_trans (by omega) hroom96) _)
       clear hr96 hC96 hroom96 hc96
       have KY96 := Aside0.mk hy96
       have KA96 := Aside0.mk hA96
       clear hy96 hA96
       have KL96 := Aside0.mk (show (t870 : Int).toNat ≤ t853.length from by omega)
       have KM96 := Aside0.mk (show (t854 : Int).toNat ≤ (t870 : Int).toNat from by omega)
       replace q96 := eq_true q96
       obtain ⟨Ao97, co97, eo97⟩ := Kd.R_slice HO895.out
       (first | subst eo97 | (injection eo97 with f1_ f2_ f3_; have f4_ := f1_.symm; have f5_ := f3_.symm; clear f1_ f2_ f3_; subst f4_; subst f5_))
       refine hK.out _ _ (C24_13 BK872.out).1 (fun hHeld => ?_)
       clear hK K
       refine norm_ (a' := ?_) ?_ ?_
       rotate_left
       · show Act.put _ (some 66) _ = _
         simp only [Act.put, List.setIfInBounds_toArray, List.set_cons_zero, List.set_cons_succ, i64_w, i32_w]
         rfl
       refine one_ (i := 17) (N := some 71) (M24_31 262143) rfl rfl (one_of HT_.out (by kernel_rfl)) (by decide) (fun K hK => ?_)
       refine goes_ Try.func34 (by kernel_rfl) rfl #[.slice Ao97 t893.length co97, .slice A96 y896.length c96] (by rfl) rfl rfl Z24_55 ?_
       with_reducible refine (laws_same.calls _ _ t893 _ _ y896 true _ ?side1 ?side2 ?side3 ?side4 A18.out).mono ?_
       (case side1 => repeat (first | exact (Kd.R_reads' HO895.out).2.2 | (with_reducible refine Kd.C_alloc ?_ _) | (with_reducible refine Kd.C_drewN ?_ _) | (with_reducible refine Kd.C_drew ?_)))
       (case side2 => exact (Kd.R_reads' HO895.out).2.1)
       (case side3 => repeat (first | exact Z24_50 | (with_reducible refine Kd.C_alloc ?_ _) | (with_reducible refine Kd.C_drewN ?_ _) | (with_reducible refine Kd.C_drew ?_)))
       (case side4 => exact HC899.out)
       rintro e w' ⟨rfl, ⟨nd, rfl⟩⟩
       refine ⟨_, rfl, ?_⟩
       refine hK.out _ _ (C24_13 BK872.out).1 (fun hHeld => ?_)
       clear hK K
       refine norm_ (a' := ?_) ?_ ?_
       rotate_left
       · show Act.put _ (some 71) _ = _
         simp only [Act.put, List.setIfInBounds_toArray, List.set_cons_zero, List.set_cons_succ, i64_w, i32_w]
         rfl
       refine pure_ (i := 18) (N := some 72) (v := _) (a' := _) (M24_31 524287) rfl rfl (any_of HT_.out (by kernel_rfl)) (fun _ _ _ h => h) (Or.inl ⟨(by rfl), (by intro w'; go_simp; with_reducible rfl)⟩) Z24_65 ?_
       refine pure_ (i := 19) (N := some 73) (v := _) (a' := _) (M24_31 1048575) rfl rfl (any_of HT_.out (by kernel_rfl)) (fun _ _ _ h => h) (Or.inl ⟨(by rfl), (by intro w'; go_simp; with_reducible rfl)⟩) Z24_65 ?_
       refine pure_ (i := 20) (N := some 74) (v := _) (a' := _) (M24_31 2097151) rfl rfl (any_of HT_.out (by kernel_rfl)) (fun _ _ _ h => h) (Or.inl ⟨(by rfl), (by intro w'; go_simp; with_reducible rfl)⟩) Z24_65 ?_
       refine pure_ (i := 21) (N := some 75) (v := _) (a' := _) (M24_31 4194303) rfl rfl (any_of HT_.out (by kernel_rfl)) (fun _ _ _ h => h) (Or.inl ⟨(by rfl), (by intro w'; go_simp; with_reducible rfl)⟩) Z24_65 ?_
       refine pure_ (i := 22) (N := some 76) (v := _) (a' := _) (M24_31 8388607) rfl rfl (any_of HT_.out (by kernel_rfl)) (fun _ _ _ h => h) (Or.inl ⟨(by rfl), (by intro w'; go_simp; with_reducible rfl)⟩) Z24_65 ?_
       as_aux_lemma =>
        refine pure_ (i := 23) (N := some 77) (v := _) (a' := _) (M24_31 16777215) rfl rfl (any_of HT_.out (by kernel_rfl)) (fun _ _ _ h => h) (Or.inl ⟨(by rfl), (by intro w'; go_simp; with_reducible rfl)⟩) Z24_65 ?_
        refine pure_ (i := 24) (N := some 78) (v := _) (a' := _) (M24_31 33554431) rfl rfl (any_of HT_.out (by kernel_rfl)) (fun _ _ _ h => h) (Or.inl ⟨(by rfl), (by intro w'; go_simp; with_reducible rfl)⟩) Z24_65 ?_
        refine pure_ (i := 25) (N := some 79) (v := _) (a' := _) (M24_31 67108863) rfl rfl (any_of HT_.out (by kernel_rfl)) (fun _ _ _ h => h) (Or.inl ⟨(by rfl), (by intro w'; go_simp; with_reducible rfl)⟩) Z24_65 ?_
        refine pure_ (i := 26) (N := some 80) (v := undef) (a' := ?_) (M24_31 134217727) rfl rfl (any_of HT_.out (by kernel_rfl)) (fun _ _ _ h => h) (Or.inr ⟨(by rfl), rfl⟩) ?_ ?_
        rotate_left
        · simp only [Act.put, List.setIfInBounds_toArray, List.set_cons_zero, List.set_cons_succ, i64_w, i32_w]
          rfl
        refine pure_ (i := 27) (N := some 81) (v := undef) (a' := ?_) (M24_31 268435455) rfl rfl (any_of HT_.out (by kernel_rfl)) (fun _ _ _ h => h) (Or.inr ⟨(by rfl), rfl⟩) ?_ ?_
        rotate_left
        · simp only [Act.put, List.setIfInBounds_toArray, List.set_cons_zero, List.set_cons_succ, i64_w, i32_w]
          rfl
        refine pure_ (i := 28) (N := some 82) (v := undef) (a' := ?_) (M24_31 536870911) rfl rfl (any_of HT_.out (by kernel_rfl)) (fun _ _ _ h => h) (Or.inr ⟨(by rfl), rfl⟩) ?_ ?_
        rotate_left
        · simp only [Act.put, List.setIfInBounds_toArray, List.set_cons_zero, List.set_cons_succ, i64_w, i32_w]
          rfl
        refine pure_ (i := 29) (N := some 83) (v := _) (a' := _) (M24_31 1073741823) rfl rfl (any_of HT_.out (by kernel_rfl)) (fun _ _ _ h => h) (Or.inl ⟨(by rfl), (by intro w'; go_simp; with_reducible rfl)⟩) Z24_65 ?_
        refine pure_ (i := 30) (N := some 84) (v := _) (a' := _) (M24_31 2147483647) rfl rfl (any_of HT_.out (by kernel_rfl)) (fun _ _ _ h => h) (Or.inl ⟨(by rfl), (by intro w'; go_simp; with_reducible rfl)⟩) Z24_65 ?_
        refine done_ (done_of HT_.out (by kernel_rfl)) ?_
        obtain ⟨⟨hcz98_0, hcz98_1, hcz98_2, hcz98_3, hcz98_4, hcz98_5, hcz98_6, hcz98_7, hcz98_8, hcz98_9, hcz98_10, hcz98_11, hcz98_12⟩, hfz98_0, hfz98_1, hfz98_2, hfz98_3, hfz98_4, hfz98_5, hfz98_6, hfz98_7, hfz98_8, hfz98_9, hfz98_10, hfz98_11, hfz98_12⟩ := C24_13 BK833.out
        try go_wp2_with (first | ((with_reducible refine gate_callee (f := 18) rfl ?_); refine goesL_ (some 86) rfl rfl Try.func18 (by kernel_rfl) rfl #[.agg #[.int .i64 t820, .int .i64 t821, .int .i64 t822, .int .i64 t823, .int .i64 t824, .int .i64 t825, .int .i64 t826, .int .i64 t827, .int .i64 t828, .int .i64 t829, .int .i64 t830, .bool t831, .bool t832]] rfl Z24_55 ?_; (with_reducible refine (impl_PieceOk.calls k t820 t821 t822 t823 t824 t825 t826 t827 t828 t829 t830 t831 t832 false _ A20.out).mono ?_); rintro e w99 ⟨rfl, hb⟩; refine ⟨_, rfl, ?_⟩; have n0_ := Aside0.mk Z24_60; have n1_ := Aside0.mk Z24_61; have n2_ := Aside0.mk Z24_62; have n3_ := Aside0.mk Z24_63; have n4_ := Aside0.mk Z24_64; have n5_ := Aside0.mk Z24_36; have n6_ := Aside0.mk Z24_37; have n7_ := Aside0.mk Z24_38; have n8_ := Aside0.mk Z24_39; have n9_ := Aside0.mk Z24_48; have n10_ := Aside0.mk Z24_41; clear HO819; clear HO836; clear HO856; clear HO892; clear HO895; clear BK833; clear BK852; clear BK872; clear BK888; clear HR899; clear HB; have HO819 := n0_; have HO836 := n1_; have HO856 := n2_; have HO892 := n3_; have HO895 := n4_; have BK833 := n5_; have BK852 := n6_; have BK872 := n7_; have BK888 := n8_; have HR899 := n9_; have HB := n10_; clear n0_ n1_ n2_ n3_ n4_ n5_ n6_ n7_ n8_ n9_ n10_; (try clear hb); (try clear hb2); (try clear hk); (try clear hi)) | ((with_reducible refine gate_callee (f := 34) rfl ?_); refine goesL_ (some 90) rfl rfl Try.func34 (by kernel_rfl) rfl #[.slice Ao71 t834.length co71, .slice Ao69 t817.length co69] rfl Z24_55 ?_; (with_reducible refine (laws_same.calls _ _ t834 _ _ t817 t907 _ ?side1 ?side2 ?side3 ?side4 A65.out).mono ?_); (case side1 => repeat (first | exact (Kd.R_reads' HO836.out).2.2 | (with_reducible refine Kd.C_alloc ?_ _) | (with_reducible refine Kd.C_drewN ?_ _) | (with_reducible refine Kd.C_drew ?_))); (case side2 => exact (Kd.R_reads' HO836.out).2.1); (case side3 => repeat (first | exact (Kd.R_reads' HO819.out).2.2 | (with_reducible refine Kd.C_alloc ?_ _) | (with_reducible refine Kd.C_drewN ?_ _) | (with_reducible refine Kd.C_drew ?_))); (case side4 => exact (Kd.R_reads' HO819.out).2.1); rintro e w' ⟨rfl, ⟨nd, rfl⟩⟩; refine ⟨_, rfl, ?_⟩))
        go_ret
        exact ⟨Z24_69, Z24_42⟩
  subst c21
  rw [if_pos rfl] at H
  by_cases c22 : t851 = true
  rotate_left
  · replace c22 := Bool.eq_false_iff.mpr c22
    subst c22
    have H1 : (some false) = some r := by rw [if_neg (show ¬ (false = true) by decide)] at H; exact H
    clear H
    have H := H1
    clear H1
    exact absurd (H.trans (congrArg some HRT.out)) (by simp)
  subst c22
  rw [if_pos rfl] at H
  by_cases c23 : (t837 == t820 && (t838 == t821 && (t839 == t822 && (t840 == t823 && (t841 == t824 && (t842 == t825 && (t843 == t826 && (t844 == t827 && (t845 == t828 && (t846 == t829 && (t847 == t830 && (t848 == t831 && (t849 == t832))))))))))))) = true
  rotate_left
  · rw [if_neg c23] at H
    exact absurd (H.trans (congrArg some HRT.out)) (by simp)
  rw [if_pos c23] at H
  have c23b0 : (t837 == t820 && (t838 == t821 && (t839 == t822 && (t840 == t823 && (t841 == t824 && (t842 == t825 && (t843 == t826 && (t844 == t827 && (t845 == t828 && (t846 == t829 && (t847 == t830 && (t848 == t831 && (t849 == t832))))))))))))) = true := c23
  (try (have c23b1 : decide (t837 = t820 && (t838 == t821 && (t839 == t822 && (t840 == t823 && (t841 == t824 && (t842 == t825 && (t843 == t826 && (t844 == t827 && (t845 == t828 && (t846 == t829 && (t847 == t830 && (t848 == t831 && (t849 == t832))))))))))))) = true := by simpa using c23))
  (try (have c23b2 : (t837 == t820 && (t838 == t821 && (t839 == t822 && (t840 == t823 && (t841 == t824 && (t842 == t825 && (t843 == t826 && (t844 == t827 && (t845 == t828 && (t846 == t829 && (t847 == t830 && (t848 == t831 && (t849 == t832))))))))))))) = true := by simpa using c23))
  clear c23
  by_cases c24 : t850 = (t834.length : Int)
  rotate_left
  · rw [if_neg c24] at H
    exact absurd (H.trans (congrArg some HRT.out)) (by simp)
  rw [if_pos c24] at H
  have c24b0 : (t850 == (t834.length : Int)) = true := beq_iff_eq.mpr c24
  have c24b1 : (t850 != (t834.length : Int)) = false := bne_eq_false_iff_eq.mpr c24
  clear c24
  by_cases c25 : 0 ≤ (t817.length : Int)
  rotate_left
  · rw [if_neg c25] at H
    exact absurd H (by simp)
  rw [if_pos c25] at H
  have c25b0 := eq_true c25
  have c25b1 : decide (0 ≤ (t817.length : Int)) = true := decide_eq_true c25
  clear c25
  by_cases c26 : (t817.length : Int) ≤ (t834.length : Int)
  rotate_left
  · rw [if_neg c26] at H
    exact absurd H (by simp)
  rw [if_pos c26] at H
  have c26b0 := eq_true c26
  have c26b1 : decide ((t817.length : Int) ≤ (t834.length : Int)) = true := decide_eq_true c26
  clear c26
  obtain ⟨y902, hy902⟩ : ∃ y_ : List Int, y_ = (t834.take ((t817.length : Int) : Int).toNat) := ⟨_, rfl⟩
  replace H : ((laws_same.f y902 t817).bind fun t906 => (some t906)) = some r := by first | (rw [hy902]; with_reducible exact H) | (have H2_ := (Option.bind_some _ _).symm.trans H; rw [hy902]; with_reducible exact H2_) | (have H2_ := (Option.bind_some _ _).symm.trans H; with_reducible exact H2_) | with_reducible exact H | (rw [hy902]; exact H) | exact H
  have Ny902 := Aside0.mk hy902
  clear hy902
  replace H := Option.bind_eq_some_iff.mp H
  obtain ⟨t906, A270, H⟩ := H
  replace H : (some t906) = some r := H
  have A27 := Aside0.mk A270
  clear A270
  obtain rfl := Option.some.inj H
  go_enter Try.func4, Try.ntmps4
  try go_wp2_with (first | ((with_reducible refine gate_callee (f := 12) rfl ?_); refine goesL_ (some 18) rfl rfl Try.func12 (by kernel_rfl) rfl #[.slice A0 l0.length c0] rfl Z24_55 ?_; (with_reducible refine (laws_big.calls _ _ l0 false _ ?side1 ?side2 A2.out).mono ?_); (case side1 => repeat (first | exact HR0.out | (with_reducible refine Kd.C_alloc ?_ _) | (with_reducible refine Kd.C_drewN ?_ _) | (with_reducible refine Kd.C_drew ?_))); (case side2 => exact HC0.out); rintro e w' ⟨rfl, ⟨nd, rfl⟩⟩; refine ⟨_, rfl, ?_⟩) | ((with_reducible refine gate_callee (f := 29) rfl ?_); refine goesL_ (some 21) rfl rfl Try.func29 (by kernel_rfl) rfl #[.slice A0 l0.length c0] rfl Z24_55 ?_; (with_reducible refine (spec_DrawPutPiece.calls k _ _ l0 t817 t820 t821 t822 t823 t824 t825 t826 t827 t828 t829 t830 t831 t832 _ ?side1 ?side2 A4.out).mono ?_); (case side1 => repeat (first | exact HR0.out | (with_reducible refine Kd.C_alloc ?_ _) | (with_reducible refine Kd.C_drewN ?_ _) | (with_reducible refine Kd.C_drew ?_))); (case side2 => exact HC0.out); rintro e w28 ⟨v818, rfl, ho0, hb⟩; refine ⟨_, rfl, ?_⟩; have n0_ := Aside0.mk Z24_53; have n1_ := Aside0.mk Z24_54; clear HB; have HO819 := n0_; have HB := n1_; clear n0_ n1_; (try clear hb); (try clear hb2); (try clear hk); (try clear hi); (try clear ho0)) | ((with_reducible refine gate_dst (N := 4) rfl ?_); (try (refine gate_guard (by rfl) ?_; dsimp only)); refine box_event ?hg (N := 4) ?hd (cs := #[.int .i64 0, .int .i64 0, .int .i64 0, .int .i64 0, .int .i64 0, .int .i64 0, .int .i64 0, .int .i64 0, .int .i64 0, .int .i64 0, .int .i64 0, .bool false, .bool false]) (t := 25) ?hr ?_; (case hd => rfl); (case hg => rfl); (case hr => first | (go_simp; done) | (go_simp; rfl)); intro gb833 hg w29 hbox hb; have n0_ := Aside0.mk Z24_60; have n1_ := Aside0.mk Z24_54; have n2_ := Aside0.mk (hbox); have n3_ := Aside0.mk Z24_51; have n4_ := Aside0.mk Z24_51; clear HO819; clear HB; have HO819 := n0_; have HB := n1_; have BK833 := n2_; have GW833 := n3_; have GE833 := n4_; clear n0_ n1_ n2_ n3_ n4_; clear hb hbox hg; obtain ⟨⟨hcz30_0, hcz30_1, hcz30_2, hcz30_3, hcz30_4, hcz30_5, hcz30_6, hcz30_7, hcz30_8, hcz30_9, hcz30_10, hcz30_11, hcz30_12⟩, hfz30_0, hfz30_1, hfz30_2, hfz30_3, hfz30_4, hfz30_5, hfz30_6, hfz30_7, hfz30_8, hfz30_9, hfz30_10, hfz30_11, hfz30_12⟩ := C24_13 BK833.out; obtain ⟨Ao31, co31, eo31⟩ := Kd.R_slice HO819.out; subst eo31) | ((with_reducible refine gate_callee (f := 30) rfl ?_); refine goesL_ (some 26) rfl rfl Try.func30 (by kernel_rfl) rfl #[.slice Ao31 t817.length co31, .agg #[.int .i64 t820, .int .i64 t821, .int .i64 t822, .int .i64 t823, .int .i64 t824, .int .i64 t825, .int .i64 t826, .int .i64 t827, .int .i64 t828, .int .i64 t829, .int .i64 t830, .bool t831, .bool t832]] rfl Z24_55 ?_; (with_reducible refine (impl_PutPiece.calls k _ _ t817 t820 t821 t822 t823 t824 t825 t826 t827 t828 t829 t830 t831 t832 t834 _ ?side1 ?side2 A5.out).mono ?_); (case side1 => refine (Kd.R_reads' (e := 5) (base := w.heap.size) (ok := fun k_ => True) (n := t817.length) (c := co31) ?_).2.2; exact Z24_18); (case side2 => exact (Kd.R_reads' HO819.out).2.1); rintro e w32 ⟨v835, rfl, ho0, hb⟩; refine ⟨_, rfl, ?_⟩; have n0_ := Aside0.mk Z24_9; have n1_ := Aside0.mk Z24_8; have n2_ := Aside0.mk Z24_21; have n3_ := Aside0.mk Z24_52; clear HO819; clear BK833; clear HB; have HO819 := n0_; have HO836 := n1_; have BK833 := n2_; have HB := n3_; clear n0_ n1_ n2_ n3_; (try clear hb); (try clear hb2); (try clear hk); (try clear hi); (try clear ho0); obtain ⟨Ao33, co33, eo33⟩ := Kd.R_slice HO836.out; subst eo33) | ((with_reducible refine gate_callee (f := 31) rfl ?_); refine goesL_ (some 31) rfl rfl Try.func31 (by kernel_rfl) rfl #[.slice Ao33 t834.length co33, .int .i64 (t817.length : Int)] rfl Z24_55 ?_; (with_reducible refine (impl_GetPiece.calls k _ _ t834 (t817.length : Int) t837 t838 t839 t840 t841 t842 t843 t844 t845 t846 t847 t848 t849 t850 true _ ?side1 ?side2 A6.out).mono ?_); (case side1 => repeat (first | exact (Kd.R_reads' HO836.out).2.2 | (with_reducible refine Kd.C_alloc ?_ _) | (with_reducible refine Kd.C_drewN ?_ _) | (with_reducible refine Kd.C_drew ?_))); (case side2 => exact (Kd.R_reads' HO836.out).2.1); rintro e w34 ⟨rfl, hb⟩; refine ⟨_, rfl, ?_⟩; have n0_ := Aside0.mk Z24_60; have n1_ := Aside0.mk Z24_61; have n2_ := Aside0.mk Z24_36; have n3_ := Aside0.mk Z24_52; clear HO819; clear HO836; clear BK833; clear HB; have HO819 := n0_; have HO836 := n1_; have BK833 := n2_; have HB := n3_; clear n0_ n1_ n2_ n3_; (try clear hb); (try clear hb2); (try clear hk); (try clear hi); clear A6) | ((with_reducible refine gate_dst (N := 6) rfl ?_); (try (refine gate_guard (by rfl) ?_; dsimp only)); refine box_event ?hg (N := 6) ?hd (cs := #[.int .i64 0, .int .i64 0, .int .i64 0, .int .i64 0, .int .i64 0, .int .i64 0, .int .i64 0, .int .i64 0, .int .i64 0, .int .i64 0, .int .i64 0, .bool false, .bool false]) (t := 25) ?hr ?_; (case hd => rfl); (case hg => rfl); (case hr => first | (go_simp; done) | (go_simp; rfl)); intro gb852 hg w35 hbox hb; have n0_ := Aside0.mk Z24_60; have n1_ := Aside0.mk Z24_61; have n2_ := Aside0.mk Z24_36; have n3_ := Aside0.mk Z24_52; have n4_ := Aside0.mk (hbox); have n5_ := Aside0.mk Z24_46; have n6_ := Aside0.mk Z24_46; have n7_ := Aside0.mk Z24_24; have n8_ := Aside0.mk Z24_25; clear HO819; clear HO836; clear BK833; clear HB; have HO819 := n0_; have HO836 := n1_; have BK833 := n2_; have HB := n3_; have BK852 := n4_; have GW852 := n5_; have GE852 := n6_; have NB833_852 := n7_; have NB852_833 := n8_; clear n0_ n1_ n2_ n3_ n4_ n5_ n6_ n7_ n8_; clear hb hbox hg; have hnb36 := NB852_833.out; have hnc36 := NB833_852.out; obtain ⟨⟨hcz37_0, hcz37_1, hcz37_2, hcz37_3, hcz37_4, hcz37_5, hcz37_6, hcz37_7, hcz37_8, hcz37_9, hcz37_10, hcz37_11, hcz37_12⟩, hfz37_0, hfz37_1, hfz37_2, hfz37_3, hfz37_4, hfz37_5, hfz37_6, hfz37_7, hfz37_8, hfz37_9, hfz37_10, hfz37_11, hfz37_12⟩ := C24_13 BK852.out) | ((with_reducible refine gate_callee (f := 32) rfl ?_); refine goesL_ (some 37) rfl rfl Try.func32 (by kernel_rfl) rfl #[.slice A0 l0.length c0] rfl Z24_55 ?_; (with_reducible refine (spec_DrawGetPiece.calls k _ _ l0 t853 t854 _ ?side1 ?side2 A7.out).mono ?_); (case side1 => exact Kd.C_below HR0.out Z24_49); (case side2 => exact HC0.out); rintro e w38 ⟨v855, rfl, ho0, hb⟩; refine ⟨_, rfl, ?_⟩; have n0_ := Aside0.mk Z24_10; have n1_ := Aside0.mk Z24_11; have n2_ := Aside0.mk Z24_1; have n3_ := Aside0.mk Z24_2; have n4_ := Aside0.mk Z24_22; have n5_ := Aside0.mk Z24_47; clear HO819; clear HO836; clear BK833; clear BK852; clear HB; have HO819 := n0_; have HO836 := n1_; have HO856 := n2_; have BK833 := n3_; have BK852 := n4_; have HB := n5_; clear n0_ n1_ n2_ n3_ n4_ n5_; (try clear hb); (try clear hb2); (try clear hk); (try clear hi); (try clear ho0); obtain ⟨Ao39, co39, eo39⟩ := Kd.R_slice HO856.out; subst eo39) | ((with_reducible refine gate_callee (f := 31) rfl ?_); refine goesL_ (some 43) rfl rfl Try.func31 (by kernel_rfl) rfl #[.slice Ao39 t853.length co39, .int .i64 t854] rfl Z24_55 ?_; (with_reducible refine (impl_GetPiece.calls k _ _ t853 t854 t857 t858 t859 t860 t861 t862 t863 t864 t865 t866 t867 t868 t869 t870 true _ ?side1 ?side2 A8.out).mono ?_); (case side1 => repeat (first | exact (Kd.R_reads' HO856.out).2.2 | (with_reducible refine Kd.C_alloc ?_ _) | (with_reducible refine Kd.C_drewN ?_ _) | (with_reducible refine Kd.C_drew ?_))); (case side2 => exact (Kd.R_reads' HO856.out).2.1); rintro e w40 ⟨rfl, hb⟩; refine ⟨_, rfl, ?_⟩; have n0_ := Aside0.mk Z24_60; have n1_ := Aside0.mk Z24_61; have n2_ := Aside0.mk Z24_62; have n3_ := Aside0.mk Z24_36; have n4_ := Aside0.mk Z24_37; have n5_ := Aside0.mk Z24_47; clear HO819; clear HO836; clear HO856; clear BK833; clear BK852; clear HB; have HO819 := n0_; have HO836 := n1_; have HO856 := n2_; have BK833 := n3_; have BK852 := n4_; have HB := n5_; clear n0_ n1_ n2_ n3_ n4_ n5_; (try clear hb); (try clear hb2); (try clear hk); (try clear hi); clear A8) | ((with_reducible refine gate_dst (N := 11) rfl ?_); (try (refine gate_guard (by rfl) ?_; dsimp only)); refine box_event ?hg (N := 11) ?hd (cs := #[.int .i64 0, .int .i64 0, .int .i64 0, .int .i64 0, .int .i64 0, .int .i64 0, .int .i64 0, .int .i64 0, .int .i64 0, .int .i64 0, .int .i64 0, .bool false, .bool false]) (t := 25) ?hr ?_; (case hd => rfl); (case hg => rfl); (case hr => first | (go_simp; done) | (go_simp; rfl)); intro gb872 hg w41 hbox hb; have n0_ := Aside0.mk Z24_60; have n1_ := Aside0.mk Z24_61; have n2_ := Aside0.mk Z24_62; have n3_ := Aside0.mk Z24_36; have n4_ := Aside0.mk Z24_37; have n5_ := Aside0.mk Z24_47; have n6_ := Aside0.mk (hbox); have n7_ := Aside0.mk Z24_43; have n8_ := Aside0.mk Z24_43; have n9_ := Aside0.mk Z24_26; have n10_ := Aside0.mk Z24_27; have n11_ := Aside0.mk Z24_28; have n12_ := Aside0.mk Z24_29; clear HO819; clear HO836; clear HO856; clear BK833; clear BK852; clear HB; have HO819 := n0_; have HO836 := n1_; have HO856 := n2_; have BK833 := n3_; have BK852 := n4_; have HB := n5_; have BK872 := n6_; have GW872 := n7_; have GE872 := n8_; have NB833_872 := n9_; have NB872_833 := n10_; have NB852_872 := n11_; have NB872_852 := n12_; clear n0_ n1_ n2_ n3_ n4_ n5_ n6_ n7_ n8_ n9_ n10_ n11_ n12_; clear hb hbox hg; have hnb42 := NB872_833.out; have hnc42 := NB833_872.out; have hnb43 := NB872_852.out; have hnc43 := NB852_872.out; obtain ⟨⟨hcz44_0, hcz44_1, hcz44_2, hcz44_3, hcz44_4, hcz44_5, hcz44_6, hcz44_7, hcz44_8, hcz44_9, hcz44_10, hcz44_11, hcz44_12⟩, hfz44_0, hfz44_1, hfz44_2, hfz44_3, hfz44_4, hfz44_5, hfz44_6, hfz44_7, hfz44_8, hfz44_9, hfz44_10, hfz44_11, hfz44_12⟩ := C24_13 BK872.out) | ((with_reducible refine gate_callee (f := 33) rfl ?_); refine goesL_ (some 50) rfl rfl Try.func33 (by kernel_rfl) rfl #[.slice Ao39 t853.length co39, .int .i64 t854] rfl Z24_55 ?_; (with_reducible refine (spec_GetPiece.calls k _ _ t853 t854 t873 t874 t875 t876 t877 t878 t879 t880 t881 t882 t883 t884 t885 t886 t887 _ ?side1 ?side2 A9.out).mono ?_); (case side1 => refine (Kd.R_reads' (e := 5) (base := w.heap.size) (ok := fun k_ => ((True ∧ some k_ ≠ (.slice Ao31 t817.length co31 : Value).ownBlock) ∧ some k_ ≠ (.slice Ao33 t834.length co33 : Value).ownBlock)) (n := t853.length) (c := co39) ?_).2.2; exact Z24_19); (case side2 => exact (Kd.R_reads' HO856.out).2.1); rintro e w45 ⟨rfl, hb⟩; refine ⟨_, rfl, ?_⟩; have n0_ := Aside0.mk Z24_12; have n1_ := Aside0.mk Z24_13; have n2_ := Aside0.mk Z24_14; have n3_ := Aside0.mk Z24_3; have n4_ := Aside0.mk Z24_4; have n5_ := Aside0.mk Z24_23; have n6_ := Aside0.mk Z24_44; clear HO819; clear HO836; clear HO856; clear BK833; clear BK852; clear BK872; clear HB; have HO819 := n0_; have HO836 := n1_; have HO856 := n2_; have BK833 := n3_; have BK852 := n4_; have BK872 := n5_; have HB := n6_; clear n0_ n1_ n2_ n3_ n4_ n5_ n6_; (try clear hb); (try clear hb2); (try clear hk); (try clear hi)) | ((with_reducible refine gate_dst (N := 14) rfl ?_); (try (refine gate_guard (by rfl) ?_; dsimp only)); refine box_event ?hg (N := 14) ?hd (cs := #[.int .i64 0, .int .i64 0, .int .i64 0, .int .i64 0, .int .i64 0, .int .i64 0, .int .i64 0, .int .i64 0, .int .i64 0, .int .i64 0, .int .i64 0, .bool false, .bool false]) (t := 25) ?hr ?_; (case hd => rfl); (case hg => rfl); (case hr => first | (go_simp; done) | (go_simp; rfl)); intro gb888 hg w46 hbox hb; have n0_ := Aside0.mk Z24_60; have n1_ := Aside0.mk Z24_61; have n2_ := Aside0.mk Z24_62; have n3_ := Aside0.mk Z24_36; have n4_ := Aside0.mk Z24_37; have n5_ := Aside0.mk Z24_38; have n6_ := Aside0.mk Z24_44; have n7_ := Aside0.mk (hbox); have n8_ := Aside0.mk Z24_40; have n9_ := Aside0.mk Z24_40; have n10_ := Aside0.mk Z24_30; have n11_ := Aside0.mk Z24_31; have n12_ := Aside0.mk Z24_32; have n13_ := Aside0.mk Z24_33; have n14_ := Aside0.mk Z24_34; have n15_ := Aside0.mk Z24_35; clear HO819; clear HO836; clear HO856; clear BK833; clear BK852; clear BK872; clear HB; have HO819 := n0_; have HO836 := n1_; have HO856 := n2_; have BK833 := n3_; have BK852 := n4_; have BK872 := n5_; have HB := n6_; have BK888 := n7_; have GW888 := n8_; have GE888 := n9_; have NB833_888 := n10_; have NB888_833 := n11_; have NB852_888 := n12_; have NB888_852 := n13_; have NB872_888 := n14_; have NB888_872 := n15_; clear n0_ n1_ n2_ n3_ n4_ n5_ n6_ n7_ n8_ n9_ n10_ n11_ n12_ n13_ n14_ n15_; clear hb hbox hg; have hnb47 := NB888_833.out; have hnc47 := NB833_888.out; have hnb48 := NB888_852.out; have hnc48 := NB852_888.out; have hnb49 := NB888_872.out; have hnc49 := NB872_888.out; obtain ⟨⟨hcz50_0, hcz50_1, hcz50_2, hcz50_3, hcz50_4, hcz50_5, hcz50_6, hcz50_7, hcz50_8, hcz50_9, hcz50_10, hcz50_11, hcz50_12⟩, hfz50_0, hfz50_1, hfz50_2, hfz50_3, hfz50_4, hfz50_5, hfz50_6, hfz50_7, hfz50_8, hfz50_9, hfz50_10, hfz50_11, hfz50_12⟩ := C24_13 BK888.out))
  have n0_ : Aside0 (Kd.R (Kd.int .u8) 5 (((((((((((((w46.setCell ⟨gb888, 0, none⟩ (.int .i64 t873)).setCell ⟨gb888, 1, none⟩ (.int .i64 t874)).setCell ⟨gb888, 2, none⟩ (.int .i64 t875)).setCell ⟨gb888, 3, none⟩ (.int .i64 t876)).setCell ⟨gb888, 4, none⟩ (.int .i64 t877)).setCell ⟨gb888, 5, none⟩ (.int .i64 t878)).setCell ⟨gb888, 6, none⟩ (.int .i64 t879)).setCell ⟨gb888, 7, none⟩ (.int .i64 t880)).setCell ⟨gb888, 8, none⟩ (.int .i64 t881)).setCell ⟨gb888, 9, none⟩ (.int .i64 t882)).setCell ⟨gb888, 10, none⟩ (.int .i64 t883)).setCell ⟨gb888, 11, none⟩ (.bool t884)).setCell ⟨gb888, 12, none⟩ (.bool t885)) w.heap.size (fun k_ => some k_ ≠ (.slice Ao33 t834.length co33 : Value).ownBlock ∧ some k_ ≠ (.slice Ao39 t853.length co39 : Value).ownBlock) (.slice Ao31 t817.length co31) t817) := ⟨Z24_15⟩
  have n1_ : Aside0 (Kd.R (Kd.int .u8) 5 (((((((((((((w46.setCell ⟨gb888, 0, none⟩ (.int .i64 t873)).setCell ⟨gb888, 1, none⟩ (.int .i64 t874)).setCell ⟨gb888, 2, none⟩ (.int .i64 t875)).setCell ⟨gb888, 3, none⟩ (.int .i64 t876)).setCell ⟨gb888, 4, none⟩ (.int .i64 t877)).setCell ⟨gb888, 5, none⟩ (.int .i64 t878)).setCell ⟨gb888, 6, none⟩ (.int .i64 t879)).setCell ⟨gb888, 7, none⟩ (.int .i64 t880)).setCell ⟨gb888, 8, none⟩ (.int .i64 t881)).setCell ⟨gb888, 9, none⟩ (.int .i64 t882)).setCell ⟨gb888, 10, none⟩ (.int .i64 t883)).setCell ⟨gb888, 11, none⟩ (.bool t884)).setCell ⟨gb888, 12, none⟩ (.bool t885)) w.heap.size (fun k_ => some k_ ≠ (.slice Ao31 t817.length co31 : Value).ownBlock ∧ some k_ ≠ (.slice Ao39 t853.length co39 : Value).ownBlock) (.slice Ao33 t834.length co33) t834) := ⟨Z24_16⟩
  have n2_ : Aside0 (Kd.R (Kd.int .u8) 5 (((((((((((((w46.setCell ⟨gb888, 0, none⟩ (.int .i64 t873)).setCell ⟨gb888, 1, none⟩ (.int .i64 t874)).setCell ⟨gb888, 2, none⟩ (.int .i64 t875)).setCell ⟨gb888, 3, none⟩ (.int .i64 t876)).setCell ⟨gb888, 4, none⟩ (.int .i64 t877)).setCell ⟨gb888, 5, none⟩ (.int .i64 t878)).setCell ⟨gb888, 6, none⟩ (.int .i64 t879)).setCell ⟨gb888, 7, none⟩ (.int .i64 t880)).setCell ⟨gb888, 8, none⟩ (.int .i64 t881)).setCell ⟨gb888, 9, none⟩ (.int .i64 t882)).setCell ⟨gb888, 10, none⟩ (.int .i64 t883)).setCell ⟨gb888, 11, none⟩ (.bool t884)).setCell ⟨gb888, 12, none⟩ (.bool t885)) w.heap.size (fun k_ => some k_ ≠ (.slice Ao31 t817.length co31 : Value).ownBlock ∧ some k_ ≠ (.slice Ao33 t834.length co33 : Value).ownBlock) (.slice Ao39 t853.length co39) t853) := ⟨Z24_17⟩
  have n3_ : Aside0 ((((((((((((((w46.setCell ⟨gb888, 0, none⟩ (.int .i64 t873)).setCell ⟨gb888, 1, none⟩ (.int .i64 t874)).setCell ⟨gb888, 2, none⟩ (.int .i64 t875)).setCell ⟨gb888, 3, none⟩ (.int .i64 t876)).setCell ⟨gb888, 4, none⟩ (.int .i64 t877)).setCell ⟨gb888, 5, none⟩ (.int .i64 t878)).setCell ⟨gb888, 6, none⟩ (.int .i64 t879)).setCell ⟨gb888, 7, none⟩ (.int .i64 t880)).setCell ⟨gb888, 8, none⟩ (.int .i64 t881)).setCell ⟨gb888, 9, none⟩ (.int .i64 t882)).setCell ⟨gb888, 10, none⟩ (.int .i64 t883)).setCell ⟨gb888, 11, none⟩ (.bool t884)).setCell ⟨gb888, 12, none⟩ (.bool t885)).heap[gb833]? = some (.cells #[.int .i64 t820, .int .i64 t821, .int .i64 t822, .int .i64 t823, .int .i64 t824, .int .i64 t825, .int .i64 t826, .int .i64 t827, .int .i64 t828, .int .i64 t829, .int .i64 t830, .bool t831, .bool t832] 25 (0, 0))) := ⟨Z24_5⟩
  have n4_ : Aside0 ((((((((((((((w46.setCell ⟨gb888, 0, none⟩ (.int .i64 t873)).setCell ⟨gb888, 1, none⟩ (.int .i64 t874)).setCell ⟨gb888, 2, none⟩ (.int .i64 t875)).setCell ⟨gb888, 3, none⟩ (.int .i64 t876)).setCell ⟨gb888, 4, none⟩ (.int .i64 t877)).setCell ⟨gb888, 5, none⟩ (.int .i64 t878)).setCell ⟨gb888, 6, none⟩ (.int .i64 t879)).setCell ⟨gb888, 7, none⟩ (.int .i64 t880)).setCell ⟨gb888, 8, none⟩ (.int .i64 t881)).setCell ⟨gb888, 9, none⟩ (.int .i64 t882)).setCell ⟨gb888, 10, none⟩ (.int .i64 t883)).setCell ⟨gb888, 11, none⟩ (.bool t884)).setCell ⟨gb888, 12, none⟩ (.bool t885)).heap[gb852]? = some (.cells #[.int .i64 t837, .int .i64 t838, .int .i64 t839, .int .i64 t840, .int .i64 t841, .int .i64 t842, .int .i64 t843, .int .i64 t844, .int .i64 t845, .int .i64 t846, .int .i64 t847, .bool t848, .bool t849] 25 (0, 0))) := ⟨Z24_6⟩
  have n5_ : Aside0 ((((((((((((((w46.setCell ⟨gb888, 0, none⟩ (.int .i64 t873)).setCell ⟨gb888, 1, none⟩ (.int .i64 t874)).setCell ⟨gb888, 2, none⟩ (.int .i64 t875)).setCell ⟨gb888, 3, none⟩ (.int .i64 t876)).setCell ⟨gb888, 4, none⟩ (.int .i64 t877)).setCell ⟨gb888, 5, none⟩ (.int .i64 t878)).setCell ⟨gb888, 6, none⟩ (.int .i64 t879)).setCell ⟨gb888, 7, none⟩ (.int .i64 t880)).setCell ⟨gb888, 8, none⟩ (.int .i64 t881)).setCell ⟨gb888, 9, none⟩ (.int .i64 t882)).setCell ⟨gb888, 10, none⟩ (.int .i64 t883)).setCell ⟨gb888, 11, none⟩ (.bool t884)).setCell ⟨gb888, 12, none⟩ (.bool t885)).heap[gb872]? = some (.cells #[.int .i64 t857, .int .i64 t858, .int .i64 t859, .int .i64 t860, .int .i64 t861, .int .i64 t862, .int .i64 t863, .int .i64 t864, .int .i64 t865, .int .i64 t866, .int .i64 t867, .bool t868, .bool t869] 25 (0, 0))) := ⟨Z24_7⟩
  have n6_ : Aside0 ((((((((((((((w46.setCell ⟨gb888, 0, none⟩ (.int .i64 t873)).setCell ⟨gb888, 1, none⟩ (.int .i64 t874)).setCell ⟨gb888, 2, none⟩ (.int .i64 t875)).setCell ⟨gb888, 3, none⟩ (.int .i64 t876)).setCell ⟨gb888, 4, none⟩ (.int .i64 t877)).setCell ⟨gb888, 5, none⟩ (.int .i64 t878)).setCell ⟨gb888, 6, none⟩ (.int .i64 t879)).setCell ⟨gb888, 7, none⟩ (.int .i64 t880)).setCell ⟨gb888, 8, none⟩ (.int .i64 t881)).setCell ⟨gb888, 9, none⟩ (.int .i64 t882)).setCell ⟨gb888, 10, none⟩ (.int .i64 t883)).setCell ⟨gb888, 11, none⟩ (.bool t884)).setCell ⟨gb888, 12, none⟩ (.bool t885)).heap[gb888]? = some (.cells #[.int .i64 t873, .int .i64 t874, .int .i64 t875, .int .i64 t876, .int .i64 t877, .int .i64 t878, .int .i64 t879, .int .i64 t880, .int .i64 t881, .int .i64 t882, .int .i64 t883, .bool t884, .bool t885] 25 (0, 0))) := ⟨Z24_45⟩
  have n7_ : Aside0 (Below w.heap.size w (((((((((((((w46.setCell ⟨gb888, 0, none⟩ (.int .i64 t873)).setCell ⟨gb888, 1, none⟩ (.int .i64 t874)).setCell ⟨gb888, 2, none⟩ (.int .i64 t875)).setCell ⟨gb888, 3, none⟩ (.int .i64 t876)).setCell ⟨gb888, 4, none⟩ (.int .i64 t877)).setCell ⟨gb888, 5, none⟩ (.int .i64 t878)).setCell ⟨gb888, 6, none⟩ (.int .i64 t879)).setCell ⟨gb888, 7, none⟩ (.int .i64 t880)).setCell ⟨gb888, 8, none⟩ (.int .i64 t881)).setCell ⟨gb888, 9, none⟩ (.int .i64 t882)).setCell ⟨gb888, 10, none⟩ (.int .i64 t883)).setCell ⟨gb888, 11, none⟩ (.bool t884)).setCell ⟨gb888, 12, none⟩ (.bool t885))) := ⟨Z24_42⟩
  (try clear HO819)
  (try clear HO836)
  (try clear HO856)
  (try clear BK833)
  (try clear BK852)
  (try clear BK872)
  (try clear BK888)
  (try clear HB)
  generalize (((((((((((((w46.setCell ⟨gb888, 0, none⟩ (.int .i64 t873)).setCell ⟨gb888, 1, none⟩ (.int .i64 t874)).setCell ⟨gb888, 2, none⟩ (.int .i64 t875)).setCell ⟨gb888, 3, none⟩ (.int .i64 t876)).setCell ⟨gb888, 4, none⟩ (.int .i64 t877)).setCell ⟨gb888, 5, none⟩ (.int .i64 t878)).setCell ⟨gb888, 6, none⟩ (.int .i64 t879)).setCell ⟨gb888, 7, none⟩ (.int .i64 t880)).setCell ⟨gb888, 8, none⟩ (.int .i64 t881)).setCell ⟨gb888, 9, none⟩ (.int .i64 t882)).setCell ⟨gb888, 10, none⟩ (.int .i64 t883)).setCell ⟨gb888, 11, none⟩ (.bool t884)).setCell ⟨gb888, 12, none⟩ (.bool t885)) = w51 at n0_ n1_ n2_ n3_ n4_ n5_ n6_ n7_ ⊢
  have HO819 := n0_
  have HO836 := n1_
  have HO856 := n2_
  have BK833 := n3_
  have BK852 := n4_
  have BK872 := n5_
  have BK888 := n6_
  have HB := n7_
  clear n0_ n1_ n2_ n3_ n4_ n5_ n6_ n7_
  have n0_ := Aside0.mk (Kd.R_drew HO819.out)
  have n1_ := Aside0.mk (Kd.R_drew HO836.out)
  have n2_ := Aside0.mk (Kd.R_drew HO856.out)
  have n3_ := Aside0.mk (blk_drew BK833.out)
  have n4_ := Aside0.mk (blk_drew BK852.out)
  have n5_ := Aside0.mk (blk_drew BK872.out)
  have n6_ := Aside0.mk (blk_drew BK888.out)
  have n7_ := Aside0.mk (below_drew1 HB.out)
  clear HO819
  clear HO836
  clear HO856
  clear BK833
  clear BK852
  clear BK872
  clear BK888
  clear HB
  have HO819 := n0_
  have HO836 := n1_
  have HO856 := n2_
  have BK833 := n3_
  have BK852 := n4_
  have BK872 := n5_
  have BK888 := n6_
  have HB := n7_
  clear n0_ n1_ n2_ n3_ n4_ n5_ n6_ n7_
  as_aux_lemma =>
   refine start_ (n := 31) (S := fun w' => w'.cell? ⟨gb872, 0, none⟩ = some (.int .i64 t857) ∧ w'.cell? ⟨gb872, 1, none⟩ = some (.int .i64 t858) ∧ w'.cell? ⟨gb872, 2, none⟩ = some (.int .i64 t859) ∧ w'.cell? ⟨gb872, 3, none⟩ = some (.int .i64 t860) ∧ w'.cell? ⟨gb872, 4, none⟩ = some (.int .i64 t861) ∧ w'.cell? ⟨gb872, 5, none⟩ = some (.int .i64 t862) ∧ w'.cell? ⟨gb872, 6, none⟩ = some (.int .i64 t863) ∧ w'.cell? ⟨gb872, 7, none⟩ = some (.int .i64 t864) ∧ w'.cell? ⟨gb872, 8, none⟩ = some (.int .i64 t865) ∧ w'.cell? ⟨gb872, 9, none⟩ = some (.int .i64 t866) ∧ w'.cell? ⟨gb872, 10, none⟩ = some (.int .i64 t867) ∧ w'.cell? ⟨gb872, 11, none⟩ = some (.bool t868) ∧ w'.cell? ⟨gb872, 12, none⟩ = some (.bool t869)) (ds := []) #[false, false, false, false, false, false, false, false, false, false, false, false, false, false, false, false, false, false, false, false, false, false, false, false, false, false, false, false, false, false, false] (by kernel_rfl) rfl rfl ⟨(blk_cell BK872.out 0).trans rfl, (blk_cell BK872.out 1).trans rfl, (blk_cell BK872.out 2).trans rfl, (blk_cell BK872.out 3).trans rfl, (blk_cell BK872.out 4).trans rfl, (blk_cell BK872.out 5).trans rfl, (blk_cell BK872.out 6).trans rfl, (blk_cell BK872.out 7).trans rfl, (blk_cell BK872.out 8).trans rfl, (blk_cell BK872.out 9).trans rfl, (blk_cell BK872.out 10).trans rfl, (blk_cell BK872.out 11).trans rfl, (blk_cell BK872.out 12).trans rfl⟩ (fun hHeld => ?_); refine with_tabW laws_FnPieceBytes.tab9 laws_FnPieceBytes.bits9 (fun HT_ HW_ => ?_)
   generalize w51.drew = w52 at HO819 HO836 HO856 BK833 BK852 BK872 BK888 HB hHeld ⊢
   refine pure_ (i := 0) (N := some 54) (v := _) (a' := _) (M24_31 1) rfl rfl (any_of HT_.out (by kernel_rfl)) (fun _ _ _ h => h) (Or.inl ⟨(by rfl), (by intro w'; go_simp; with_reducible rfl)⟩) Z24_65 ?_
   refine pure_ (i := 1) (N := some 55) (v := _) (a' := _) (M24_31 3) rfl rfl (any_of HT_.out (by kernel_rfl)) (fun _ _ _ h => h) (Or.inl ⟨(by rfl), (by intro w'; go_simp; with_reducible rfl)⟩) Z24_65 ?_
   refine pure_ (i := 2) (N := some 56) (v := _) (a' := _) (M24_31 7) rfl rfl (any_of HT_.out (by kernel_rfl)) (fun _ _ _ h => h) (Or.inl ⟨(by rfl), (by intro w'; go_simp; with_reducible rfl)⟩) Z24_65 ?_
   refine pure_ (i := 3) (N := some 57) (v := _) (a' := _) (M24_31 15) rfl rfl (any_of HT_.out (by kernel_rfl)) (fun _ _ _ h => h) (Or.inl ⟨(by rfl), (by intro w'; go_simp; with_reducible rfl)⟩) Z24_65 ?_
   refine pure_ (i := 4) (N := some 58) (v := _) (a' := _) (M24_31 31) rfl rfl (any_of HT_.out (by kernel_rfl)) (fun _ _ _ h => h) (Or.inl ⟨(by rfl), (by intro w'; go_simp; with_reducible rfl)⟩) Z24_65 ?_
   refine pure_ (i := 5) (N := some 59) (v := _) (a' := _) (M24_31 63) rfl rfl (any_of HT_.out (by kernel_rfl)) (fun _ _ _ h => h) (Or.inl ⟨(by rfl), (by intro w'; go_simp; with_reducible rfl)⟩) Z24_65 ?_
   refine take_ (i := 6) (N := some 60) (v := _) (a' := _) (M24_31 127) rfl rfl (take_ofW HT_.out HW_.out (by kernel_rfl)) (fun _ _ _ h => h) (Or.inl ⟨(by rfl), Z24_70⟩) hHeld Z24_65 ?_
   as_aux_lemma =>
    refine one_ (i := 7) (N := some 61) (M24_31 255) rfl rfl (one_of HT_.out (by kernel_rfl)) (by decide) (fun K hK => ?_)
    refine goes_ Try.func18 (by kernel_rfl) rfl #[.agg #[.int .i64 t857, .int .i64 t858, .int .i64 t859, .int .i64 t860, .int .i64 t861, .int .i64 t862, .int .i64 t863, .int .i64 t864, .int .i64 t865, .int .i64 t866, .int .i64 t867, .bool t868, .bool t869]] (by rfl) rfl rfl Z24_55 ?_
    with_reducible refine (impl_PieceOk.calls k t857 t858 t859 t860 t861 t862 t863 t864 t865 t866 t867 t868 t869 true _ A12.out).mono ?_
    rintro e w53 ⟨rfl, hb⟩
    refine ⟨_, rfl, ?_⟩
    have n0_ := Aside0.mk Z24_60
    have n1_ := Aside0.mk Z24_61
    have n2_ := Aside0.mk Z24_62
    have n3_ := Aside0.mk Z24_36
    have n4_ := Aside0.mk Z24_37
    have n5_ := Aside0.mk Z24_38
    have n6_ := Aside0.mk Z24_39
    have n7_ := Aside0.mk Z24_41
    clear HO819
    clear HO836
    clear HO856
    clear BK833
    clear BK852
    clear BK872
    clear BK888
    clear HB
    have HO819 := n0_
    have HO836 := n1_
    have HO856 := n2_
    have BK833 := n3_
    have BK852 := n4_
    have BK872 := n5_
    have BK888 := n6_
    have HB := n7_
    clear n0_ n1_ n2_ n3_ n4_ n5_ n6_ n7_
    (try clear hb)
    (try clear hb2)
    (try clear hk)
    (try clear hi)
    refine hK.out _ _ (C24_13 BK872.out).1 (fun hHeld => ?_)
    clear hK K
    refine norm_ (a' := ?_) ?_ ?_
    rotate_left
    · show Act.put _ (some 61) _ = _
      simp only [Act.put, List.setIfInBounds_toArray, List.set_cons_zero, List.set_cons_succ, i64_w, i32_w]
      rfl
    refine pure_ (i := 8) (N := some 62) (v := _) (a' := _) (M24_31 511) rfl rfl (any_of HT_.out (by kernel_rfl)) (fun _ _ _ h => h) (Or.inl ⟨(by rfl), (by intro w'; go_simp; with_reducible rfl)⟩) Z24_65 ?_
    refine pure_ (i := 9) (N := some 63) (v := _) (a' := _) (M24_31 1023) rfl rfl (any_of HT_.out (by kernel_rfl)) (fun _ _ _ h => h) (Or.inl ⟨(by rfl), (by intro w'; go_simp; with_reducible rfl)⟩) Z24_65 ?_
    refine pure_ (i := 13) (N := some 67) (v := _) (a' := _) (M24_31 9215) rfl rfl (any_of HT_.out (by kernel_rfl)) (fun _ _ _ h => h) (Or.inl ⟨(by rfl), (by intro w'; go_simp; with_reducible rfl)⟩) Z24_65 ?_
    refine pure_ (i := 14) (N := some 68) (v := _) (a' := _) (M24_31 25599) rfl rfl (any_of HT_.out (by kernel_rfl)) (fun _ _ _ h => h) (Or.inl ⟨(by rfl), (by intro w'; go_simp; with_reducible rfl)⟩) Z24_65 ?_
    refine pure_ (i := 15) (N := some 69) (v := _) (a' := _) (M24_31 58367) rfl rfl (any_of HT_.out (by kernel_rfl)) (fun _ _ _ h => h) (Or.inl ⟨(by rfl), (by intro w'; go_simp; with_reducible rfl)⟩) Z24_65 ?_
    have q58 : (t870 : Int) ≤ ((t853.length : Int) : Int) := of_decide_eq_true Z24_71
    obtain ⟨i058, hi058, _, hsz58, _⟩ := info_parts info5
    have hroom58 : t853.length ≤ co39 := (Kd.R_reads' HO856.out).2.1
    have ql58 : (t854 : Int) ≤ (t870 : Int) := of_decide_eq_true Z24_71
    have q058 : (0 : Int) ≤ (t854 : Int) := of_decide_eq_true Z24_71
    have hcut58 := cut_mid (P := Try.prog) 22 5 .i64 .i64 Try.underlying22 hi058 1 hsz58 Ao39 t853.length co39 t854 t870 q058 ql58 q58 hroom58
    obtain ⟨A58, hA58⟩ : ∃ A1, A1 = (if co39 = (t854 : Int).toNat then Ao39 else (Ao39 : Option Addr).map (·.add ((t854 : Int).toNat * 1))) := ⟨_, rfl⟩
    obtain ⟨c58, hc58⟩ : ∃ c1, c1 = co39 - (t854 : Int).toNat := ⟨_, rfl⟩
    have hy58 : y896.length = (t870 : Int).toNat - (t854 : Int).toNat := (by rw [Ny896.out, List.length_drop, List.length_take] <;> omega)
    rw [← hy58, ← hA58, ← hc58] at hcut58
    have Xhroom58 := Aside0.mk hroom58
    have XhA58 := Aside0.mk hA58
    have Xhc58 := Aside0.mk hc58
    have Xhy58 := Aside0.mk hy58
    have Xq58 := Aside0.mk q58
    have Xql58 := Aside0.mk ql58
    have Xq058 := Aside0.mk q058
    clear hroom58 hA58 hc58 hy58 q58 ql58 q058 hi058 hsz58
    refine pure_ (i := 16) (N := some 70) (v := _) (a' := _) (M24_31 123903) rfl rfl (any_of HT_.out (by kernel_rfl)) (fun _ _ _ h => h) (Or.inl ⟨(by rfl), (by intro w'; go_simp; with_reducible rfl)⟩) Z24_65 ?_
    refine take_ (i := 11) (N := some 65) (v := _) (a' := _) (M24_31 125951) rfl rfl (take_ofW HT_.out HW_.out (by kernel_rfl)) (fun _ _ _ h => h) (Or.inl ⟨(by rfl), Z24_70⟩) hHeld Z24_65 ?_
    as_aux_lemma =>
     refine one_ (i := 10) (N := some 64) (M24_31 126975) rfl rfl (one_of HT_.out (by kernel_rfl)) (by decide) (fun K hK => ?_)
     refine Kd.R_lit_step (Kd.int .u8) _ 5 ?hg (N := 64) ?hd (xs := ([] : List Int)) (inner := []) (ok := fun _ => True) (okp := fun _ => True) ?hr ?hp (fun _ hk => hk) trivial (Below.refl _ _) (Nat.le_refl _) (by simp) ?_; (case hd => rfl); (case hg => rfl); (case hr => first | (go_simp; done) | (go_simp; rfl)); (case hp => exact (Reps.none _ _))
     intro v891 w54 ho55 hb hg_ hnew_
     clear hg_ hnew_
     (first | rw [← Ny890.out] at ho55 | (simp only [Int.reduceToNat] at ho55; rw [← Ny890.out] at ho55))
     have n0_ := Aside0.mk (Kd.R_elder' Z24_66 (Kd.R_base ho55) hb)
     have n1_ := Aside0.mk (Kd.R_elder' Z24_67 (Kd.R_base ho55) hb)
     have n2_ := Aside0.mk (Kd.R_elder' Z24_68 (Kd.R_base ho55) hb)
     have n3_ := Aside0.mk (Kd.R_lower (Kd.R_new' (Kd.R_new' (Kd.R_new' ho55 (Kd.R_lt Z24_66)) (Kd.R_lt Z24_67)) (Kd.R_lt Z24_68)) (below_size Z24_42))
     have n4_ := Aside0.mk Z24_36
     have n5_ := Aside0.mk Z24_37
     have n6_ := Aside0.mk Z24_38
     have n7_ := Aside0.mk Z24_39
     have n8_ := Aside0.mk Z24_41
     clear HO819
     clear HO836
     clear HO856
     clear BK833
     clear BK852
     clear BK872
     clear BK888
     clear HB
     have HO819 := n0_
     have HO836 := n1_
     have HO856 := n2_
     have HO892 := n3_
     have BK833 := n4_
     have BK852 := n5_
     have BK872 := n6_
     have BK888 := n7_
     have HB := n8_
     clear n0_ n1_ n2_ n3_ n4_ n5_ n6_ n7_ n8_
     clear hb ho55
     obtain ⟨Ao56, co56, eo56⟩ := Kd.R_slice HO892.out
     (first | subst eo56 | (injection eo56 with f1_ f2_ f3_; have f4_ := f1_.symm; have f5_ := f3_.symm; clear f1_ f2_ f3_; subst f4_; subst f5_))
     refine hK.out _ _ (C24_13 BK872.out).1 (fun hHeld => ?_)
     clear hK K
     refine norm_ (a' := ?_) ?_ ?_
     rotate_left
     · show Act.put _ (some 64) _ = _
       simp only [Act.put, List.setIfInBounds_toArray, List.set_cons_zero, List.set_cons_succ, i64_w, i32_w]
       rfl
     refine one_ (i := 12) (N := some 66) (M24_31 131071) rfl rfl (one_of HT_.out (by kernel_rfl)) (by decide) (fun K hK => ?_)
     refine goes_ Try.func30 (by kernel_rfl) rfl #[.slice Ao56 y890.length co56, .agg #[.int .i64 t857, .int .i64 t858, .int .i64 t859, .int .i64 t860, .int .i64 t861, .int .i64 t862, .int .i64 t863, .int .i64 t864, .int .i64 t865, .int .i64 t866, .int .i64 t867, .bool t868, .bool t869]] (by rfl) rfl rfl Z24_55 ?_
     with_reducible refine (impl_PutPiece.calls k _ _ y890 t857 t858 t859 t860 t861 t862 t863 t864 t865 t866 t867 t868 t869 t893 _ ?side1 ?side2 A14.out).mono ?_
     (case side1 => repeat (first | exact (Kd.R_reads' HO892.out).2.2 | (with_reducible refine Kd.C_alloc ?_ _) | (with_reducible refine Kd.C_drewN ?_ _) | (with_reducible refine Kd.C_drew ?_)))
     (case side2 => exact (Kd.R_reads' HO892.out).2.1)
     rintro e w57 ⟨v894, rfl, ho0, hb⟩
     refine ⟨_, rfl, ?_⟩
     have n0_ := Aside0.mk Z24_56
     have n1_ := Aside0.mk Z24_57
     have n2_ := Aside0.mk Z24_58
     have n3_ := Aside0.mk Z24_59
     have n4_ := Aside0.mk Z24_20
     have n5_ := Aside0.mk Z24_36
     have n6_ := Aside0.mk Z24_37
     have n7_ := Aside0.mk Z24_38
     have n8_ := Aside0.mk Z24_39
     have n9_ := Aside0.mk Z24_41
     clear HO819
     clear HO836
     clear HO856
     clear HO892
     clear BK833
     clear BK852
     clear BK872
     clear BK888
     clear HB
     have HO819 := n0_
     have HO836 := n1_
     have HO856 := n2_
     have HO892 := n3_
     have HO895 := n4_
     have BK833 := n5_
     have BK852 := n6_
     have BK872 := n7_
     have BK888 := n8_
     have HB := n9_
     clear n0_ n1_ n2_ n3_ n4_ n5_ n6_ n7_ n8_ n9_
     (try clear hb)
     (try clear hb2)
     (try clear hk)
     (try clear hi)
     (try clear ho0)
     have hroom58 := Xhroom58.out
     have hA58 := XhA58.out
     have hc58 := Xhc58.out
     have hy58 := Xhy58.out
     have q58 := Xq58.out
     have ql58 := Xql58.out
     have q058 := Xq058.out
     have hC58 : Kd.C (Kd.int .u8) _ Ao39 t853.length t853 := (Kd.R_reads' HO856.out).2.2
     have hr58 := Kd.C_mid (lo := (t854 : Int).toNat) (hi := (t870 : Int).toNat) (c := co39) hC58 (by omega) (by omega) hroom58
     rw [show ((t853).take (t870 : Int).toNat).drop (t854 : Int).toNat = y896 from Ny896.out.symm] at hr58
     replace hr58 : Kd.C (Kd.int .u8) _ A58 y896.length y896 := (by rw [hA58]; exact hr58)
     have HR899 := Aside0.mk hr58
     have HC899 := Aside0.mk (show y896.length ≤ c58 from by rw [hy58, hc58]; exact Nat.sub_le_sub_right (Nat.le_trans (by omega) hroom58) _)
     clear hr58 hC58 hroom58 hc58
     have KY58 := Aside0.mk hy58
     have KA58 := Aside0.mk hA58
     clear hy58 hA58
     have KL58 := Aside0.mk (show (t870 : Int).toNat ≤ t853.length from by omega)
     have KM58 := Aside0.mk (show (t854 : Int).toNat ≤ (t870 : Int).toNat from by omega)
     replace q58 := eq_true q58
     obtain ⟨Ao59, co59, eo59⟩ := Kd.R_slice HO895.out
     (first | subst eo59 | (injection eo59 with f1_ f2_ f3_; have f4_ := f1_.symm; have f5_ := f3_.symm; clear f1_ f2_ f3_; subst f4_; subst f5_))
     refine hK.out _ _ (C24_13 BK872.out).1 (fun hHeld => ?_)
     clear hK K
     refine norm_ (a' := ?_) ?_ ?_
     rotate_left
     · show Act.put _ (some 66) _ = _
       simp only [Act.put, List.setIfInBounds_toArray, List.set_cons_zero, List.set_cons_succ, i64_w, i32_w]
       rfl
     refine one_ (i := 17) (N := some 71) (M24_31 262143) rfl rfl (one_of HT_.out (by kernel_rfl)) (by decide) (fun K hK => ?_)
     refine goes_ Try.func34 (by kernel_rfl) rfl #[.slice Ao59 t893.length co59, .slice A58 y896.length c58] (by rfl) rfl rfl Z24_55 ?_
     with_reducible refine (laws_same.calls _ _ t893 _ _ y896 true _ ?side1 ?side2 ?side3 ?side4 A18.out).mono ?_
     (case side1 => repeat (first | exact (Kd.R_reads' HO895.out).2.2 | (with_reducible refine Kd.C_alloc ?_ _) | (with_reducible refine Kd.C_drewN ?_ _) | (with_reducible refine Kd.C_drew ?_)))
     (case side2 => exact (Kd.R_reads' HO895.out).2.1)
     (case side3 => repeat (first | exact Z24_50 | (with_reducible refine Kd.C_alloc ?_ _) | (with_reducible refine Kd.C_drewN ?_ _) | (with_reducible refine Kd.C_drew ?_)))
     (case side4 => exact HC899.out)
     rintro e w' ⟨rfl, ⟨nd, rfl⟩⟩
     refine ⟨_, rfl, ?_⟩
     refine hK.out _ _ (C24_13 BK872.out).1 (fun hHeld => ?_)
     clear hK K
     refine norm_ (a' := ?_) ?_ ?_
     rotate_left
     · show Act.put _ (some 71) _ = _
       simp only [Act.put, List.setIfInBounds_toArray, List.set_cons_zero, List.set_cons_succ, i64_w, i32_w]
       rfl
     refine pure_ (i := 18) (N := some 72) (v := _) (a' := _) (M24_31 524287) rfl rfl (any_of HT_.out (by kernel_rfl)) (fun _ _ _ h => h) (Or.inl ⟨(by rfl), (by intro w'; go_simp; with_reducible rfl)⟩) Z24_65 ?_
     refine pure_ (i := 19) (N := some 73) (v := _) (a' := _) (M24_31 1048575) rfl rfl (any_of HT_.out (by kernel_rfl)) (fun _ _ _ h => h) (Or.inl ⟨(by rfl), (by intro w'; go_simp; with_reducible rfl)⟩) Z24_65 ?_
     refine pure_ (i := 20) (N := some 74) (v := _) (a' := _) (M24_31 2097151) rfl rfl (any_of HT_.out (by kernel_rfl)) (fun _ _ _ h => h) (Or.inl ⟨(by rfl), (by intro w'; go_simp; with_reducible rfl)⟩) Z24_65 ?_
     refine pure_ (i := 21) (N := some 75) (v := _) (a' := _) (M24_31 4194303) rfl rfl (any_of HT_.out (by kernel_rfl)) (fun _ _ _ h => h) (Or.inl ⟨(by rfl), (by intro w'; go_simp; with_reducible rfl)⟩) Z24_65 ?_
     refine pure_ (i := 22) (N := some 76) (v := _) (a' := _) (M24_31 8388607) rfl rfl (any_of HT_.out (by kernel_rfl)) (fun _ _ _ h => h) (Or.inl ⟨(by rfl), (by intro w'; go_simp; with_reducible rfl)⟩) Z24_65 ?_
     as_aux_lemma =>
      refine pure_ (i := 23) (N := some 77) (v := _) (a' := _) (M24_31 16777215) rfl rfl (any_of HT_.out (by kernel_rfl)) (fun _ _ _ h => h) (Or.inl ⟨(by rfl), (by intro w'; go_simp; with_reducible rfl)⟩) Z24_65 ?_
      refine pure_ (i := 24) (N := some 78) (v := _) (a' := _) (M24_31 33554431) rfl rfl (any_of HT_.out (by kernel_rfl)) (fun _ _ _ h => h) (Or.inl ⟨(by rfl), (by intro w'; go_simp; with_reducible rfl)⟩) Z24_65 ?_
      refine pure_ (i := 25) (N := some 79) (v := _) (a' := _) (M24_31 67108863) rfl rfl (any_of HT_.out (by kernel_rfl)) (fun _ _ _ h => h) (Or.inl ⟨(by rfl), (by intro w'; go_simp; with_reducible rfl)⟩) Z24_65 ?_
      refine pure_ (i := 26) (N := some 80) (v := undef) (a' := ?_) (M24_31 134217727) rfl rfl (any_of HT_.out (by kernel_rfl)) (fun _ _ _ h => h) (Or.inr ⟨(by rfl), rfl⟩) ?_ ?_
      rotate_left
      · simp only [Act.put, List.setIfInBounds_toArray, List.set_cons_zero, List.set_cons_succ, i64_w, i32_w]
        rfl
      refine pure_ (i := 27) (N := some 81) (v := undef) (a' := ?_) (M24_31 268435455) rfl rfl (any_of HT_.out (by kernel_rfl)) (fun _ _ _ h => h) (Or.inr ⟨(by rfl), rfl⟩) ?_ ?_
      rotate_left
      · simp only [Act.put, List.setIfInBounds_toArray, List.set_cons_zero, List.set_cons_succ, i64_w, i32_w]
        rfl
      refine pure_ (i := 28) (N := some 82) (v := undef) (a' := ?_) (M24_31 536870911) rfl rfl (any_of HT_.out (by kernel_rfl)) (fun _ _ _ h => h) (Or.inr ⟨(by rfl), rfl⟩) ?_ ?_
      rotate_left
      · simp only [Act.put, List.setIfInBounds_toArray, List.set_cons_zero, List.set_cons_succ, i64_w, i32_w]
        rfl
      refine pure_ (i := 29) (N := some 83) (v := _) (a' := _) (M24_31 1073741823) rfl rfl (any_of HT_.out (by kernel_rfl)) (fun _ _ _ h => h) (Or.inl ⟨(by rfl), (by intro w'; go_simp; with_reducible rfl)⟩) Z24_65 ?_
      refine pure_ (i := 30) (N := some 84) (v := _) (a' := _) (M24_31 2147483647) rfl rfl (any_of HT_.out (by kernel_rfl)) (fun _ _ _ h => h) (Or.inl ⟨(by rfl), (by intro w'; go_simp; with_reducible rfl)⟩) Z24_65 ?_
      refine done_ (done_of HT_.out (by kernel_rfl)) ?_
      obtain ⟨⟨hcz60_0, hcz60_1, hcz60_2, hcz60_3, hcz60_4, hcz60_5, hcz60_6, hcz60_7, hcz60_8, hcz60_9, hcz60_10, hcz60_11, hcz60_12⟩, hfz60_0, hfz60_1, hfz60_2, hfz60_3, hfz60_4, hfz60_5, hfz60_6, hfz60_7, hfz60_8, hfz60_9, hfz60_10, hfz60_11, hfz60_12⟩ := C24_13 BK833.out
      try go_wp2_with (first | ((with_reducible refine gate_callee (f := 18) rfl ?_); refine goesL_ (some 86) rfl rfl Try.func18 (by kernel_rfl) rfl #[.agg #[.int .i64 t820, .int .i64 t821, .int .i64 t822, .int .i64 t823, .int .i64 t824, .int .i64 t825, .int .i64 t826, .int .i64 t827, .int .i64 t828, .int .i64 t829, .int .i64 t830, .bool t831, .bool t832]] rfl Z24_55 ?_; (with_reducible refine (impl_PieceOk.calls k t820 t821 t822 t823 t824 t825 t826 t827 t828 t829 t830 t831 t832 true _ A20.out).mono ?_); rintro e w61 ⟨rfl, hb⟩; refine ⟨_, rfl, ?_⟩; have n0_ := Aside0.mk Z24_60; have n1_ := Aside0.mk Z24_61; have n2_ := Aside0.mk Z24_62; have n3_ := Aside0.mk Z24_63; have n4_ := Aside0.mk Z24_64; have n5_ := Aside0.mk Z24_36; have n6_ := Aside0.mk Z24_37; have n7_ := Aside0.mk Z24_38; have n8_ := Aside0.mk Z24_39; have n9_ := Aside0.mk Z24_48; have n10_ := Aside0.mk Z24_41; clear HO819; clear HO836; clear HO856; clear HO892; clear HO895; clear BK833; clear BK852; clear BK872; clear BK888; clear HR899; clear HB; have HO819 := n0_; have HO836 := n1_; have HO856 := n2_; have HO892 := n3_; have HO895 := n4_; have BK833 := n5_; have BK852 := n6_; have BK872 := n7_; have BK888 := n8_; have HR899 := n9_; have HB := n10_; clear n0_ n1_ n2_ n3_ n4_ n5_ n6_ n7_ n8_ n9_ n10_; (try clear hb); (try clear hb2); (try clear hk); (try clear hi); obtain ⟨⟨hcz62_0, hcz62_1, hcz62_2, hcz62_3, hcz62_4, hcz62_5, hcz62_6, hcz62_7, hcz62_8, hcz62_9, hcz62_10, hcz62_11, hcz62_12⟩, hfz62_0, hfz62_1, hfz62_2, hfz62_3, hfz62_4, hfz62_5, hfz62_6, hfz62_7, hfz62_8, hfz62_9, hfz62_10, hfz62_11, hfz62_12⟩ := C24_13 BK852.out; obtain ⟨⟨hcz63_0, hcz63_1, hcz63_2, hcz63_3, hcz63_4, hcz63_5, hcz63_6, hcz63_7, hcz63_8, hcz63_9, hcz63_10, hcz63_11, hcz63_12⟩, hfz63_0, hfz63_1, hfz63_2, hfz63_3, hfz63_4, hfz63_5, hfz63_6, hfz63_7, hfz63_8, hfz63_9, hfz63_10, hfz63_11, hfz63_12⟩ := C24_13 BK833.out; have q64 : ((t817.length : Int) : Int) ≤ ((t834.length : Int) : Int) := of_decide_eq_true Z24_71; obtain ⟨i064, hi064, _, hsz64, _⟩ := info_parts info5; have hroom64 : t834.length ≤ co33 := (Kd.R_reads' HO836.out).2.1; have hC64 : Kd.C (Kd.int .u8) _ Ao33 t834.length t834 := (Kd.R_reads' HO836.out).2.2; have hcut64 := cut_to (P := Try.prog) 22 5 .i64 Try.underlying22 hi064 Ao33 t834.length co33 (t817.length : Int) (of_decide_eq_true Z24_71) q64 hroom64; have hr64 := Kd.C_take (m := ((t817.length : Int) : Int).toNat) hC64 (by omega); have hy64 : y902.length = ((t817.length : Int) : Int).toNat := (by rw [Ny902.out, List.length_take]; omega); rw [← Ny902.out] at hr64; rw [← hy64] at hcut64; have HR905 := Aside0.mk hr64; have HC905 := Aside0.mk (show y902.length ≤ co33 from by omega); clear hr64 hC64 hroom64 hi064 hsz64; have KY64 := Aside0.mk hy64; clear hy64; have KL64 := Aside0.mk (show ((t817.length : Int) : Int).toNat ≤ t834.length from by omega); replace q64 := eq_true q64) | (go_at_call 34; (with_reducible refine (laws_same.calls _ _ y902 _ _ t817 t906 _ ?side1 ?side2 ?side3 ?side4 A27.out).mono ?_); (case side1 => repeat (first | exact (by repeat (first | (with_reducible exact HR905.out) | (with_reducible refine Kd.C_alloc ?_ _) | (with_reducible refine Kd.C_drewN ?_ _) | (with_reducible refine Kd.C_drew ?_) | exact HR905.out)) | (with_reducible refine Kd.C_alloc ?_ _) | (with_reducible refine Kd.C_drewN ?_ _) | (with_reducible refine Kd.C_drew ?_))); (case side2 => exact HC905.out); (case side3 => repeat (first | exact (Kd.R_reads' HO819.out).2.2 | (with_reducible refine Kd.C_alloc ?_ _) | (with_reducible refine Kd.C_drewN ?_ _) | (with_reducible refine Kd.C_drew ?_))); (case side4 => exact (Kd.R_reads' HO819.out).2.1); rintro e w' ⟨rfl, ⟨nd, rfl⟩⟩))
      go_ret
      exact ⟨Z24_69, Z24_42⟩

/-- THE ONE PURE STATEMENT of laws_FnPieceBytes: yours. -/
def laws_FnPieceBytes.Pure : Prop := ∀ (l0 : List Int), l0.length ≤ maxLen → l0.length * 1 ≤ 140737488351232 → (∀ x ∈ l0, (Lit.int .u8 x).wf = true) → ∃ k, laws_FnPieceBytes.f k l0 = some true
theorem laws_FnPieceBytes.walk (P : laws_FnPieceBytes.Pure) (a0 : Option Addr) (len0 cap0 : Nat) (z0 : List Int) (w : World) (w0 : (a0 = none ∧ len0 = 0 ∧ cap0 = 0 ∧ z0 = []) ∨ ∃ x, a0 = some x ∧ len0 ≤ cap0 ∧ cap0 ≤ maxLen ∧ z0.length = cap0 ∧ (∀ i, i < z0.length → w.cell? (x.add i) = some (.int .u8 (z0.getD i 0))) ∧ ∀ n ∈ z0, (Lit.int .u8 n).wf = true) (y0 : len0 * 1 ≤ 140737488351232) :
    Calls Try.prog 4 #[.slice a0 len0 cap0] w fun e w' => e = .returned (.bool true) ∧ Below w.heap.size w w' := by
  obtain ⟨l0, rfl, hr0, hm0, hw0, hc0⟩ := ReadsInt.ofRowC w0
  obtain ⟨k, h⟩ := P l0 hm0 y0 hw0
  refine (laws_FnPieceBytes.calls k _ _ l0 true w (Kd.C_of_reads (d := (0 : Int)) (h1 := fun _ => rfl) hr0) hc0 rfl h).mono ?_
  rintro e w' ⟨rfl, hd⟩
  exact ⟨rfl, hd⟩


end Go.Proofs.Ytfkidiagmekleaa.QAll
