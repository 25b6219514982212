-- Written by a program of this session (patch_print.py over the print).
import Derived.Test.YtfpbbikhcnpceaaQFnExactGetPiecex0
import Derived.Test.YtfpbbikhcnpceaaQFnExactGetPiecex5
import Derived.Test.YtfpbbikhcnpceaaQFnExactGetPiecex6
import Derived.Test.YtfpbbikhcnpceaaQFnExactGetPiecex7
namespace Go.Proofs.Ytfpbbikhcnpceaa.QFnExactGetPiece
open Go.RowKit Go.Proofs.YtfpbbikhcnpceaaW.PrintWords Go.Proofs.YtfpbbikhcnpceaaW.PrintLast Go.Proofs.YtfpbbikhcnpceaaW.PrintMore
attribute [local go_sem] max2_int min2_int max_two min_two max_three min_three max_four min_four   -- for this text's walks alone
set_option linter.unusedVariables false
set_option linter.unusedSimpArgs false

def M8_44 (k : Nat) : Array Bool := ((List.range 44).map fun j => k.testBit j).toArray
theorem Z8_1 {p : Prop} (h : p := by exact (blk_below (g := gb209) (o := .cells #[.int .i64 (rd t187 0), .int .i64 (rd t187 1), .int .i64 (rd t187 2), .int .i64 (rd t187 3), .int .i64 (rd t187 4), .int .i64 (rd t187 5), .int .i64 (rd t187 6), .int .i64 (rd t187 7), .int .i64 (rd t187 8), .int .i64 (rd t187 9), .int .i64 (rd t187 10), .bool ((rd t187 11) == 1), .bool ((rd t187 12) == 1)] 54 (0, 0)) (by (with_reducible repeat (first | refine blk_drewN ?_ _ | refine blk_drew ?_ | refine blk_alloc ?_ _)); refine blk_put (cs := #[.int .i64 (rd t187 0), .int .i64 (rd t187 1), .int .i64 (rd t187 2), .int .i64 (rd t187 3), .int .i64 (rd t187 4), .int .i64 (rd t187 5), .int .i64 (rd t187 6), .int .i64 (rd t187 7), .int .i64 (rd t187 8), .int .i64 (rd t187 9), .int .i64 (rd t187 10), .bool ((rd t187 11) == 1), .bool false]) ?_ 12 _ rfl; (with_reducible repeat (first | refine blk_drewN ?_ _ | refine blk_drew ?_ | refine blk_alloc ?_ _)); refine blk_put (cs := #[.int .i64 (rd t187 0), .int .i64 (rd t187 1), .int .i64 (rd t187 2), .int .i64 (rd t187 3), .int .i64 (rd t187 4), .int .i64 (rd t187 5), .int .i64 (rd t187 6), .int .i64 (rd t187 7), .int .i64 (rd t187 8), .int .i64 (rd t187 9), .int .i64 (rd t187 10), .bool false, .bool false]) ?_ 11 _ rfl; (with_reducible repeat (first | refine blk_drewN ?_ _ | refine blk_drew ?_ | refine blk_alloc ?_ _)); refine blk_put (cs := #[.int .i64 (rd t187 0), .int .i64 (rd t187 1), .int .i64 (rd t187 2), .int .i64 (rd t187 3), .int .i64 (rd t187 4), .int .i64 (rd t187 5), .int .i64 (rd t187 6), .int .i64 (rd t187 7), .int .i64 (rd t187 8), .int .i64 (rd t187 9), .int .i64 0, .bool false, .bool false]) ?_ 10 _ rfl; (with_reducible repeat (first | refine blk_drewN ?_ _ | refine blk_drew ?_ | refine blk_alloc ?_ _)); refine blk_put (cs := #[.int .i64 (rd t187 0), .int .i64 (rd t187 1), .int .i64 (rd t187 2), .int .i64 (rd t187 3), .int .i64 (rd t187 4), .int .i64 (rd t187 5), .int .i64 (rd t187 6), .int .i64 (rd t187 7), .int .i64 (rd t187 8), .int .i64 0, .int .i64 0, .bool false, .bool false]) ?_ 9 _ rfl; (with_reducible repeat (first | refine blk_drewN ?_ _ | refine blk_drew ?_ | refine blk_alloc ?_ _)); refine blk_put (cs := #[.int .i64 (rd t187 0), .int .i64 (rd t187 1), .int .i64 (rd t187 2), .int .i64 (rd t187 3), .int .i64 (rd t187 4), .int .i64 (rd t187 5), .int .i64 (rd t187 6), .int .i64 (rd t187 7), .int .i64 0, .int .i64 0, .int .i64 0, .bool false, .bool false]) ?_ 8 _ rfl; (with_reducible repeat (first | refine blk_drewN ?_ _ | refine blk_drew ?_ | refine blk_alloc ?_ _)); refine blk_put (cs := #[.int .i64 (rd t187 0), .int .i64 (rd t187 1), .int .i64 (rd t187 2), .int .i64 (rd t187 3), .int .i64 (rd t187 4), .int .i64 (rd t187 5), .int .i64 (rd t187 6), .int .i64 0, .int .i64 0, .int .i64 0, .int .i64 0, .bool false, .bool false]) ?_ 7 _ rfl; (with_reducible repeat (first | refine blk_drewN ?_ _ | refine blk_drew ?_ | refine blk_alloc ?_ _)); refine blk_put (cs := #[.int .i64 (rd t187 0), .int .i64 (rd t187 1), .int .i64 (rd t187 2), .int .i64 (rd t187 3), .int .i64 (rd t187 4), .int .i64 (rd t187 5), .int .i64 0, .int .i64 0, .int .i64 0, .int .i64 0, .int .i64 0, .bool false, .bool false]) ?_ 6 _ rfl; (with_reducible repeat (first | refine blk_drewN ?_ _ | refine blk_drew ?_ | refine blk_alloc ?_ _)); refine blk_put (cs := #[.int .i64 (rd t187 0), .int .i64 (rd t187 1), .int .i64 (rd t187 2), .int .i64 (rd t187 3), .int .i64 (rd t187 4), .int .i64 0, .int .i64 0, .int .i64 0, .int .i64 0, .int .i64 0, .int .i64 0, .bool false, .bool false]) ?_ 5 _ rfl; (with_reducible repeat (first | refine blk_drewN ?_ _ | refine blk_drew ?_ | refine blk_alloc ?_ _)); refine blk_put (cs := #[.int .i64 (rd t187 0), .int .i64 (rd t187 1), .int .i64 (rd t187 2), .int .i64 (rd t187 3), .int .i64 0, .int .i64 0, .int .i64 0, .int .i64 0, .int .i64 0, .int .i64 0, .int .i64 0, .bool false, .bool false]) ?_ 4 _ rfl; (with_reducible repeat (first | refine blk_drewN ?_ _ | refine blk_drew ?_ | refine blk_alloc ?_ _)); refine blk_put (cs := #[.int .i64 (rd t187 0), .int .i64 (rd t187 1), .int .i64 (rd t187 2), .int .i64 0, .int .i64 0, .int .i64 0, .int .i64 0, .int .i64 0, .int .i64 0, .int .i64 0, .int .i64 0, .bool false, .bool false]) ?_ 3 _ rfl; (with_reducible repeat (first | refine blk_drewN ?_ _ | refine blk_drew ?_ | refine blk_alloc ?_ _)); refine blk_put (cs := #[.int .i64 (rd t187 0), .int .i64 (rd t187 1), .int .i64 0, .int .i64 0, .int .i64 0, .int .i64 0, .int .i64 0, .int .i64 0, .int .i64 0, .int .i64 0, .int .i64 0, .bool false, .bool false]) ?_ 2 _ rfl; (with_reducible repeat (first | refine blk_drewN ?_ _ | refine blk_drew ?_ | refine blk_alloc ?_ _)); refine blk_put (cs := #[.int .i64 (rd t187 0), .int .i64 0, .int .i64 0, .int .i64 0, .int .i64 0, .int .i64 0, .int .i64 0, .int .i64 0, .int .i64 0, .int .i64 0, .int .i64 0, .bool false, .bool false]) ?_ 1 _ rfl; (with_reducible repeat (first | refine blk_drewN ?_ _ | refine blk_drew ?_ | refine blk_alloc ?_ _)); refine blk_put (cs := #[.int .i64 0, .int .i64 0, .int .i64 0, .int .i64 0, .int .i64 0, .int .i64 0, .int .i64 0, .int .i64 0, .int .i64 0, .int .i64 0, .int .i64 0, .bool false, .bool false]) ?_ 0 _ rfl; (with_reducible repeat (first | refine blk_drewN ?_ _ | refine blk_drew ?_ | refine blk_alloc ?_ _)); exact BK209.out) hb)) : p := h
theorem Z8_2 {p : Prop} (h : p := by (with_reducible repeat (first | refine blk_drewN ?_ _ | refine blk_drew ?_ | refine blk_alloc ?_ _)); refine blk_put (cs := #[.int .i64 0, .int .i64 0, .int .i64 0, .int .i64 0, .int .i64 0, .int .i64 0, .int .i64 0, .int .i64 0, .int .i64 0, .int .i64 0, .int .i64 0, .bool false, .bool false]) ?_ 12 _ rfl; (with_reducible repeat (first | refine blk_drewN ?_ _ | refine blk_drew ?_ | refine blk_alloc ?_ _)); refine blk_put (cs := #[.int .i64 0, .int .i64 0, .int .i64 0, .int .i64 0, .int .i64 0, .int .i64 0, .int .i64 0, .int .i64 0, .int .i64 0, .int .i64 0, .int .i64 0, .bool false, .bool false]) ?_ 11 _ rfl; (with_reducible repeat (first | refine blk_drewN ?_ _ | refine blk_drew ?_ | refine blk_alloc ?_ _)); refine blk_put (cs := #[.int .i64 0, .int .i64 0, .int .i64 0, .int .i64 0, .int .i64 0, .int .i64 0, .int .i64 0, .int .i64 0, .int .i64 0, .int .i64 0, .int .i64 0, .bool false, .bool false]) ?_ 10 _ rfl; (with_reducible repeat (first | refine blk_drewN ?_ _ | refine blk_drew ?_ | refine blk_alloc ?_ _)); refine blk_put (cs := #[.int .i64 0, .int .i64 0, .int .i64 0, .int .i64 0, .int .i64 0, .int .i64 0, .int .i64 0, .int .i64 0, .int .i64 0, .int .i64 0, .int .i64 0, .bool false, .bool false]) ?_ 9 _ rfl; (with_reducible repeat (first | refine blk_drewN ?_ _ | refine blk_drew ?_ | refine blk_alloc ?_ _)); refine blk_put (cs := #[.int .i64 0, .int .i64 0, .int .i64 0, .int .i64 0, .int .i64 0, .int .i64 0, .int .i64 0, .int .i64 0, .int .i64 0, .int .i64 0, .int .i64 0, .bool false, .bool false]) ?_ 8 _ rfl; (with_reducible repeat (first | refine blk_drewN ?_ _ | refine blk_drew ?_ | refine blk_alloc ?_ _)); refine blk_put (cs := #[.int .i64 0, .int .i64 0, .int .i64 0, .int .i64 0, .int .i64 0, .int .i64 0, .int .i64 0, .int .i64 0, .int .i64 0, .int .i64 0, .int .i64 0, .bool false, .bool false]) ?_ 7 _ rfl; (with_reducible repeat (first | refine blk_drewN ?_ _ | refine blk_drew ?_ | refine blk_alloc ?_ _)); refine blk_put (cs := #[.int .i64 0, .int .i64 0, .int .i64 0, .int .i64 0, .int .i64 0, .int .i64 0, .int .i64 0, .int .i64 0, .int .i64 0, .int .i64 0, .int .i64 0, .bool false, .bool false]) ?_ 6 _ rfl; (with_reducible repeat (first | refine blk_drewN ?_ _ | refine blk_drew ?_ | refine blk_alloc ?_ _)); refine blk_put (cs := #[.int .i64 0, .int .i64 0, .int .i64 0, .int .i64 0, .int .i64 0, .int .i64 0, .int .i64 0, .int .i64 0, .int .i64 0, .int .i64 0, .int .i64 0, .bool false, .bool false]) ?_ 5 _ rfl; (with_reducible repeat (first | refine blk_drewN ?_ _ | refine blk_drew ?_ | refine blk_alloc ?_ _)); refine blk_put (cs := #[.int .i64 0, .int .i64 0, .int .i64 0, .int .i64 0, .int .i64 0, .int .i64 0, .int .i64 0, .int .i64 0, .int .i64 0, .int .i64 0, .int .i64 0, .bool false, .bool false]) ?_ 4 _ rfl; (with_reducible repeat (first | refine blk_drewN ?_ _ | refine blk_drew ?_ | refine blk_alloc ?_ _)); refine blk_put (cs := #[.int .i64 0, .int .i64 0, .int .i64 0, .int .i64 0, .int .i64 0, .int .i64 0, .int .i64 0, .int .i64 0, .int .i64 0, .int .i64 0, .int .i64 0, .bool false, .bool false]) ?_ 3 _ rfl; (with_reducible repeat (first | refine blk_drewN ?_ _ | refine blk_drew ?_ | refine blk_alloc ?_ _)); refine blk_put (cs := #[.int .i64 0, .int .i64 0, .int .i64 0, .int .i64 0, .int .i64 0, .int .i64 0, .int .i64 0, .int .i64 0, .int .i64 0, .int .i64 0, .int .i64 0, .bool false, .bool false]) ?_ 2 _ rfl; (with_reducible repeat (first | refine blk_drewN ?_ _ | refine blk_drew ?_ | refine blk_alloc ?_ _)); refine blk_put (cs := #[.int .i64 0, .int .i64 0, .int .i64 0, .int .i64 0, .int .i64 0, .int .i64 0, .int .i64 0, .int .i64 0, .int .i64 0, .int .i64 0, .int .i64 0, .bool false, .bool false]) ?_ 1 _ rfl; (with_reducible repeat (first | refine blk_drewN ?_ _ | refine blk_drew ?_ | refine blk_alloc ?_ _)); refine blk_put (cs := #[.int .i64 0, .int .i64 0, .int .i64 0, .int .i64 0, .int .i64 0, .int .i64 0, .int .i64 0, .int .i64 0, .int .i64 0, .int .i64 0, .int .i64 0, .bool false, .bool false]) ?_ 0 _ rfl; (with_reducible repeat (first | refine blk_drewN ?_ _ | refine blk_drew ?_ | refine blk_alloc ?_ _)); exact BK186.out) : p := h
theorem Z8_3 {p : Prop} (h : p := by exact (blk_below (g := gb186) (o := .cells #[.int .i64 0, .int .i64 0, .int .i64 0, .int .i64 0, .int .i64 0, .int .i64 0, .int .i64 0, .int .i64 0, .int .i64 0, .int .i64 0, .int .i64 0, .bool false, .bool false] 54 (0, 0)) (by (with_reducible repeat (first | refine blk_drewN ?_ _ | refine blk_drew ?_ | refine blk_alloc ?_ _)); refine blk_far ?_ NB186_209.out _; (with_reducible repeat (first | refine blk_drewN ?_ _ | refine blk_drew ?_ | refine blk_alloc ?_ _)); refine blk_far ?_ NB186_209.out _; (with_reducible repeat (first | refine blk_drewN ?_ _ | refine blk_drew ?_ | refine blk_alloc ?_ _)); refine blk_far ?_ NB186_209.out _; (with_reducible repeat (first | refine blk_drewN ?_ _ | refine blk_drew ?_ | refine blk_alloc ?_ _)); refine blk_far ?_ NB186_209.out _; (with_reducible repeat (first | refine blk_drewN ?_ _ | refine blk_drew ?_ | refine blk_alloc ?_ _)); refine blk_far ?_ NB186_209.out _; (with_reducible repeat (first | refine blk_drewN ?_ _ | refine blk_drew ?_ | refine blk_alloc ?_ _)); refine blk_far ?_ NB186_209.out _; (with_reducible repeat (first | refine blk_drewN ?_ _ | refine blk_drew ?_ | refine blk_alloc ?_ _)); refine blk_far ?_ NB186_209.out _; (with_reducible repeat (first | refine blk_drewN ?_ _ | refine blk_drew ?_ | refine blk_alloc ?_ _)); refine blk_far ?_ NB186_209.out _; (with_reducible repeat (first | refine blk_drewN ?_ _ | refine blk_drew ?_ | refine blk_alloc ?_ _)); refine blk_far ?_ NB186_209.out _; (with_reducible repeat (first | refine blk_drewN ?_ _ | refine blk_drew ?_ | refine blk_alloc ?_ _)); refine blk_far ?_ NB186_209.out _; (with_reducible repeat (first | refine blk_drewN ?_ _ | refine blk_drew ?_ | refine blk_alloc ?_ _)); refine blk_far ?_ NB186_209.out _; (with_reducible repeat (first | refine blk_drewN ?_ _ | refine blk_drew ?_ | refine blk_alloc ?_ _)); refine blk_far ?_ NB186_209.out _; (with_reducible repeat (first | refine blk_drewN ?_ _ | refine blk_drew ?_ | refine blk_alloc ?_ _)); refine blk_far ?_ NB186_209.out _; (with_reducible repeat (first | refine blk_drewN ?_ _ | refine blk_drew ?_ | refine blk_alloc ?_ _)); exact BK186.out) hb)) : p := h
theorem Z8_4 {p : Prop} (h : p := by exact (Kd.R_below (by (with_reducible repeat (first | apply Kd.R_alloc | apply Kd.R_drewN | apply Kd.R_drew)); exact (Kd.R_mono (Kd.R_far (p := ⟨gb209, 12, none⟩) (Kd.R_far (p := ⟨gb209, 11, none⟩) (Kd.R_far (p := ⟨gb209, 10, none⟩) (Kd.R_far (p := ⟨gb209, 9, none⟩) (Kd.R_far (p := ⟨gb209, 8, none⟩) (Kd.R_far (p := ⟨gb209, 7, none⟩) (Kd.R_far (p := ⟨gb209, 6, none⟩) (Kd.R_far (p := ⟨gb209, 5, none⟩) (Kd.R_far (p := ⟨gb209, 4, none⟩) (Kd.R_far (p := ⟨gb209, 3, none⟩) (Kd.R_far (p := ⟨gb209, 2, none⟩) (Kd.R_far (p := ⟨gb209, 1, none⟩) (Kd.R_far (p := ⟨gb209, 0, none⟩) (Kd.R_types HO_7.out BK209.out (by decide)) (fun _ hk => hk.2) (.int .i64 (rd t187 0))) (fun _ hk => hk.2) (.int .i64 (rd t187 1))) (fun _ hk => hk.2) (.int .i64 (rd t187 2))) (fun _ hk => hk.2) (.int .i64 (rd t187 3))) (fun _ hk => hk.2) (.int .i64 (rd t187 4))) (fun _ hk => hk.2) (.int .i64 (rd t187 5))) (fun _ hk => hk.2) (.int .i64 (rd t187 6))) (fun _ hk => hk.2) (.int .i64 (rd t187 7))) (fun _ hk => hk.2) (.int .i64 (rd t187 8))) (fun _ hk => hk.2) (.int .i64 (rd t187 9))) (fun _ hk => hk.2) (.int .i64 (rd t187 10))) (fun _ hk => hk.2) (.bool ((rd t187 11) == 1))) (fun _ hk => hk.2) (.bool ((rd t187 12) == 1))) (fun _ h_ => h_.1))) hb)) : p := h
theorem Z8_16 {p : Prop} (h : p := by (with_reducible repeat (first | refine blk_drewN ?_ _ | refine blk_drew ?_ | refine blk_alloc ?_ _)); exact BK186.out) : p := h
theorem Z8_5 {p : Prop} (h : p := by exact ((by rw [hg]; exact Nat.ne_of_lt (blk_lt (g := gb186) (o := .cells #[.int .i64 0, .int .i64 0, .int .i64 0, .int .i64 0, .int .i64 0, .int .i64 0, .int .i64 0, .int .i64 0, .int .i64 0, .int .i64 0, .int .i64 0, .bool false, .bool false] 54 (0, 0)) Z8_16) : gb186 ≠ gb209))) : p := h
theorem Z8_6 {p : Prop} (h : p := by exact ((by rw [hg]; exact Nat.ne_of_gt (blk_lt (g := gb186) (o := .cells #[.int .i64 0, .int .i64 0, .int .i64 0, .int .i64 0, .int .i64 0, .int .i64 0, .int .i64 0, .int .i64 0, .int .i64 0, .int .i64 0, .int .i64 0, .bool false, .bool false] 54 (0, 0)) Z8_16) : gb209 ≠ gb186))) : p := h
theorem Z8_7 {p : Prop} (h : p := by exact (blk_below (g := gb186) (o := .cells #[.int .i64 0, .int .i64 0, .int .i64 0, .int .i64 0, .int .i64 0, .int .i64 0, .int .i64 0, .int .i64 0, .int .i64 0, .int .i64 0, .int .i64 0, .bool false, .bool false] 54 (0, 0)) Z8_16 hb)) : p := h
theorem Z8_13 {p : Prop} (h : p := by repeat (first | (with_reducible first | exact HB.out | apply below_alloc | apply pw_below_drewN | apply below_drew1 | refine below_set ?_ GE186.out) | exact HB.out)) : p := h
theorem Z8_8 {p : Prop} (h : p := by exact ((by rw [hg]; exact (below_size Z8_13) : w.heap.size ≤ gb209))) : p := h
theorem Z8_10 {p : Prop} (h : p := by repeat (first | (with_reducible first | exact HB.out | apply below_alloc | apply pw_below_drewN | apply below_drew1 | refine below_set ?_ GE186.out | refine below_set ?_ GE209.out) | exact HB.out)) : p := h
theorem Z8_9 {p : Prop} (h : p := by exact (below_step Z8_10 hb)) : p := h
theorem Z8_11 {p : Prop} (h : p := by exact ((by rw [hg]; exact (below_size (by repeat (first | (with_reducible first | exact HB.out | apply below_alloc | apply pw_below_drewN | apply below_drew1) | exact HB.out))) : w.heap.size ≤ gb186))) : p := h
theorem Z8_12 {p : Prop} (h : p := by exact (below_step Z8_13 hb)) : p := h
theorem Z8_14 {p : Prop} (h : p := by (try simp only [List.map_toArray, List.map_cons, List.map_nil]); first | done | rfl | (simp only [List.length_drop, List.length_take]; rfl)) : p := h
theorem Z8_15 {p : Prop} (h : p := by exact (Kd.R_below (by (with_reducible repeat (first | apply Kd.R_alloc | apply Kd.R_drewN | apply Kd.R_drew)); exact HO_7.out) hb)) : p := h
theorem Z8_17 {p : Prop} (h : p := by simp only [Act.put, List.setIfInBounds_toArray, List.set_cons_zero, List.set_cons_succ, i64_w, i32_w]; rfl) : p := h
theorem Z8_18 {p : Prop} (h : p := by (with_reducible repeat (first | apply Kd.R_alloc | apply Kd.R_drewN | apply Kd.R_drew)); exact HO191.out) : p := h
theorem Z8_19 {p : Prop} (h : p := by first | rfl | (simp [errW_none, errW_some] <;> rfl) | (simp [*, errW_none, errW_some] <;> rfl)) : p := h
theorem Z8_20 {p : Prop} (h : p := by first | (with_reducible assumption) | assumption) : p := h
/-! ### impl_GetPiece: function 62 -/
def impl_GetPiece.j0 : Nat → List Int → Int → Bool → Option (Int × Int × Int × Int × Int × Int × Int × Int × Int × Int × Int × Bool × Bool × Int × Bool)
  | 0, _, _, _ => none
  | k + 1, x7, x8, x33 => if x33 = true then (some (0, 0, 0, 0, 0, 0, 0, 0, 0, 0, 0, false, false, 0, false)) else (if 0 < (x7.length : Int) then (if 1 < (x7.length : Int) then (if 2 < (x7.length : Int) then (if 3 < (x7.length : Int) then (if 4 < (x7.length : Int) then (if 5 < (x7.length : Int) then (if 6 < (x7.length : Int) then (if 7 < (x7.length : Int) then (if 8 < (x7.length : Int) then (if 9 < (x7.length : Int) then (if 10 < (x7.length : Int) then (if 11 < (x7.length : Int) then (if 12 < (x7.length : Int) then ((impl_PieceOk.f k (rd x7 0) (rd x7 1) (rd x7 2) (rd x7 3) (rd x7 4) (rd x7 5) (rd x7 6) (rd x7 7) (rd x7 8) (rd x7 9) (rd x7 10) ((rd x7 11) == 1) ((rd x7 12) == 1)).bind fun t210 => (if t210 = true then (some (rd x7 0, rd x7 1, rd x7 2, rd x7 3, rd x7 4, rd x7 5, rd x7 6, rd x7 7, rd x7 8, rd x7 9, rd x7 10, ((rd x7 11) == 1), ((rd x7 12) == 1), x8, true)) else (some (0, 0, 0, 0, 0, 0, 0, 0, 0, 0, 0, false, false, 0, false)))) else (none)) else (none)) else (none)) else (none)) else (none)) else (none)) else (none)) else (none)) else (none)) else (none)) else (none)) else (none)) else (none))
def impl_GetPiece.f (k : Nat) (l0 : List Int) (a1 : Int) : Option (Int × Int × Int × Int × Int × Int × Int × Int × Int × Int × Int × Bool × Bool × Int × Bool) := (impl_getNums.f k l0 a1 13).bind fun bt187 => (if bt187.2.2 = true then (if 11 < (bt187.1.length : Int) then ((impl_from.f (rd bt187.1 11) 0 1).bind fun t193 => (if t193 = true then (if 12 < (bt187.1.length : Int) then ((impl_from.f (rd bt187.1 12) 0 1).bind fun t195 => (impl_GetPiece.j0 k bt187.1 bt187.2.1 (!t195))) else (none)) else (impl_GetPiece.j0 k bt187.1 bt187.2.1 true))) else (none)) else (impl_GetPiece.j0 k bt187.1 bt187.2.1 true))
theorem impl_GetPiece.mono_l : ∀ k, (∀ y0 y1 y2, LeO (impl_GetPiece.j0 k y0 y1 y2) (impl_GetPiece.j0 (k + 1) y0 y1 y2))
  | 0 => fun _ _ _ r h => by simp [impl_GetPiece.j0] at h
  | k + 1 => by
    have ih0 := impl_GetPiece.mono_l k
    · intro y0 y1 y2
      unfold impl_GetPiece.j0
      repeat' first
      | (with_reducible exact ih0 _ _ _)
      | (with_reducible exact impl_PieceOk.mono _ _ _ _ _ _ _ _ _ _ _ _ _ _)
      | (with_reducible exact impl_getNums.mono _ _ _ _)
      | (with_reducible exact LeO.refl _)
      | (with_reducible exact LeO.none _)
      | (with_reducible refine LeO.ite ?_ ?_)
      | (with_reducible refine LeO.bind ?_ (fun _ => ?_))
      | exact ih0 _ _ _
      | exact impl_PieceOk.mono _ _ _ _ _ _ _ _ _ _ _ _ _ _
      | exact impl_getNums.mono _ _ _ _
      | exact LeO.none _
      | refine LeO.ite ?_ ?_
      | refine LeO.bind ?_ (fun _ => ?_)
theorem impl_GetPiece.mono : ∀ a0 a1 k, LeO (impl_GetPiece.f k a0 a1) (impl_GetPiece.f (k + 1) a0 a1) := by
  intro a0 a1 k
  have ih0 := impl_GetPiece.mono_l k
  unfold impl_GetPiece.f
  repeat' first
      | (with_reducible exact ih0 _ _ _)
      | (with_reducible exact impl_PieceOk.mono _ _ _ _ _ _ _ _ _ _ _ _ _ _)
      | (with_reducible exact impl_getNums.mono _ _ _ _)
      | (with_reducible exact LeO.refl _)
      | (with_reducible exact LeO.none _)
      | (with_reducible refine LeO.ite ?_ ?_)
      | (with_reducible refine LeO.bind ?_ (fun _ => ?_))
      | exact ih0 _ _ _
      | exact impl_PieceOk.mono _ _ _ _ _ _ _ _ _ _ _ _ _ _
      | exact impl_getNums.mono _ _ _ _
      | exact LeO.none _
      | refine LeO.ite ?_ ?_
      | refine LeO.bind ?_ (fun _ => ?_)
def impl_GetPiece.T4 : Bool × List (List Nat × List Nat) := (true, [([], []), ([0], [0]), ([1], [1]), ([], []), ([3], [3]), ([4], [4]), ([], []), ([6], [6]), ([7], [7]), ([], []), ([9], [9]), ([10], [10]), ([], []), ([12], [12]), ([13], [13]), ([], []), ([15], [15]), ([16], [16]), ([], []), ([18], [18]), ([19], [19]), ([], []), ([21], [21]), ([22], [22]), ([], []), ([24], [24]), ([25], [25]), ([], []), ([27], [27]), ([28], [28]), ([], []), ([30], [30]), ([31], [31]), ([], []), ([33], [33]), ([34], [34]), ([35], [35]), ([], []), ([37], [37]), ([38], [38]), ([39], [39]), ([2, 5, 8, 11, 14, 17, 20, 23, 26, 29, 32, 36, 40], [2, 5, 8, 11, 14, 17, 20, 23, 26, 29, 32, 36, 40]), ([], []), ([42, 41, 0, 1, 2, 3, 4, 5, 6, 7, 8, 9, 10, 11, 12, 13, 14, 15, 16, 17, 18, 19, 20, 21, 22, 23, 24, 25, 26, 27, 28, 29, 30, 31, 32, 33, 34, 35, 36, 37, 38, 39, 40, 41, 42], [41, 42])])
def impl_GetPiece.B4 : List Nat := [0, 1, 3, 0, 8, 24, 0, 64, 192, 0, 512, 1536, 0, 4096, 12288, 0, 32768, 98304, 0, 262144, 786432, 0, 2097152, 6291456, 0, 16777216, 50331648, 0, 134217728, 402653184, 0, 1073741824, 3221225472, 0, 8589934592, 25769803776, 60129542144, 0, 137438953472, 412316860416, 962072674304, 2199023255551, 0, 8796093022207]
theorem impl_GetPiece.tab4 : rtab .any (opsOf Try.f62 4) = impl_GetPiece.T4 := by kernel_rfl
theorem impl_GetPiece.bits4 : waitsOk impl_GetPiece.T4.2 impl_GetPiece.B4 = true := by kernel_rfl
set_option maxHeartbeats 8000000 in
set_option maxRecDepth 100000 in
theorem impl_GetPiece.calls (k : Nat) (A0 : Option Addr) (c0 : Nat) (l0 : List Int) (a1 : Int) (r1 : Int) (r2 : Int) (r3 : Int) (r4 : Int) (r5 : Int) (r6 : Int) (r7 : Int) (r8 : Int) (r9 : Int) (r10 : Int) (r11 : Int) (r12 : Bool) (r13 : Bool) (r14 : Int) (r15 : Bool) (w : World) (hr0 : Kd.C (Kd.int .u8) w A0 l0.length l0) (hc0 : l0.length ≤ c0) (h : impl_GetPiece.f k l0 a1 = some (r1, r2, r3, r4, r5, r6, r7, r8, r9, r10, r11, r12, r13, r14, r15)) :
    Calls Try.prog 62 #[.slice A0 l0.length c0, .int .i64 a1] w fun e w' => e = .returned (.tuple #[.agg #[.int .i64 r1, .int .i64 r2, .int .i64 r3, .int .i64 r4, .int .i64 r5, .int .i64 r6, .int .i64 r7, .int .i64 r8, .int .i64 r9, .int .i64 r10, .int .i64 r11, .bool r12, .bool r13], .int .i64 r14, .bool r15]) ∧ Below w.heap.size w w' := by
  have hu54 := Try.underlying54
  have HR0 := Aside0.mk hr0
  have HC0 := Aside0.mk hc0
  clear hr0 hc0
  have HB := Aside0.mk (Below.refl w.heap.size w)
  have H : ((impl_getNums.f k l0 a1 13).bind fun bt187 => (if bt187.2.2 = true then (if 11 < (bt187.1.length : Int) then ((impl_from.f (rd bt187.1 11) 0 1).bind fun t193 => (if t193 = true then (if 12 < (bt187.1.length : Int) then ((impl_from.f (rd bt187.1 12) 0 1).bind fun t195 => (impl_GetPiece.j0 k bt187.1 bt187.2.1 (!t195))) else (none)) else (impl_GetPiece.j0 k bt187.1 bt187.2.1 true))) else (none)) else (impl_GetPiece.j0 k bt187.1 bt187.2.1 true))) = some (r1, r2, r3, r4, r5, r6, r7, r8, r9, r10, r11, r12, r13, r14, r15) := h
  clear h
  replace H := Option.bind_eq_some_iff.mp H
  obtain ⟨⟨t187, t188, t189⟩, A30, H⟩ := H
  replace H : (if t189 = true then (if 11 < (t187.length : Int) then ((impl_from.f (rd t187 11) 0 1).bind fun t193 => (if t193 = true then (if 12 < (t187.length : Int) then ((impl_from.f (rd t187 12) 0 1).bind fun t195 => (impl_GetPiece.j0 k t187 t188 (!t195))) else (none)) else (impl_GetPiece.j0 k t187 t188 true))) else (none)) else (impl_GetPiece.j0 k t187 t188 true)) = some (r1, r2, r3, r4, r5, r6, r7, r8, r9, r10, r11, r12, r13, r14, r15) := H
  have A3 := Aside0.mk A30
  clear A30
  have HC4 := Aside0.mk H
  clear H
  go_enter Try.func62, Try.ntmps62
  go_upto_region 2 with (first | ((with_reducible refine gate_dst (N := 4) rfl ?_); refine box_event ?hg (N := 4) ?hd (cs := #[.int .i64 0, .int .i64 0, .int .i64 0, .int .i64 0, .int .i64 0, .int .i64 0, .int .i64 0, .int .i64 0, .int .i64 0, .int .i64 0, .int .i64 0, .bool false, .bool false]) (t := 54) ?hr ?_; (case hd => rfl); (case hg => rfl); (case hr => first | (go_simp; done) | (go_simp; rfl)); intro gb186 hg w5 hbox hb; have n0_ := Aside0.mk (below_step (by repeat (first | (with_reducible first | exact HB.out | apply below_alloc | apply pw_below_drewN | apply below_drew1) | exact HB.out)) hb); have n1_ := Aside0.mk (hbox); have n2_ := Aside0.mk Z8_11; have n3_ := Aside0.mk Z8_11; clear HB; have HB := n0_; have BK186 := n1_; have GW186 := n2_; have GE186 := n3_; clear n0_ n1_ n2_ n3_; clear hb hbox hg) | ((with_reducible refine gate_callee (f := 111) rfl ?_); refine goesL_ (some 14) rfl rfl Try.func111 (by kernel_rfl) rfl #[.slice A0 l0.length c0, .int .i64 a1, .int .i64 13] rfl Z8_14 ?_; (with_reducible refine (impl_getNums.calls k _ _ l0 a1 13 t187 t188 t189 _ ?side1 ?side2 A3.out).mono ?_); (case side1 => repeat (first | exact (Kd.C_below HR0.out HB.out) | (with_reducible refine Kd.C_alloc ?_ _) | (with_reducible refine Kd.C_drewN ?_ _) | (with_reducible refine Kd.C_drew ?_))); (case side2 => exact HC0.out); rintro e w6 ⟨v190, rfl, ho0, hb⟩; refine ⟨_, rfl, ?_⟩; have n0_ := Aside0.mk (Kd.R_lower ho0 (below_size Z8_13)); have n1_ := Aside0.mk Z8_7; have n2_ := Aside0.mk Z8_12; clear BK186; clear HB; have HO191 := n0_; have BK186 := n1_; have HB := n2_; clear n0_ n1_ n2_; (try clear hb); (try clear hb2); (try clear hk); (try clear hi); (try clear ho0)))
  (try simp only [Act.put, List.setIfInBounds_toArray, List.set_cons_zero, List.set_cons_succ])
  go_cut [33] (fun v33 wc => ∃ (kq : Nat) (x33_3 : Bool), v33 = .bool x33_3 ∧ Aside0 (impl_GetPiece.j0 kq t187 t188 x33_3 = some (r1, r2, r3, r4, r5, r6, r7, r8, r9, r10, r11, r12, r13, r14, r15)) ∧ Aside0 (kq ≤ k) ∧ Aside0 (Kd.R (Kd.int .i64) 3 wc w.heap.size (fun _ => True) v190 t187) ∧ Aside0 (wc.heap[gb186]? = some (.cells #[.int .i64 0, .int .i64 0, .int .i64 0, .int .i64 0, .int .i64 0, .int .i64 0, .int .i64 0, .int .i64 0, .int .i64 0, .int .i64 0, .int .i64 0, .bool false, .bool false] 54 (0, 0))) ∧ Aside0 (Below w.heap.size w wc))
  case first =>
    have H := HC4.out
    clear HC4
    by_cases c7 : t189 = true
    rotate_left
    · replace c7 := Bool.eq_false_iff.mpr c7
      subst c7
      have H1 : (impl_GetPiece.j0 k t187 t188 true) = some (r1, r2, r3, r4, r5, r6, r7, r8, r9, r10, r11, r12, r13, r14, r15) := by rw [if_neg (show ¬ (false = true) by decide)] at H; exact H
      clear H
      have H := H1
      clear H1
      have H' := Aside0.mk H
      clear H
      go_wp2
      go_meet
      case rel => exact ⟨_, (true), (by first | rfl | (simp; done) | (simp [*]; done)), H', ⟨(by first | omega | exact Nat.le_refl _)⟩, ⟨Z8_18⟩, ⟨Z8_16⟩, ⟨Z8_13⟩⟩
    subst c7
    have H1 : (if 11 < (t187.length : Int) then ((impl_from.f (rd t187 11) 0 1).bind fun t193 => (if t193 = true then (if 12 < (t187.length : Int) then ((impl_from.f (rd t187 12) 0 1).bind fun t195 => (impl_GetPiece.j0 k t187 t188 (!t195))) else (none)) else (impl_GetPiece.j0 k t187 t188 true))) else (none)) = some (r1, r2, r3, r4, r5, r6, r7, r8, r9, r10, r11, r12, r13, r14, r15) := by rw [if_pos rfl] at H; exact H
    clear H
    have H := H1
    clear H1
    by_cases c8 : 11 < (t187.length : Int)
    rotate_left
    · rw [if_neg c8] at H
      exact absurd H (by simp)
    rw [if_pos c8] at H
    have c8b0 : decide (11 < (t187.length : Int)) = true := decide_eq_true c8
    have c8b1 : decide (11 < t187.length) = true := decide_eq_true (by omega)
    clear c8
    (first | rw [c8b0] | (simp only [i64_w, i32_w]; rw [c8b0]) | skip)
    replace H := Option.bind_eq_some_iff.mp H
    obtain ⟨t193, A90, H⟩ := H
    replace H : (if t193 = true then (if 12 < (t187.length : Int) then ((impl_from.f (rd t187 12) 0 1).bind fun t195 => (impl_GetPiece.j0 k t187 t188 (!t195))) else (none)) else (impl_GetPiece.j0 k t187 t188 true)) = some (r1, r2, r3, r4, r5, r6, r7, r8, r9, r10, r11, r12, r13, r14, r15) := H
    have A9 := Aside0.mk A90
    clear A90
    by_cases c10 : t193 = true
    rotate_left
    · replace c10 := Bool.eq_false_iff.mpr c10
      subst c10
      have H1 : (impl_GetPiece.j0 k t187 t188 true) = some (r1, r2, r3, r4, r5, r6, r7, r8, r9, r10, r11, r12, r13, r14, r15) := by rw [if_neg (show ¬ (false = true) by decide)] at H; exact H
      clear H
      have H := H1
      clear H1
      have H' := Aside0.mk H
      clear H
      obtain ⟨Ao14, co14, eo14⟩ := Kd.R_slice HO191.out
      subst eo14
      have p192 : 0 ≤ (11 : Int) := (by omega)
      have q192 : 11 < (t187.length : Int) := of_decide_eq_true Z8_20
      obtain ⟨ad192, e192, hx192_0⟩ := Kd.at_int (Kd.R_reads' HO191.out).2.2 11 p192 q192
      cases e192
      (try simp only [show (11 : Int).toNat = 11 from rfl, Nat.reduceMul, Nat.reduceEqDiff, Go.Addr.add, ↓reduceIte] at hx192_0)
      have qi192 : (11 < t187.length) = True := eq_true (by omega)
      (try rw [show ((11 : Int)).toNat = 11 from rfl] at hx192_0)
      replace p192 := eq_true p192
      replace q192 := eq_true q192
      go_wp2_with (first | (go_at_call 112; (with_reducible refine (impl_from.calls (rd t187 11) 0 1 false _ A9.out).mono ?_); rintro e w' ⟨rfl, ⟨nd, rfl⟩⟩))
      go_meet
      case rel => exact ⟨_, (true), (by first | rfl | (simp; done) | (simp [*]; done)), H', ⟨(by first | omega | exact Nat.le_refl _)⟩, ⟨Z8_18⟩, ⟨Z8_16⟩, ⟨Z8_13⟩⟩
    subst c10
    have H1 : (if 12 < (t187.length : Int) then ((impl_from.f (rd t187 12) 0 1).bind fun t195 => (impl_GetPiece.j0 k t187 t188 (!t195))) else (none)) = some (r1, r2, r3, r4, r5, r6, r7, r8, r9, r10, r11, r12, r13, r14, r15) := by rw [if_pos rfl] at H; exact H
    clear H
    have H := H1
    clear H1
    by_cases c11 : 12 < (t187.length : Int)
    rotate_left
    · rw [if_neg c11] at H
      exact absurd H (by simp)
    rw [if_pos c11] at H
    have c11b0 : decide (12 < (t187.length : Int)) = true := decide_eq_true c11
    have c11b1 : decide (12 < t187.length) = true := decide_eq_true (by omega)
    clear c11
    replace H := Option.bind_eq_some_iff.mp H
    obtain ⟨t195, A120, H⟩ := H
    replace H : (impl_GetPiece.j0 k t187 t188 (!t195)) = some (r1, r2, r3, r4, r5, r6, r7, r8, r9, r10, r11, r12, r13, r14, r15) := H
    have A12 := Aside0.mk A120
    clear A120
    have H' := Aside0.mk H
    clear H
    obtain ⟨Ao13, co13, eo13⟩ := Kd.R_slice HO191.out
    subst eo13
    have p192 : 0 ≤ (11 : Int) := (by omega)
    have q192 : 11 < (t187.length : Int) := of_decide_eq_true Z8_20
    obtain ⟨ad192, e192, hx192_0⟩ := Kd.at_int (Kd.R_reads' HO191.out).2.2 11 p192 q192
    cases e192
    (try simp only [show (11 : Int).toNat = 11 from rfl, Nat.reduceMul, Nat.reduceEqDiff, Go.Addr.add, ↓reduceIte] at hx192_0)
    have qi192 : (11 < t187.length) = True := eq_true (by omega)
    (try rw [show ((11 : Int)).toNat = 11 from rfl] at hx192_0)
    replace p192 := eq_true p192
    replace q192 := eq_true q192
    go_wp2_with (first | (go_at_call 112; (with_reducible refine (impl_from.calls (rd t187 11) 0 1 true _ A9.out).mono ?_); rintro e w' ⟨rfl, ⟨nd, rfl⟩⟩; have p194 : 0 ≤ (12 : Int) := (by omega); have q194 : 12 < (t187.length : Int) := of_decide_eq_true Z8_20; obtain ⟨ad194, e194, hx194_0⟩ := Kd.at_int (Kd.R_reads' HO191.out).2.2 12 p194 q194; obtain rfl : ad192 = ad194 := (by injection e194); (try simp only [show (12 : Int).toNat = 12 from rfl, Nat.reduceMul, Nat.reduceEqDiff, Go.Addr.add, ↓reduceIte] at hx194_0); have qi194 : (12 < t187.length) = True := eq_true (by omega); (try rw [show ((12 : Int)).toNat = 12 from rfl] at hx194_0); replace p194 := eq_true p194; replace q194 := eq_true q194) | (go_at_call 112; (with_reducible refine (impl_from.calls (rd t187 12) 0 1 t195 _ A12.out).mono ?_); rintro e w' ⟨rfl, ⟨nd, rfl⟩⟩))
    go_meet
    case rel => exact ⟨_, (!t195), (by first | rfl | (simp; done) | (simp [*]; done)), H', ⟨(by first | omega | exact Nat.le_refl _)⟩, ⟨Z8_18⟩, ⟨Z8_16⟩, ⟨Z8_13⟩⟩
  case rest =>
    clear HC4
    try clear c1
    try clear p1
    try clear q1
    try clear hx1
    try clear qi1
    try clear p2
    try clear c6
    try clear c7
    try clear c8
    try clear c8b0
    try clear c8b1
    try clear c10
    try clear c11
    try clear c11b0
    try clear c11b1
    try clear hx192_0
    try clear hx194_0
    try clear p192
    try clear p194
    try clear q192
    try clear q194
    obtain ⟨kq, x33_3, rfl, HA, HJ3, HO_7, BK186, HB⟩ := hcut
    cases kq with
    | zero => exact absurd HA.out (by simp [impl_GetPiece.j0])
    | succ kj3 =>
      have H := HA.out
      clear HA
      simp only [impl_GetPiece.j0] at H
      by_cases c15 : x33_3 = true
      · subst c15
        have H1 : (some (0, 0, 0, 0, 0, 0, 0, 0, 0, 0, 0, false, false, 0, false)) = some (r1, r2, r3, r4, r5, r6, r7, r8, r9, r10, r11, r12, r13, r14, r15) := by rw [if_pos rfl] at H; exact H
        clear H
        have H := H1
        clear H1
        simp only [Option.some.injEq, Prod.mk.injEq] at H
        obtain ⟨rfl, rfl, rfl, rfl, rfl, rfl, rfl, rfl, rfl, rfl, rfl, rfl, rfl, rfl, rfl⟩ := H
        have hcz16_0 : wc.cell? ⟨gb186, 0, none⟩ = some (.int .i64 0) := (blk_cell BK186.out 0).trans rfl
        have hcz16_1 : wc.cell? ⟨gb186, 1, none⟩ = some (.int .i64 0) := (blk_cell BK186.out 1).trans rfl
        have hcz16_2 : wc.cell? ⟨gb186, 2, none⟩ = some (.int .i64 0) := (blk_cell BK186.out 2).trans rfl
        have hcz16_3 : wc.cell? ⟨gb186, 3, none⟩ = some (.int .i64 0) := (blk_cell BK186.out 3).trans rfl
        have hcz16_4 : wc.cell? ⟨gb186, 4, none⟩ = some (.int .i64 0) := (blk_cell BK186.out 4).trans rfl
        have hcz16_5 : wc.cell? ⟨gb186, 5, none⟩ = some (.int .i64 0) := (blk_cell BK186.out 5).trans rfl
        have hcz16_6 : wc.cell? ⟨gb186, 6, none⟩ = some (.int .i64 0) := (blk_cell BK186.out 6).trans rfl
        have hcz16_7 : wc.cell? ⟨gb186, 7, none⟩ = some (.int .i64 0) := (blk_cell BK186.out 7).trans rfl
        have hcz16_8 : wc.cell? ⟨gb186, 8, none⟩ = some (.int .i64 0) := (blk_cell BK186.out 8).trans rfl
        have hcz16_9 : wc.cell? ⟨gb186, 9, none⟩ = some (.int .i64 0) := (blk_cell BK186.out 9).trans rfl
        have hcz16_10 : wc.cell? ⟨gb186, 10, none⟩ = some (.int .i64 0) := (blk_cell BK186.out 10).trans rfl
        have hcz16_11 : wc.cell? ⟨gb186, 11, none⟩ = some (.bool false) := (blk_cell BK186.out 11).trans rfl
        have hcz16_12 : wc.cell? ⟨gb186, 12, none⟩ = some (.bool false) := (blk_cell BK186.out 12).trans rfl
        have hfz16_0 := blk_frozen BK186.out 0
        have hfz16_1 := blk_frozen BK186.out 1
        have hfz16_2 := blk_frozen BK186.out 2
        have hfz16_3 := blk_frozen BK186.out 3
        have hfz16_4 := blk_frozen BK186.out 4
        have hfz16_5 := blk_frozen BK186.out 5
        have hfz16_6 := blk_frozen BK186.out 6
        have hfz16_7 := blk_frozen BK186.out 7
        have hfz16_8 := blk_frozen BK186.out 8
        have hfz16_9 := blk_frozen BK186.out 9
        have hfz16_10 := blk_frozen BK186.out 10
        have hfz16_11 := blk_frozen BK186.out 11
        have hfz16_12 := blk_frozen BK186.out 12
        go_wp2
        refine bodyPost_ret (results_ctt rfl _ _ gb186 54 #[.int .i64 0, .int .i64 0, .int .i64 0, .int .i64 0, .int .i64 0, .int .i64 0, .int .i64 0, .int .i64 0, .int .i64 0, .int .i64 0, .int .i64 0, .bool false, .bool false] (0, 0) _ rfl Z8_2 Try.underlying54 rfl (by kernel_rfl)) rfl ?_
        exact ⟨Z8_19, Z8_13⟩
      replace c15 := Bool.eq_false_iff.mpr c15
      subst c15
      have H1 : (if 0 < (t187.length : Int) then (if 1 < (t187.length : Int) then (if 2 < (t187.length : Int) then (if 3 < (t187.length : Int) then (if 4 < (t187.length : Int) then (if 5 < (t187.length : Int) then (if 6 < (t187.length : Int) then (if 7 < (t187.length : Int) then (if 8 < (t187.length : Int) then (if 9 < (t187.length : Int) then (if 10 < (t187.length : Int) then (if 11 < (t187.length : Int) then (if 12 < (t187.length : Int) then ((impl_PieceOk.f kj3 (rd t187 0) (rd t187 1) (rd t187 2) (rd t187 3) (rd t187 4) (rd t187 5) (rd t187 6) (rd t187 7) (rd t187 8) (rd t187 9) (rd t187 10) ((rd t187 11) == 1) ((rd t187 12) == 1)).bind fun t210 => (if t210 = true then (some (rd t187 0, rd t187 1, rd t187 2, rd t187 3, rd t187 4, rd t187 5, rd t187 6, rd t187 7, rd t187 8, rd t187 9, rd t187 10, ((rd t187 11) == 1), ((rd t187 12) == 1), t188, true)) else (some (0, 0, 0, 0, 0, 0, 0, 0, 0, 0, 0, false, false, 0, false)))) else (none)) else (none)) else (none)) else (none)) else (none)) else (none)) else (none)) else (none)) else (none)) else (none)) else (none)) else (none)) else (none)) = some (r1, r2, r3, r4, r5, r6, r7, r8, r9, r10, r11, r12, r13, r14, r15) := by rw [if_neg (show ¬ (false = true) by decide)] at H; exact H
      clear H
      have H := H1
      clear H1
      by_cases c17 : 0 < (t187.length : Int)
      rotate_left
      · rw [if_neg c17] at H
        exact absurd H (by simp)
      rw [if_pos c17] at H
      have c17b0 : decide (0 < (t187.length : Int)) = true := decide_eq_true c17
      have c17b1 : decide (0 < t187.length) = true := decide_eq_true (by omega)
      clear c17
      by_cases c18 : 1 < (t187.length : Int)
      rotate_left
      · rw [if_neg c18] at H
        exact absurd H (by simp)
      rw [if_pos c18] at H
      have c18b0 : decide (1 < (t187.length : Int)) = true := decide_eq_true c18
      have c18b1 : decide (1 < t187.length) = true := decide_eq_true (by omega)
      clear c18
      by_cases c19 : 2 < (t187.length : Int)
      rotate_left
      · rw [if_neg c19] at H
        exact absurd H (by simp)
      rw [if_pos c19] at H
      have c19b0 : decide (2 < (t187.length : Int)) = true := decide_eq_true c19
      have c19b1 : decide (2 < t187.length) = true := decide_eq_true (by omega)
      clear c19
      by_cases c20 : 3 < (t187.length : Int)
      rotate_left
      · rw [if_neg c20] at H
        exact absurd H (by simp)
      rw [if_pos c20] at H
      have c20b0 : decide (3 < (t187.length : Int)) = true := decide_eq_true c20
      have c20b1 : decide (3 < t187.length) = true := decide_eq_true (by omega)
      clear c20
      by_cases c21 : 4 < (t187.length : Int)
      rotate_left
      · rw [if_neg c21] at H
        exact absurd H (by simp)
      rw [if_pos c21] at H
      have c21b0 : decide (4 < (t187.length : Int)) = true := decide_eq_true c21
      have c21b1 : decide (4 < t187.length) = true := decide_eq_true (by omega)
      clear c21
      by_cases c22 : 5 < (t187.length : Int)
      rotate_left
      · rw [if_neg c22] at H
        exact absurd H (by simp)
      rw [if_pos c22] at H
      have c22b0 : decide (5 < (t187.length : Int)) = true := decide_eq_true c22
      have c22b1 : decide (5 < t187.length) = true := decide_eq_true (by omega)
      clear c22
      by_cases c23 : 6 < (t187.length : Int)
      rotate_left
      · rw [if_neg c23] at H
        exact absurd H (by simp)
      rw [if_pos c23] at H
      have c23b0 : decide (6 < (t187.length : Int)) = true := decide_eq_true c23
      have c23b1 : decide (6 < t187.length) = true := decide_eq_true (by omega)
      clear c23
      by_cases c24 : 7 < (t187.length : Int)
      rotate_left
      · rw [if_neg c24] at H
        exact absurd H (by simp)
      rw [if_pos c24] at H
      have c24b0 : decide (7 < (t187.length : Int)) = true := decide_eq_true c24
      have c24b1 : decide (7 < t187.length) = true := decide_eq_true (by omega)
      clear c24
      by_cases c25 : 8 < (t187.length : Int)
      rotate_left
      · rw [if_neg c25] at H
        exact absurd H (by simp)
      rw [if_pos c25] at H
      have c25b0 : decide (8 < (t187.length : Int)) = true := decide_eq_true c25
      have c25b1 : decide (8 < t187.length) = true := decide_eq_true (by omega)
      clear c25
      by_cases c26 : 9 < (t187.length : Int)
      rotate_left
      · rw [if_neg c26] at H
        exact absurd H (by simp)
      rw [if_pos c26] at H
      have c26b0 : decide (9 < (t187.length : Int)) = true := decide_eq_true c26
      have c26b1 : decide (9 < t187.length) = true := decide_eq_true (by omega)
      clear c26
      by_cases c27 : 10 < (t187.length : Int)
      rotate_left
      · rw [if_neg c27] at H
        exact absurd H (by simp)
      rw [if_pos c27] at H
      have c27b0 : decide (10 < (t187.length : Int)) = true := decide_eq_true c27
      have c27b1 : decide (10 < t187.length) = true := decide_eq_true (by omega)
      clear c27
      by_cases c28 : 11 < (t187.length : Int)
      rotate_left
      · rw [if_neg c28] at H
        exact absurd H (by simp)
      rw [if_pos c28] at H
      have c28b0 : decide (11 < (t187.length : Int)) = true := decide_eq_true c28
      have c28b1 : decide (11 < t187.length) = true := decide_eq_true (by omega)
      clear c28
      by_cases c29 : 12 < (t187.length : Int)
      rotate_left
      · rw [if_neg c29] at H
        exact absurd H (by simp)
      rw [if_pos c29] at H
      have c29b0 : decide (12 < (t187.length : Int)) = true := decide_eq_true c29
      have c29b1 : decide (12 < t187.length) = true := decide_eq_true (by omega)
      clear c29
      replace H := Option.bind_eq_some_iff.mp H
      obtain ⟨t210, A300, H⟩ := H
      replace H : (if t210 = true then (some (rd t187 0, rd t187 1, rd t187 2, rd t187 3, rd t187 4, rd t187 5, rd t187 6, rd t187 7, rd t187 8, rd t187 9, rd t187 10, ((rd t187 11) == 1), ((rd t187 12) == 1), t188, true)) else (some (0, 0, 0, 0, 0, 0, 0, 0, 0, 0, 0, false, false, 0, false))) = some (r1, r2, r3, r4, r5, r6, r7, r8, r9, r10, r11, r12, r13, r14, r15) := H
      have A30 := Aside0.mk A300
      clear A300
      by_cases c31 : t210 = true
      rotate_left
      · replace c31 := Bool.eq_false_iff.mpr c31
        subst c31
        have H1 : (some (0, 0, 0, 0, 0, 0, 0, 0, 0, 0, 0, false, false, 0, false)) = some (r1, r2, r3, r4, r5, r6, r7, r8, r9, r10, r11, r12, r13, r14, r15) := by rw [if_neg (show ¬ (false = true) by decide)] at H; exact H
        clear H
        have H := H1
        clear H1
        simp only [Option.some.injEq, Prod.mk.injEq] at H
        obtain ⟨rfl, rfl, rfl, rfl, rfl, rfl, rfl, rfl, rfl, rfl, rfl, rfl, rfl, rfl, rfl⟩ := H
        try go_wp2
        have n0_ := Aside0.mk (Kd.R_drew HO_7.out)
        have n1_ := Aside0.mk (blk_drew BK186.out)
        have n2_ := Aside0.mk (below_drew1 HB.out)
        clear HO_7
        clear BK186
        clear HB
        have HO_7 := n0_
        have BK186 := n1_
        have HB := n2_
        clear n0_ n1_ n2_
        obtain ⟨Ao54, co54, eo54⟩ := Kd.R_slice HO_7.out
        (first | subst eo54 | (injection eo54 with f1_ f2_ f3_; have f4_ := f1_.symm; have f5_ := f3_.symm; clear f1_ f2_ f3_; subst f4_; subst f5_))
        have p196 : 0 ≤ (0 : Int) := (by omega)
        have q196 : 0 < (t187.length : Int) := of_decide_eq_true Z8_20
        obtain ⟨ad196, e196, hx196_0⟩ := Kd.at_int (Kd.R_reads' HO_7.out).2.2 0 p196 q196
        cases e196
        have qi196 : (0 < t187.length) = True := eq_true (by omega)
        (try rw [show ((0 : Int)).toNat = 0 from rfl] at hx196_0)
        (try rw [Addr.add_zero'] at hx196_0)
        replace p196 := eq_true p196
        replace q196 := eq_true q196
        have p197 : 0 ≤ (1 : Int) := (by omega)
        have q197 : 1 < (t187.length : Int) := of_decide_eq_true Z8_20
        obtain ⟨ad197, e197, hx197_0⟩ := Kd.at_int (Kd.R_reads' HO_7.out).2.2 1 p197 q197
        obtain rfl : ad196 = ad197 := (by injection e197)
        (try simp only [show (1 : Int).toNat = 1 from rfl, Nat.reduceMul, Nat.reduceEqDiff, Go.Addr.add, ↓reduceIte] at hx197_0)
        have qi197 : (1 < t187.length) = True := eq_true (by omega)
        (try rw [show ((1 : Int)).toNat = 1 from rfl] at hx197_0)
        replace p197 := eq_true p197
        replace q197 := eq_true q197
        have p198 : 0 ≤ (2 : Int) := (by omega)
        have q198 : 2 < (t187.length : Int) := of_decide_eq_true Z8_20
        obtain ⟨ad198, e198, hx198_0⟩ := Kd.at_int (Kd.R_reads' HO_7.out).2.2 2 p198 q198
        obtain rfl : ad196 = ad198 := (by injection e198)
        (try simp only [show (2 : Int).toNat = 2 from rfl, Nat.reduceMul, Nat.reduceEqDiff, Go.Addr.add, ↓reduceIte] at hx198_0)
        have qi198 : (2 < t187.length) = True := eq_true (by omega)
        (try rw [show ((2 : Int)).toNat = 2 from rfl] at hx198_0)
        replace p198 := eq_true p198
        replace q198 := eq_true q198
        have p199 : 0 ≤ (3 : Int) := (by omega)
        have q199 : 3 < (t187.length : Int) := of_decide_eq_true Z8_20
        obtain ⟨ad199, e199, hx199_0⟩ := Kd.at_int (Kd.R_reads' HO_7.out).2.2 3 p199 q199
        obtain rfl : ad196 = ad199 := (by injection e199)
        (try simp only [show (3 : Int).toNat = 3 from rfl, Nat.reduceMul, Nat.reduceEqDiff, Go.Addr.add, ↓reduceIte] at hx199_0)
        have qi199 : (3 < t187.length) = True := eq_true (by omega)
        (try rw [show ((3 : Int)).toNat = 3 from rfl] at hx199_0)
        replace p199 := eq_true p199
        replace q199 := eq_true q199
        have p200 : 0 ≤ (4 : Int) := (by omega)
        have q200 : 4 < (t187.length : Int) := of_decide_eq_true Z8_20
        obtain ⟨ad200, e200, hx200_0⟩ := Kd.at_int (Kd.R_reads' HO_7.out).2.2 4 p200 q200
        obtain rfl : ad196 = ad200 := (by injection e200)
        (try simp only [show (4 : Int).toNat = 4 from rfl, Nat.reduceMul, Nat.reduceEqDiff, Go.Addr.add, ↓reduceIte] at hx200_0)
        have qi200 : (4 < t187.length) = True := eq_true (by omega)
        (try rw [show ((4 : Int)).toNat = 4 from rfl] at hx200_0)
        replace p200 := eq_true p200
        replace q200 := eq_true q200
        have p201 : 0 ≤ (5 : Int) := (by omega)
        have q201 : 5 < (t187.length : Int) := of_decide_eq_true Z8_20
        obtain ⟨ad201, e201, hx201_0⟩ := Kd.at_int (Kd.R_reads' HO_7.out).2.2 5 p201 q201
        obtain rfl : ad196 = ad201 := (by injection e201)
        (try simp only [show (5 : Int).toNat = 5 from rfl, Nat.reduceMul, Nat.reduceEqDiff, Go.Addr.add, ↓reduceIte] at hx201_0)
        have qi201 : (5 < t187.length) = True := eq_true (by omega)
        (try rw [show ((5 : Int)).toNat = 5 from rfl] at hx201_0)
        replace p201 := eq_true p201
        replace q201 := eq_true q201
        have p202 : 0 ≤ (6 : Int) := (by omega)
        have q202 : 6 < (t187.length : Int) := of_decide_eq_true Z8_20
        obtain ⟨ad202, e202, hx202_0⟩ := Kd.at_int (Kd.R_reads' HO_7.out).2.2 6 p202 q202
        obtain rfl : ad196 = ad202 := (by injection e202)
        (try simp only [show (6 : Int).toNat = 6 from rfl, Nat.reduceMul, Nat.reduceEqDiff, Go.Addr.add, ↓reduceIte] at hx202_0)
        have qi202 : (6 < t187.length) = True := eq_true (by omega)
        (try rw [show ((6 : Int)).toNat = 6 from rfl] at hx202_0)
        replace p202 := eq_true p202
        replace q202 := eq_true q202
        have p203 : 0 ≤ (7 : Int) := (by omega)
        have q203 : 7 < (t187.length : Int) := of_decide_eq_true Z8_20
        obtain ⟨ad203, e203, hx203_0⟩ := Kd.at_int (Kd.R_reads' HO_7.out).2.2 7 p203 q203
        obtain rfl : ad196 = ad203 := (by injection e203)
        (try simp only [show (7 : Int).toNat = 7 from rfl, Nat.reduceMul, Nat.reduceEqDiff, Go.Addr.add, ↓reduceIte] at hx203_0)
        have qi203 : (7 < t187.length) = True := eq_true (by omega)
        (try rw [show ((7 : Int)).toNat = 7 from rfl] at hx203_0)
        replace p203 := eq_true p203
        replace q203 := eq_true q203
        have p204 : 0 ≤ (8 : Int) := (by omega)
        have q204 : 8 < (t187.length : Int) := of_decide_eq_true Z8_20
        obtain ⟨ad204, e204, hx204_0⟩ := Kd.at_int (Kd.R_reads' HO_7.out).2.2 8 p204 q204
        obtain rfl : ad196 = ad204 := (by injection e204)
        (try simp only [show (8 : Int).toNat = 8 from rfl, Nat.reduceMul, Nat.reduceEqDiff, Go.Addr.add, ↓reduceIte] at hx204_0)
        have qi204 : (8 < t187.length) = True := eq_true (by omega)
        (try rw [show ((8 : Int)).toNat = 8 from rfl] at hx204_0)
        replace p204 := eq_true p204
        replace q204 := eq_true q204
        have p205 : 0 ≤ (9 : Int) := (by omega)
        have q205 : 9 < (t187.length : Int) := of_decide_eq_true Z8_20
        obtain ⟨ad205, e205, hx205_0⟩ := Kd.at_int (Kd.R_reads' HO_7.out).2.2 9 p205 q205
        obtain rfl : ad196 = ad205 := (by injection e205)
        (try simp only [show (9 : Int).toNat = 9 from rfl, Nat.reduceMul, Nat.reduceEqDiff, Go.Addr.add, ↓reduceIte] at hx205_0)
        have qi205 : (9 < t187.length) = True := eq_true (by omega)
        (try rw [show ((9 : Int)).toNat = 9 from rfl] at hx205_0)
        replace p205 := eq_true p205
        replace q205 := eq_true q205
        have p206 : 0 ≤ (10 : Int) := (by omega)
        have q206 : 10 < (t187.length : Int) := of_decide_eq_true Z8_20
        obtain ⟨ad206, e206, hx206_0⟩ := Kd.at_int (Kd.R_reads' HO_7.out).2.2 10 p206 q206
        obtain rfl : ad196 = ad206 := (by injection e206)
        (try simp only [show (10 : Int).toNat = 10 from rfl, Nat.reduceMul, Nat.reduceEqDiff, Go.Addr.add, ↓reduceIte] at hx206_0)
        have qi206 : (10 < t187.length) = True := eq_true (by omega)
        (try rw [show ((10 : Int)).toNat = 10 from rfl] at hx206_0)
        replace p206 := eq_true p206
        replace q206 := eq_true q206
        have p207 : 0 ≤ (11 : Int) := (by omega)
        have q207 : 11 < (t187.length : Int) := of_decide_eq_true Z8_20
        obtain ⟨ad207, e207, hx207_0⟩ := Kd.at_int (Kd.R_reads' HO_7.out).2.2 11 p207 q207
        obtain rfl : ad196 = ad207 := (by injection e207)
        (try simp only [show (11 : Int).toNat = 11 from rfl, Nat.reduceMul, Nat.reduceEqDiff, Go.Addr.add, ↓reduceIte] at hx207_0)
        have qi207 : (11 < t187.length) = True := eq_true (by omega)
        (try rw [show ((11 : Int)).toNat = 11 from rfl] at hx207_0)
        replace p207 := eq_true p207
        replace q207 := eq_true q207
        have p208 : 0 ≤ (12 : Int) := (by omega)
        have q208 : 12 < (t187.length : Int) := of_decide_eq_true Z8_20
        obtain ⟨ad208, e208, hx208_0⟩ := Kd.at_int (Kd.R_reads' HO_7.out).2.2 12 p208 q208
        obtain rfl : ad196 = ad208 := (by injection e208)
        (try simp only [show (12 : Int).toNat = 12 from rfl, Nat.reduceMul, Nat.reduceEqDiff, Go.Addr.add, ↓reduceIte] at hx208_0)
        have qi208 : (12 < t187.length) = True := eq_true (by omega)
        (try rw [show ((12 : Int)).toNat = 12 from rfl] at hx208_0)
        replace p208 := eq_true p208
        replace q208 := eq_true q208
        refine start_ (n := 44) (S := fun w' => w'.cell? ad196 = some (.int .i64 (rd t187 0)) ∧ w'.cell? ⟨ad196.block, ad196.off + 1, none⟩ = some (.int .i64 (rd t187 1)) ∧ w'.cell? ⟨ad196.block, ad196.off + 2, none⟩ = some (.int .i64 (rd t187 2)) ∧ w'.cell? ⟨ad196.block, ad196.off + 3, none⟩ = some (.int .i64 (rd t187 3)) ∧ w'.cell? ⟨ad196.block, ad196.off + 4, none⟩ = some (.int .i64 (rd t187 4)) ∧ w'.cell? ⟨ad196.block, ad196.off + 5, none⟩ = some (.int .i64 (rd t187 5)) ∧ w'.cell? ⟨ad196.block, ad196.off + 6, none⟩ = some (.int .i64 (rd t187 6)) ∧ w'.cell? ⟨ad196.block, ad196.off + 7, none⟩ = some (.int .i64 (rd t187 7)) ∧ w'.cell? ⟨ad196.block, ad196.off + 8, none⟩ = some (.int .i64 (rd t187 8)) ∧ w'.cell? ⟨ad196.block, ad196.off + 9, none⟩ = some (.int .i64 (rd t187 9)) ∧ w'.cell? ⟨ad196.block, ad196.off + 10, none⟩ = some (.int .i64 (rd t187 10)) ∧ w'.cell? ⟨ad196.block, ad196.off + 11, none⟩ = some (.int .i64 (rd t187 11)) ∧ w'.cell? ⟨ad196.block, ad196.off + 12, none⟩ = some (.int .i64 (rd t187 12))) (ds := [43]) #[false, false, false, false, false, false, false, false, false, false, false, false, false, false, false, false, false, false, false, false, false, false, false, false, false, false, false, false, false, false, false, false, false, false, false, false, false, false, false, false, false, false, false, false] (by kernel_rfl) rfl rfl ⟨hx196_0, hx197_0, hx198_0, hx199_0, hx200_0, hx201_0, hx202_0, hx203_0, hx204_0, hx205_0, hx206_0, hx207_0, hx208_0⟩ (fun hHeld => ?_); refine with_tabW impl_GetPiece.tab4 impl_GetPiece.bits4 (fun HT_ HW_ => ?_)
        generalize wc.drew = w53 at HO_7 BK186 HB hx196_0 hx197_0 hx198_0 hx199_0 hx200_0 hx201_0 hx202_0 hx203_0 hx204_0 hx205_0 hx206_0 hx207_0 hx208_0 hHeld ⊢
        refine pure_ (i := 0) (N := some 35) (v := _) (a' := _) (M8_44 1) rfl rfl (any_of HT_.out (by kernel_rfl)) (fun _ _ _ h => h) (Or.inl ⟨(by rfl), (by intro w'; go_simp; with_reducible rfl)⟩) Z8_17 ?_
        refine pure_ (i := 1) (N := some 36) (v := _) (a' := _) (M8_44 3) rfl rfl (any_of HT_.out (by kernel_rfl)) (fun _ _ _ h => h) (Or.inl ⟨(by rfl), (by intro w'; go_simp; with_reducible rfl)⟩) Z8_17 ?_
        refine pure_ (i := 3) (N := some 38) (v := _) (a' := _) (M8_44 11) rfl rfl (any_of HT_.out (by kernel_rfl)) (fun _ _ _ h => h) (Or.inl ⟨(by rfl), (by intro w'; go_simp; with_reducible rfl)⟩) Z8_17 ?_
        refine pure_ (i := 4) (N := some 39) (v := _) (a' := _) (M8_44 27) rfl rfl (any_of HT_.out (by kernel_rfl)) (fun _ _ _ h => h) (Or.inl ⟨(by rfl), (by intro w'; go_simp; with_reducible rfl)⟩) Z8_17 ?_
        refine pure_ (i := 6) (N := some 41) (v := _) (a' := _) (M8_44 91) rfl rfl (any_of HT_.out (by kernel_rfl)) (fun _ _ _ h => h) (Or.inl ⟨(by rfl), (by intro w'; go_simp; with_reducible rfl)⟩) Z8_17 ?_
        refine pure_ (i := 7) (N := some 42) (v := _) (a' := _) (M8_44 219) rfl rfl (any_of HT_.out (by kernel_rfl)) (fun _ _ _ h => h) (Or.inl ⟨(by rfl), (by intro w'; go_simp; with_reducible rfl)⟩) Z8_17 ?_
        refine pure_ (i := 9) (N := some 44) (v := _) (a' := _) (M8_44 731) rfl rfl (any_of HT_.out (by kernel_rfl)) (fun _ _ _ h => h) (Or.inl ⟨(by rfl), (by intro w'; go_simp; with_reducible rfl)⟩) Z8_17 ?_
        refine pure_ (i := 10) (N := some 45) (v := _) (a' := _) (M8_44 1755) rfl rfl (any_of HT_.out (by kernel_rfl)) (fun _ _ _ h => h) (Or.inl ⟨(by rfl), (by intro w'; go_simp; with_reducible rfl)⟩) Z8_17 ?_
        refine pure_ (i := 12) (N := some 47) (v := _) (a' := _) (M8_44 5851) rfl rfl (any_of HT_.out (by kernel_rfl)) (fun _ _ _ h => h) (Or.inl ⟨(by rfl), (by intro w'; go_simp; with_reducible rfl)⟩) Z8_17 ?_
        refine pure_ (i := 13) (N := some 48) (v := _) (a' := _) (M8_44 14043) rfl rfl (any_of HT_.out (by kernel_rfl)) (fun _ _ _ h => h) (Or.inl ⟨(by rfl), (by intro w'; go_simp; with_reducible rfl)⟩) Z8_17 ?_
        refine pure_ (i := 15) (N := some 50) (v := _) (a' := _) (M8_44 46811) rfl rfl (any_of HT_.out (by kernel_rfl)) (fun _ _ _ h => h) (Or.inl ⟨(by rfl), (by intro w'; go_simp; with_reducible rfl)⟩) Z8_17 ?_
        refine pure_ (i := 16) (N := some 51) (v := _) (a' := _) (M8_44 112347) rfl rfl (any_of HT_.out (by kernel_rfl)) (fun _ _ _ h => h) (Or.inl ⟨(by rfl), (by intro w'; go_simp; with_reducible rfl)⟩) Z8_17 ?_
        refine pure_ (i := 18) (N := some 53) (v := _) (a' := _) (M8_44 374491) rfl rfl (any_of HT_.out (by kernel_rfl)) (fun _ _ _ h => h) (Or.inl ⟨(by rfl), (by intro w'; go_simp; with_reducible rfl)⟩) Z8_17 ?_
        refine pure_ (i := 19) (N := some 54) (v := _) (a' := _) (M8_44 898779) rfl rfl (any_of HT_.out (by kernel_rfl)) (fun _ _ _ h => h) (Or.inl ⟨(by rfl), (by intro w'; go_simp; with_reducible rfl)⟩) Z8_17 ?_
        refine pure_ (i := 21) (N := some 56) (v := _) (a' := _) (M8_44 2995931) rfl rfl (any_of HT_.out (by kernel_rfl)) (fun _ _ _ h => h) (Or.inl ⟨(by rfl), (by intro w'; go_simp; with_reducible rfl)⟩) Z8_17 ?_
        refine pure_ (i := 22) (N := some 57) (v := _) (a' := _) (M8_44 7190235) rfl rfl (any_of HT_.out (by kernel_rfl)) (fun _ _ _ h => h) (Or.inl ⟨(by rfl), (by intro w'; go_simp; with_reducible rfl)⟩) Z8_17 ?_
        refine pure_ (i := 24) (N := some 59) (v := _) (a' := _) (M8_44 23967451) rfl rfl (any_of HT_.out (by kernel_rfl)) (fun _ _ _ h => h) (Or.inl ⟨(by rfl), (by intro w'; go_simp; with_reducible rfl)⟩) Z8_17 ?_
        refine pure_ (i := 25) (N := some 60) (v := _) (a' := _) (M8_44 57521883) rfl rfl (any_of HT_.out (by kernel_rfl)) (fun _ _ _ h => h) (Or.inl ⟨(by rfl), (by intro w'; go_simp; with_reducible rfl)⟩) Z8_17 ?_
        refine pure_ (i := 27) (N := some 62) (v := _) (a' := _) (M8_44 191739611) rfl rfl (any_of HT_.out (by kernel_rfl)) (fun _ _ _ h => h) (Or.inl ⟨(by rfl), (by intro w'; go_simp; with_reducible rfl)⟩) Z8_17 ?_
        refine pure_ (i := 28) (N := some 63) (v := _) (a' := _) (M8_44 460175067) rfl rfl (any_of HT_.out (by kernel_rfl)) (fun _ _ _ h => h) (Or.inl ⟨(by rfl), (by intro w'; go_simp; with_reducible rfl)⟩) Z8_17 ?_
        refine pure_ (i := 30) (N := some 65) (v := _) (a' := _) (M8_44 1533916891) rfl rfl (any_of HT_.out (by kernel_rfl)) (fun _ _ _ h => h) (Or.inl ⟨(by rfl), (by intro w'; go_simp; with_reducible rfl)⟩) Z8_17 ?_
        refine pure_ (i := 31) (N := some 66) (v := _) (a' := _) (M8_44 3681400539) rfl rfl (any_of HT_.out (by kernel_rfl)) (fun _ _ _ h => h) (Or.inl ⟨(by rfl), (by intro w'; go_simp; with_reducible rfl)⟩) Z8_17 ?_
        refine pure_ (i := 33) (N := some 68) (v := _) (a' := _) (M8_44 12271335131) rfl rfl (any_of HT_.out (by kernel_rfl)) (fun _ _ _ h => h) (Or.inl ⟨(by rfl), (by intro w'; go_simp; with_reducible rfl)⟩) Z8_17 ?_
        refine pure_ (i := 34) (N := some 69) (v := _) (a' := _) (M8_44 29451204315) rfl rfl (any_of HT_.out (by kernel_rfl)) (fun _ _ _ h => h) (Or.inl ⟨(by rfl), (by intro w'; go_simp; with_reducible rfl)⟩) Z8_17 ?_
        refine pure_ (i := 37) (N := some 72) (v := _) (a' := _) (M8_44 166890157787) rfl rfl (any_of HT_.out (by kernel_rfl)) (fun _ _ _ h => h) (Or.inl ⟨(by rfl), (by intro w'; go_simp; with_reducible rfl)⟩) Z8_17 ?_
        refine pure_ (i := 38) (N := some 73) (v := _) (a' := _) (M8_44 441768064731) rfl rfl (any_of HT_.out (by kernel_rfl)) (fun _ _ _ h => h) (Or.inl ⟨(by rfl), (by intro w'; go_simp; with_reducible rfl)⟩) Z8_17 ?_
        refine take_ (i := 2) (N := some 37) (v := ?_) (a' := ?_) (M8_44 441768064735) rfl rfl (take_ofW HT_.out HW_.out (by kernel_rfl)) (fun _ _ _ h => h) (Or.inl ⟨(by rfl), ?_⟩) hHeld ?_ ?_
        rotate_left
        · rintro w' ⟨s0, s1, s2, s3, s4, s5, s6, s7, s8, s9, s10, s11, s12⟩
          go_simp
          with_reducible rfl
        rotate_left
        · simp only [Act.put, List.setIfInBounds_toArray, List.set_cons_zero, List.set_cons_succ, i64_w, i32_w]
          rfl
        refine take_ (i := 5) (N := some 40) (v := ?_) (a' := ?_) (M8_44 441768064767) rfl rfl (take_ofW HT_.out HW_.out (by kernel_rfl)) (fun _ _ _ h => h) (Or.inl ⟨(by rfl), ?_⟩) hHeld ?_ ?_
        rotate_left
        · rintro w' ⟨s0, s1, s2, s3, s4, s5, s6, s7, s8, s9, s10, s11, s12⟩
          go_simp
          with_reducible rfl
        rotate_left
        · simp only [Act.put, List.setIfInBounds_toArray, List.set_cons_zero, List.set_cons_succ, i64_w, i32_w]
          rfl
        refine take_ (i := 8) (N := some 43) (v := ?_) (a' := ?_) (M8_44 441768065023) rfl rfl (take_ofW HT_.out HW_.out (by kernel_rfl)) (fun _ _ _ h => h) (Or.inl ⟨(by rfl), ?_⟩) hHeld ?_ ?_
        rotate_left
        · rintro w' ⟨s0, s1, s2, s3, s4, s5, s6, s7, s8, s9, s10, s11, s12⟩
          go_simp
          with_reducible rfl
        rotate_left
        · simp only [Act.put, List.setIfInBounds_toArray, List.set_cons_zero, List.set_cons_succ, i64_w, i32_w]
          rfl
        refine take_ (i := 11) (N := some 46) (v := ?_) (a' := ?_) (M8_44 441768067071) rfl rfl (take_ofW HT_.out HW_.out (by kernel_rfl)) (fun _ _ _ h => h) (Or.inl ⟨(by rfl), ?_⟩) hHeld ?_ ?_
        rotate_left
        · rintro w' ⟨s0, s1, s2, s3, s4, s5, s6, s7, s8, s9, s10, s11, s12⟩
          go_simp
          with_reducible rfl
        rotate_left
        · simp only [Act.put, List.setIfInBounds_toArray, List.set_cons_zero, List.set_cons_succ, i64_w, i32_w]
          rfl
        refine take_ (i := 14) (N := some 49) (v := ?_) (a' := ?_) (M8_44 441768083455) rfl rfl (take_ofW HT_.out HW_.out (by kernel_rfl)) (fun _ _ _ h => h) (Or.inl ⟨(by rfl), ?_⟩) hHeld ?_ ?_
        rotate_left
        · rintro w' ⟨s0, s1, s2, s3, s4, s5, s6, s7, s8, s9, s10, s11, s12⟩
          go_simp
          with_reducible rfl
        rotate_left
        · simp only [Act.put, List.setIfInBounds_toArray, List.set_cons_zero, List.set_cons_succ, i64_w, i32_w]
          rfl
        refine take_ (i := 17) (N := some 52) (v := ?_) (a' := ?_) (M8_44 441768214527) rfl rfl (take_ofW HT_.out HW_.out (by kernel_rfl)) (fun _ _ _ h => h) (Or.inl ⟨(by rfl), ?_⟩) hHeld ?_ ?_
        rotate_left
        · rintro w' ⟨s0, s1, s2, s3, s4, s5, s6, s7, s8, s9, s10, s11, s12⟩
          go_simp
          with_reducible rfl
        rotate_left
        · simp only [Act.put, List.setIfInBounds_toArray, List.set_cons_zero, List.set_cons_succ, i64_w, i32_w]
          rfl
        refine take_ (i := 20) (N := some 55) (v := ?_) (a' := ?_) (M8_44 441769263103) rfl rfl (take_ofW HT_.out HW_.out (by kernel_rfl)) (fun _ _ _ h => h) (Or.inl ⟨(by rfl), ?_⟩) hHeld ?_ ?_
        rotate_left
        · rintro w' ⟨s0, s1, s2, s3, s4, s5, s6, s7, s8, s9, s10, s11, s12⟩
          go_simp
          with_reducible rfl
        rotate_left
        · simp only [Act.put, List.setIfInBounds_toArray, List.set_cons_zero, List.set_cons_succ, i64_w, i32_w]
          rfl
        refine take_ (i := 23) (N := some 58) (v := ?_) (a' := ?_) (M8_44 441777651711) rfl rfl (take_ofW HT_.out HW_.out (by kernel_rfl)) (fun _ _ _ h => h) (Or.inl ⟨(by rfl), ?_⟩) hHeld ?_ ?_
        rotate_left
        · rintro w' ⟨s0, s1, s2, s3, s4, s5, s6, s7, s8, s9, s10, s11, s12⟩
          go_simp
          with_reducible rfl
        rotate_left
        · simp only [Act.put, List.setIfInBounds_toArray, List.set_cons_zero, List.set_cons_succ, i64_w, i32_w]
          rfl
        refine take_ (i := 26) (N := some 61) (v := ?_) (a' := ?_) (M8_44 441844760575) rfl rfl (take_ofW HT_.out HW_.out (by kernel_rfl)) (fun _ _ _ h => h) (Or.inl ⟨(by rfl), ?_⟩) hHeld ?_ ?_
        rotate_left
        · rintro w' ⟨s0, s1, s2, s3, s4, s5, s6, s7, s8, s9, s10, s11, s12⟩
          go_simp
          with_reducible rfl
        rotate_left
        · simp only [Act.put, List.setIfInBounds_toArray, List.set_cons_zero, List.set_cons_succ, i64_w, i32_w]
          rfl
        refine take_ (i := 29) (N := some 64) (v := ?_) (a' := ?_) (M8_44 442381631487) rfl rfl (take_ofW HT_.out HW_.out (by kernel_rfl)) (fun _ _ _ h => h) (Or.inl ⟨(by rfl), ?_⟩) hHeld ?_ ?_
        rotate_left
        · rintro w' ⟨s0, s1, s2, s3, s4, s5, s6, s7, s8, s9, s10, s11, s12⟩
          go_simp
          with_reducible rfl
        rotate_left
        · simp only [Act.put, List.setIfInBounds_toArray, List.set_cons_zero, List.set_cons_succ, i64_w, i32_w]
          rfl
        refine take_ (i := 32) (N := some 67) (v := ?_) (a' := ?_) (M8_44 446676598783) rfl rfl (take_ofW HT_.out HW_.out (by kernel_rfl)) (fun _ _ _ h => h) (Or.inl ⟨(by rfl), ?_⟩) hHeld ?_ ?_
        rotate_left
        · rintro w' ⟨s0, s1, s2, s3, s4, s5, s6, s7, s8, s9, s10, s11, s12⟩
          go_simp
          with_reducible rfl
        rotate_left
        · simp only [Act.put, List.setIfInBounds_toArray, List.set_cons_zero, List.set_cons_succ, i64_w, i32_w]
          rfl
        refine take_ (i := 35) (N := some 70) (v := ?_) (a' := ?_) (M8_44 481036337151) rfl rfl (take_ofW HT_.out HW_.out (by kernel_rfl)) (fun _ _ _ h => h) (Or.inl ⟨(by rfl), ?_⟩) hHeld ?_ ?_
        rotate_left
        · rintro w' ⟨s0, s1, s2, s3, s4, s5, s6, s7, s8, s9, s10, s11, s12⟩
          go_simp
          with_reducible rfl
        rotate_left
        · simp only [Act.put, List.setIfInBounds_toArray, List.set_cons_zero, List.set_cons_succ, i64_w, i32_w]
          rfl
        refine pure_ (i := 36) (N := some 71) (v := _) (a' := _) (M8_44 549755813887) rfl rfl (any_of HT_.out (by kernel_rfl)) (fun _ _ _ h => h) (Or.inl ⟨(by rfl), (by intro w'; go_simp; with_reducible rfl)⟩) Z8_17 ?_
        refine take_ (i := 39) (N := some 74) (v := ?_) (a' := ?_) (M8_44 1099511627775) rfl rfl (take_ofW HT_.out HW_.out (by kernel_rfl)) (fun _ _ _ h => h) (Or.inl ⟨(by rfl), ?_⟩) hHeld ?_ ?_
        rotate_left
        · rintro w' ⟨s0, s1, s2, s3, s4, s5, s6, s7, s8, s9, s10, s11, s12⟩
          go_simp
          with_reducible rfl
        rotate_left
        · simp only [Act.put, List.setIfInBounds_toArray, List.set_cons_zero, List.set_cons_succ, i64_w, i32_w]
          rfl
        refine pure_ (i := 40) (N := some 75) (v := _) (a' := _) (M8_44 2199023255551) rfl rfl (any_of HT_.out (by kernel_rfl)) (fun _ _ _ h => h) (Or.inl ⟨(by rfl), (by intro w'; go_simp; with_reducible rfl)⟩) Z8_17 ?_
        refine pure_ (i := 41) (N := some 76) (v := _) (a' := _) (M8_44 4398046511103) rfl rfl (any_of HT_.out (by kernel_rfl)) (fun _ _ _ h => h) (Or.inl ⟨(by rfl), (by intro w'; go_simp; with_reducible rfl)⟩) Z8_17 ?_
        refine one_ (i := 42) (N := some 10) (M8_44 8796093022207) rfl rfl (one_of HT_.out (by kernel_rfl)) (by decide) (fun K hK => ?_)
        refine box_step ?hg (N := 10) ?hd (cs := #[.int .i64 0, .int .i64 0, .int .i64 0, .int .i64 0, .int .i64 0, .int .i64 0, .int .i64 0, .int .i64 0, .int .i64 0, .int .i64 0, .int .i64 0, .bool false, .bool false]) (t := 54) ?hr ?_; (case hd => rfl); (case hg => rfl); (case hr => first | (go_simp; done) | (go_simp; rfl))
        intro gb209 hg w55 hbox hb
        have HS0_ := (hb.cell (World.block_lt_of_cell? _ _ (hHeld.1))).trans (hHeld.1)
        have HS1_ := (hb.cell (World.block_lt_of_cell? _ _ (hHeld.2.1))).trans (hHeld.2.1)
        have HS2_ := (hb.cell (World.block_lt_of_cell? _ _ (hHeld.2.2.1))).trans (hHeld.2.2.1)
        have HS3_ := (hb.cell (World.block_lt_of_cell? _ _ (hHeld.2.2.2.1))).trans (hHeld.2.2.2.1)
        have HS4_ := (hb.cell (World.block_lt_of_cell? _ _ (hHeld.2.2.2.2.1))).trans (hHeld.2.2.2.2.1)
        have HS5_ := (hb.cell (World.block_lt_of_cell? _ _ (hHeld.2.2.2.2.2.1))).trans (hHeld.2.2.2.2.2.1)
        have HS6_ := (hb.cell (World.block_lt_of_cell? _ _ (hHeld.2.2.2.2.2.2.1))).trans (hHeld.2.2.2.2.2.2.1)
        have HS7_ := (hb.cell (World.block_lt_of_cell? _ _ (hHeld.2.2.2.2.2.2.2.1))).trans (hHeld.2.2.2.2.2.2.2.1)
        have HS8_ := (hb.cell (World.block_lt_of_cell? _ _ (hHeld.2.2.2.2.2.2.2.2.1))).trans (hHeld.2.2.2.2.2.2.2.2.1)
        have HS9_ := (hb.cell (World.block_lt_of_cell? _ _ (hHeld.2.2.2.2.2.2.2.2.2.1))).trans (hHeld.2.2.2.2.2.2.2.2.2.1)
        have HS10_ := (hb.cell (World.block_lt_of_cell? _ _ (hHeld.2.2.2.2.2.2.2.2.2.2.1))).trans (hHeld.2.2.2.2.2.2.2.2.2.2.1)
        have HS11_ := (hb.cell (World.block_lt_of_cell? _ _ (hHeld.2.2.2.2.2.2.2.2.2.2.2.1))).trans (hHeld.2.2.2.2.2.2.2.2.2.2.2.1)
        have HS12_ := (hb.cell (World.block_lt_of_cell? _ _ (hHeld.2.2.2.2.2.2.2.2.2.2.2.2))).trans (hHeld.2.2.2.2.2.2.2.2.2.2.2.2)
        have n0_ := Aside0.mk Z8_15
        have n1_ := Aside0.mk Z8_7
        have n2_ := Aside0.mk Z8_12
        have n3_ := Aside0.mk (hbox)
        have n4_ := Aside0.mk Z8_8
        have n5_ := Aside0.mk Z8_8
        have n6_ := Aside0.mk Z8_5
        have n7_ := Aside0.mk Z8_6
        clear HO_7
        clear BK186
        clear HB
        have HO_7 := n0_
        have BK186 := n1_
        have HB := n2_
        have BK209 := n3_
        have GW209 := n4_
        have GE209 := n5_
        have NB186_209 := n6_
        have NB209_186 := n7_
        clear n0_ n1_ n2_ n3_ n4_ n5_ n6_ n7_
        clear hb hbox hg
        refine hK.out _ _ ⟨HS0_, HS1_, HS2_, HS3_, HS4_, HS5_, HS6_, HS7_, HS8_, HS9_, HS10_, HS11_, HS12_⟩ (fun hHeld => ?_)
        clear hK K
        refine norm_ (a' := ?_) ?_ ?_
        rotate_left
        · show Act.put _ (some 10) _ = _
          simp only [Act.put, List.setIfInBounds_toArray, List.set_cons_zero, List.set_cons_succ, i64_w, i32_w]
          rfl
        refine last_ (i := 43) (N := none) (M8_44 17592186044415) rfl rfl (one_of HT_.out (by kernel_rfl)) (by decide) (fun K hK => ?_)
        have hs56 : w55.cell? ⟨gb209, 0, none⟩ = some (.int .i64 0) := (blk_cell BK209.out 0).trans rfl
        have hfs56 := blk_frozen BK209.out 0
        have hns56_0 := NB186_209.out
        have hms56_0 := NB209_186.out
        have hs57 : w55.cell? ⟨gb209, 1, none⟩ = some (.int .i64 0) := (blk_cell BK209.out 1).trans rfl
        have hfs57 := blk_frozen BK209.out 1
        have hns57_0 := NB186_209.out
        have hms57_0 := NB209_186.out
        have hs58 : w55.cell? ⟨gb209, 2, none⟩ = some (.int .i64 0) := (blk_cell BK209.out 2).trans rfl
        have hfs58 := blk_frozen BK209.out 2
        have hns58_0 := NB186_209.out
        have hms58_0 := NB209_186.out
        have hs59 : w55.cell? ⟨gb209, 3, none⟩ = some (.int .i64 0) := (blk_cell BK209.out 3).trans rfl
        have hfs59 := blk_frozen BK209.out 3
        have hns59_0 := NB186_209.out
        have hms59_0 := NB209_186.out
        have hs60 : w55.cell? ⟨gb209, 4, none⟩ = some (.int .i64 0) := (blk_cell BK209.out 4).trans rfl
        have hfs60 := blk_frozen BK209.out 4
        have hns60_0 := NB186_209.out
        have hms60_0 := NB209_186.out
        have hs61 : w55.cell? ⟨gb209, 5, none⟩ = some (.int .i64 0) := (blk_cell BK209.out 5).trans rfl
        have hfs61 := blk_frozen BK209.out 5
        have hns61_0 := NB186_209.out
        have hms61_0 := NB209_186.out
        have hs62 : w55.cell? ⟨gb209, 6, none⟩ = some (.int .i64 0) := (blk_cell BK209.out 6).trans rfl
        have hfs62 := blk_frozen BK209.out 6
        have hns62_0 := NB186_209.out
        have hms62_0 := NB209_186.out
        have hs63 : w55.cell? ⟨gb209, 7, none⟩ = some (.int .i64 0) := (blk_cell BK209.out 7).trans rfl
        have hfs63 := blk_frozen BK209.out 7
        have hns63_0 := NB186_209.out
        have hms63_0 := NB209_186.out
        have hs64 : w55.cell? ⟨gb209, 8, none⟩ = some (.int .i64 0) := (blk_cell BK209.out 8).trans rfl
        have hfs64 := blk_frozen BK209.out 8
        have hns64_0 := NB186_209.out
        have hms64_0 := NB209_186.out
        have hs65 : w55.cell? ⟨gb209, 9, none⟩ = some (.int .i64 0) := (blk_cell BK209.out 9).trans rfl
        have hfs65 := blk_frozen BK209.out 9
        have hns65_0 := NB186_209.out
        have hms65_0 := NB209_186.out
        have hs66 : w55.cell? ⟨gb209, 10, none⟩ = some (.int .i64 0) := (blk_cell BK209.out 10).trans rfl
        have hfs66 := blk_frozen BK209.out 10
        have hns66_0 := NB186_209.out
        have hms66_0 := NB209_186.out
        have hs67 : w55.cell? ⟨gb209, 11, none⟩ = some (.bool false) := (blk_cell BK209.out 11).trans rfl
        have hfs67 := blk_frozen BK209.out 11
        have hns67_0 := NB186_209.out
        have hms67_0 := NB209_186.out
        have hs68 : w55.cell? ⟨gb209, 12, none⟩ = some (.bool false) := (blk_cell BK209.out 12).trans rfl
        have hfs68 := blk_frozen BK209.out 12
        have hns68_0 := NB186_209.out
        have hms68_0 := NB209_186.out
        refine skip_ (w1 := ?_) (by rfl) rfl ?_ ?_
        rotate_left
        · go_simp
          rfl
        refine hK.out _ _ ?_
        clear hK K
        refine done_ (done_of HT_.out (by kernel_rfl)) ?_
        have hnb69 := NB209_186.out
        have hnc69 := NB186_209.out
        have hcz70_0 : w55.cell? ⟨gb209, 0, none⟩ = some (.int .i64 0) := (blk_cell BK209.out 0).trans rfl
        have hcz70_1 : w55.cell? ⟨gb209, 1, none⟩ = some (.int .i64 0) := (blk_cell BK209.out 1).trans rfl
        have hcz70_2 : w55.cell? ⟨gb209, 2, none⟩ = some (.int .i64 0) := (blk_cell BK209.out 2).trans rfl
        have hcz70_3 : w55.cell? ⟨gb209, 3, none⟩ = some (.int .i64 0) := (blk_cell BK209.out 3).trans rfl
        have hcz70_4 : w55.cell? ⟨gb209, 4, none⟩ = some (.int .i64 0) := (blk_cell BK209.out 4).trans rfl
        have hcz70_5 : w55.cell? ⟨gb209, 5, none⟩ = some (.int .i64 0) := (blk_cell BK209.out 5).trans rfl
        have hcz70_6 : w55.cell? ⟨gb209, 6, none⟩ = some (.int .i64 0) := (blk_cell BK209.out 6).trans rfl
        have hcz70_7 : w55.cell? ⟨gb209, 7, none⟩ = some (.int .i64 0) := (blk_cell BK209.out 7).trans rfl
        have hcz70_8 : w55.cell? ⟨gb209, 8, none⟩ = some (.int .i64 0) := (blk_cell BK209.out 8).trans rfl
        have hcz70_9 : w55.cell? ⟨gb209, 9, none⟩ = some (.int .i64 0) := (blk_cell BK209.out 9).trans rfl
        have hcz70_10 : w55.cell? ⟨gb209, 10, none⟩ = some (.int .i64 0) := (blk_cell BK209.out 10).trans rfl
        have hcz70_11 : w55.cell? ⟨gb209, 11, none⟩ = some (.bool false) := (blk_cell BK209.out 11).trans rfl
        have hcz70_12 : w55.cell? ⟨gb209, 12, none⟩ = some (.bool false) := (blk_cell BK209.out 12).trans rfl
        have hfz70_0 := blk_frozen BK209.out 0
        have hfz70_1 := blk_frozen BK209.out 1
        have hfz70_2 := blk_frozen BK209.out 2
        have hfz70_3 := blk_frozen BK209.out 3
        have hfz70_4 := blk_frozen BK209.out 4
        have hfz70_5 := blk_frozen BK209.out 5
        have hfz70_6 := blk_frozen BK209.out 6
        have hfz70_7 := blk_frozen BK209.out 7
        have hfz70_8 := blk_frozen BK209.out 8
        have hfz70_9 := blk_frozen BK209.out 9
        have hfz70_10 := blk_frozen BK209.out 10
        have hfz70_11 := blk_frozen BK209.out 11
        have hfz70_12 := blk_frozen BK209.out 12
        try go_wp2_with (first | ((with_reducible refine gate_callee (f := 69) rfl ?_); refine goesL_ (some 78) rfl rfl Try.func69 (by kernel_rfl) rfl #[.agg #[.int .i64 (rd t187 0), .int .i64 (rd t187 1), .int .i64 (rd t187 2), .int .i64 (rd t187 3), .int .i64 (rd t187 4), .int .i64 (rd t187 5), .int .i64 (rd t187 6), .int .i64 (rd t187 7), .int .i64 (rd t187 8), .int .i64 (rd t187 9), .int .i64 (rd t187 10), .bool ((rd t187 11) == 1), .bool ((rd t187 12) == 1)]] rfl Z8_14 ?_; (with_reducible refine (impl_PieceOk.calls kj3 (rd t187 0) (rd t187 1) (rd t187 2) (rd t187 3) (rd t187 4) (rd t187 5) (rd t187 6) (rd t187 7) (rd t187 8) (rd t187 9) (rd t187 10) ((rd t187 11) == 1) ((rd t187 12) == 1) false _ A30.out).mono ?_); rintro e w71 ⟨rfl, hb⟩; refine ⟨_, rfl, ?_⟩; have n0_ := Aside0.mk Z8_4; have n1_ := Aside0.mk Z8_3; have n2_ := Aside0.mk Z8_1; have n3_ := Aside0.mk Z8_9; clear HO_7; clear BK186; clear BK209; clear HB; have HO_7 := n0_; have BK186 := n1_; have BK209 := n2_; have HB := n3_; clear n0_ n1_ n2_ n3_; (try clear hb); (try clear hb2); (try clear hk); (try clear hi); have hcz72_0 : w71.cell? ⟨gb186, 0, none⟩ = some (.int .i64 0) := (blk_cell BK186.out 0).trans rfl; have hcz72_1 : w71.cell? ⟨gb186, 1, none⟩ = some (.int .i64 0) := (blk_cell BK186.out 1).trans rfl; have hcz72_2 : w71.cell? ⟨gb186, 2, none⟩ = some (.int .i64 0) := (blk_cell BK186.out 2).trans rfl; have hcz72_3 : w71.cell? ⟨gb186, 3, none⟩ = some (.int .i64 0) := (blk_cell BK186.out 3).trans rfl; have hcz72_4 : w71.cell? ⟨gb186, 4, none⟩ = some (.int .i64 0) := (blk_cell BK186.out 4).trans rfl; have hcz72_5 : w71.cell? ⟨gb186, 5, none⟩ = some (.int .i64 0) := (blk_cell BK186.out 5).trans rfl; have hcz72_6 : w71.cell? ⟨gb186, 6, none⟩ = some (.int .i64 0) := (blk_cell BK186.out 6).trans rfl; have hcz72_7 : w71.cell? ⟨gb186, 7, none⟩ = some (.int .i64 0) := (blk_cell BK186.out 7).trans rfl; have hcz72_8 : w71.cell? ⟨gb186, 8, none⟩ = some (.int .i64 0) := (blk_cell BK186.out 8).trans rfl; have hcz72_9 : w71.cell? ⟨gb186, 9, none⟩ = some (.int .i64 0) := (blk_cell BK186.out 9).trans rfl; have hcz72_10 : w71.cell? ⟨gb186, 10, none⟩ = some (.int .i64 0) := (blk_cell BK186.out 10).trans rfl; have hcz72_11 : w71.cell? ⟨gb186, 11, none⟩ = some (.bool false) := (blk_cell BK186.out 11).trans rfl; have hcz72_12 : w71.cell? ⟨gb186, 12, none⟩ = some (.bool false) := (blk_cell BK186.out 12).trans rfl; have hfz72_0 := blk_frozen BK186.out 0; have hfz72_1 := blk_frozen BK186.out 1; have hfz72_2 := blk_frozen BK186.out 2; have hfz72_3 := blk_frozen BK186.out 3; have hfz72_4 := blk_frozen BK186.out 4; have hfz72_5 := blk_frozen BK186.out 5; have hfz72_6 := blk_frozen BK186.out 6; have hfz72_7 := blk_frozen BK186.out 7; have hfz72_8 := blk_frozen BK186.out 8; have hfz72_9 := blk_frozen BK186.out 9; have hfz72_10 := blk_frozen BK186.out 10; have hfz72_11 := blk_frozen BK186.out 11; have hfz72_12 := blk_frozen BK186.out 12))
        refine bodyPost_ret (results_ctt rfl _ _ gb186 54 #[.int .i64 0, .int .i64 0, .int .i64 0, .int .i64 0, .int .i64 0, .int .i64 0, .int .i64 0, .int .i64 0, .int .i64 0, .int .i64 0, .int .i64 0, .bool false, .bool false] (0, 0) _ rfl Z8_2 Try.underlying54 rfl (by kernel_rfl)) rfl ?_
        exact ⟨Z8_19, Z8_10⟩
      subst c31
      have H1 : (some (rd t187 0, rd t187 1, rd t187 2, rd t187 3, rd t187 4, rd t187 5, rd t187 6, rd t187 7, rd t187 8, rd t187 9, rd t187 10, ((rd t187 11) == 1), ((rd t187 12) == 1), t188, true)) = some (r1, r2, r3, r4, r5, r6, r7, r8, r9, r10, r11, r12, r13, r14, r15) := by rw [if_pos rfl] at H; exact H
      clear H
      have H := H1
      clear H1
      simp only [Option.some.injEq, Prod.mk.injEq] at H
      obtain ⟨rfl, rfl, rfl, rfl, rfl, rfl, rfl, rfl, rfl, rfl, rfl, rfl, rfl, rfl, rfl⟩ := H
      try go_wp2
      have n0_ := Aside0.mk (Kd.R_drew HO_7.out)
      have n1_ := Aside0.mk (blk_drew BK186.out)
      have n2_ := Aside0.mk (below_drew1 HB.out)
      clear HO_7
      clear BK186
      clear HB
      have HO_7 := n0_
      have BK186 := n1_
      have HB := n2_
      clear n0_ n1_ n2_
      obtain ⟨Ao33, co33, eo33⟩ := Kd.R_slice HO_7.out
      (first | subst eo33 | (injection eo33 with f1_ f2_ f3_; have f4_ := f1_.symm; have f5_ := f3_.symm; clear f1_ f2_ f3_; subst f4_; subst f5_))
      have p196 : 0 ≤ (0 : Int) := (by omega)
      have q196 : 0 < (t187.length : Int) := of_decide_eq_true Z8_20
      obtain ⟨ad196, e196, hx196_0⟩ := Kd.at_int (Kd.R_reads' HO_7.out).2.2 0 p196 q196
      cases e196
      have qi196 : (0 < t187.length) = True := eq_true (by omega)
      (try rw [show ((0 : Int)).toNat = 0 from rfl] at hx196_0)
      (try rw [Addr.add_zero'] at hx196_0)
      replace p196 := eq_true p196
      replace q196 := eq_true q196
      have p197 : 0 ≤ (1 : Int) := (by omega)
      have q197 : 1 < (t187.length : Int) := of_decide_eq_true Z8_20
      obtain ⟨ad197, e197, hx197_0⟩ := Kd.at_int (Kd.R_reads' HO_7.out).2.2 1 p197 q197
      obtain rfl : ad196 = ad197 := (by injection e197)
      (try simp only [show (1 : Int).toNat = 1 from rfl, Nat.reduceMul, Nat.reduceEqDiff, Go.Addr.add, ↓reduceIte] at hx197_0)
      have qi197 : (1 < t187.length) = True := eq_true (by omega)
      (try rw [show ((1 : Int)).toNat = 1 from rfl] at hx197_0)
      replace p197 := eq_true p197
      replace q197 := eq_true q197
      have p198 : 0 ≤ (2 : Int) := (by omega)
      have q198 : 2 < (t187.length : Int) := of_decide_eq_true Z8_20
      obtain ⟨ad198, e198, hx198_0⟩ := Kd.at_int (Kd.R_reads' HO_7.out).2.2 2 p198 q198
      obtain rfl : ad196 = ad198 := (by injection e198)
      (try simp only [show (2 : Int).toNat = 2 from rfl, Nat.reduceMul, Nat.reduceEqDiff, Go.Addr.add, ↓reduceIte] at hx198_0)
      have qi198 : (2 < t187.length) = True := eq_true (by omega)
      (try rw [show ((2 : Int)).toNat = 2 from rfl] at hx198_0)
      replace p198 := eq_true p198
      replace q198 := eq_true q198
      have p199 : 0 ≤ (3 : Int) := (by omega)
      have q199 : 3 < (t187.length : Int) := of_decide_eq_true Z8_20
      obtain ⟨ad199, e199, hx199_0⟩ := Kd.at_int (Kd.R_reads' HO_7.out).2.2 3 p199 q199
      obtain rfl : ad196 = ad199 := (by injection e199)
      (try simp only [show (3 : Int).toNat = 3 from rfl, Nat.reduceMul, Nat.reduceEqDiff, Go.Addr.add, ↓reduceIte] at hx199_0)
      have qi199 : (3 < t187.length) = True := eq_true (by omega)
      (try rw [show ((3 : Int)).toNat = 3 from rfl] at hx199_0)
      replace p199 := eq_true p199
      replace q199 := eq_true q199
      have p200 : 0 ≤ (4 : Int) := (by omega)
      have q200 : 4 < (t187.length : Int) := of_decide_eq_true Z8_20
      obtain ⟨ad200, e200, hx200_0⟩ := Kd.at_int (Kd.R_reads' HO_7.out).2.2 4 p200 q200
      obtain rfl : ad196 = ad200 := (by injection e200)
      (try simp only [show (4 : Int).toNat = 4 from rfl, Nat.reduceMul, Nat.reduceEqDiff, Go.Addr.add, ↓reduceIte] at hx200_0)
      have qi200 : (4 < t187.length) = True := eq_true (by omega)
      (try rw [show ((4 : Int)).toNat = 4 from rfl] at hx200_0)
      replace p200 := eq_true p200
      replace q200 := eq_true q200
      have p201 : 0 ≤ (5 : Int) := (by omega)
      have q201 : 5 < (t187.length : Int) := of_decide_eq_true Z8_20
      obtain ⟨ad201, e201, hx201_0⟩ := Kd.at_int (Kd.R_reads' HO_7.out).2.2 5 p201 q201
      obtain rfl : ad196 = ad201 := (by injection e201)
      (try simp only [show (5 : Int).toNat = 5 from rfl, Nat.reduceMul, Nat.reduceEqDiff, Go.Addr.add, ↓reduceIte] at hx201_0)
      have qi201 : (5 < t187.length) = True := eq_true (by omega)
      (try rw [show ((5 : Int)).toNat = 5 from rfl] at hx201_0)
      replace p201 := eq_true p201
      replace q201 := eq_true q201
      have p202 : 0 ≤ (6 : Int) := (by omega)
      have q202 : 6 < (t187.length : Int) := of_decide_eq_true Z8_20
      obtain ⟨ad202, e202, hx202_0⟩ := Kd.at_int (Kd.R_reads' HO_7.out).2.2 6 p202 q202
      obtain rfl : ad196 = ad202 := (by injection e202)
      (try simp only [show (6 : Int).toNat = 6 from rfl, Nat.reduceMul, Nat.reduceEqDiff, Go.Addr.add, ↓reduceIte] at hx202_0)
      have qi202 : (6 < t187.length) = True := eq_true (by omega)
      (try rw [show ((6 : Int)).toNat = 6 from rfl] at hx202_0)
      replace p202 := eq_true p202
      replace q202 := eq_true q202
      have p203 : 0 ≤ (7 : Int) := (by omega)
      have q203 : 7 < (t187.length : Int) := of_decide_eq_true Z8_20
      obtain ⟨ad203, e203, hx203_0⟩ := Kd.at_int (Kd.R_reads' HO_7.out).2.2 7 p203 q203
      obtain rfl : ad196 = ad203 := (by injection e203)
      (try simp only [show (7 : Int).toNat = 7 from rfl, Nat.reduceMul, Nat.reduceEqDiff, Go.Addr.add, ↓reduceIte] at hx203_0)
      have qi203 : (7 < t187.length) = True := eq_true (by omega)
      (try rw [show ((7 : Int)).toNat = 7 from rfl] at hx203_0)
      replace p203 := eq_true p203
      replace q203 := eq_true q203
      have p204 : 0 ≤ (8 : Int) := (by omega)
      have q204 : 8 < (t187.length : Int) := of_decide_eq_true Z8_20
      obtain ⟨ad204, e204, hx204_0⟩ := Kd.at_int (Kd.R_reads' HO_7.out).2.2 8 p204 q204
      obtain rfl : ad196 = ad204 := (by injection e204)
      (try simp only [show (8 : Int).toNat = 8 from rfl, Nat.reduceMul, Nat.reduceEqDiff, Go.Addr.add, ↓reduceIte] at hx204_0)
      have qi204 : (8 < t187.length) = True := eq_true (by omega)
      (try rw [show ((8 : Int)).toNat = 8 from rfl] at hx204_0)
      replace p204 := eq_true p204
      replace q204 := eq_true q204
      have p205 : 0 ≤ (9 : Int) := (by omega)
      have q205 : 9 < (t187.length : Int) := of_decide_eq_true Z8_20
      obtain ⟨ad205, e205, hx205_0⟩ := Kd.at_int (Kd.R_reads' HO_7.out).2.2 9 p205 q205
      obtain rfl : ad196 = ad205 := (by injection e205)
      (try simp only [show (9 : Int).toNat = 9 from rfl, Nat.reduceMul, Nat.reduceEqDiff, Go.Addr.add, ↓reduceIte] at hx205_0)
      have qi205 : (9 < t187.length) = True := eq_true (by omega)
      (try rw [show ((9 : Int)).toNat = 9 from rfl] at hx205_0)
      replace p205 := eq_true p205
      replace q205 := eq_true q205
      have p206 : 0 ≤ (10 : Int) := (by omega)
      have q206 : 10 < (t187.length : Int) := of_decide_eq_true Z8_20
      obtain ⟨ad206, e206, hx206_0⟩ := Kd.at_int (Kd.R_reads' HO_7.out).2.2 10 p206 q206
      obtain rfl : ad196 = ad206 := (by injection e206)
      (try simp only [show (10 : Int).toNat = 10 from rfl, Nat.reduceMul, Nat.reduceEqDiff, Go.Addr.add, ↓reduceIte] at hx206_0)
      have qi206 : (10 < t187.length) = True := eq_true (by omega)
      (try rw [show ((10 : Int)).toNat = 10 from rfl] at hx206_0)
      replace p206 := eq_true p206
      replace q206 := eq_true q206
      have p207 : 0 ≤ (11 : Int) := (by omega)
      have q207 : 11 < (t187.length : Int) := of_decide_eq_true Z8_20
      obtain ⟨ad207, e207, hx207_0⟩ := Kd.at_int (Kd.R_reads' HO_7.out).2.2 11 p207 q207
      obtain rfl : ad196 = ad207 := (by injection e207)
      (try simp only [show (11 : Int).toNat = 11 from rfl, Nat.reduceMul, Nat.reduceEqDiff, Go.Addr.add, ↓reduceIte] at hx207_0)
      have qi207 : (11 < t187.length) = True := eq_true (by omega)
      (try rw [show ((11 : Int)).toNat = 11 from rfl] at hx207_0)
      replace p207 := eq_true p207
      replace q207 := eq_true q207
      have p208 : 0 ≤ (12 : Int) := (by omega)
      have q208 : 12 < (t187.length : Int) := of_decide_eq_true Z8_20
      obtain ⟨ad208, e208, hx208_0⟩ := Kd.at_int (Kd.R_reads' HO_7.out).2.2 12 p208 q208
      obtain rfl : ad196 = ad208 := (by injection e208)
      (try simp only [show (12 : Int).toNat = 12 from rfl, Nat.reduceMul, Nat.reduceEqDiff, Go.Addr.add, ↓reduceIte] at hx208_0)
      have qi208 : (12 < t187.length) = True := eq_true (by omega)
      (try rw [show ((12 : Int)).toNat = 12 from rfl] at hx208_0)
      replace p208 := eq_true p208
      replace q208 := eq_true q208
      refine start_ (n := 44) (S := fun w' => w'.cell? ad196 = some (.int .i64 (rd t187 0)) ∧ w'.cell? ⟨ad196.block, ad196.off + 1, none⟩ = some (.int .i64 (rd t187 1)) ∧ w'.cell? ⟨ad196.block, ad196.off + 2, none⟩ = some (.int .i64 (rd t187 2)) ∧ w'.cell? ⟨ad196.block, ad196.off + 3, none⟩ = some (.int .i64 (rd t187 3)) ∧ w'.cell? ⟨ad196.block, ad196.off + 4, none⟩ = some (.int .i64 (rd t187 4)) ∧ w'.cell? ⟨ad196.block, ad196.off + 5, none⟩ = some (.int .i64 (rd t187 5)) ∧ w'.cell? ⟨ad196.block, ad196.off + 6, none⟩ = some (.int .i64 (rd t187 6)) ∧ w'.cell? ⟨ad196.block, ad196.off + 7, none⟩ = some (.int .i64 (rd t187 7)) ∧ w'.cell? ⟨ad196.block, ad196.off + 8, none⟩ = some (.int .i64 (rd t187 8)) ∧ w'.cell? ⟨ad196.block, ad196.off + 9, none⟩ = some (.int .i64 (rd t187 9)) ∧ w'.cell? ⟨ad196.block, ad196.off + 10, none⟩ = some (.int .i64 (rd t187 10)) ∧ w'.cell? ⟨ad196.block, ad196.off + 11, none⟩ = some (.int .i64 (rd t187 11)) ∧ w'.cell? ⟨ad196.block, ad196.off + 12, none⟩ = some (.int .i64 (rd t187 12))) (ds := [43]) #[false, false, false, false, false, false, false, false, false, false, false, false, false, false, false, false, false, false, false, false, false, false, false, false, false, false, false, false, false, false, false, false, false, false, false, false, false, false, false, false, false, false, false, false] (by kernel_rfl) rfl rfl ⟨hx196_0, hx197_0, hx198_0, hx199_0, hx200_0, hx201_0, hx202_0, hx203_0, hx204_0, hx205_0, hx206_0, hx207_0, hx208_0⟩ (fun hHeld => ?_); refine with_tabW impl_GetPiece.tab4 impl_GetPiece.bits4 (fun HT_ HW_ => ?_)
      generalize wc.drew = w32 at HO_7 BK186 HB hx196_0 hx197_0 hx198_0 hx199_0 hx200_0 hx201_0 hx202_0 hx203_0 hx204_0 hx205_0 hx206_0 hx207_0 hx208_0 hHeld ⊢
      refine pure_ (i := 0) (N := some 35) (v := _) (a' := _) (M8_44 1) rfl rfl (any_of HT_.out (by kernel_rfl)) (fun _ _ _ h => h) (Or.inl ⟨(by rfl), (by intro w'; go_simp; with_reducible rfl)⟩) Z8_17 ?_
      refine pure_ (i := 1) (N := some 36) (v := _) (a' := _) (M8_44 3) rfl rfl (any_of HT_.out (by kernel_rfl)) (fun _ _ _ h => h) (Or.inl ⟨(by rfl), (by intro w'; go_simp; with_reducible rfl)⟩) Z8_17 ?_
      refine pure_ (i := 3) (N := some 38) (v := _) (a' := _) (M8_44 11) rfl rfl (any_of HT_.out (by kernel_rfl)) (fun _ _ _ h => h) (Or.inl ⟨(by rfl), (by intro w'; go_simp; with_reducible rfl)⟩) Z8_17 ?_
      refine pure_ (i := 4) (N := some 39) (v := _) (a' := _) (M8_44 27) rfl rfl (any_of HT_.out (by kernel_rfl)) (fun _ _ _ h => h) (Or.inl ⟨(by rfl), (by intro w'; go_simp; with_reducible rfl)⟩) Z8_17 ?_
      refine pure_ (i := 6) (N := some 41) (v := _) (a' := _) (M8_44 91) rfl rfl (any_of HT_.out (by kernel_rfl)) (fun _ _ _ h => h) (Or.inl ⟨(by rfl), (by intro w'; go_simp; with_reducible rfl)⟩) Z8_17 ?_
      refine pure_ (i := 7) (N := some 42) (v := _) (a' := _) (M8_44 219) rfl rfl (any_of HT_.out (by kernel_rfl)) (fun _ _ _ h => h) (Or.inl ⟨(by rfl), (by intro w'; go_simp; with_reducible rfl)⟩) Z8_17 ?_
      refine pure_ (i := 9) (N := some 44) (v := _) (a' := _) (M8_44 731) rfl rfl (any_of HT_.out (by kernel_rfl)) (fun _ _ _ h => h) (Or.inl ⟨(by rfl), (by intro w'; go_simp; with_reducible rfl)⟩) Z8_17 ?_
      refine pure_ (i := 10) (N := some 45) (v := _) (a' := _) (M8_44 1755) rfl rfl (any_of HT_.out (by kernel_rfl)) (fun _ _ _ h => h) (Or.inl ⟨(by rfl), (by intro w'; go_simp; with_reducible rfl)⟩) Z8_17 ?_
      refine pure_ (i := 12) (N := some 47) (v := _) (a' := _) (M8_44 5851) rfl rfl (any_of HT_.out (by kernel_rfl)) (fun _ _ _ h => h) (Or.inl ⟨(by rfl), (by intro w'; go_simp; with_reducible rfl)⟩) Z8_17 ?_
      refine pure_ (i := 13) (N := some 48) (v := _) (a' := _) (M8_44 14043) rfl rfl (any_of HT_.out (by kernel_rfl)) (fun _ _ _ h => h) (Or.inl ⟨(by rfl), (by intro w'; go_simp; with_reducible rfl)⟩) Z8_17 ?_
      refine pure_ (i := 15) (N := some 50) (v := _) (a' := _) (M8_44 46811) rfl rfl (any_of HT_.out (by kernel_rfl)) (fun _ _ _ h => h) (Or.inl ⟨(by rfl), (by intro w'; go_simp; with_reducible rfl)⟩) Z8_17 ?_
      refine pure_ (i := 16) (N := some 51) (v := _) (a' := _) (M8_44 112347) rfl rfl (any_of HT_.out (by kernel_rfl)) (fun _ _ _ h => h) (Or.inl ⟨(by rfl), (by intro w'; go_simp; with_reducible rfl)⟩) Z8_17 ?_
      refine pure_ (i := 18) (N := some 53) (v := _) (a' := _) (M8_44 374491) rfl rfl (any_of HT_.out (by kernel_rfl)) (fun _ _ _ h => h) (Or.inl ⟨(by rfl), (by intro w'; go_simp; with_reducible rfl)⟩) Z8_17 ?_
      refine pure_ (i := 19) (N := some 54) (v := _) (a' := _) (M8_44 898779) rfl rfl (any_of HT_.out (by kernel_rfl)) (fun _ _ _ h => h) (Or.inl ⟨(by rfl), (by intro w'; go_simp; with_reducible rfl)⟩) Z8_17 ?_
      refine pure_ (i := 21) (N := some 56) (v := _) (a' := _) (M8_44 2995931) rfl rfl (any_of HT_.out (by kernel_rfl)) (fun _ _ _ h => h) (Or.inl ⟨(by rfl), (by intro w'; go_simp; with_reducible rfl)⟩) Z8_17 ?_
      refine pure_ (i := 22) (N := some 57) (v := _) (a' := _) (M8_44 7190235) rfl rfl (any_of HT_.out (by kernel_rfl)) (fun _ _ _ h => h) (Or.inl ⟨(by rfl), (by intro w'; go_simp; with_reducible rfl)⟩) Z8_17 ?_
      refine pure_ (i := 24) (N := some 59) (v := _) (a' := _) (M8_44 23967451) rfl rfl (any_of HT_.out (by kernel_rfl)) (fun _ _ _ h => h) (Or.inl ⟨(by rfl), (by intro w'; go_simp; with_reducible rfl)⟩) Z8_17 ?_
      refine pure_ (i := 25) (N := some 60) (v := _) (a' := _) (M8_44 57521883) rfl rfl (any_of HT_.out (by kernel_rfl)) (fun _ _ _ h => h) (Or.inl ⟨(by rfl), (by intro w'; go_simp; with_reducible rfl)⟩) Z8_17 ?_
      refine pure_ (i := 27) (N := some 62) (v := _) (a' := _) (M8_44 191739611) rfl rfl (any_of HT_.out (by kernel_rfl)) (fun _ _ _ h => h) (Or.inl ⟨(by rfl), (by intro w'; go_simp; with_reducible rfl)⟩) Z8_17 ?_
      refine pure_ (i := 28) (N := some 63) (v := _) (a' := _) (M8_44 460175067) rfl rfl (any_of HT_.out (by kernel_rfl)) (fun _ _ _ h => h) (Or.inl ⟨(by rfl), (by intro w'; go_simp; with_reducible rfl)⟩) Z8_17 ?_
      refine pure_ (i := 30) (N := some 65) (v := _) (a' := _) (M8_44 1533916891) rfl rfl (any_of HT_.out (by kernel_rfl)) (fun _ _ _ h => h) (Or.inl ⟨(by rfl), (by intro w'; go_simp; with_reducible rfl)⟩) Z8_17 ?_
      refine pure_ (i := 31) (N := some 66) (v := _) (a' := _) (M8_44 3681400539) rfl rfl (any_of HT_.out (by kernel_rfl)) (fun _ _ _ h => h) (Or.inl ⟨(by rfl), (by intro w'; go_simp; with_reducible rfl)⟩) Z8_17 ?_
      refine pure_ (i := 33) (N := some 68) (v := _) (a' := _) (M8_44 12271335131) rfl rfl (any_of HT_.out (by kernel_rfl)) (fun _ _ _ h => h) (Or.inl ⟨(by rfl), (by intro w'; go_simp; with_reducible rfl)⟩) Z8_17 ?_
      refine pure_ (i := 34) (N := some 69) (v := _) (a' := _) (M8_44 29451204315) rfl rfl (any_of HT_.out (by kernel_rfl)) (fun _ _ _ h => h) (Or.inl ⟨(by rfl), (by intro w'; go_simp; with_reducible rfl)⟩) Z8_17 ?_
      refine pure_ (i := 37) (N := some 72) (v := _) (a' := _) (M8_44 166890157787) rfl rfl (any_of HT_.out (by kernel_rfl)) (fun _ _ _ h => h) (Or.inl ⟨(by rfl), (by intro w'; go_simp; with_reducible rfl)⟩) Z8_17 ?_
      refine pure_ (i := 38) (N := some 73) (v := _) (a' := _) (M8_44 441768064731) rfl rfl (any_of HT_.out (by kernel_rfl)) (fun _ _ _ h => h) (Or.inl ⟨(by rfl), (by intro w'; go_simp; with_reducible rfl)⟩) Z8_17 ?_
      refine take_ (i := 2) (N := some 37) (v := ?_) (a' := ?_) (M8_44 441768064735) rfl rfl (take_ofW HT_.out HW_.out (by kernel_rfl)) (fun _ _ _ h => h) (Or.inl ⟨(by rfl), ?_⟩) hHeld ?_ ?_
      rotate_left
      · rintro w' ⟨s0, s1, s2, s3, s4, s5, s6, s7, s8, s9, s10, s11, s12⟩
        go_simp
        with_reducible rfl
      rotate_left
      · simp only [Act.put, List.setIfInBounds_toArray, List.set_cons_zero, List.set_cons_succ, i64_w, i32_w]
        rfl
      refine take_ (i := 5) (N := some 40) (v := ?_) (a' := ?_) (M8_44 441768064767) rfl rfl (take_ofW HT_.out HW_.out (by kernel_rfl)) (fun _ _ _ h => h) (Or.inl ⟨(by rfl), ?_⟩) hHeld ?_ ?_
      rotate_left
      · rintro w' ⟨s0, s1, s2, s3, s4, s5, s6, s7, s8, s9, s10, s11, s12⟩
        go_simp
        with_reducible rfl
      rotate_left
      · simp only [Act.put, List.setIfInBounds_toArray, List.set_cons_zero, List.set_cons_succ, i64_w, i32_w]
        rfl
      refine take_ (i := 8) (N := some 43) (v := ?_) (a' := ?_) (M8_44 441768065023) rfl rfl (take_ofW HT_.out HW_.out (by kernel_rfl)) (fun _ _ _ h => h) (Or.inl ⟨(by rfl), ?_⟩) hHeld ?_ ?_
      rotate_left
      · rintro w' ⟨s0, s1, s2, s3, s4, s5, s6, s7, s8, s9, s10, s11, s12⟩
        go_simp
        with_reducible rfl
      rotate_left
      · simp only [Act.put, List.setIfInBounds_toArray, List.set_cons_zero, List.set_cons_succ, i64_w, i32_w]
        rfl
      refine take_ (i := 11) (N := some 46) (v := ?_) (a' := ?_) (M8_44 441768067071) rfl rfl (take_ofW HT_.out HW_.out (by kernel_rfl)) (fun _ _ _ h => h) (Or.inl ⟨(by rfl), ?_⟩) hHeld ?_ ?_
      rotate_left
      · rintro w' ⟨s0, s1, s2, s3, s4, s5, s6, s7, s8, s9, s10, s11, s12⟩
        go_simp
        with_reducible rfl
      rotate_left
      · simp only [Act.put, List.setIfInBounds_toArray, List.set_cons_zero, List.set_cons_succ, i64_w, i32_w]
        rfl
      refine take_ (i := 14) (N := some 49) (v := ?_) (a' := ?_) (M8_44 441768083455) rfl rfl (take_ofW HT_.out HW_.out (by kernel_rfl)) (fun _ _ _ h => h) (Or.inl ⟨(by rfl), ?_⟩) hHeld ?_ ?_
      rotate_left
      · rintro w' ⟨s0, s1, s2, s3, s4, s5, s6, s7, s8, s9, s10, s11, s12⟩
        go_simp
        with_reducible rfl
      rotate_left
      · simp only [Act.put, List.setIfInBounds_toArray, List.set_cons_zero, List.set_cons_succ, i64_w, i32_w]
        rfl
      refine take_ (i := 17) (N := some 52) (v := ?_) (a' := ?_) (M8_44 441768214527) rfl rfl (take_ofW HT_.out HW_.out (by kernel_rfl)) (fun _ _ _ h => h) (Or.inl ⟨(by rfl), ?_⟩) hHeld ?_ ?_
      rotate_left
      · rintro w' ⟨s0, s1, s2, s3, s4, s5, s6, s7, s8, s9, s10, s11, s12⟩
        go_simp
        with_reducible rfl
      rotate_left
      · simp only [Act.put, List.setIfInBounds_toArray, List.set_cons_zero, List.set_cons_succ, i64_w, i32_w]
        rfl
      refine take_ (i := 20) (N := some 55) (v := ?_) (a' := ?_) (M8_44 441769263103) rfl rfl (take_ofW HT_.out HW_.out (by kernel_rfl)) (fun _ _ _ h => h) (Or.inl ⟨(by rfl), ?_⟩) hHeld ?_ ?_
      rotate_left
      · rintro w' ⟨s0, s1, s2, s3, s4, s5, s6, s7, s8, s9, s10, s11, s12⟩
        go_simp
        with_reducible rfl
      rotate_left
      · simp only [Act.put, List.setIfInBounds_toArray, List.set_cons_zero, List.set_cons_succ, i64_w, i32_w]
        rfl
      refine take_ (i := 23) (N := some 58) (v := ?_) (a' := ?_) (M8_44 441777651711) rfl rfl (take_ofW HT_.out HW_.out (by kernel_rfl)) (fun _ _ _ h => h) (Or.inl ⟨(by rfl), ?_⟩) hHeld ?_ ?_
      rotate_left
      · rintro w' ⟨s0, s1, s2, s3, s4, s5, s6, s7, s8, s9, s10, s11, s12⟩
        go_simp
        with_reducible rfl
      rotate_left
      · simp only [Act.put, List.setIfInBounds_toArray, List.set_cons_zero, List.set_cons_succ, i64_w, i32_w]
        rfl
      refine take_ (i := 26) (N := some 61) (v := ?_) (a' := ?_) (M8_44 441844760575) rfl rfl (take_ofW HT_.out HW_.out (by kernel_rfl)) (fun _ _ _ h => h) (Or.inl ⟨(by rfl), ?_⟩) hHeld ?_ ?_
      rotate_left
      · rintro w' ⟨s0, s1, s2, s3, s4, s5, s6, s7, s8, s9, s10, s11, s12⟩
        go_simp
        with_reducible rfl
      rotate_left
      · simp only [Act.put, List.setIfInBounds_toArray, List.set_cons_zero, List.set_cons_succ, i64_w, i32_w]
        rfl
      refine take_ (i := 29) (N := some 64) (v := ?_) (a' := ?_) (M8_44 442381631487) rfl rfl (take_ofW HT_.out HW_.out (by kernel_rfl)) (fun _ _ _ h => h) (Or.inl ⟨(by rfl), ?_⟩) hHeld ?_ ?_
      rotate_left
      · rintro w' ⟨s0, s1, s2, s3, s4, s5, s6, s7, s8, s9, s10, s11, s12⟩
        go_simp
        with_reducible rfl
      rotate_left
      · simp only [Act.put, List.setIfInBounds_toArray, List.set_cons_zero, List.set_cons_succ, i64_w, i32_w]
        rfl
      refine take_ (i := 32) (N := some 67) (v := ?_) (a' := ?_) (M8_44 446676598783) rfl rfl (take_ofW HT_.out HW_.out (by kernel_rfl)) (fun _ _ _ h => h) (Or.inl ⟨(by rfl), ?_⟩) hHeld ?_ ?_
      rotate_left
      · rintro w' ⟨s0, s1, s2, s3, s4, s5, s6, s7, s8, s9, s10, s11, s12⟩
        go_simp
        with_reducible rfl
      rotate_left
      · simp only [Act.put, List.setIfInBounds_toArray, List.set_cons_zero, List.set_cons_succ, i64_w, i32_w]
        rfl
      refine take_ (i := 35) (N := some 70) (v := ?_) (a' := ?_) (M8_44 481036337151) rfl rfl (take_ofW HT_.out HW_.out (by kernel_rfl)) (fun _ _ _ h => h) (Or.inl ⟨(by rfl), ?_⟩) hHeld ?_ ?_
      rotate_left
      · rintro w' ⟨s0, s1, s2, s3, s4, s5, s6, s7, s8, s9, s10, s11, s12⟩
        go_simp
        with_reducible rfl
      rotate_left
      · simp only [Act.put, List.setIfInBounds_toArray, List.set_cons_zero, List.set_cons_succ, i64_w, i32_w]
        rfl
      refine pure_ (i := 36) (N := some 71) (v := _) (a' := _) (M8_44 549755813887) rfl rfl (any_of HT_.out (by kernel_rfl)) (fun _ _ _ h => h) (Or.inl ⟨(by rfl), (by intro w'; go_simp; with_reducible rfl)⟩) Z8_17 ?_
      refine take_ (i := 39) (N := some 74) (v := ?_) (a' := ?_) (M8_44 1099511627775) rfl rfl (take_ofW HT_.out HW_.out (by kernel_rfl)) (fun _ _ _ h => h) (Or.inl ⟨(by rfl), ?_⟩) hHeld ?_ ?_
      rotate_left
      · rintro w' ⟨s0, s1, s2, s3, s4, s5, s6, s7, s8, s9, s10, s11, s12⟩
        go_simp
        with_reducible rfl
      rotate_left
      · simp only [Act.put, List.setIfInBounds_toArray, List.set_cons_zero, List.set_cons_succ, i64_w, i32_w]
        rfl
      refine pure_ (i := 40) (N := some 75) (v := _) (a' := _) (M8_44 2199023255551) rfl rfl (any_of HT_.out (by kernel_rfl)) (fun _ _ _ h => h) (Or.inl ⟨(by rfl), (by intro w'; go_simp; with_reducible rfl)⟩) Z8_17 ?_
      refine pure_ (i := 41) (N := some 76) (v := _) (a' := _) (M8_44 4398046511103) rfl rfl (any_of HT_.out (by kernel_rfl)) (fun _ _ _ h => h) (Or.inl ⟨(by rfl), (by intro w'; go_simp; with_reducible rfl)⟩) Z8_17 ?_
      refine one_ (i := 42) (N := some 10) (M8_44 8796093022207) rfl rfl (one_of HT_.out (by kernel_rfl)) (by decide) (fun K hK => ?_)
      refine box_step ?hg (N := 10) ?hd (cs := #[.int .i64 0, .int .i64 0, .int .i64 0, .int .i64 0, .int .i64 0, .int .i64 0, .int .i64 0, .int .i64 0, .int .i64 0, .int .i64 0, .int .i64 0, .bool false, .bool false]) (t := 54) ?hr ?_; (case hd => rfl); (case hg => rfl); (case hr => first | (go_simp; done) | (go_simp; rfl))
      intro gb209 hg w34 hbox hb
      have HS0_ := (hb.cell (World.block_lt_of_cell? _ _ (hHeld.1))).trans (hHeld.1)
      have HS1_ := (hb.cell (World.block_lt_of_cell? _ _ (hHeld.2.1))).trans (hHeld.2.1)
      have HS2_ := (hb.cell (World.block_lt_of_cell? _ _ (hHeld.2.2.1))).trans (hHeld.2.2.1)
      have HS3_ := (hb.cell (World.block_lt_of_cell? _ _ (hHeld.2.2.2.1))).trans (hHeld.2.2.2.1)
      have HS4_ := (hb.cell (World.block_lt_of_cell? _ _ (hHeld.2.2.2.2.1))).trans (hHeld.2.2.2.2.1)
      have HS5_ := (hb.cell (World.block_lt_of_cell? _ _ (hHeld.2.2.2.2.2.1))).trans (hHeld.2.2.2.2.2.1)
      have HS6_ := (hb.cell (World.block_lt_of_cell? _ _ (hHeld.2.2.2.2.2.2.1))).trans (hHeld.2.2.2.2.2.2.1)
      have HS7_ := (hb.cell (World.block_lt_of_cell? _ _ (hHeld.2.2.2.2.2.2.2.1))).trans (hHeld.2.2.2.2.2.2.2.1)
      have HS8_ := (hb.cell (World.block_lt_of_cell? _ _ (hHeld.2.2.2.2.2.2.2.2.1))).trans (hHeld.2.2.2.2.2.2.2.2.1)
      have HS9_ := (hb.cell (World.block_lt_of_cell? _ _ (hHeld.2.2.2.2.2.2.2.2.2.1))).trans (hHeld.2.2.2.2.2.2.2.2.2.1)
      have HS10_ := (hb.cell (World.block_lt_of_cell? _ _ (hHeld.2.2.2.2.2.2.2.2.2.2.1))).trans (hHeld.2.2.2.2.2.2.2.2.2.2.1)
      have HS11_ := (hb.cell (World.block_lt_of_cell? _ _ (hHeld.2.2.2.2.2.2.2.2.2.2.2.1))).trans (hHeld.2.2.2.2.2.2.2.2.2.2.2.1)
      have HS12_ := (hb.cell (World.block_lt_of_cell? _ _ (hHeld.2.2.2.2.2.2.2.2.2.2.2.2))).trans (hHeld.2.2.2.2.2.2.2.2.2.2.2.2)
      have n0_ := Aside0.mk Z8_15
      have n1_ := Aside0.mk Z8_7
      have n2_ := Aside0.mk Z8_12
      have n3_ := Aside0.mk (hbox)
      have n4_ := Aside0.mk Z8_8
      have n5_ := Aside0.mk Z8_8
      have n6_ := Aside0.mk Z8_5
      have n7_ := Aside0.mk Z8_6
      clear HO_7
      clear BK186
      clear HB
      have HO_7 := n0_
      have BK186 := n1_
      have HB := n2_
      have BK209 := n3_
      have GW209 := n4_
      have GE209 := n5_
      have NB186_209 := n6_
      have NB209_186 := n7_
      clear n0_ n1_ n2_ n3_ n4_ n5_ n6_ n7_
      clear hb hbox hg
      refine hK.out _ _ ⟨HS0_, HS1_, HS2_, HS3_, HS4_, HS5_, HS6_, HS7_, HS8_, HS9_, HS10_, HS11_, HS12_⟩ (fun hHeld => ?_)
      clear hK K
      refine norm_ (a' := ?_) ?_ ?_
      rotate_left
      · show Act.put _ (some 10) _ = _
        simp only [Act.put, List.setIfInBounds_toArray, List.set_cons_zero, List.set_cons_succ, i64_w, i32_w]
        rfl
      refine last_ (i := 43) (N := none) (M8_44 17592186044415) rfl rfl (one_of HT_.out (by kernel_rfl)) (by decide) (fun K hK => ?_)
      have hs35 : w34.cell? ⟨gb209, 0, none⟩ = some (.int .i64 0) := (blk_cell BK209.out 0).trans rfl
      have hfs35 := blk_frozen BK209.out 0
      have hns35_0 := NB186_209.out
      have hms35_0 := NB209_186.out
      have hs36 : w34.cell? ⟨gb209, 1, none⟩ = some (.int .i64 0) := (blk_cell BK209.out 1).trans rfl
      have hfs36 := blk_frozen BK209.out 1
      have hns36_0 := NB186_209.out
      have hms36_0 := NB209_186.out
      have hs37 : w34.cell? ⟨gb209, 2, none⟩ = some (.int .i64 0) := (blk_cell BK209.out 2).trans rfl
      have hfs37 := blk_frozen BK209.out 2
      have hns37_0 := NB186_209.out
      have hms37_0 := NB209_186.out
      have hs38 : w34.cell? ⟨gb209, 3, none⟩ = some (.int .i64 0) := (blk_cell BK209.out 3).trans rfl
      have hfs38 := blk_frozen BK209.out 3
      have hns38_0 := NB186_209.out
      have hms38_0 := NB209_186.out
      have hs39 : w34.cell? ⟨gb209, 4, none⟩ = some (.int .i64 0) := (blk_cell BK209.out 4).trans rfl
      have hfs39 := blk_frozen BK209.out 4
      have hns39_0 := NB186_209.out
      have hms39_0 := NB209_186.out
      have hs40 : w34.cell? ⟨gb209, 5, none⟩ = some (.int .i64 0) := (blk_cell BK209.out 5).trans rfl
      have hfs40 := blk_frozen BK209.out 5
      have hns40_0 := NB186_209.out
      have hms40_0 := NB209_186.out
      have hs41 : w34.cell? ⟨gb209, 6, none⟩ = some (.int .i64 0) := (blk_cell BK209.out 6).trans rfl
      have hfs41 := blk_frozen BK209.out 6
      have hns41_0 := NB186_209.out
      have hms41_0 := NB209_186.out
      have hs42 : w34.cell? ⟨gb209, 7, none⟩ = some (.int .i64 0) := (blk_cell BK209.out 7).trans rfl
      have hfs42 := blk_frozen BK209.out 7
      have hns42_0 := NB186_209.out
      have hms42_0 := NB209_186.out
      have hs43 : w34.cell? ⟨gb209, 8, none⟩ = some (.int .i64 0) := (blk_cell BK209.out 8).trans rfl
      have hfs43 := blk_frozen BK209.out 8
      have hns43_0 := NB186_209.out
      have hms43_0 := NB209_186.out
      have hs44 : w34.cell? ⟨gb209, 9, none⟩ = some (.int .i64 0) := (blk_cell BK209.out 9).trans rfl
      have hfs44 := blk_frozen BK209.out 9
      have hns44_0 := NB186_209.out
      have hms44_0 := NB209_186.out
      have hs45 : w34.cell? ⟨gb209, 10, none⟩ = some (.int .i64 0) := (blk_cell BK209.out 10).trans rfl
      have hfs45 := blk_frozen BK209.out 10
      have hns45_0 := NB186_209.out
      have hms45_0 := NB209_186.out
      have hs46 : w34.cell? ⟨gb209, 11, none⟩ = some (.bool false) := (blk_cell BK209.out 11).trans rfl
      have hfs46 := blk_frozen BK209.out 11
      have hns46_0 := NB186_209.out
      have hms46_0 := NB209_186.out
      have hs47 : w34.cell? ⟨gb209, 12, none⟩ = some (.bool false) := (blk_cell BK209.out 12).trans rfl
      have hfs47 := blk_frozen BK209.out 12
      have hns47_0 := NB186_209.out
      have hms47_0 := NB209_186.out
      refine skip_ (w1 := ?_) (by rfl) rfl ?_ ?_
      rotate_left
      · go_simp
        rfl
      refine hK.out _ _ ?_
      clear hK K
      refine done_ (done_of HT_.out (by kernel_rfl)) ?_
      have hnb48 := NB209_186.out
      have hnc48 := NB186_209.out
      have hcz49_0 : w34.cell? ⟨gb209, 0, none⟩ = some (.int .i64 0) := (blk_cell BK209.out 0).trans rfl
      have hcz49_1 : w34.cell? ⟨gb209, 1, none⟩ = some (.int .i64 0) := (blk_cell BK209.out 1).trans rfl
      have hcz49_2 : w34.cell? ⟨gb209, 2, none⟩ = some (.int .i64 0) := (blk_cell BK209.out 2).trans rfl
      have hcz49_3 : w34.cell? ⟨gb209, 3, none⟩ = some (.int .i64 0) := (blk_cell BK209.out 3).trans rfl
      have hcz49_4 : w34.cell? ⟨gb209, 4, none⟩ = some (.int .i64 0) := (blk_cell BK209.out 4).trans rfl
      have hcz49_5 : w34.cell? ⟨gb209, 5, none⟩ = some (.int .i64 0) := (blk_cell BK209.out 5).trans rfl
      have hcz49_6 : w34.cell? ⟨gb209, 6, none⟩ = some (.int .i64 0) := (blk_cell BK209.out 6).trans rfl
      have hcz49_7 : w34.cell? ⟨gb209, 7, none⟩ = some (.int .i64 0) := (blk_cell BK209.out 7).trans rfl
      have hcz49_8 : w34.cell? ⟨gb209, 8, none⟩ = some (.int .i64 0) := (blk_cell BK209.out 8).trans rfl
      have hcz49_9 : w34.cell? ⟨gb209, 9, none⟩ = some (.int .i64 0) := (blk_cell BK209.out 9).trans rfl
      have hcz49_10 : w34.cell? ⟨gb209, 10, none⟩ = some (.int .i64 0) := (blk_cell BK209.out 10).trans rfl
      have hcz49_11 : w34.cell? ⟨gb209, 11, none⟩ = some (.bool false) := (blk_cell BK209.out 11).trans rfl
      have hcz49_12 : w34.cell? ⟨gb209, 12, none⟩ = some (.bool false) := (blk_cell BK209.out 12).trans rfl
      have hfz49_0 := blk_frozen BK209.out 0
      have hfz49_1 := blk_frozen BK209.out 1
      have hfz49_2 := blk_frozen BK209.out 2
      have hfz49_3 := blk_frozen BK209.out 3
      have hfz49_4 := blk_frozen BK209.out 4
      have hfz49_5 := blk_frozen BK209.out 5
      have hfz49_6 := blk_frozen BK209.out 6
      have hfz49_7 := blk_frozen BK209.out 7
      have hfz49_8 := blk_frozen BK209.out 8
      have hfz49_9 := blk_frozen BK209.out 9
      have hfz49_10 := blk_frozen BK209.out 10
      have hfz49_11 := blk_frozen BK209.out 11
      have hfz49_12 := blk_frozen BK209.out 12
      try go_wp2_with (first | ((with_reducible refine gate_callee (f := 69) rfl ?_); refine goesL_ (some 78) rfl rfl Try.func69 (by kernel_rfl) rfl #[.agg #[.int .i64 (rd t187 0), .int .i64 (rd t187 1), .int .i64 (rd t187 2), .int .i64 (rd t187 3), .int .i64 (rd t187 4), .int .i64 (rd t187 5), .int .i64 (rd t187 6), .int .i64 (rd t187 7), .int .i64 (rd t187 8), .int .i64 (rd t187 9), .int .i64 (rd t187 10), .bool ((rd t187 11) == 1), .bool ((rd t187 12) == 1)]] rfl Z8_14 ?_; (with_reducible refine (impl_PieceOk.calls kj3 (rd t187 0) (rd t187 1) (rd t187 2) (rd t187 3) (rd t187 4) (rd t187 5) (rd t187 6) (rd t187 7) (rd t187 8) (rd t187 9) (rd t187 10) ((rd t187 11) == 1) ((rd t187 12) == 1) true _ A30.out).mono ?_); rintro e w50 ⟨rfl, hb⟩; refine ⟨_, rfl, ?_⟩; have n0_ := Aside0.mk Z8_4; have n1_ := Aside0.mk Z8_3; have n2_ := Aside0.mk Z8_1; have n3_ := Aside0.mk Z8_9; clear HO_7; clear BK186; clear BK209; clear HB; have HO_7 := n0_; have BK186 := n1_; have BK209 := n2_; have HB := n3_; clear n0_ n1_ n2_ n3_; (try clear hb); (try clear hb2); (try clear hk); (try clear hi); have hcz51_0 : w50.cell? ⟨gb209, 0, none⟩ = some (.int .i64 (rd t187 0)) := (blk_cell BK209.out 0).trans rfl; have hcz51_1 : w50.cell? ⟨gb209, 1, none⟩ = some (.int .i64 (rd t187 1)) := (blk_cell BK209.out 1).trans rfl; have hcz51_2 : w50.cell? ⟨gb209, 2, none⟩ = some (.int .i64 (rd t187 2)) := (blk_cell BK209.out 2).trans rfl; have hcz51_3 : w50.cell? ⟨gb209, 3, none⟩ = some (.int .i64 (rd t187 3)) := (blk_cell BK209.out 3).trans rfl; have hcz51_4 : w50.cell? ⟨gb209, 4, none⟩ = some (.int .i64 (rd t187 4)) := (blk_cell BK209.out 4).trans rfl; have hcz51_5 : w50.cell? ⟨gb209, 5, none⟩ = some (.int .i64 (rd t187 5)) := (blk_cell BK209.out 5).trans rfl; have hcz51_6 : w50.cell? ⟨gb209, 6, none⟩ = some (.int .i64 (rd t187 6)) := (blk_cell BK209.out 6).trans rfl; have hcz51_7 : w50.cell? ⟨gb209, 7, none⟩ = some (.int .i64 (rd t187 7)) := (blk_cell BK209.out 7).trans rfl; have hcz51_8 : w50.cell? ⟨gb209, 8, none⟩ = some (.int .i64 (rd t187 8)) := (blk_cell BK209.out 8).trans rfl; have hcz51_9 : w50.cell? ⟨gb209, 9, none⟩ = some (.int .i64 (rd t187 9)) := (blk_cell BK209.out 9).trans rfl; have hcz51_10 : w50.cell? ⟨gb209, 10, none⟩ = some (.int .i64 (rd t187 10)) := (blk_cell BK209.out 10).trans rfl; have hcz51_11 : w50.cell? ⟨gb209, 11, none⟩ = some (.bool ((rd t187 11) == 1)) := (blk_cell BK209.out 11).trans rfl; have hcz51_12 : w50.cell? ⟨gb209, 12, none⟩ = some (.bool ((rd t187 12) == 1)) := (blk_cell BK209.out 12).trans rfl; have hfz51_0 := blk_frozen BK209.out 0; have hfz51_1 := blk_frozen BK209.out 1; have hfz51_2 := blk_frozen BK209.out 2; have hfz51_3 := blk_frozen BK209.out 3; have hfz51_4 := blk_frozen BK209.out 4; have hfz51_5 := blk_frozen BK209.out 5; have hfz51_6 := blk_frozen BK209.out 6; have hfz51_7 := blk_frozen BK209.out 7; have hfz51_8 := blk_frozen BK209.out 8; have hfz51_9 := blk_frozen BK209.out 9; have hfz51_10 := blk_frozen BK209.out 10; have hfz51_11 := blk_frozen BK209.out 11; have hfz51_12 := blk_frozen BK209.out 12; have hcz52_0 : w50.cell? ⟨gb186, 0, none⟩ = some (.int .i64 0) := (blk_cell BK186.out 0).trans rfl; have hcz52_1 : w50.cell? ⟨gb186, 1, none⟩ = some (.int .i64 0) := (blk_cell BK186.out 1).trans rfl; have hcz52_2 : w50.cell? ⟨gb186, 2, none⟩ = some (.int .i64 0) := (blk_cell BK186.out 2).trans rfl; have hcz52_3 : w50.cell? ⟨gb186, 3, none⟩ = some (.int .i64 0) := (blk_cell BK186.out 3).trans rfl; have hcz52_4 : w50.cell? ⟨gb186, 4, none⟩ = some (.int .i64 0) := (blk_cell BK186.out 4).trans rfl; have hcz52_5 : w50.cell? ⟨gb186, 5, none⟩ = some (.int .i64 0) := (blk_cell BK186.out 5).trans rfl; have hcz52_6 : w50.cell? ⟨gb186, 6, none⟩ = some (.int .i64 0) := (blk_cell BK186.out 6).trans rfl; have hcz52_7 : w50.cell? ⟨gb186, 7, none⟩ = some (.int .i64 0) := (blk_cell BK186.out 7).trans rfl; have hcz52_8 : w50.cell? ⟨gb186, 8, none⟩ = some (.int .i64 0) := (blk_cell BK186.out 8).trans rfl; have hcz52_9 : w50.cell? ⟨gb186, 9, none⟩ = some (.int .i64 0) := (blk_cell BK186.out 9).trans rfl; have hcz52_10 : w50.cell? ⟨gb186, 10, none⟩ = some (.int .i64 0) := (blk_cell BK186.out 10).trans rfl; have hcz52_11 : w50.cell? ⟨gb186, 11, none⟩ = some (.bool false) := (blk_cell BK186.out 11).trans rfl; have hcz52_12 : w50.cell? ⟨gb186, 12, none⟩ = some (.bool false) := (blk_cell BK186.out 12).trans rfl; have hfz52_0 := blk_frozen BK186.out 0; have hfz52_1 := blk_frozen BK186.out 1; have hfz52_2 := blk_frozen BK186.out 2; have hfz52_3 := blk_frozen BK186.out 3; have hfz52_4 := blk_frozen BK186.out 4; have hfz52_5 := blk_frozen BK186.out 5; have hfz52_6 := blk_frozen BK186.out 6; have hfz52_7 := blk_frozen BK186.out 7; have hfz52_8 := blk_frozen BK186.out 8; have hfz52_9 := blk_frozen BK186.out 9; have hfz52_10 := blk_frozen BK186.out 10; have hfz52_11 := blk_frozen BK186.out 11; have hfz52_12 := blk_frozen BK186.out 12))
      refine bodyPost_ret (results_ctt rfl _ _ gb186 54 #[.int .i64 (rd t187 0), .int .i64 (rd t187 1), .int .i64 (rd t187 2), .int .i64 (rd t187 3), .int .i64 (rd t187 4), .int .i64 (rd t187 5), .int .i64 (rd t187 6), .int .i64 (rd t187 7), .int .i64 (rd t187 8), .int .i64 (rd t187 9), .int .i64 (rd t187 10), .bool ((rd t187 11) == 1), .bool ((rd t187 12) == 1)] (0, 0) _ rfl (by (with_reducible repeat (first | refine blk_drewN ?_ _ | refine blk_drew ?_ | refine blk_alloc ?_ _)); refine blk_put (cs := #[.int .i64 (rd t187 0), .int .i64 (rd t187 1), .int .i64 (rd t187 2), .int .i64 (rd t187 3), .int .i64 (rd t187 4), .int .i64 (rd t187 5), .int .i64 (rd t187 6), .int .i64 (rd t187 7), .int .i64 (rd t187 8), .int .i64 (rd t187 9), .int .i64 (rd t187 10), .bool ((rd t187 11) == 1), .bool false]) ?_ 12 _ rfl; (with_reducible repeat (first | refine blk_drewN ?_ _ | refine blk_drew ?_ | refine blk_alloc ?_ _)); refine blk_put (cs := #[.int .i64 (rd t187 0), .int .i64 (rd t187 1), .int .i64 (rd t187 2), .int .i64 (rd t187 3), .int .i64 (rd t187 4), .int .i64 (rd t187 5), .int .i64 (rd t187 6), .int .i64 (rd t187 7), .int .i64 (rd t187 8), .int .i64 (rd t187 9), .int .i64 (rd t187 10), .bool false, .bool false]) ?_ 11 _ rfl; (with_reducible repeat (first | refine blk_drewN ?_ _ | refine blk_drew ?_ | refine blk_alloc ?_ _)); refine blk_put (cs := #[.int .i64 (rd t187 0), .int .i64 (rd t187 1), .int .i64 (rd t187 2), .int .i64 (rd t187 3), .int .i64 (rd t187 4), .int .i64 (rd t187 5), .int .i64 (rd t187 6), .int .i64 (rd t187 7), .int .i64 (rd t187 8), .int .i64 (rd t187 9), .int .i64 0, .bool false, .bool false]) ?_ 10 _ rfl; (with_reducible repeat (first | refine blk_drewN ?_ _ | refine blk_drew ?_ | refine blk_alloc ?_ _)); refine blk_put (cs := #[.int .i64 (rd t187 0), .int .i64 (rd t187 1), .int .i64 (rd t187 2), .int .i64 (rd t187 3), .int .i64 (rd t187 4), .int .i64 (rd t187 5), .int .i64 (rd t187 6), .int .i64 (rd t187 7), .int .i64 (rd t187 8), .int .i64 0, .int .i64 0, .bool false, .bool false]) ?_ 9 _ rfl; (with_reducible repeat (first | refine blk_drewN ?_ _ | refine blk_drew ?_ | refine blk_alloc ?_ _)); refine blk_put (cs := #[.int .i64 (rd t187 0), .int .i64 (rd t187 1), .int .i64 (rd t187 2), .int .i64 (rd t187 3), .int .i64 (rd t187 4), .int .i64 (rd t187 5), .int .i64 (rd t187 6), .int .i64 (rd t187 7), .int .i64 0, .int .i64 0, .int .i64 0, .bool false, .bool false]) ?_ 8 _ rfl; (with_reducible repeat (first | refine blk_drewN ?_ _ | refine blk_drew ?_ | refine blk_alloc ?_ _)); refine blk_put (cs := #[.int .i64 (rd t187 0), .int .i64 (rd t187 1), .int .i64 (rd t187 2), .int .i64 (rd t187 3), .int .i64 (rd t187 4), .int .i64 (rd t187 5), .int .i64 (rd t187 6), .int .i64 0, .int .i64 0, .int .i64 0, .int .i64 0, .bool false, .bool false]) ?_ 7 _ rfl; (with_reducible repeat (first | refine blk_drewN ?_ _ | refine blk_drew ?_ | refine blk_alloc ?_ _)); refine blk_put (cs := #[.int .i64 (rd t187 0), .int .i64 (rd t187 1), .int .i64 (rd t187 2), .int .i64 (rd t187 3), .int .i64 (rd t187 4), .int .i64 (rd t187 5), .int .i64 0, .int .i64 0, .int .i64 0, .int .i64 0, .int .i64 0, .bool false, .bool false]) ?_ 6 _ rfl; (with_reducible repeat (first | refine blk_drewN ?_ _ | refine blk_drew ?_ | refine blk_alloc ?_ _)); refine blk_put (cs := #[.int .i64 (rd t187 0), .int .i64 (rd t187 1), .int .i64 (rd t187 2), .int .i64 (rd t187 3), .int .i64 (rd t187 4), .int .i64 0, .int .i64 0, .int .i64 0, .int .i64 0, .int .i64 0, .int .i64 0, .bool false, .bool false]) ?_ 5 _ rfl; (with_reducible repeat (first | refine blk_drewN ?_ _ | refine blk_drew ?_ | refine blk_alloc ?_ _)); refine blk_put (cs := #[.int .i64 (rd t187 0), .int .i64 (rd t187 1), .int .i64 (rd t187 2), .int .i64 (rd t187 3), .int .i64 0, .int .i64 0, .int .i64 0, .int .i64 0, .int .i64 0, .int .i64 0, .int .i64 0, .bool false, .bool false]) ?_ 4 _ rfl; (with_reducible repeat (first | refine blk_drewN ?_ _ | refine blk_drew ?_ | refine blk_alloc ?_ _)); refine blk_put (cs := #[.int .i64 (rd t187 0), .int .i64 (rd t187 1), .int .i64 (rd t187 2), .int .i64 0, .int .i64 0, .int .i64 0, .int .i64 0, .int .i64 0, .int .i64 0, .int .i64 0, .int .i64 0, .bool false, .bool false]) ?_ 3 _ rfl; (with_reducible repeat (first | refine blk_drewN ?_ _ | refine blk_drew ?_ | refine blk_alloc ?_ _)); refine blk_put (cs := #[.int .i64 (rd t187 0), .int .i64 (rd t187 1), .int .i64 0, .int .i64 0, .int .i64 0, .int .i64 0, .int .i64 0, .int .i64 0, .int .i64 0, .int .i64 0, .int .i64 0, .bool false, .bool false]) ?_ 2 _ rfl; (with_reducible repeat (first | refine blk_drewN ?_ _ | refine blk_drew ?_ | refine blk_alloc ?_ _)); refine blk_put (cs := #[.int .i64 (rd t187 0), .int .i64 0, .int .i64 0, .int .i64 0, .int .i64 0, .int .i64 0, .int .i64 0, .int .i64 0, .int .i64 0, .int .i64 0, .int .i64 0, .bool false, .bool false]) ?_ 1 _ rfl; (with_reducible repeat (first | refine blk_drewN ?_ _ | refine blk_drew ?_ | refine blk_alloc ?_ _)); refine blk_put (cs := #[.int .i64 0, .int .i64 0, .int .i64 0, .int .i64 0, .int .i64 0, .int .i64 0, .int .i64 0, .int .i64 0, .int .i64 0, .int .i64 0, .int .i64 0, .bool false, .bool false]) ?_ 0 _ rfl; (with_reducible repeat (first | refine blk_drewN ?_ _ | refine blk_drew ?_ | refine blk_alloc ?_ _)); exact BK186.out) Try.underlying54 rfl (by kernel_rfl)) rfl ?_
      exact ⟨Z8_19, Z8_10⟩

end Go.Proofs.Ytfpbbikhcnpceaa.QFnExactGetPiece
