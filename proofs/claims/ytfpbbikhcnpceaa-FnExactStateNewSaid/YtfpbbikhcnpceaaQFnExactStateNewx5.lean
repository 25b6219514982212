-- Written by a program of this session (patch_print.py over the print).
import Derived.Test.YtfpbbikhcnpceaaQFnExactStateNewx0
import Derived.Test.YtfpbbikhcnpceaaQFnExactStateNewx2
import Derived.Test.YtfpbbikhcnpceaaQFnExactStateNewx3
import Derived.Test.YtfpbbikhcnpceaaQFnExactStateNewx4
namespace Go.Proofs.Ytfpbbikhcnpceaa.QFnExactStateNew
open Go.RowKit Go.Proofs.YtfpbbikhcnpceaaW.PrintWords Go.Proofs.YtfpbbikhcnpceaaW.PrintLast Go.Proofs.YtfpbbikhcnpceaaW.PrintMore
attribute [local go_sem] max2_int min2_int max_two min_two max_three min_three max_four min_four   -- for this text's walks alone
set_option linter.unusedVariables false
set_option linter.unusedSimpArgs false

theorem Z5_1 {p : Prop} (h : p := by exact (blk_below (g := gb185) (o := .cells #[.slice Ao16 t177.length co16, .slice Ao19 t180.length co19, .int .i64 t183, .int .i64 t184] 84 (0, 0)) (by (with_reducible repeat (first | refine blk_drewN ?_ _ | refine blk_drew ?_ | refine blk_alloc ?_ _)); refine blk_put (cs := #[.slice Ao16 t177.length co16, .slice Ao19 t180.length co19, .int .i64 t183, .int .i64 0]) ?_ 3 _ rfl; (with_reducible repeat (first | refine blk_drewN ?_ _ | refine blk_drew ?_ | refine blk_alloc ?_ _)); refine blk_put (cs := #[.slice Ao16 t177.length co16, .slice Ao19 t180.length co19, .int .i64 0, .int .i64 0]) ?_ 2 _ rfl; (with_reducible repeat (first | refine blk_drewN ?_ _ | refine blk_drew ?_ | refine blk_alloc ?_ _)); refine blk_put (cs := #[.slice Ao16 t177.length co16, .slice none 0 0, .int .i64 0, .int .i64 0]) ?_ 1 _ rfl; (with_reducible repeat (first | refine blk_drewN ?_ _ | refine blk_drew ?_ | refine blk_alloc ?_ _)); refine blk_put (cs := #[.slice none 0 0, .slice none 0 0, .int .i64 0, .int .i64 0]) ?_ 0 _ rfl; (with_reducible repeat (first | refine blk_drewN ?_ _ | refine blk_drew ?_ | refine blk_alloc ?_ _)); exact BK185.out) hb)) : p := h
theorem Z5_2 {p : Prop} (h : p := by exact (blk_below (g := gb199) (o := .cells #[.slice Ao51 t191.length co51, .slice Ao55 t194.length co55, .int .i64 t197, .int .i64 t198] 84 (0, 0)) (by (with_reducible repeat (first | refine blk_drewN ?_ _ | refine blk_drew ?_ | refine blk_alloc ?_ _)); refine blk_put (cs := #[.slice Ao51 t191.length co51, .slice Ao55 t194.length co55, .int .i64 t197, .int .i64 0]) ?_ 3 _ rfl; (with_reducible repeat (first | refine blk_drewN ?_ _ | refine blk_drew ?_ | refine blk_alloc ?_ _)); refine blk_put (cs := #[.slice Ao51 t191.length co51, .slice Ao55 t194.length co55, .int .i64 0, .int .i64 0]) ?_ 2 _ rfl; (with_reducible repeat (first | refine blk_drewN ?_ _ | refine blk_drew ?_ | refine blk_alloc ?_ _)); refine blk_put (cs := #[.slice Ao51 t191.length co51, .slice none 0 0, .int .i64 0, .int .i64 0]) ?_ 1 _ rfl; (with_reducible repeat (first | refine blk_drewN ?_ _ | refine blk_drew ?_ | refine blk_alloc ?_ _)); refine blk_put (cs := #[.slice none 0 0, .slice none 0 0, .int .i64 0, .int .i64 0]) ?_ 0 _ rfl; (with_reducible repeat (first | refine blk_drewN ?_ _ | refine blk_drew ?_ | refine blk_alloc ?_ _)); exact BK199.out) hb)) : p := h
theorem Z5_3 {p : Prop} (h : p := by exact (blk_below (g := gb176) (o := .cells #[.slice Ao11 t168.length co11, .slice Ao13 t171.length co13, .int .i64 t174, .int .i64 t175] 84 (0, 0)) (by (with_reducible repeat (first | refine blk_drewN ?_ _ | refine blk_drew ?_ | refine blk_alloc ?_ _)); refine blk_far ?_ NB176_185.out _; (with_reducible repeat (first | refine blk_drewN ?_ _ | refine blk_drew ?_ | refine blk_alloc ?_ _)); refine blk_far ?_ NB176_185.out _; (with_reducible repeat (first | refine blk_drewN ?_ _ | refine blk_drew ?_ | refine blk_alloc ?_ _)); refine blk_far ?_ NB176_185.out _; (with_reducible repeat (first | refine blk_drewN ?_ _ | refine blk_drew ?_ | refine blk_alloc ?_ _)); refine blk_far ?_ NB176_185.out _; (with_reducible repeat (first | refine blk_drewN ?_ _ | refine blk_drew ?_ | refine blk_alloc ?_ _)); exact BK176.out) hb)) : p := h
theorem Z5_4 {p : Prop} (h : p := by exact (blk_below (g := gb176) (o := .cells #[.slice Ao11 t168.length co11, .slice Ao13 t171.length co13, .int .i64 t174, .int .i64 t175] 84 (0, 0)) (by (with_reducible repeat (first | refine blk_drewN ?_ _ | refine blk_drew ?_ | refine blk_alloc ?_ _)); refine blk_far ?_ NB176_199.out _; (with_reducible repeat (first | refine blk_drewN ?_ _ | refine blk_drew ?_ | refine blk_alloc ?_ _)); refine blk_far ?_ NB176_199.out _; (with_reducible repeat (first | refine blk_drewN ?_ _ | refine blk_drew ?_ | refine blk_alloc ?_ _)); refine blk_far ?_ NB176_199.out _; (with_reducible repeat (first | refine blk_drewN ?_ _ | refine blk_drew ?_ | refine blk_alloc ?_ _)); refine blk_far ?_ NB176_199.out _; (with_reducible repeat (first | refine blk_drewN ?_ _ | refine blk_drew ?_ | refine blk_alloc ?_ _)); exact BK176.out) hb)) : p := h
theorem Z5_5 {p : Prop} (h : p := by exact (blk_below (g := gb185) (o := .cells #[.slice Ao16 t177.length co16, .slice Ao19 t180.length co19, .int .i64 t183, .int .i64 t184] 84 (0, 0)) (by (with_reducible repeat (first | refine blk_drewN ?_ _ | refine blk_drew ?_ | refine blk_alloc ?_ _)); refine blk_far ?_ NB185_199.out _; (with_reducible repeat (first | refine blk_drewN ?_ _ | refine blk_drew ?_ | refine blk_alloc ?_ _)); refine blk_far ?_ NB185_199.out _; (with_reducible repeat (first | refine blk_drewN ?_ _ | refine blk_drew ?_ | refine blk_alloc ?_ _)); refine blk_far ?_ NB185_199.out _; (with_reducible repeat (first | refine blk_drewN ?_ _ | refine blk_drew ?_ | refine blk_alloc ?_ _)); refine blk_far ?_ NB185_199.out _; (with_reducible repeat (first | refine blk_drewN ?_ _ | refine blk_drew ?_ | refine blk_alloc ?_ _)); exact BK185.out) hb)) : p := h
theorem Z5_20 {p : Prop} (h : p := by (with_reducible repeat (first | apply Kd.R_alloc | apply Kd.R_drewN | apply Kd.R_drew)); exact (Kd.R_mono (Kd.R_far (p := ⟨gb185, 3, none⟩) (Kd.R_far (p := ⟨gb185, 2, none⟩) (Kd.R_far (p := ⟨gb185, 1, none⟩) (Kd.R_far (p := ⟨gb185, 0, none⟩) (Kd.R_types HO170.out BK185.out (by decide)) (fun _ hk => hk.2) (.slice Ao16 t177.length co16)) (fun _ hk => hk.2) (.slice Ao19 t180.length co19)) (fun _ hk => hk.2) (.int .i64 t183)) (fun _ hk => hk.2) (.int .i64 t184)) (fun _ h_ => h_.1))) : p := h
theorem Z5_6 {p : Prop} (h : p := by exact (Kd.R_below Z5_20 hb)) : p := h
theorem Z5_21 {p : Prop} (h : p := by (with_reducible repeat (first | apply Kd.R_alloc | apply Kd.R_drewN | apply Kd.R_drew)); exact (Kd.R_mono (Kd.R_far (p := ⟨gb185, 3, none⟩) (Kd.R_far (p := ⟨gb185, 2, none⟩) (Kd.R_far (p := ⟨gb185, 1, none⟩) (Kd.R_far (p := ⟨gb185, 0, none⟩) (Kd.R_types HO173.out BK185.out (by decide)) (fun _ hk => hk.2) (.slice Ao16 t177.length co16)) (fun _ hk => hk.2) (.slice Ao19 t180.length co19)) (fun _ hk => hk.2) (.int .i64 t183)) (fun _ hk => hk.2) (.int .i64 t184)) (fun _ h_ => h_.1))) : p := h
theorem Z5_7 {p : Prop} (h : p := by exact (Kd.R_below Z5_21 hb)) : p := h
theorem Z5_18 {p : Prop} (h : p := by (with_reducible repeat (first | apply Kd.R_alloc | apply Kd.R_drewN | apply Kd.R_drew)); exact (Kd.R_mono (Kd.R_far (p := ⟨gb185, 3, none⟩) (Kd.R_far (p := ⟨gb185, 2, none⟩) (Kd.R_far (p := ⟨gb185, 1, none⟩) (Kd.R_far (p := ⟨gb185, 0, none⟩) (Kd.R_types HO179.out BK185.out (by decide)) (fun _ hk => hk.2) (.slice Ao16 t177.length co16)) (fun _ hk => hk.2) (.slice Ao19 t180.length co19)) (fun _ hk => hk.2) (.int .i64 t183)) (fun _ hk => hk.2) (.int .i64 t184)) (fun _ h_ => h_.1))) : p := h
theorem Z5_8 {p : Prop} (h : p := by exact (Kd.R_below Z5_18 hb)) : p := h
theorem Z5_19 {p : Prop} (h : p := by (with_reducible repeat (first | apply Kd.R_alloc | apply Kd.R_drewN | apply Kd.R_drew)); exact (Kd.R_mono (Kd.R_far (p := ⟨gb185, 3, none⟩) (Kd.R_far (p := ⟨gb185, 2, none⟩) (Kd.R_far (p := ⟨gb185, 1, none⟩) (Kd.R_far (p := ⟨gb185, 0, none⟩) (Kd.R_types HO182.out BK185.out (by decide)) (fun _ hk => hk.2) (.slice Ao16 t177.length co16)) (fun _ hk => hk.2) (.slice Ao19 t180.length co19)) (fun _ hk => hk.2) (.int .i64 t183)) (fun _ hk => hk.2) (.int .i64 t184)) (fun _ h_ => h_.1))) : p := h
theorem Z5_9 {p : Prop} (h : p := by exact (Kd.R_below Z5_19 hb)) : p := h
theorem Z5_24 {p : Prop} (h : p := by (with_reducible repeat (first | apply Kd.R_alloc | apply Kd.R_drewN | apply Kd.R_drew)); exact (Kd.R_mono (Kd.R_far (p := ⟨gb199, 3, none⟩) (Kd.R_far (p := ⟨gb199, 2, none⟩) (Kd.R_far (p := ⟨gb199, 1, none⟩) (Kd.R_far (p := ⟨gb199, 0, none⟩) (Kd.R_types HO170.out BK199.out (by decide)) (fun _ hk => hk.2) (.slice Ao51 t191.length co51)) (fun _ hk => hk.2) (.slice Ao55 t194.length co55)) (fun _ hk => hk.2) (.int .i64 t197)) (fun _ hk => hk.2) (.int .i64 t198)) (fun _ h_ => h_.1))) : p := h
theorem Z5_10 {p : Prop} (h : p := by exact (Kd.R_below Z5_24 hb)) : p := h
theorem Z5_25 {p : Prop} (h : p := by (with_reducible repeat (first | apply Kd.R_alloc | apply Kd.R_drewN | apply Kd.R_drew)); exact (Kd.R_mono (Kd.R_far (p := ⟨gb199, 3, none⟩) (Kd.R_far (p := ⟨gb199, 2, none⟩) (Kd.R_far (p := ⟨gb199, 1, none⟩) (Kd.R_far (p := ⟨gb199, 0, none⟩) (Kd.R_types HO173.out BK199.out (by decide)) (fun _ hk => hk.2) (.slice Ao51 t191.length co51)) (fun _ hk => hk.2) (.slice Ao55 t194.length co55)) (fun _ hk => hk.2) (.int .i64 t197)) (fun _ hk => hk.2) (.int .i64 t198)) (fun _ h_ => h_.1))) : p := h
theorem Z5_11 {p : Prop} (h : p := by exact (Kd.R_below Z5_25 hb)) : p := h
theorem Z5_12 {p : Prop} (h : p := by exact (Kd.R_below (by (with_reducible repeat (first | apply Kd.R_alloc | apply Kd.R_drewN | apply Kd.R_drew)); exact (Kd.R_mono (Kd.R_far (p := ⟨gb199, 3, none⟩) (Kd.R_far (p := ⟨gb199, 2, none⟩) (Kd.R_far (p := ⟨gb199, 1, none⟩) (Kd.R_far (p := ⟨gb199, 0, none⟩) (Kd.R_types HO179.out BK199.out (by decide)) (fun _ hk => hk.2) (.slice Ao51 t191.length co51)) (fun _ hk => hk.2) (.slice Ao55 t194.length co55)) (fun _ hk => hk.2) (.int .i64 t197)) (fun _ hk => hk.2) (.int .i64 t198)) (fun _ h_ => h_.1))) hb)) : p := h
theorem Z5_13 {p : Prop} (h : p := by exact (Kd.R_below (by (with_reducible repeat (first | apply Kd.R_alloc | apply Kd.R_drewN | apply Kd.R_drew)); exact (Kd.R_mono (Kd.R_far (p := ⟨gb199, 3, none⟩) (Kd.R_far (p := ⟨gb199, 2, none⟩) (Kd.R_far (p := ⟨gb199, 1, none⟩) (Kd.R_far (p := ⟨gb199, 0, none⟩) (Kd.R_types HO182.out BK199.out (by decide)) (fun _ hk => hk.2) (.slice Ao51 t191.length co51)) (fun _ hk => hk.2) (.slice Ao55 t194.length co55)) (fun _ hk => hk.2) (.int .i64 t197)) (fun _ hk => hk.2) (.int .i64 t198)) (fun _ h_ => h_.1))) hb)) : p := h
theorem Z5_22 {p : Prop} (h : p := by (with_reducible repeat (first | apply Kd.R_alloc | apply Kd.R_drewN | apply Kd.R_drew)); exact (Kd.R_mono (Kd.R_far (p := ⟨gb199, 3, none⟩) (Kd.R_far (p := ⟨gb199, 2, none⟩) (Kd.R_far (p := ⟨gb199, 1, none⟩) (Kd.R_far (p := ⟨gb199, 0, none⟩) (Kd.R_types HO193.out BK199.out (by decide)) (fun _ hk => hk.2) (.slice Ao51 t191.length co51)) (fun _ hk => hk.2) (.slice Ao55 t194.length co55)) (fun _ hk => hk.2) (.int .i64 t197)) (fun _ hk => hk.2) (.int .i64 t198)) (fun _ h_ => h_.1))) : p := h
theorem Z5_14 {p : Prop} (h : p := by exact (Kd.R_below Z5_22 hb)) : p := h
theorem Z5_23 {p : Prop} (h : p := by (with_reducible repeat (first | apply Kd.R_alloc | apply Kd.R_drewN | apply Kd.R_drew)); exact (Kd.R_mono (Kd.R_far (p := ⟨gb199, 3, none⟩) (Kd.R_far (p := ⟨gb199, 2, none⟩) (Kd.R_far (p := ⟨gb199, 1, none⟩) (Kd.R_far (p := ⟨gb199, 0, none⟩) (Kd.R_types HO196.out BK199.out (by decide)) (fun _ hk => hk.2) (.slice Ao51 t191.length co51)) (fun _ hk => hk.2) (.slice Ao55 t194.length co55)) (fun _ hk => hk.2) (.int .i64 t197)) (fun _ hk => hk.2) (.int .i64 t198)) (fun _ h_ => h_.1))) : p := h
theorem Z5_15 {p : Prop} (h : p := by exact (Kd.R_below Z5_23 hb)) : p := h
theorem Z5_16 {p : Prop} (h : p := by (with_reducible repeat (first | apply Kd.R_alloc | apply Kd.R_drewN | apply Kd.R_drew)); exact (Kd.R_mono (Kd.R_far (p := ⟨gb176, 3, none⟩) (Kd.R_far (p := ⟨gb176, 2, none⟩) (Kd.R_far (p := ⟨gb176, 1, none⟩) (Kd.R_far (p := ⟨gb176, 0, none⟩) (Kd.R_types HO170.out BK176.out (by decide)) (fun _ hk => hk.2) (.slice Ao11 t168.length co11)) (fun _ hk => hk.2) (.slice Ao13 t171.length co13)) (fun _ hk => hk.2) (.int .i64 t174)) (fun _ hk => hk.2) (.int .i64 t175)) (fun _ h_ => h_.1))) : p := h
theorem Z5_17 {p : Prop} (h : p := by (with_reducible repeat (first | apply Kd.R_alloc | apply Kd.R_drewN | apply Kd.R_drew)); exact (Kd.R_mono (Kd.R_far (p := ⟨gb176, 3, none⟩) (Kd.R_far (p := ⟨gb176, 2, none⟩) (Kd.R_far (p := ⟨gb176, 1, none⟩) (Kd.R_far (p := ⟨gb176, 0, none⟩) (Kd.R_types HO173.out BK176.out (by decide)) (fun _ hk => hk.2) (.slice Ao11 t168.length co11)) (fun _ hk => hk.2) (.slice Ao13 t171.length co13)) (fun _ hk => hk.2) (.int .i64 t174)) (fun _ hk => hk.2) (.int .i64 t175)) (fun _ h_ => h_.1))) : p := h
theorem Z5_26 {p : Prop} (h : p := by exact ((by rw [hg]; exact Nat.ne_of_lt (blk_lt (g := gb176) (o := .cells #[.slice Ao11 t168.length co11, .slice Ao13 t171.length co13, .int .i64 t174, .int .i64 t175] 84 (0, 0)) (by (with_reducible repeat (first | refine blk_drewN ?_ _ | refine blk_drew ?_ | refine blk_alloc ?_ _)); exact BK176.out)) : gb176 ≠ gb185))) : p := h
theorem Z5_27 {p : Prop} (h : p := by exact ((by rw [hg]; exact Nat.ne_of_gt (blk_lt (g := gb176) (o := .cells #[.slice Ao11 t168.length co11, .slice Ao13 t171.length co13, .int .i64 t174, .int .i64 t175] 84 (0, 0)) (by (with_reducible repeat (first | refine blk_drewN ?_ _ | refine blk_drew ?_ | refine blk_alloc ?_ _)); exact BK176.out)) : gb185 ≠ gb176))) : p := h
theorem Z5_28 {p : Prop} (h : p := by exact ((by rw [hg]; exact Nat.ne_of_lt (blk_lt (g := gb176) (o := .cells #[.slice Ao11 t168.length co11, .slice Ao13 t171.length co13, .int .i64 t174, .int .i64 t175] 84 (0, 0)) (by (with_reducible repeat (first | refine blk_drewN ?_ _ | refine blk_drew ?_ | refine blk_alloc ?_ _)); exact BK176.out)) : gb176 ≠ gb199))) : p := h
theorem Z5_29 {p : Prop} (h : p := by exact ((by rw [hg]; exact Nat.ne_of_gt (blk_lt (g := gb176) (o := .cells #[.slice Ao11 t168.length co11, .slice Ao13 t171.length co13, .int .i64 t174, .int .i64 t175] 84 (0, 0)) (by (with_reducible repeat (first | refine blk_drewN ?_ _ | refine blk_drew ?_ | refine blk_alloc ?_ _)); exact BK176.out)) : gb199 ≠ gb176))) : p := h
theorem Z5_30 {p : Prop} (h : p := by exact ((by rw [hg]; exact Nat.ne_of_lt (blk_lt (g := gb185) (o := .cells #[.slice Ao16 t177.length co16, .slice Ao19 t180.length co19, .int .i64 t183, .int .i64 t184] 84 (0, 0)) (by (with_reducible repeat (first | refine blk_drewN ?_ _ | refine blk_drew ?_ | refine blk_alloc ?_ _)); exact BK185.out)) : gb185 ≠ gb199))) : p := h
theorem Z5_31 {p : Prop} (h : p := by exact ((by rw [hg]; exact Nat.ne_of_gt (blk_lt (g := gb185) (o := .cells #[.slice Ao16 t177.length co16, .slice Ao19 t180.length co19, .int .i64 t183, .int .i64 t184] 84 (0, 0)) (by (with_reducible repeat (first | refine blk_drewN ?_ _ | refine blk_drew ?_ | refine blk_alloc ?_ _)); exact BK185.out)) : gb199 ≠ gb185))) : p := h
theorem Z5_32 {p : Prop} (h : p := by (try simp only [List.map_toArray, List.map_cons, List.map_nil]); first | done | (rw [show t188.length = t177.length from (Kd.R_reads' HO179.out).1.symm, show t189.length = t180.length from (Kd.R_reads' HO182.out).1.symm] <;> rfl) | rfl | (simp only [List.length_drop, List.length_take]; rfl)) : p := h
theorem Z5_33 {p : Prop} (h : p := by exact (blk_below (g := gb176) (o := .cells #[.slice Ao11 t168.length co11, .slice Ao13 t171.length co13, .int .i64 t174, .int .i64 t175] 84 (0, 0)) (by (with_reducible repeat (first | refine blk_drewN ?_ _ | refine blk_drew ?_ | refine blk_alloc ?_ _)); exact BK176.out) hb)) : p := h
theorem Z5_34 {p : Prop} (h : p := by exact (blk_below (g := gb185) (o := .cells #[.slice Ao16 t177.length co16, .slice Ao19 t180.length co19, .int .i64 t183, .int .i64 t184] 84 (0, 0)) (by (with_reducible repeat (first | refine blk_drewN ?_ _ | refine blk_drew ?_ | refine blk_alloc ?_ _)); exact BK185.out) hb)) : p := h
theorem Z5_35 {p : Prop} (h : p := by exact (blk_below (g := gb199) (o := .cells #[.slice Ao51 t191.length co51, .slice Ao55 t194.length co55, .int .i64 t197, .int .i64 t198] 84 (0, 0)) (by (with_reducible repeat (first | refine blk_drewN ?_ _ | refine blk_drew ?_ | refine blk_alloc ?_ _)); exact BK199.out) hb)) : p := h
theorem Z5_41 {p : Prop} (h : p := by repeat (first | (with_reducible first | exact HB.out | apply below_alloc | apply pw_below_drewN | apply below_drew1 | refine below_set ?_ GE176.out | refine below_set ?_ GE185.out) | exact HB.out)) : p := h
theorem Z5_36 {p : Prop} (h : p := by exact ((by rw [hg]; exact (below_size Z5_41) : w.heap.size ≤ gb199))) : p := h
theorem Z5_38 {p : Prop} (h : p := by repeat (first | (with_reducible first | exact HB.out | apply below_alloc | apply pw_below_drewN | apply below_drew1 | refine below_set ?_ GE176.out | refine below_set ?_ GE185.out | refine below_set ?_ GE199.out) | exact HB.out)) : p := h
theorem Z5_37 {p : Prop} (h : p := by exact (below_step Z5_38 hb)) : p := h
theorem Z5_46 {p : Prop} (h : p := by repeat (first | (with_reducible first | exact HB.out | apply below_alloc | apply pw_below_drewN | apply below_drew1 | refine below_set ?_ GE176.out) | exact HB.out)) : p := h
theorem Z5_39 {p : Prop} (h : p := by exact ((by rw [hg]; exact (below_size Z5_46) : w.heap.size ≤ gb185))) : p := h
theorem Z5_40 {p : Prop} (h : p := by exact (below_step Z5_41 hb)) : p := h
theorem Z5_49 {p : Prop} (h : p := by repeat (first | (with_reducible first | exact HB.out | apply below_alloc | apply pw_below_drewN | apply below_drew1) | exact HB.out)) : p := h
theorem Z5_42 {p : Prop} (h : p := by exact ((by rw [hg]; exact (below_size Z5_49) : w.heap.size ≤ gb165))) : p := h
theorem Z5_43 {p : Prop} (h : p := by exact ((by rw [hg]; exact (below_size Z5_49) : w.heap.size ≤ gb176))) : p := h
theorem Z5_44 {p : Prop} (h : p := by exact (below_step Z5_46 hb)) : p := h
theorem Z5_45 {p : Prop} (h : p := by repeat (first | (with_reducible first | exact HB.out | apply below_alloc | apply pw_below_drewN | apply below_drew1 | refine below_set ?_ GE165.out) | exact HB.out)) : p := h
theorem Z5_47 {p : Prop} (h : p := by exact (below_step Z5_49 hb)) : p := h
theorem Z5_48 {p : Prop} (h : p := by (try simp only [List.map_toArray, List.map_cons, List.map_nil]); first | done | rfl | (simp only [List.length_drop, List.length_take]; rfl)) : p := h
theorem Z5_56 {p : Prop} (h : p := by (with_reducible repeat (first | apply Kd.R_alloc | apply Kd.R_drewN | apply Kd.R_drew)); exact HO170.out) : p := h
theorem Z5_50 {p : Prop} (h : p := by exact (Kd.R_below Z5_56 hb)) : p := h
theorem Z5_57 {p : Prop} (h : p := by (with_reducible repeat (first | apply Kd.R_alloc | apply Kd.R_drewN | apply Kd.R_drew)); exact HO173.out) : p := h
theorem Z5_51 {p : Prop} (h : p := by exact (Kd.R_below Z5_57 hb)) : p := h
theorem Z5_58 {p : Prop} (h : p := by (with_reducible repeat (first | apply Kd.R_alloc | apply Kd.R_drewN | apply Kd.R_drew)); exact HO179.out) : p := h
theorem Z5_52 {p : Prop} (h : p := by exact (Kd.R_below Z5_58 hb)) : p := h
theorem Z5_59 {p : Prop} (h : p := by (with_reducible repeat (first | apply Kd.R_alloc | apply Kd.R_drewN | apply Kd.R_drew)); exact HO182.out) : p := h
theorem Z5_53 {p : Prop} (h : p := by exact (Kd.R_below Z5_59 hb)) : p := h
theorem Z5_54 {p : Prop} (h : p := by exact (Kd.R_below (by (with_reducible repeat (first | apply Kd.R_alloc | apply Kd.R_drewN | apply Kd.R_drew)); exact HO193.out) hb)) : p := h
theorem Z5_55 {p : Prop} (h : p := by exact (Kd.R_below (by (with_reducible repeat (first | apply Kd.R_alloc | apply Kd.R_drewN | apply Kd.R_drew)); exact HO196.out) hb)) : p := h
theorem Z5_60 {p : Prop} (h : p := by first | rfl | (simp [errW_none, errW_some] <;> rfl) | (simp [*, errW_none, errW_some] <;> rfl)) : p := h
theorem Z5_61 {p : Prop} (h : p := by repeat (first | exact Drawn0.refl _ | apply Drawn0.step)) : p := h
theorem Z5_62 {p : Prop} (h : p := by first | (with_reducible assumption) | assumption) : p := h
theorem Z5_63 {p : Prop} (h : p := by first | rfl | (simp; done) | (simp [*]; done)) : p := h
/-! ### laws_heldSideS: function 138 -/
def laws_heldSideS.l0 : Nat → List (S118) → Int → Int → Option (Int)
  | 0, _, _, _ => none
  | k + 1, x0, x1, x5 => if x5 < (x0.length : Int) then (if 0 ≤ x5 then (if ((rd_T118 x0 x5).f0) = x1 then (if ((rd_T118 x0 x5).f1) = (wrap64 (x1 + 1)) then (if (((rd_T118 x0 x5).f2) != ((Int.tmod (wrap64 ((wrap64 (x1 + 1)) + 1)) 3) == 0)) = true then (some (-1)) else (laws_heldSideS.l0 k x0 (wrap64 ((wrap64 ((wrap64 (x1 + 1)) + 1)) + 1)) (wrap64 (x5 + 1)))) else (some (-1))) else (some (-1))) else (none)) else (some x1)
def laws_heldSideS.f (k : Nat) (l0 : List (S118)) (a1 : Int) : Option (Int) := laws_heldSideS.l0 k l0 a1 0
theorem laws_heldSideS.mono_l : ∀ k, (∀ y0 y1 y2, LeO (laws_heldSideS.l0 k y0 y1 y2) (laws_heldSideS.l0 (k + 1) y0 y1 y2))
  | 0 => fun _ _ _ r h => by simp [laws_heldSideS.l0] at h
  | k + 1 => by
    have ih0 := laws_heldSideS.mono_l k
    · intro y0 y1 y2
      unfold laws_heldSideS.l0
      repeat' first
      | (with_reducible exact ih0 _ _ _)
      | (with_reducible exact LeO.refl _)
      | (with_reducible exact LeO.none _)
      | (with_reducible refine LeO.ite ?_ ?_)
      | (with_reducible refine LeO.bind ?_ (fun _ => ?_))
      | exact ih0 _ _ _
      | exact LeO.none _
      | refine LeO.ite ?_ ?_
      | refine LeO.bind ?_ (fun _ => ?_)
theorem laws_heldSideS.mono : ∀ a0 a1 k, LeO (laws_heldSideS.f k a0 a1) (laws_heldSideS.f (k + 1) a0 a1) := by
  intro a0 a1 k
  have ih0 := laws_heldSideS.mono_l k
  unfold laws_heldSideS.f
  repeat' first
      | (with_reducible exact ih0 _ _ _)
      | (with_reducible exact LeO.refl _)
      | (with_reducible exact LeO.none _)
      | (with_reducible refine LeO.ite ?_ ?_)
      | (with_reducible refine LeO.bind ?_ (fun _ => ?_))
      | exact ih0 _ _ _
      | exact LeO.none _
      | refine LeO.ite ?_ ?_
      | refine LeO.bind ?_ (fun _ => ?_)
set_option maxHeartbeats 8000000 in
set_option maxRecDepth 100000 in
theorem laws_heldSideS.calls (k : Nat) (A0 : Option Addr) (c0 : Nat) (l0 : List (S118)) (a1 : Int) (r : Int) (w : World) (hr0 : Kd.C k118 w A0 l0.length l0) (hc0 : l0.length ≤ c0) (h : laws_heldSideS.f k l0 a1 = some r) :
    Calls Try.prog 138 #[.slice A0 l0.length c0, .int .i64 a1] w fun e w' => e = .returned (.int .i64 r) ∧ Drawn0 w w' := by
  have HR0 := Aside0.mk hr0
  have HC0 := Aside0.mk hc0
  clear hr0 hc0
  have H : (laws_heldSideS.l0 k l0 a1 0) = some r := h
  clear h
  have H' := Aside0.mk H
  clear H
  go_enter Try.func138, Try.ntmps138
  go_wp2
  go_loopg [1, 5] k (fun kq v1 v5 w' => ∃ (x1_1 : Int) (x5_1 : Int), v1 = .int .i64 x1_1 ∧ v5 = .int .i64 x5_1 ∧ Aside0 (laws_heldSideS.l0 kq l0 x1_1 x5_1 = some r) ∧ Aside0 (kq ≤ k) ∧ Drawn0 w w')
  case atStart => exact ⟨(a1), (0), Z5_63, Z5_63, H', ⟨Nat.le_refl _⟩, Z5_61⟩
  case round =>
    clear H'
    try clear c1
    try clear p2
    obtain ⟨x1_1, x5_1, rfl, rfl, HA, HK1, ⟨m1, rfl⟩⟩ := hrel
    cases gk with
    | zero => exact absurd HA.out (by simp [laws_heldSideS.l0])
    | succ k1 =>
      have H := HA.out
      clear HA
      simp only [laws_heldSideS.l0] at H
      by_cases c3 : x5_1 < (l0.length : Int)
      rotate_left
      · rw [if_neg c3] at H
        have c3b0 : decide (x5_1 < (l0.length : Int)) = false := decide_eq_false c3
        clear c3
        obtain rfl := Option.some.inj H
        go_wp2
        go_ret
        exact ⟨Z5_63, Z5_61⟩
      rw [if_pos c3] at H
      have c3b0 : decide (x5_1 < (l0.length : Int)) = true := decide_eq_true c3
      clear c3
      by_cases c4 : 0 ≤ x5_1
      rotate_left
      · rw [if_neg c4] at H
        exact absurd H (by simp)
      rw [if_pos c4] at H
      have c4b0 : decide (0 ≤ x5_1) = true := decide_eq_true c4
      clear c4
      by_cases c5 : ((rd_T118 l0 x5_1).f0) = x1_1
      rotate_left
      · rw [if_neg c5] at H
        have c5b0 : (((rd_T118 l0 x5_1).f0) == x1_1) = false := beq_eq_false_iff_ne.mpr c5
        have c5b1 : (((rd_T118 l0 x5_1).f0) != x1_1) = true := bne_iff_ne.mpr c5
        obtain rfl := Option.some.inj H
        have p162 : 0 ≤ (x5_1 : Int) := of_decide_eq_true Z5_62
        have q162 : x5_1 < (l0.length : Int) := of_decide_eq_true Z5_62
        obtain ⟨ad162, e162, hx162_0, hx162_1, hx162_2⟩ := at_T118 HR0.out x5_1 p162 q162
        cases e162
        replace p162 := eq_true p162
        replace q162 := eq_true q162
        go_wp2
        go_ret
        exact ⟨Z5_63, Z5_61⟩
      rw [if_pos c5] at H
      have c5b0 : (((rd_T118 l0 x5_1).f0) == x1_1) = true := beq_iff_eq.mpr c5
      have c5b1 : (((rd_T118 l0 x5_1).f0) != x1_1) = false := bne_eq_false_iff_eq.mpr c5
      clear c5
      by_cases c6 : ((rd_T118 l0 x5_1).f1) = (wrap64 (x1_1 + 1))
      rotate_left
      · rw [if_neg c6] at H
        have c6b0 : (((rd_T118 l0 x5_1).f1) == (wrap64 (x1_1 + 1))) = false := beq_eq_false_iff_ne.mpr c6
        have c6b1 : (((rd_T118 l0 x5_1).f1) != (wrap64 (x1_1 + 1))) = true := bne_iff_ne.mpr c6
        obtain rfl := Option.some.inj H
        have p162 : 0 ≤ (x5_1 : Int) := of_decide_eq_true Z5_62
        have q162 : x5_1 < (l0.length : Int) := of_decide_eq_true Z5_62
        obtain ⟨ad162, e162, hx162_0, hx162_1, hx162_2⟩ := at_T118 HR0.out x5_1 p162 q162
        cases e162
        replace p162 := eq_true p162
        replace q162 := eq_true q162
        have p163 : 0 ≤ (x5_1 : Int) := of_decide_eq_true Z5_62
        have q163 : x5_1 < (l0.length : Int) := of_decide_eq_true Z5_62
        obtain ⟨ad163, e163, hx163_0, hx163_1, hx163_2⟩ := at_T118 HR0.out x5_1 p163 q163
        obtain rfl : ad162 = ad163 := (by injection e163)
        replace p163 := eq_true p163
        replace q163 := eq_true q163
        go_wp2
        go_ret
        exact ⟨Z5_63, Z5_61⟩
      rw [if_pos c6] at H
      have c6b0 : (((rd_T118 l0 x5_1).f1) == (wrap64 (x1_1 + 1))) = true := beq_iff_eq.mpr c6
      have c6b1 : (((rd_T118 l0 x5_1).f1) != (wrap64 (x1_1 + 1))) = false := bne_eq_false_iff_eq.mpr c6
      clear c6
      by_cases c7 : (((rd_T118 l0 x5_1).f2) != ((Int.tmod (wrap64 ((wrap64 (x1_1 + 1)) + 1)) 3) == 0)) = true
      · rw [if_pos c7] at H
        have c7b0 : (((rd_T118 l0 x5_1).f2) != ((Int.tmod (wrap64 ((wrap64 (x1_1 + 1)) + 1)) 3) == 0)) = true := c7
        (try (have c7b1 : decide (((rd_T118 l0 x5_1).f2) = ((Int.tmod (wrap64 ((wrap64 (x1_1 + 1)) + 1)) 3) == 0)) = false := by simpa using c7))
        (try (have c7b2 : (((rd_T118 l0 x5_1).f2) == ((Int.tmod (wrap64 ((wrap64 (x1_1 + 1)) + 1)) 3) == 0)) = false := by simpa using c7))
        (try (have c7b3 : ¬ (((rd_T118 l0 x5_1).f2) = ((Int.tmod (wrap64 ((wrap64 (x1_1 + 1)) + 1)) 3) == 0)) := by simpa using c7))
        clear c7
        obtain rfl := Option.some.inj H
        have p162 : 0 ≤ (x5_1 : Int) := of_decide_eq_true Z5_62
        have q162 : x5_1 < (l0.length : Int) := of_decide_eq_true Z5_62
        obtain ⟨ad162, e162, hx162_0, hx162_1, hx162_2⟩ := at_T118 HR0.out x5_1 p162 q162
        cases e162
        replace p162 := eq_true p162
        replace q162 := eq_true q162
        have p163 : 0 ≤ (x5_1 : Int) := of_decide_eq_true Z5_62
        have q163 : x5_1 < (l0.length : Int) := of_decide_eq_true Z5_62
        obtain ⟨ad163, e163, hx163_0, hx163_1, hx163_2⟩ := at_T118 HR0.out x5_1 p163 q163
        obtain rfl : ad162 = ad163 := (by injection e163)
        replace p163 := eq_true p163
        replace q163 := eq_true q163
        have p164 : 0 ≤ (x5_1 : Int) := of_decide_eq_true Z5_62
        have q164 : x5_1 < (l0.length : Int) := of_decide_eq_true Z5_62
        obtain ⟨ad164, e164, hx164_0, hx164_1, hx164_2⟩ := at_T118 HR0.out x5_1 p164 q164
        obtain rfl : ad162 = ad164 := (by injection e164)
        replace p164 := eq_true p164
        replace q164 := eq_true q164
        go_wp2
        go_ret
        exact ⟨Z5_63, Z5_61⟩
      rw [if_neg c7] at H
      have c7b0 : (((rd_T118 l0 x5_1).f2) != ((Int.tmod (wrap64 ((wrap64 (x1_1 + 1)) + 1)) 3) == 0)) = false := by simpa using c7
      (try (have c7b1 : decide (((rd_T118 l0 x5_1).f2) = ((Int.tmod (wrap64 ((wrap64 (x1_1 + 1)) + 1)) 3) == 0)) = true := by simpa using c7))
      (try (have c7b2 : (((rd_T118 l0 x5_1).f2) == ((Int.tmod (wrap64 ((wrap64 (x1_1 + 1)) + 1)) 3) == 0)) = true := by simpa using c7))
      clear c7
      have H' := Aside0.mk H
      clear H
      have p162 : 0 ≤ (x5_1 : Int) := of_decide_eq_true Z5_62
      have q162 : x5_1 < (l0.length : Int) := of_decide_eq_true Z5_62
      obtain ⟨ad162, e162, hx162_0, hx162_1, hx162_2⟩ := at_T118 HR0.out x5_1 p162 q162
      cases e162
      replace p162 := eq_true p162
      replace q162 := eq_true q162
      have p163 : 0 ≤ (x5_1 : Int) := of_decide_eq_true Z5_62
      have q163 : x5_1 < (l0.length : Int) := of_decide_eq_true Z5_62
      obtain ⟨ad163, e163, hx163_0, hx163_1, hx163_2⟩ := at_T118 HR0.out x5_1 p163 q163
      obtain rfl : ad162 = ad163 := (by injection e163)
      replace p163 := eq_true p163
      replace q163 := eq_true q163
      have p164 : 0 ≤ (x5_1 : Int) := of_decide_eq_true Z5_62
      have q164 : x5_1 < (l0.length : Int) := of_decide_eq_true Z5_62
      obtain ⟨ad164, e164, hx164_0, hx164_1, hx164_2⟩ := at_T118 HR0.out x5_1 p164 q164
      obtain rfl : ad162 = ad164 := (by injection e164)
      replace p164 := eq_true p164
      replace q164 := eq_true q164
      go_wp2
      go_roundg k1
      case measure => have := HK1.out; omega
      case rel => exact ⟨(wrap64 ((wrap64 ((wrap64 (x1_1 + 1)) + 1)) + 1)), (wrap64 (x5_1 + 1)), Z5_63, Z5_63, H', ⟨(by have := HK1.out; omega)⟩, Z5_61⟩

/-! ### laws_heldState: function 93 -/
def laws_heldState.f (k : Nat) (l0_0 : List (S54)) (l0_1 : List (S118)) (a0_2 : Int) (a0_3 : Int) (a1 : Int) : Option (Int) := (laws_heldPieceS.f k l0_0 a1).bind fun t166 => (if t166 < 0 then (some (-1)) else ((laws_heldSideS.f k l0_1 t166).bind fun t167 => (if t167 < 0 then (some (-1)) else (some t167))))
theorem laws_heldState.mono : ∀ a0 a1 a2 a3 a4 k, LeO (laws_heldState.f k a0 a1 a2 a3 a4) (laws_heldState.f (k + 1) a0 a1 a2 a3 a4) := by
  intro a0 a1 a2 a3 a4 k
  unfold laws_heldState.f
  repeat' first
      | (with_reducible exact laws_heldPieceS.mono _ _ _)
      | (with_reducible exact laws_heldSideS.mono _ _ _)
      | (with_reducible exact LeO.refl _)
      | (with_reducible exact LeO.none _)
      | (with_reducible refine LeO.ite ?_ ?_)
      | (with_reducible refine LeO.bind ?_ (fun _ => ?_))
      | exact laws_heldPieceS.mono _ _ _
      | exact laws_heldSideS.mono _ _ _
      | exact LeO.none _
      | refine LeO.ite ?_ ?_
      | refine LeO.bind ?_ (fun _ => ?_)
set_option maxHeartbeats 8000000 in
set_option maxRecDepth 100000 in
theorem laws_heldState.calls (k : Nat) (A0_0 : Option Addr) (c0_0 : Nat) (l0_0 : List (S54)) (A0_1 : Option Addr) (c0_1 : Nat) (l0_1 : List (S118)) (a0_2 : Int) (a0_3 : Int) (a1 : Int) (r : Int) (w : World) (hr0_0 : Kd.C k54 w A0_0 l0_0.length l0_0) (hc0_0 : l0_0.length ≤ c0_0) (hr0_1 : Kd.C k118 w A0_1 l0_1.length l0_1) (hc0_1 : l0_1.length ≤ c0_1) (h : laws_heldState.f k l0_0 l0_1 a0_2 a0_3 a1 = some r) :
    Calls Try.prog 93 #[.agg #[.slice A0_0 l0_0.length c0_0, .slice A0_1 l0_1.length c0_1, .int .i64 a0_2, .int .i64 a0_3], .int .i64 a1] w fun e w' => e = .returned (.int .i64 r) ∧ Below w.heap.size w w' := by
  have hu84 := Try.underlying84
  have HR0_0 := Aside0.mk hr0_0
  have HC0_0 := Aside0.mk hc0_0
  clear hr0_0 hc0_0
  have HR0_1 := Aside0.mk hr0_1
  have HC0_1 := Aside0.mk hc0_1
  clear hr0_1 hc0_1
  have HB := Aside0.mk (Below.refl w.heap.size w)
  have H : ((laws_heldPieceS.f k l0_0 a1).bind fun t166 => (if t166 < 0 then (some (-1)) else ((laws_heldSideS.f k l0_1 t166).bind fun t167 => (if t167 < 0 then (some (-1)) else (some t167))))) = some r := h
  clear h
  replace H := Option.bind_eq_some_iff.mp H
  obtain ⟨t166, A30, H⟩ := H
  replace H : (if t166 < 0 then (some (-1)) else ((laws_heldSideS.f k l0_1 t166).bind fun t167 => (if t167 < 0 then (some (-1)) else (some t167)))) = some r := H
  have A3 := Aside0.mk A30
  clear A30
  go_enter Try.func93, Try.ntmps93
  repeat' (first | ((with_reducible refine gate_dst (N := 2) rfl ?_); refine box_event ?hg (N := 2) ?hd (cs := #[.slice A0_0 l0_0.length c0_0, .slice A0_1 l0_1.length c0_1, .int .i64 a0_2, .int .i64 a0_3]) (t := 84) ?hr ?_; (case hd => rfl); (case hg => rfl); (case hr => first | (go_simp; done) | (go_simp; rfl)); intro gb165 hg w5 hbox hb; have n0_ := Aside0.mk Z5_47; have n1_ := Aside0.mk (hbox); have n2_ := Aside0.mk Z5_42; have n3_ := Aside0.mk Z5_42; clear HB; have HB := n0_; have BK165 := n1_; have GW165 := n2_; have GE165 := n3_; clear n0_ n1_ n2_ n3_; clear hb hbox hg; have hcz6_0 : w5.cell? ⟨gb165, 0, none⟩ = some (.slice A0_0 l0_0.length c0_0) := (blk_cell BK165.out 0).trans rfl; have hcz6_1 : w5.cell? ⟨gb165, 1, none⟩ = some (.slice A0_1 l0_1.length c0_1) := (blk_cell BK165.out 1).trans rfl; have hcz6_2 : w5.cell? ⟨gb165, 2, none⟩ = some (.int .i64 a0_2) := (blk_cell BK165.out 2).trans rfl; have hcz6_3 : w5.cell? ⟨gb165, 3, none⟩ = some (.int .i64 a0_3) := (blk_cell BK165.out 3).trans rfl; have hfz6_0 := blk_frozen BK165.out 0; have hfz6_1 := blk_frozen BK165.out 1; have hfz6_2 := blk_frozen BK165.out 2; have hfz6_3 := blk_frozen BK165.out 3) | ((fail_if_success (with_reducible refine gate_callee (f := 137) rfl ?_)); (first | go_values | go_skip | go_guarded | go_step | go_upon | go_back | (simp only [Int.not_lt, Int.not_le] at *; go_simp) | (go_ite <;> go_prune <;> (try go_simp)) | (split <;> (first | (rename_i hx; exact (hx _ rfl).elim) | go_prune)))))
  by_cases c4 : t166 < 0
  · rw [if_pos c4] at H
    have c4b0 : decide (t166 < 0) = true := decide_eq_true c4
    clear c4
    obtain rfl := Option.some.inj H
    go_wp2_with (first | ((with_reducible refine gate_callee (f := 137) rfl ?_); refine goesL_ (some 8) rfl rfl Try.func137 (by kernel_rfl) rfl #[.slice A0_0 l0_0.length c0_0, .int .i64 a1] rfl Z5_48 ?_; (with_reducible refine (laws_heldPieceS.calls k _ _ l0_0 a1 t166 _ ?side1 ?side2 A3.out).mono ?_); (case side1 => repeat (first | exact (Kd.C_below HR0_0.out HB.out) | (with_reducible refine Kd.C_alloc ?_ _) | (with_reducible refine Kd.C_drewN ?_ _) | (with_reducible refine Kd.C_drew ?_))); (case side2 => exact HC0_0.out); rintro e w' ⟨rfl, ⟨nd, rfl⟩⟩; refine ⟨_, rfl, ?_⟩))
    go_ret
    exact ⟨Z5_60, Z5_45⟩
  rw [if_neg c4] at H
  have c4b0 : decide (t166 < 0) = false := decide_eq_false c4
  clear c4
  replace H := Option.bind_eq_some_iff.mp H
  obtain ⟨t167, A70, H⟩ := H
  replace H : (if t167 < 0 then (some (-1)) else (some t167)) = some r := H
  have A7 := Aside0.mk A70
  clear A70
  repeat' (first | ((with_reducible refine gate_callee (f := 137) rfl ?_); refine goesL_ (some 8) rfl rfl Try.func137 (by kernel_rfl) rfl #[.slice A0_0 l0_0.length c0_0, .int .i64 a1] rfl Z5_48 ?_; (with_reducible refine (laws_heldPieceS.calls k _ _ l0_0 a1 t166 _ ?side1 ?side2 A3.out).mono ?_); (case side1 => repeat (first | exact (Kd.C_below HR0_0.out HB.out) | (with_reducible refine Kd.C_alloc ?_ _) | (with_reducible refine Kd.C_drewN ?_ _) | (with_reducible refine Kd.C_drew ?_))); (case side2 => exact HC0_0.out); rintro e w' ⟨rfl, ⟨nd, rfl⟩⟩; refine ⟨_, rfl, ?_⟩) | ((fail_if_success (with_reducible refine gate_callee (f := 138) rfl ?_)); (first | go_values | go_skip | go_guarded | go_step | go_upon | go_back | (simp only [Int.not_lt, Int.not_le] at *; go_simp) | (go_ite <;> go_prune <;> (try go_simp)) | (split <;> (first | (rename_i hx; exact (hx _ rfl).elim) | go_prune)))))
  by_cases c8 : t167 < 0
  · rw [if_pos c8] at H
    have c8b0 : decide (t167 < 0) = true := decide_eq_true c8
    clear c8
    obtain rfl := Option.some.inj H
    go_wp2_with (first | ((with_reducible refine gate_callee (f := 138) rfl ?_); refine goesL_ (some 14) rfl rfl Try.func138 (by kernel_rfl) rfl #[.slice A0_1 l0_1.length c0_1, .int .i64 t166] rfl Z5_48 ?_; (with_reducible refine (laws_heldSideS.calls k _ _ l0_1 t166 t167 _ ?side1 ?side2 A7.out).mono ?_); (case side1 => repeat (first | exact (Kd.C_below HR0_1.out Z5_45) | (with_reducible refine Kd.C_alloc ?_ _) | (with_reducible refine Kd.C_drewN ?_ _) | (with_reducible refine Kd.C_drew ?_))); (case side2 => exact HC0_1.out); rintro e w' ⟨rfl, ⟨nd, rfl⟩⟩; refine ⟨_, rfl, ?_⟩))
    go_ret
    exact ⟨Z5_60, Z5_45⟩
  rw [if_neg c8] at H
  have c8b0 : decide (t167 < 0) = false := decide_eq_false c8
  clear c8
  obtain rfl := Option.some.inj H
  go_wp2_with (first | ((with_reducible refine gate_callee (f := 138) rfl ?_); refine goesL_ (some 14) rfl rfl Try.func138 (by kernel_rfl) rfl #[.slice A0_1 l0_1.length c0_1, .int .i64 t166] rfl Z5_48 ?_; (with_reducible refine (laws_heldSideS.calls k _ _ l0_1 t166 t167 _ ?side1 ?side2 A7.out).mono ?_); (case side1 => repeat (first | exact (Kd.C_below HR0_1.out Z5_45) | (with_reducible refine Kd.C_alloc ?_ _) | (with_reducible refine Kd.C_drewN ?_ _) | (with_reducible refine Kd.C_drew ?_))); (case side2 => exact HC0_1.out); rintro e w' ⟨rfl, ⟨nd, rfl⟩⟩; refine ⟨_, rfl, ?_⟩))
  go_ret
  exact ⟨Z5_60, Z5_45⟩

/-! ### laws_FnExactStateNew: function 14 -/
def laws_FnExactStateNew.f (k : Nat) (a0 : Int) : Option (Bool) := (spec_StateNew.f a0).bind fun bt168 => ((impl_StateNew.f k a0).bind fun bt177 => ((laws_eqState.f k bt177.1 bt177.2.1 bt177.2.2.1 bt177.2.2.2 bt168.1 bt168.2.1 bt168.2.2.1 bt168.2.2.2).bind fun t186 => (if t186 = true then ((laws_markState.f k bt177.1 bt177.2.1 bt177.2.2.1 bt177.2.2.2 1).bind fun bt187 => ((laws_heldState.f k bt187.2.1 bt187.2.2 bt177.2.2.1 bt177.2.2.2 1).bind fun t190 => (if t190 < 0 then (some false) else (if t190 = bt187.1 then ((impl_StateNew.f k a0).bind fun bt191 => ((laws_eqState.f k bt191.1 bt191.2.1 bt191.2.2.1 bt191.2.2.2 bt168.1 bt168.2.1 bt168.2.2.1 bt168.2.2.2).bind fun t200 => (if t200 = true then ((laws_heldState.f k bt187.2.1 bt187.2.2 bt177.2.2.1 bt177.2.2.2 1).bind fun t201 => (if t201 < 0 then (some false) else (if t201 = bt187.1 then (some true) else (some false)))) else (some false)))) else (some false))))) else (some false))))
theorem laws_FnExactStateNew.mono : ∀ a0 k, LeO (laws_FnExactStateNew.f k a0) (laws_FnExactStateNew.f (k + 1) a0) := by
  intro a0 k
  unfold laws_FnExactStateNew.f
  repeat' first
      | (with_reducible exact impl_StateNew.mono _ _)
      | (with_reducible exact laws_eqState.mono _ _ _ _ _ _ _ _ _)
      | (with_reducible exact laws_heldState.mono _ _ _ _ _ _)
      | (with_reducible exact laws_markState.mono _ _ _ _ _ _)
      | (with_reducible exact LeO.refl _)
      | (with_reducible exact LeO.none _)
      | (with_reducible refine LeO.ite ?_ ?_)
      | (with_reducible refine LeO.bind ?_ (fun _ => ?_))
      | exact impl_StateNew.mono _ _
      | exact laws_eqState.mono _ _ _ _ _ _ _ _ _
      | exact laws_heldState.mono _ _ _ _ _ _
      | exact laws_markState.mono _ _ _ _ _ _
      | exact LeO.none _
      | refine LeO.ite ?_ ?_
      | refine LeO.bind ?_ (fun _ => ?_)
set_option maxHeartbeats 8000000 in
set_option maxRecDepth 100000 in
theorem laws_FnExactStateNew.calls (k : Nat) (a0 : Int) (r : Bool) (w : World) (h : laws_FnExactStateNew.f k a0 = some r) :
    Calls Try.prog 14 #[.int .i64 a0] w fun e w' => e = .returned (.bool r) ∧ Below w.heap.size w w' := by
  have hu84 := Try.underlying84
  have HB := Aside0.mk (Below.refl w.heap.size w)
  have H : ((spec_StateNew.f a0).bind fun bt168 => ((impl_StateNew.f k a0).bind fun bt177 => ((laws_eqState.f k bt177.1 bt177.2.1 bt177.2.2.1 bt177.2.2.2 bt168.1 bt168.2.1 bt168.2.2.1 bt168.2.2.2).bind fun t186 => (if t186 = true then ((laws_markState.f k bt177.1 bt177.2.1 bt177.2.2.1 bt177.2.2.2 1).bind fun bt187 => ((laws_heldState.f k bt187.2.1 bt187.2.2 bt177.2.2.1 bt177.2.2.2 1).bind fun t190 => (if t190 < 0 then (some false) else (if t190 = bt187.1 then ((impl_StateNew.f k a0).bind fun bt191 => ((laws_eqState.f k bt191.1 bt191.2.1 bt191.2.2.1 bt191.2.2.2 bt168.1 bt168.2.1 bt168.2.2.1 bt168.2.2.2).bind fun t200 => (if t200 = true then ((laws_heldState.f k bt187.2.1 bt187.2.2 bt177.2.2.1 bt177.2.2.2 1).bind fun t201 => (if t201 < 0 then (some false) else (if t201 = bt187.1 then (some true) else (some false)))) else (some false)))) else (some false))))) else (some false))))) = some r := h
  clear h
  replace H := Option.bind_eq_some_iff.mp H
  obtain ⟨⟨t168, t171, t174, t175⟩, A20, H⟩ := H
  replace H : ((impl_StateNew.f k a0).bind fun bt177 => ((laws_eqState.f k bt177.1 bt177.2.1 bt177.2.2.1 bt177.2.2.2 t168 t171 t174 t175).bind fun t186 => (if t186 = true then ((laws_markState.f k bt177.1 bt177.2.1 bt177.2.2.1 bt177.2.2.2 1).bind fun bt187 => ((laws_heldState.f k bt187.2.1 bt187.2.2 bt177.2.2.1 bt177.2.2.2 1).bind fun t190 => (if t190 < 0 then (some false) else (if t190 = bt187.1 then ((impl_StateNew.f k a0).bind fun bt191 => ((laws_eqState.f k bt191.1 bt191.2.1 bt191.2.2.1 bt191.2.2.2 t168 t171 t174 t175).bind fun t200 => (if t200 = true then ((laws_heldState.f k bt187.2.1 bt187.2.2 bt177.2.2.1 bt177.2.2.2 1).bind fun t201 => (if t201 < 0 then (some false) else (if t201 = bt187.1 then (some true) else (some false)))) else (some false)))) else (some false))))) else (some false)))) = some r := H
  have A2 := Aside0.mk A20
  clear A20
  replace H := Option.bind_eq_some_iff.mp H
  obtain ⟨⟨t177, t180, t183, t184⟩, A30, H⟩ := H
  replace H : ((laws_eqState.f k t177 t180 t183 t184 t168 t171 t174 t175).bind fun t186 => (if t186 = true then ((laws_markState.f k t177 t180 t183 t184 1).bind fun bt187 => ((laws_heldState.f k bt187.2.1 bt187.2.2 t183 t184 1).bind fun t190 => (if t190 < 0 then (some false) else (if t190 = bt187.1 then ((impl_StateNew.f k a0).bind fun bt191 => ((laws_eqState.f k bt191.1 bt191.2.1 bt191.2.2.1 bt191.2.2.2 t168 t171 t174 t175).bind fun t200 => (if t200 = true then ((laws_heldState.f k bt187.2.1 bt187.2.2 t183 t184 1).bind fun t201 => (if t201 < 0 then (some false) else (if t201 = bt187.1 then (some true) else (some false)))) else (some false)))) else (some false))))) else (some false))) = some r := H
  have A3 := Aside0.mk A30
  clear A30
  replace H := Option.bind_eq_some_iff.mp H
  obtain ⟨t186, A40, H⟩ := H
  replace H : (if t186 = true then ((laws_markState.f k t177 t180 t183 t184 1).bind fun bt187 => ((laws_heldState.f k bt187.2.1 bt187.2.2 t183 t184 1).bind fun t190 => (if t190 < 0 then (some false) else (if t190 = bt187.1 then ((impl_StateNew.f k a0).bind fun bt191 => ((laws_eqState.f k bt191.1 bt191.2.1 bt191.2.2.1 bt191.2.2.2 t168 t171 t174 t175).bind fun t200 => (if t200 = true then ((laws_heldState.f k bt187.2.1 bt187.2.2 t183 t184 1).bind fun t201 => (if t201 < 0 then (some false) else (if t201 = bt187.1 then (some true) else (some false)))) else (some false)))) else (some false))))) else (some false)) = some r := H
  have A4 := Aside0.mk A40
  clear A40
  go_enter Try.func14, Try.ntmps14
  repeat' (first | ((with_reducible refine gate_callee (f := 90) rfl ?_); refine goesL_ (some 9) rfl rfl Try.func90 (by kernel_rfl) rfl #[.int .i64 a0] rfl Z5_48 ?_; (with_reducible refine (spec_StateNew.calls a0 t168 t171 t174 t175 _ A2.out).mono ?_); rintro e w9 ⟨v169, v172, rfl, ho0, ho1, hb⟩; refine ⟨_, rfl, ?_⟩; have n0_ := Aside0.mk (Kd.R_lower ho0 (below_size Z5_49)); have n1_ := Aside0.mk (Kd.R_lower ho1 (below_size Z5_49)); have n2_ := Aside0.mk Z5_47; clear HB; have HO170 := n0_; have HO173 := n1_; have HB := n2_; clear n0_ n1_ n2_; (try clear hb); (try clear hb2); (try clear hk); (try clear hi); (try clear ho0); (try clear ho1); clear A2) | ((with_reducible refine gate_dst (N := 3) rfl ?_); refine box_event ?hg (N := 3) ?hd (cs := #[.slice none 0 0, .slice none 0 0, .int .i64 0, .int .i64 0]) (t := 84) ?hr ?_; (case hd => rfl); (case hg => rfl); (case hr => first | (go_simp; done) | (go_simp; rfl)); intro gb176 hg w10 hbox hb; have n0_ := Aside0.mk Z5_50; have n1_ := Aside0.mk Z5_51; have n2_ := Aside0.mk Z5_47; have n3_ := Aside0.mk (hbox); have n4_ := Aside0.mk Z5_43; have n5_ := Aside0.mk Z5_43; clear HO170; clear HO173; clear HB; have HO170 := n0_; have HO173 := n1_; have HB := n2_; have BK176 := n3_; have GW176 := n4_; have GE176 := n5_; clear n0_ n1_ n2_ n3_ n4_ n5_; clear hb hbox hg; obtain ⟨Ao11, co11, eo11⟩ := Kd.R_slice HO170.out; subst eo11; have hcz12_0 : w10.cell? ⟨gb176, 0, none⟩ = some (.slice none 0 0) := (blk_cell BK176.out 0).trans rfl; have hcz12_1 : w10.cell? ⟨gb176, 1, none⟩ = some (.slice none 0 0) := (blk_cell BK176.out 1).trans rfl; have hcz12_2 : w10.cell? ⟨gb176, 2, none⟩ = some (.int .i64 0) := (blk_cell BK176.out 2).trans rfl; have hcz12_3 : w10.cell? ⟨gb176, 3, none⟩ = some (.int .i64 0) := (blk_cell BK176.out 3).trans rfl; have hfz12_0 := blk_frozen BK176.out 0; have hfz12_1 := blk_frozen BK176.out 1; have hfz12_2 := blk_frozen BK176.out 2; have hfz12_3 := blk_frozen BK176.out 3; obtain ⟨Ao13, co13, eo13⟩ := Kd.R_slice HO173.out; subst eo13) | ((with_reducible refine gate_callee (f := 91) rfl ?_); refine goesL_ (some 11) rfl rfl Try.func91 (by kernel_rfl) rfl #[.int .i64 a0] rfl Z5_48 ?_; (with_reducible refine (impl_StateNew.calls k a0 t177 t180 t183 t184 _ A3.out).mono ?_); rintro e w14 ⟨v178, v181, rfl, ho0, ho1, hb⟩; refine ⟨_, rfl, ?_⟩; have n0_ := Aside0.mk (Kd.R_elder' Z5_16 (Kd.R_base ho0) hb); have n1_ := Aside0.mk (Kd.R_elder' Z5_17 (Kd.R_base ho1) hb); have n2_ := Aside0.mk (Kd.R_lower (Kd.R_new' ho0 (Kd.R_lt Z5_16)) (below_size Z5_46)); have n3_ := Aside0.mk (Kd.R_lower (Kd.R_new' ho1 (Kd.R_lt Z5_17)) (below_size Z5_46)); have n4_ := Aside0.mk (blk_below (g := gb176) (o := .cells #[.slice Ao11 t168.length co11, .slice Ao13 t171.length co13, .int .i64 t174, .int .i64 t175] 84 (0, 0)) (by (with_reducible repeat (first | refine blk_drewN ?_ _ | refine blk_drew ?_ | refine blk_alloc ?_ _)); refine blk_put (cs := #[.slice Ao11 t168.length co11, .slice Ao13 t171.length co13, .int .i64 t174, .int .i64 0]) ?_ 3 _ rfl; (with_reducible repeat (first | refine blk_drewN ?_ _ | refine blk_drew ?_ | refine blk_alloc ?_ _)); refine blk_put (cs := #[.slice Ao11 t168.length co11, .slice Ao13 t171.length co13, .int .i64 0, .int .i64 0]) ?_ 2 _ rfl; (with_reducible repeat (first | refine blk_drewN ?_ _ | refine blk_drew ?_ | refine blk_alloc ?_ _)); refine blk_put (cs := #[.slice Ao11 t168.length co11, .slice none 0 0, .int .i64 0, .int .i64 0]) ?_ 1 _ rfl; (with_reducible repeat (first | refine blk_drewN ?_ _ | refine blk_drew ?_ | refine blk_alloc ?_ _)); refine blk_put (cs := #[.slice none 0 0, .slice none 0 0, .int .i64 0, .int .i64 0]) ?_ 0 _ rfl; (with_reducible repeat (first | refine blk_drewN ?_ _ | refine blk_drew ?_ | refine blk_alloc ?_ _)); exact BK176.out) hb); have n5_ := Aside0.mk Z5_44; clear HO170; clear HO173; clear BK176; clear HB; have HO170 := n0_; have HO173 := n1_; have HO179 := n2_; have HO182 := n3_; have BK176 := n4_; have HB := n5_; clear n0_ n1_ n2_ n3_ n4_ n5_; (try clear hb); (try clear hb2); (try clear hk); (try clear hi); (try clear ho0); (try clear ho1); clear A3) | ((fail_if_success (with_reducible refine gate_dst (N := 4) rfl ?_)); (first | go_values | go_skip | go_guarded | go_step | go_upon | go_back | (simp only [Int.not_lt, Int.not_le] at *; go_simp) | (go_ite <;> go_prune <;> (try go_simp)) | (split <;> (first | (rename_i hx; exact (hx _ rfl).elim) | go_prune)))))
  by_cases c5 : t186 = true
  rotate_left
  · replace c5 := Bool.eq_false_iff.mpr c5
    subst c5
    have H1 : (some false) = some r := by rw [if_neg (show ¬ (false = true) by decide)] at H; exact H
    clear H
    have H := H1
    clear H1
    obtain rfl := Option.some.inj H
    go_wp2_with (first | ((with_reducible refine gate_dst (N := 4) rfl ?_); refine box_event ?hg (N := 4) ?hd (cs := #[.slice none 0 0, .slice none 0 0, .int .i64 0, .int .i64 0]) (t := 84) ?hr ?_; (case hd => rfl); (case hg => rfl); (case hr => first | (go_simp; done) | (go_simp; rfl)); intro gb185 hg w15 hbox hb; have n0_ := Aside0.mk Z5_50; have n1_ := Aside0.mk Z5_51; have n2_ := Aside0.mk Z5_52; have n3_ := Aside0.mk Z5_53; have n4_ := Aside0.mk Z5_33; have n5_ := Aside0.mk Z5_44; have n6_ := Aside0.mk (hbox); have n7_ := Aside0.mk Z5_39; have n8_ := Aside0.mk Z5_39; have n9_ := Aside0.mk Z5_26; have n10_ := Aside0.mk Z5_27; clear HO170; clear HO173; clear HO179; clear HO182; clear BK176; clear HB; have HO170 := n0_; have HO173 := n1_; have HO179 := n2_; have HO182 := n3_; have BK176 := n4_; have HB := n5_; have BK185 := n6_; have GW185 := n7_; have GE185 := n8_; have NB176_185 := n9_; have NB185_176 := n10_; clear n0_ n1_ n2_ n3_ n4_ n5_ n6_ n7_ n8_ n9_ n10_; clear hb hbox hg; obtain ⟨Ao16, co16, eo16⟩ := Kd.R_slice HO179.out; subst eo16; have hnb17 := NB185_176.out; have hnc17 := NB176_185.out; have hcz18_0 : w15.cell? ⟨gb185, 0, none⟩ = some (.slice none 0 0) := (blk_cell BK185.out 0).trans rfl; have hcz18_1 : w15.cell? ⟨gb185, 1, none⟩ = some (.slice none 0 0) := (blk_cell BK185.out 1).trans rfl; have hcz18_2 : w15.cell? ⟨gb185, 2, none⟩ = some (.int .i64 0) := (blk_cell BK185.out 2).trans rfl; have hcz18_3 : w15.cell? ⟨gb185, 3, none⟩ = some (.int .i64 0) := (blk_cell BK185.out 3).trans rfl; have hfz18_0 := blk_frozen BK185.out 0; have hfz18_1 := blk_frozen BK185.out 1; have hfz18_2 := blk_frozen BK185.out 2; have hfz18_3 := blk_frozen BK185.out 3; obtain ⟨Ao19, co19, eo19⟩ := Kd.R_slice HO182.out; subst eo19; have hcz20_0 : w15.cell? ⟨gb176, 0, none⟩ = some (.slice Ao11 t168.length co11) := (blk_cell BK176.out 0).trans rfl; have hcz20_1 : w15.cell? ⟨gb176, 1, none⟩ = some (.slice Ao13 t171.length co13) := (blk_cell BK176.out 1).trans rfl; have hcz20_2 : w15.cell? ⟨gb176, 2, none⟩ = some (.int .i64 t174) := (blk_cell BK176.out 2).trans rfl; have hcz20_3 : w15.cell? ⟨gb176, 3, none⟩ = some (.int .i64 t175) := (blk_cell BK176.out 3).trans rfl; have hfz20_0 := blk_frozen BK176.out 0; have hfz20_1 := blk_frozen BK176.out 1; have hfz20_2 := blk_frozen BK176.out 2; have hfz20_3 := blk_frozen BK176.out 3) | ((with_reducible refine gate_callee (f := 85) rfl ?_); refine goesL_ (some 14) rfl rfl Try.func85 (by kernel_rfl) rfl #[.agg #[.slice Ao16 t177.length co16, .slice Ao19 t180.length co19, .int .i64 t183, .int .i64 t184], .agg #[.slice Ao11 t168.length co11, .slice Ao13 t171.length co13, .int .i64 t174, .int .i64 t175]] rfl Z5_48 ?_; (with_reducible refine (laws_eqState.calls k _ _ t177 _ _ t180 t183 t184 _ _ t168 _ _ t171 t174 t175 false _ ?side1 ?side2 ?side3 ?side4 ?side5 ?side6 ?side7 ?side8 A4.out).mono ?_); (case side1 => refine (Kd.R_reads' (e := 54) (base := w.heap.size) (ok := fun k_ => (True ∧ some k_ ≠ (.slice Ao11 t168.length co11 : Value).ownBlock)) (n := t177.length) (c := co16) ?_).2.2; exact Z5_18); (case side2 => exact (Kd.R_reads' HO179.out).2.1); (case side3 => refine (Kd.R_reads' (e := 118) (base := w.heap.size) (ok := fun k_ => (True ∧ some k_ ≠ (.slice Ao13 t171.length co13 : Value).ownBlock)) (n := t180.length) (c := co19) ?_).2.2; exact Z5_19); (case side4 => exact (Kd.R_reads' HO182.out).2.1); (case side5 => refine (Kd.R_reads' (e := 54) (base := w.heap.size) (ok := fun k_ => (True ∧ some k_ ≠ (.slice Ao16 t177.length co16 : Value).ownBlock)) (n := t168.length) (c := co11) ?_).2.2; exact Z5_20); (case side6 => exact (Kd.R_reads' HO170.out).2.1); (case side7 => refine (Kd.R_reads' (e := 118) (base := w.heap.size) (ok := fun k_ => (True ∧ some k_ ≠ (.slice Ao19 t180.length co19 : Value).ownBlock)) (n := t171.length) (c := co13) ?_).2.2; exact Z5_21); (case side8 => exact (Kd.R_reads' HO173.out).2.1); rintro e w172 ⟨rfl, hb⟩; refine ⟨_, rfl, ?_⟩; have n0_ := Aside0.mk Z5_6; have n1_ := Aside0.mk Z5_7; have n2_ := Aside0.mk Z5_8; have n3_ := Aside0.mk Z5_9; have n4_ := Aside0.mk Z5_3; have n5_ := Aside0.mk Z5_1; have n6_ := Aside0.mk Z5_40; clear HO170; clear HO173; clear HO179; clear HO182; clear BK176; clear BK185; clear HB; have HO170 := n0_; have HO173 := n1_; have HO179 := n2_; have HO182 := n3_; have BK176 := n4_; have BK185 := n5_; have HB := n6_; clear n0_ n1_ n2_ n3_ n4_ n5_ n6_; (try clear hb); (try clear hb2); (try clear hk); (try clear hi)))
    go_ret
    exact ⟨Z5_60, Z5_41⟩
  subst c5
  have H1 : ((laws_markState.f k t177 t180 t183 t184 1).bind fun bt187 => ((laws_heldState.f k bt187.2.1 bt187.2.2 t183 t184 1).bind fun t190 => (if t190 < 0 then (some false) else (if t190 = bt187.1 then ((impl_StateNew.f k a0).bind fun bt191 => ((laws_eqState.f k bt191.1 bt191.2.1 bt191.2.2.1 bt191.2.2.2 t168 t171 t174 t175).bind fun t200 => (if t200 = true then ((laws_heldState.f k bt187.2.1 bt187.2.2 t183 t184 1).bind fun t201 => (if t201 < 0 then (some false) else (if t201 = bt187.1 then (some true) else (some false)))) else (some false)))) else (some false))))) = some r := by rw [if_pos rfl] at H; exact H
  clear H
  have H := H1
  clear H1
  replace H := Option.bind_eq_some_iff.mp H
  obtain ⟨⟨t187, t188, t189⟩, A60, H⟩ := H
  replace H : ((laws_heldState.f k t188 t189 t183 t184 1).bind fun t190 => (if t190 < 0 then (some false) else (if t190 = t187 then ((impl_StateNew.f k a0).bind fun bt191 => ((laws_eqState.f k bt191.1 bt191.2.1 bt191.2.2.1 bt191.2.2.2 t168 t171 t174 t175).bind fun t200 => (if t200 = true then ((laws_heldState.f k t188 t189 t183 t184 1).bind fun t201 => (if t201 < 0 then (some false) else (if t201 = t187 then (some true) else (some false)))) else (some false)))) else (some false)))) = some r := H
  have A6 := Aside0.mk A60
  clear A60
  replace H := Option.bind_eq_some_iff.mp H
  obtain ⟨t190, A70, H⟩ := H
  replace H : (if t190 < 0 then (some false) else (if t190 = t187 then ((impl_StateNew.f k a0).bind fun bt191 => ((laws_eqState.f k bt191.1 bt191.2.1 bt191.2.2.1 bt191.2.2.2 t168 t171 t174 t175).bind fun t200 => (if t200 = true then ((laws_heldState.f k t188 t189 t183 t184 1).bind fun t201 => (if t201 < 0 then (some false) else (if t201 = t187 then (some true) else (some false)))) else (some false)))) else (some false))) = some r := H
  have A7 := Aside0.mk A70
  clear A70
  repeat' (first | ((with_reducible refine gate_dst (N := 4) rfl ?_); refine box_event ?hg (N := 4) ?hd (cs := #[.slice none 0 0, .slice none 0 0, .int .i64 0, .int .i64 0]) (t := 84) ?hr ?_; (case hd => rfl); (case hg => rfl); (case hr => first | (go_simp; done) | (go_simp; rfl)); intro gb185 hg w15 hbox hb; have n0_ := Aside0.mk Z5_50; have n1_ := Aside0.mk Z5_51; have n2_ := Aside0.mk Z5_52; have n3_ := Aside0.mk Z5_53; have n4_ := Aside0.mk Z5_33; have n5_ := Aside0.mk Z5_44; have n6_ := Aside0.mk (hbox); have n7_ := Aside0.mk Z5_39; have n8_ := Aside0.mk Z5_39; have n9_ := Aside0.mk Z5_26; have n10_ := Aside0.mk Z5_27; clear HO170; clear HO173; clear HO179; clear HO182; clear BK176; clear HB; have HO170 := n0_; have HO173 := n1_; have HO179 := n2_; have HO182 := n3_; have BK176 := n4_; have HB := n5_; have BK185 := n6_; have GW185 := n7_; have GE185 := n8_; have NB176_185 := n9_; have NB185_176 := n10_; clear n0_ n1_ n2_ n3_ n4_ n5_ n6_ n7_ n8_ n9_ n10_; clear hb hbox hg; obtain ⟨Ao16, co16, eo16⟩ := Kd.R_slice HO179.out; subst eo16; have hnb17 := NB185_176.out; have hnc17 := NB176_185.out; have hcz18_0 : w15.cell? ⟨gb185, 0, none⟩ = some (.slice none 0 0) := (blk_cell BK185.out 0).trans rfl; have hcz18_1 : w15.cell? ⟨gb185, 1, none⟩ = some (.slice none 0 0) := (blk_cell BK185.out 1).trans rfl; have hcz18_2 : w15.cell? ⟨gb185, 2, none⟩ = some (.int .i64 0) := (blk_cell BK185.out 2).trans rfl; have hcz18_3 : w15.cell? ⟨gb185, 3, none⟩ = some (.int .i64 0) := (blk_cell BK185.out 3).trans rfl; have hfz18_0 := blk_frozen BK185.out 0; have hfz18_1 := blk_frozen BK185.out 1; have hfz18_2 := blk_frozen BK185.out 2; have hfz18_3 := blk_frozen BK185.out 3; obtain ⟨Ao19, co19, eo19⟩ := Kd.R_slice HO182.out; subst eo19; have hcz20_0 : w15.cell? ⟨gb176, 0, none⟩ = some (.slice Ao11 t168.length co11) := (blk_cell BK176.out 0).trans rfl; have hcz20_1 : w15.cell? ⟨gb176, 1, none⟩ = some (.slice Ao13 t171.length co13) := (blk_cell BK176.out 1).trans rfl; have hcz20_2 : w15.cell? ⟨gb176, 2, none⟩ = some (.int .i64 t174) := (blk_cell BK176.out 2).trans rfl; have hcz20_3 : w15.cell? ⟨gb176, 3, none⟩ = some (.int .i64 t175) := (blk_cell BK176.out 3).trans rfl; have hfz20_0 := blk_frozen BK176.out 0; have hfz20_1 := blk_frozen BK176.out 1; have hfz20_2 := blk_frozen BK176.out 2; have hfz20_3 := blk_frozen BK176.out 3) | ((with_reducible refine gate_callee (f := 85) rfl ?_); refine goesL_ (some 14) rfl rfl Try.func85 (by kernel_rfl) rfl #[.agg #[.slice Ao16 t177.length co16, .slice Ao19 t180.length co19, .int .i64 t183, .int .i64 t184], .agg #[.slice Ao11 t168.length co11, .slice Ao13 t171.length co13, .int .i64 t174, .int .i64 t175]] rfl Z5_48 ?_; (with_reducible refine (laws_eqState.calls k _ _ t177 _ _ t180 t183 t184 _ _ t168 _ _ t171 t174 t175 true _ ?side1 ?side2 ?side3 ?side4 ?side5 ?side6 ?side7 ?side8 A4.out).mono ?_); (case side1 => refine (Kd.R_reads' (e := 54) (base := w.heap.size) (ok := fun k_ => (True ∧ some k_ ≠ (.slice Ao11 t168.length co11 : Value).ownBlock)) (n := t177.length) (c := co16) ?_).2.2; exact Z5_18); (case side2 => exact (Kd.R_reads' HO179.out).2.1); (case side3 => refine (Kd.R_reads' (e := 118) (base := w.heap.size) (ok := fun k_ => (True ∧ some k_ ≠ (.slice Ao13 t171.length co13 : Value).ownBlock)) (n := t180.length) (c := co19) ?_).2.2; exact Z5_19); (case side4 => exact (Kd.R_reads' HO182.out).2.1); (case side5 => refine (Kd.R_reads' (e := 54) (base := w.heap.size) (ok := fun k_ => (True ∧ some k_ ≠ (.slice Ao16 t177.length co16 : Value).ownBlock)) (n := t168.length) (c := co11) ?_).2.2; exact Z5_20); (case side6 => exact (Kd.R_reads' HO170.out).2.1); (case side7 => refine (Kd.R_reads' (e := 118) (base := w.heap.size) (ok := fun k_ => (True ∧ some k_ ≠ (.slice Ao19 t180.length co19 : Value).ownBlock)) (n := t171.length) (c := co13) ?_).2.2; exact Z5_21); (case side8 => exact (Kd.R_reads' HO173.out).2.1); rintro e w21 ⟨rfl, hb⟩; refine ⟨_, rfl, ?_⟩; have n0_ := Aside0.mk Z5_6; have n1_ := Aside0.mk Z5_7; have n2_ := Aside0.mk Z5_8; have n3_ := Aside0.mk Z5_9; have n4_ := Aside0.mk Z5_3; have n5_ := Aside0.mk Z5_1; have n6_ := Aside0.mk Z5_40; clear HO170; clear HO173; clear HO179; clear HO182; clear BK176; clear BK185; clear HB; have HO170 := n0_; have HO173 := n1_; have HO179 := n2_; have HO182 := n3_; have BK176 := n4_; have BK185 := n5_; have HB := n6_; clear n0_ n1_ n2_ n3_ n4_ n5_ n6_; (try clear hb); (try clear hb2); (try clear hk); (try clear hi); have hcz22_0 : w21.cell? ⟨gb185, 0, none⟩ = some (.slice Ao16 t177.length co16) := (blk_cell BK185.out 0).trans rfl; have hcz22_1 : w21.cell? ⟨gb185, 1, none⟩ = some (.slice Ao19 t180.length co19) := (blk_cell BK185.out 1).trans rfl; have hcz22_2 : w21.cell? ⟨gb185, 2, none⟩ = some (.int .i64 t183) := (blk_cell BK185.out 2).trans rfl; have hcz22_3 : w21.cell? ⟨gb185, 3, none⟩ = some (.int .i64 t184) := (blk_cell BK185.out 3).trans rfl; have hfz22_0 := blk_frozen BK185.out 0; have hfz22_1 := blk_frozen BK185.out 1; have hfz22_2 := blk_frozen BK185.out 2; have hfz22_3 := blk_frozen BK185.out 3; clear A4) | ((with_reducible refine gate_callee (f := 92) rfl ?_); refine goesL_ (some 18) rfl rfl Try.func92 (by kernel_rfl) rfl #[.agg #[.slice Ao16 t177.length co16, .slice Ao19 t180.length co19, .int .i64 t183, .int .i64 t184], .int .i64 1] rfl Z5_48 ?_; (with_reducible refine (laws_markState.calls k (fun k_ => some k_ = (.slice Ao16 t177.length co16 : Value).ownBlock) (.slice Ao16 t177.length co16) t177 (fun k_ => some k_ = (.slice Ao19 t180.length co19 : Value).ownBlock) (.slice Ao19 t180.length co19) t180 t183 t184 1 t187 t188 t189 w _ ?side1 ?side2 ?side3 A6.out).mono ?_); (case side1 => repeat (first | (with_reducible first | exact HB.out | apply below_alloc | apply pw_below_drewN | apply below_drew1 | refine below_set ?_ GE176.out | refine below_set ?_ GE185.out) | exact HB.out)); (case side2 => exact Kd.R_tight rfl HO179.out); (case side3 => exact Kd.R_tight rfl HO182.out); rintro e w23 ⟨rfl, hy0, hy1, hb, hkp⟩; refine ⟨_, rfl, ?_⟩; have n0_ := Aside0.mk (Kd.R_mono (ok' := fun k_ => some k_ ≠ (.slice Ao16 t177.length co16 : Value).ownBlock) (Kd.R_keptB ((Kd.R_apart' HO170.out (Kd.R_typed HO182.out) (by decide))) hkp (fun k_ hk_ hs_ => Or.elim hs_ (fun e_ => (hk_.1.2) e_) (fun e_ => (hk_.2) e_))) (fun k_ hk_ => hk_.1.1.2)); have n1_ := Aside0.mk (Kd.R_mono (ok' := fun k_ => some k_ ≠ (.slice Ao19 t180.length co19 : Value).ownBlock) (Kd.R_keptB ((Kd.R_apart' HO173.out (Kd.R_typed HO179.out) (by decide))) hkp (fun k_ hk_ hs_ => Or.elim hs_ (fun e_ => (hk_.2) e_) (fun e_ => (hk_.1.2) e_))) (fun k_ hk_ => hk_.1.1.2)); have n2_ := Aside0.mk (blk_kept (by (with_reducible repeat (first | refine blk_drewN ?_ _ | refine blk_drew ?_ | refine blk_alloc ?_ _)); exact BK176.out) hkp (fun hs_ => Or.elim hs_ (fun e_ => (fun e_ => (Kd.R_ne HO179.out BK176.out (by decide)) e_) e_) (fun e_ => (fun e_ => (Kd.R_ne HO182.out BK176.out (by decide)) e_) e_))); have n3_ := Aside0.mk (Kd.R_reok rfl hy0 (fun k_ e_ => HO179.out.1 k_ e_)); have n4_ := Aside0.mk (Kd.R_reok rfl hy1 (fun k_ e_ => HO182.out.1 k_ e_)); have n5_ := Aside0.mk (blk_kept (by (with_reducible repeat (first | refine blk_drewN ?_ _ | refine blk_drew ?_ | refine blk_alloc ?_ _)); exact BK185.out) hkp (fun hs_ => Or.elim hs_ (fun e_ => (fun e_ => (Kd.R_ne HO179.out BK185.out (by decide)) e_) e_) (fun e_ => (fun e_ => (Kd.R_ne HO182.out BK185.out (by decide)) e_) e_))); have n6_ := Aside0.mk (hb); clear HO170; clear HO173; clear BK176; clear HO179; clear HO182; clear BK185; clear HB; have HO170 := n0_; have HO173 := n1_; have BK176 := n2_; have HO179 := n3_; have HO182 := n4_; have BK185 := n5_; have HB := n6_; clear n0_ n1_ n2_ n3_ n4_ n5_ n6_; (try clear hb); (try clear hkp); (try clear hy0); (try clear hy1); have hcz24_0 : w23.cell? ⟨gb185, 0, none⟩ = some (.slice Ao16 t177.length co16) := (blk_cell BK185.out 0).trans rfl; have hcz24_1 : w23.cell? ⟨gb185, 1, none⟩ = some (.slice Ao19 t180.length co19) := (blk_cell BK185.out 1).trans rfl; have hcz24_2 : w23.cell? ⟨gb185, 2, none⟩ = some (.int .i64 t183) := (blk_cell BK185.out 2).trans rfl; have hcz24_3 : w23.cell? ⟨gb185, 3, none⟩ = some (.int .i64 t184) := (blk_cell BK185.out 3).trans rfl; have hfz24_0 := blk_frozen BK185.out 0; have hfz24_1 := blk_frozen BK185.out 1; have hfz24_2 := blk_frozen BK185.out 2; have hfz24_3 := blk_frozen BK185.out 3; clear A6) | ((fail_if_success (with_reducible refine gate_callee (f := 93) rfl ?_)); (first | go_values | go_skip | go_guarded | go_step | go_upon | go_back | (simp only [Int.not_lt, Int.not_le] at *; go_simp) | (go_ite <;> go_prune <;> (try go_simp)) | (split <;> (first | (rename_i hx; exact (hx _ rfl).elim) | go_prune)))))
  by_cases c8 : t190 < 0
  · rw [if_pos c8] at H
    have c8b0 : decide (t190 < 0) = true := decide_eq_true c8
    clear c8
    obtain rfl := Option.some.inj H
    go_wp2_with (first | ((with_reducible refine gate_callee (f := 93) rfl ?_); refine goesL_ (some 21) rfl rfl Try.func93 (by kernel_rfl) rfl #[.agg #[.slice Ao16 t188.length co16, .slice Ao19 t189.length co19, .int .i64 t183, .int .i64 t184], .int .i64 1] rfl Z5_32 ?_; (with_reducible refine (laws_heldState.calls k _ _ t188 _ _ t189 t183 t184 1 t190 _ ?side1 ?side2 ?side3 ?side4 A7.out).mono ?_); (case side1 => repeat (first | exact (Kd.R_reads' HO179.out).2.2 | (with_reducible refine Kd.C_alloc ?_ _) | (with_reducible refine Kd.C_drewN ?_ _) | (with_reducible refine Kd.C_drew ?_))); (case side2 => rw [show t188.length = t177.length from (Kd.R_reads' HO179.out).1.symm]; exact (Kd.R_reads' HO179.out).2.1); (case side3 => repeat (first | exact (Kd.R_reads' HO182.out).2.2 | (with_reducible refine Kd.C_alloc ?_ _) | (with_reducible refine Kd.C_drewN ?_ _) | (with_reducible refine Kd.C_drew ?_))); (case side4 => rw [show t189.length = t180.length from (Kd.R_reads' HO182.out).1.symm]; exact (Kd.R_reads' HO182.out).2.1); rintro e w25 ⟨rfl, hb⟩; refine ⟨_, rfl, ?_⟩; have n0_ := Aside0.mk Z5_50; have n1_ := Aside0.mk Z5_51; have n2_ := Aside0.mk Z5_52; have n3_ := Aside0.mk Z5_53; have n4_ := Aside0.mk Z5_33; have n5_ := Aside0.mk Z5_34; have n6_ := Aside0.mk Z5_40; clear HO170; clear HO173; clear HO179; clear HO182; clear BK176; clear BK185; clear HB; have HO170 := n0_; have HO173 := n1_; have HO179 := n2_; have HO182 := n3_; have BK176 := n4_; have BK185 := n5_; have HB := n6_; clear n0_ n1_ n2_ n3_ n4_ n5_ n6_; (try clear hb); (try clear hb2); (try clear hk); (try clear hi)))
    go_ret
    exact ⟨Z5_60, Z5_41⟩
  rw [if_neg c8] at H
  have c8b0 : decide (t190 < 0) = false := decide_eq_false c8
  clear c8
  by_cases c26 : t190 = t187
  rotate_left
  · rw [if_neg c26] at H
    have c26b0 : (t190 == t187) = false := beq_eq_false_iff_ne.mpr c26
    have c26b1 : (t190 != t187) = true := bne_iff_ne.mpr c26
    obtain rfl := Option.some.inj H
    go_wp2_with (first | ((with_reducible refine gate_callee (f := 93) rfl ?_); refine goesL_ (some 21) rfl rfl Try.func93 (by kernel_rfl) rfl #[.agg #[.slice Ao16 t188.length co16, .slice Ao19 t189.length co19, .int .i64 t183, .int .i64 t184], .int .i64 1] rfl Z5_32 ?_; (with_reducible refine (laws_heldState.calls k _ _ t188 _ _ t189 t183 t184 1 t190 _ ?side1 ?side2 ?side3 ?side4 A7.out).mono ?_); (case side1 => repeat (first | exact (Kd.R_reads' HO179.out).2.2 | (with_reducible refine Kd.C_alloc ?_ _) | (with_reducible refine Kd.C_drewN ?_ _) | (with_reducible refine Kd.C_drew ?_))); (case side2 => rw [show t188.length = t177.length from (Kd.R_reads' HO179.out).1.symm]; exact (Kd.R_reads' HO179.out).2.1); (case side3 => repeat (first | exact (Kd.R_reads' HO182.out).2.2 | (with_reducible refine Kd.C_alloc ?_ _) | (with_reducible refine Kd.C_drewN ?_ _) | (with_reducible refine Kd.C_drew ?_))); (case side4 => rw [show t189.length = t180.length from (Kd.R_reads' HO182.out).1.symm]; exact (Kd.R_reads' HO182.out).2.1); rintro e w25 ⟨rfl, hb⟩; refine ⟨_, rfl, ?_⟩; have n0_ := Aside0.mk Z5_50; have n1_ := Aside0.mk Z5_51; have n2_ := Aside0.mk Z5_52; have n3_ := Aside0.mk Z5_53; have n4_ := Aside0.mk Z5_33; have n5_ := Aside0.mk Z5_34; have n6_ := Aside0.mk Z5_40; clear HO170; clear HO173; clear HO179; clear HO182; clear BK176; clear BK185; clear HB; have HO170 := n0_; have HO173 := n1_; have HO179 := n2_; have HO182 := n3_; have BK176 := n4_; have BK185 := n5_; have HB := n6_; clear n0_ n1_ n2_ n3_ n4_ n5_ n6_; (try clear hb); (try clear hb2); (try clear hk); (try clear hi)))
    go_ret
    exact ⟨Z5_60, Z5_41⟩
  rw [if_pos c26] at H
  have c26b0 : (t190 == t187) = true := beq_iff_eq.mpr c26
  have c26b1 : (t190 != t187) = false := bne_eq_false_iff_eq.mpr c26
  clear c26
  replace H := Option.bind_eq_some_iff.mp H
  obtain ⟨⟨t191, t194, t197, t198⟩, A270, H⟩ := H
  replace H : ((laws_eqState.f k t191 t194 t197 t198 t168 t171 t174 t175).bind fun t200 => (if t200 = true then ((laws_heldState.f k t188 t189 t183 t184 1).bind fun t201 => (if t201 < 0 then (some false) else (if t201 = t187 then (some true) else (some false)))) else (some false))) = some r := H
  have A27 := Aside0.mk A270
  clear A270
  replace H := Option.bind_eq_some_iff.mp H
  obtain ⟨t200, A280, H⟩ := H
  replace H : (if t200 = true then ((laws_heldState.f k t188 t189 t183 t184 1).bind fun t201 => (if t201 < 0 then (some false) else (if t201 = t187 then (some true) else (some false)))) else (some false)) = some r := H
  have A28 := Aside0.mk A280
  clear A280
  repeat' (first | ((with_reducible refine gate_callee (f := 93) rfl ?_); refine goesL_ (some 21) rfl rfl Try.func93 (by kernel_rfl) rfl #[.agg #[.slice Ao16 t188.length co16, .slice Ao19 t189.length co19, .int .i64 t183, .int .i64 t184], .int .i64 1] rfl Z5_32 ?_; (with_reducible refine (laws_heldState.calls k _ _ t188 _ _ t189 t183 t184 1 t190 _ ?side1 ?side2 ?side3 ?side4 A7.out).mono ?_); (case side1 => repeat (first | exact (Kd.R_reads' HO179.out).2.2 | (with_reducible refine Kd.C_alloc ?_ _) | (with_reducible refine Kd.C_drewN ?_ _) | (with_reducible refine Kd.C_drew ?_))); (case side2 => rw [show t188.length = t177.length from (Kd.R_reads' HO179.out).1.symm]; exact (Kd.R_reads' HO179.out).2.1); (case side3 => repeat (first | exact (Kd.R_reads' HO182.out).2.2 | (with_reducible refine Kd.C_alloc ?_ _) | (with_reducible refine Kd.C_drewN ?_ _) | (with_reducible refine Kd.C_drew ?_))); (case side4 => rw [show t189.length = t180.length from (Kd.R_reads' HO182.out).1.symm]; exact (Kd.R_reads' HO182.out).2.1); rintro e w25 ⟨rfl, hb⟩; refine ⟨_, rfl, ?_⟩; have n0_ := Aside0.mk Z5_50; have n1_ := Aside0.mk Z5_51; have n2_ := Aside0.mk Z5_52; have n3_ := Aside0.mk Z5_53; have n4_ := Aside0.mk Z5_33; have n5_ := Aside0.mk Z5_34; have n6_ := Aside0.mk Z5_40; clear HO170; clear HO173; clear HO179; clear HO182; clear BK176; clear BK185; clear HB; have HO170 := n0_; have HO173 := n1_; have HO179 := n2_; have HO182 := n3_; have BK176 := n4_; have BK185 := n5_; have HB := n6_; clear n0_ n1_ n2_ n3_ n4_ n5_ n6_; (try clear hb); (try clear hb2); (try clear hk); (try clear hi); clear A7) | ((with_reducible refine gate_callee (f := 91) rfl ?_); refine goesL_ (some 28) rfl rfl Try.func91 (by kernel_rfl) rfl #[.int .i64 a0] rfl Z5_48 ?_; (with_reducible refine (impl_StateNew.calls k a0 t191 t194 t197 t198 _ A27.out).mono ?_); rintro e w49 ⟨v192, v195, rfl, ho0, ho1, hb⟩; refine ⟨_, rfl, ?_⟩; have n0_ := Aside0.mk (Kd.R_elder' Z5_56 (Kd.R_base ho0) hb); have n1_ := Aside0.mk (Kd.R_elder' Z5_57 (Kd.R_base ho1) hb); have n2_ := Aside0.mk (Kd.R_elder' Z5_58 (Kd.R_base ho0) hb); have n3_ := Aside0.mk (Kd.R_elder' Z5_59 (Kd.R_base ho1) hb); have n4_ := Aside0.mk (Kd.R_lower (Kd.R_new' (Kd.R_new' ho0 (Kd.R_lt Z5_56)) (Kd.R_lt Z5_58)) (below_size Z5_41)); have n5_ := Aside0.mk (Kd.R_lower (Kd.R_new' (Kd.R_new' ho1 (Kd.R_lt Z5_57)) (Kd.R_lt Z5_59)) (below_size Z5_41)); have n6_ := Aside0.mk Z5_33; have n7_ := Aside0.mk Z5_34; have n8_ := Aside0.mk Z5_40; clear HO170; clear HO173; clear HO179; clear HO182; clear BK176; clear BK185; clear HB; have HO170 := n0_; have HO173 := n1_; have HO179 := n2_; have HO182 := n3_; have HO193 := n4_; have HO196 := n5_; have BK176 := n6_; have BK185 := n7_; have HB := n8_; clear n0_ n1_ n2_ n3_ n4_ n5_ n6_ n7_ n8_; (try clear hb); (try clear hb2); (try clear hk); (try clear hi); (try clear ho0); (try clear ho1); clear A27) | ((fail_if_success (with_reducible refine gate_dst (N := 7) rfl ?_)); (first | go_values | go_skip | go_guarded | go_step | go_upon | go_back | (simp only [Int.not_lt, Int.not_le] at *; go_simp) | (go_ite <;> go_prune <;> (try go_simp)) | (split <;> (first | (rename_i hx; exact (hx _ rfl).elim) | go_prune)))))
  by_cases c29 : t200 = true
  rotate_left
  · replace c29 := Bool.eq_false_iff.mpr c29
    subst c29
    have H1 : (some false) = some r := by rw [if_neg (show ¬ (false = true) by decide)] at H; exact H
    clear H
    have H := H1
    clear H1
    obtain rfl := Option.some.inj H
    go_wp2_with (first | ((with_reducible refine gate_dst (N := 7) rfl ?_); refine box_event ?hg (N := 7) ?hd (cs := #[.slice none 0 0, .slice none 0 0, .int .i64 0, .int .i64 0]) (t := 84) ?hr ?_; (case hd => rfl); (case hg => rfl); (case hr => first | (go_simp; done) | (go_simp; rfl)); intro gb199 hg w50 hbox hb; have n0_ := Aside0.mk Z5_50; have n1_ := Aside0.mk Z5_51; have n2_ := Aside0.mk Z5_52; have n3_ := Aside0.mk Z5_53; have n4_ := Aside0.mk Z5_54; have n5_ := Aside0.mk Z5_55; have n6_ := Aside0.mk Z5_33; have n7_ := Aside0.mk Z5_34; have n8_ := Aside0.mk Z5_40; have n9_ := Aside0.mk (hbox); have n10_ := Aside0.mk Z5_36; have n11_ := Aside0.mk Z5_36; have n12_ := Aside0.mk Z5_28; have n13_ := Aside0.mk Z5_29; have n14_ := Aside0.mk Z5_30; have n15_ := Aside0.mk Z5_31; clear HO170; clear HO173; clear HO179; clear HO182; clear HO193; clear HO196; clear BK176; clear BK185; clear HB; have HO170 := n0_; have HO173 := n1_; have HO179 := n2_; have HO182 := n3_; have HO193 := n4_; have HO196 := n5_; have BK176 := n6_; have BK185 := n7_; have HB := n8_; have BK199 := n9_; have GW199 := n10_; have GE199 := n11_; have NB176_199 := n12_; have NB199_176 := n13_; have NB185_199 := n14_; have NB199_185 := n15_; clear n0_ n1_ n2_ n3_ n4_ n5_ n6_ n7_ n8_ n9_ n10_ n11_ n12_ n13_ n14_ n15_; clear hb hbox hg; obtain ⟨Ao51, co51, eo51⟩ := Kd.R_slice HO193.out; subst eo51; have hnb52 := NB199_176.out; have hnc52 := NB176_199.out; have hnb53 := NB199_185.out; have hnc53 := NB185_199.out; have hcz54_0 : w50.cell? ⟨gb199, 0, none⟩ = some (.slice none 0 0) := (blk_cell BK199.out 0).trans rfl; have hcz54_1 : w50.cell? ⟨gb199, 1, none⟩ = some (.slice none 0 0) := (blk_cell BK199.out 1).trans rfl; have hcz54_2 : w50.cell? ⟨gb199, 2, none⟩ = some (.int .i64 0) := (blk_cell BK199.out 2).trans rfl; have hcz54_3 : w50.cell? ⟨gb199, 3, none⟩ = some (.int .i64 0) := (blk_cell BK199.out 3).trans rfl; have hfz54_0 := blk_frozen BK199.out 0; have hfz54_1 := blk_frozen BK199.out 1; have hfz54_2 := blk_frozen BK199.out 2; have hfz54_3 := blk_frozen BK199.out 3; obtain ⟨Ao55, co55, eo55⟩ := Kd.R_slice HO196.out; subst eo55; have hcz56_0 : w50.cell? ⟨gb176, 0, none⟩ = some (.slice Ao11 t168.length co11) := (blk_cell BK176.out 0).trans rfl; have hcz56_1 : w50.cell? ⟨gb176, 1, none⟩ = some (.slice Ao13 t171.length co13) := (blk_cell BK176.out 1).trans rfl; have hcz56_2 : w50.cell? ⟨gb176, 2, none⟩ = some (.int .i64 t174) := (blk_cell BK176.out 2).trans rfl; have hcz56_3 : w50.cell? ⟨gb176, 3, none⟩ = some (.int .i64 t175) := (blk_cell BK176.out 3).trans rfl; have hfz56_0 := blk_frozen BK176.out 0; have hfz56_1 := blk_frozen BK176.out 1; have hfz56_2 := blk_frozen BK176.out 2; have hfz56_3 := blk_frozen BK176.out 3) | ((with_reducible refine gate_callee (f := 85) rfl ?_); refine goesL_ (some 31) rfl rfl Try.func85 (by kernel_rfl) rfl #[.agg #[.slice Ao51 t191.length co51, .slice Ao55 t194.length co55, .int .i64 t197, .int .i64 t198], .agg #[.slice Ao11 t168.length co11, .slice Ao13 t171.length co13, .int .i64 t174, .int .i64 t175]] rfl Z5_48 ?_; (with_reducible refine (laws_eqState.calls k _ _ t191 _ _ t194 t197 t198 _ _ t168 _ _ t171 t174 t175 false _ ?side1 ?side2 ?side3 ?side4 ?side5 ?side6 ?side7 ?side8 A28.out).mono ?_); (case side1 => refine (Kd.R_reads' (e := 54) (base := w.heap.size) (ok := fun k_ => ((True ∧ some k_ ≠ (.slice Ao11 t168.length co11 : Value).ownBlock) ∧ some k_ ≠ (.slice Ao16 t177.length co16 : Value).ownBlock)) (n := t191.length) (c := co51) ?_).2.2; exact Z5_22); (case side2 => exact (Kd.R_reads' HO193.out).2.1); (case side3 => refine (Kd.R_reads' (e := 118) (base := w.heap.size) (ok := fun k_ => ((True ∧ some k_ ≠ (.slice Ao13 t171.length co13 : Value).ownBlock) ∧ some k_ ≠ (.slice Ao19 t180.length co19 : Value).ownBlock)) (n := t194.length) (c := co55) ?_).2.2; exact Z5_23); (case side4 => exact (Kd.R_reads' HO196.out).2.1); (case side5 => refine (Kd.R_reads' (e := 54) (base := w.heap.size) (ok := fun k_ => (some k_ ≠ (.slice Ao16 t177.length co16 : Value).ownBlock ∧ some k_ ≠ (.slice Ao51 t191.length co51 : Value).ownBlock)) (n := t168.length) (c := co11) ?_).2.2; exact Z5_24); (case side6 => exact (Kd.R_reads' HO170.out).2.1); (case side7 => refine (Kd.R_reads' (e := 118) (base := w.heap.size) (ok := fun k_ => (some k_ ≠ (.slice Ao19 t180.length co19 : Value).ownBlock ∧ some k_ ≠ (.slice Ao55 t194.length co55 : Value).ownBlock)) (n := t171.length) (c := co13) ?_).2.2; exact Z5_25); (case side8 => exact (Kd.R_reads' HO173.out).2.1); rintro e w142 ⟨rfl, hb⟩; refine ⟨_, rfl, ?_⟩; have n0_ := Aside0.mk Z5_10; have n1_ := Aside0.mk Z5_11; have n2_ := Aside0.mk Z5_12; have n3_ := Aside0.mk Z5_13; have n4_ := Aside0.mk Z5_14; have n5_ := Aside0.mk Z5_15; have n6_ := Aside0.mk Z5_4; have n7_ := Aside0.mk Z5_5; have n8_ := Aside0.mk Z5_2; have n9_ := Aside0.mk Z5_37; clear HO170; clear HO173; clear HO179; clear HO182; clear HO193; clear HO196; clear BK176; clear BK185; clear BK199; clear HB; have HO170 := n0_; have HO173 := n1_; have HO179 := n2_; have HO182 := n3_; have HO193 := n4_; have HO196 := n5_; have BK176 := n6_; have BK185 := n7_; have BK199 := n8_; have HB := n9_; clear n0_ n1_ n2_ n3_ n4_ n5_ n6_ n7_ n8_ n9_; (try clear hb); (try clear hb2); (try clear hk); (try clear hi)))
    go_ret
    exact ⟨Z5_60, Z5_38⟩
  subst c29
  have H1 : ((laws_heldState.f k t188 t189 t183 t184 1).bind fun t201 => (if t201 < 0 then (some false) else (if t201 = t187 then (some true) else (some false)))) = some r := by rw [if_pos rfl] at H; exact H
  clear H
  have H := H1
  clear H1
  replace H := Option.bind_eq_some_iff.mp H
  obtain ⟨t201, A300, H⟩ := H
  replace H : (if t201 < 0 then (some false) else (if t201 = t187 then (some true) else (some false))) = some r := H
  have A30 := Aside0.mk A300
  clear A300
  repeat' (first | ((with_reducible refine gate_dst (N := 7) rfl ?_); refine box_event ?hg (N := 7) ?hd (cs := #[.slice none 0 0, .slice none 0 0, .int .i64 0, .int .i64 0]) (t := 84) ?hr ?_; (case hd => rfl); (case hg => rfl); (case hr => first | (go_simp; done) | (go_simp; rfl)); intro gb199 hg w50 hbox hb; have n0_ := Aside0.mk Z5_50; have n1_ := Aside0.mk Z5_51; have n2_ := Aside0.mk Z5_52; have n3_ := Aside0.mk Z5_53; have n4_ := Aside0.mk Z5_54; have n5_ := Aside0.mk Z5_55; have n6_ := Aside0.mk Z5_33; have n7_ := Aside0.mk Z5_34; have n8_ := Aside0.mk Z5_40; have n9_ := Aside0.mk (hbox); have n10_ := Aside0.mk Z5_36; have n11_ := Aside0.mk Z5_36; have n12_ := Aside0.mk Z5_28; have n13_ := Aside0.mk Z5_29; have n14_ := Aside0.mk Z5_30; have n15_ := Aside0.mk Z5_31; clear HO170; clear HO173; clear HO179; clear HO182; clear HO193; clear HO196; clear BK176; clear BK185; clear HB; have HO170 := n0_; have HO173 := n1_; have HO179 := n2_; have HO182 := n3_; have HO193 := n4_; have HO196 := n5_; have BK176 := n6_; have BK185 := n7_; have HB := n8_; have BK199 := n9_; have GW199 := n10_; have GE199 := n11_; have NB176_199 := n12_; have NB199_176 := n13_; have NB185_199 := n14_; have NB199_185 := n15_; clear n0_ n1_ n2_ n3_ n4_ n5_ n6_ n7_ n8_ n9_ n10_ n11_ n12_ n13_ n14_ n15_; clear hb hbox hg; obtain ⟨Ao51, co51, eo51⟩ := Kd.R_slice HO193.out; subst eo51; have hnb52 := NB199_176.out; have hnc52 := NB176_199.out; have hnb53 := NB199_185.out; have hnc53 := NB185_199.out; have hcz54_0 : w50.cell? ⟨gb199, 0, none⟩ = some (.slice none 0 0) := (blk_cell BK199.out 0).trans rfl; have hcz54_1 : w50.cell? ⟨gb199, 1, none⟩ = some (.slice none 0 0) := (blk_cell BK199.out 1).trans rfl; have hcz54_2 : w50.cell? ⟨gb199, 2, none⟩ = some (.int .i64 0) := (blk_cell BK199.out 2).trans rfl; have hcz54_3 : w50.cell? ⟨gb199, 3, none⟩ = some (.int .i64 0) := (blk_cell BK199.out 3).trans rfl; have hfz54_0 := blk_frozen BK199.out 0; have hfz54_1 := blk_frozen BK199.out 1; have hfz54_2 := blk_frozen BK199.out 2; have hfz54_3 := blk_frozen BK199.out 3; obtain ⟨Ao55, co55, eo55⟩ := Kd.R_slice HO196.out; subst eo55; have hcz56_0 : w50.cell? ⟨gb176, 0, none⟩ = some (.slice Ao11 t168.length co11) := (blk_cell BK176.out 0).trans rfl; have hcz56_1 : w50.cell? ⟨gb176, 1, none⟩ = some (.slice Ao13 t171.length co13) := (blk_cell BK176.out 1).trans rfl; have hcz56_2 : w50.cell? ⟨gb176, 2, none⟩ = some (.int .i64 t174) := (blk_cell BK176.out 2).trans rfl; have hcz56_3 : w50.cell? ⟨gb176, 3, none⟩ = some (.int .i64 t175) := (blk_cell BK176.out 3).trans rfl; have hfz56_0 := blk_frozen BK176.out 0; have hfz56_1 := blk_frozen BK176.out 1; have hfz56_2 := blk_frozen BK176.out 2; have hfz56_3 := blk_frozen BK176.out 3) | ((with_reducible refine gate_callee (f := 85) rfl ?_); refine goesL_ (some 31) rfl rfl Try.func85 (by kernel_rfl) rfl #[.agg #[.slice Ao51 t191.length co51, .slice Ao55 t194.length co55, .int .i64 t197, .int .i64 t198], .agg #[.slice Ao11 t168.length co11, .slice Ao13 t171.length co13, .int .i64 t174, .int .i64 t175]] rfl Z5_48 ?_; (with_reducible refine (laws_eqState.calls k _ _ t191 _ _ t194 t197 t198 _ _ t168 _ _ t171 t174 t175 true _ ?side1 ?side2 ?side3 ?side4 ?side5 ?side6 ?side7 ?side8 A28.out).mono ?_); (case side1 => refine (Kd.R_reads' (e := 54) (base := w.heap.size) (ok := fun k_ => ((True ∧ some k_ ≠ (.slice Ao11 t168.length co11 : Value).ownBlock) ∧ some k_ ≠ (.slice Ao16 t177.length co16 : Value).ownBlock)) (n := t191.length) (c := co51) ?_).2.2; exact Z5_22); (case side2 => exact (Kd.R_reads' HO193.out).2.1); (case side3 => refine (Kd.R_reads' (e := 118) (base := w.heap.size) (ok := fun k_ => ((True ∧ some k_ ≠ (.slice Ao13 t171.length co13 : Value).ownBlock) ∧ some k_ ≠ (.slice Ao19 t180.length co19 : Value).ownBlock)) (n := t194.length) (c := co55) ?_).2.2; exact Z5_23); (case side4 => exact (Kd.R_reads' HO196.out).2.1); (case side5 => refine (Kd.R_reads' (e := 54) (base := w.heap.size) (ok := fun k_ => (some k_ ≠ (.slice Ao16 t177.length co16 : Value).ownBlock ∧ some k_ ≠ (.slice Ao51 t191.length co51 : Value).ownBlock)) (n := t168.length) (c := co11) ?_).2.2; exact Z5_24); (case side6 => exact (Kd.R_reads' HO170.out).2.1); (case side7 => refine (Kd.R_reads' (e := 118) (base := w.heap.size) (ok := fun k_ => (some k_ ≠ (.slice Ao19 t180.length co19 : Value).ownBlock ∧ some k_ ≠ (.slice Ao55 t194.length co55 : Value).ownBlock)) (n := t171.length) (c := co13) ?_).2.2; exact Z5_25); (case side8 => exact (Kd.R_reads' HO173.out).2.1); rintro e w57 ⟨rfl, hb⟩; refine ⟨_, rfl, ?_⟩; have n0_ := Aside0.mk Z5_10; have n1_ := Aside0.mk Z5_11; have n2_ := Aside0.mk Z5_12; have n3_ := Aside0.mk Z5_13; have n4_ := Aside0.mk Z5_14; have n5_ := Aside0.mk Z5_15; have n6_ := Aside0.mk Z5_4; have n7_ := Aside0.mk Z5_5; have n8_ := Aside0.mk Z5_2; have n9_ := Aside0.mk Z5_37; clear HO170; clear HO173; clear HO179; clear HO182; clear HO193; clear HO196; clear BK176; clear BK185; clear BK199; clear HB; have HO170 := n0_; have HO173 := n1_; have HO179 := n2_; have HO182 := n3_; have HO193 := n4_; have HO196 := n5_; have BK176 := n6_; have BK185 := n7_; have BK199 := n8_; have HB := n9_; clear n0_ n1_ n2_ n3_ n4_ n5_ n6_ n7_ n8_ n9_; (try clear hb); (try clear hb2); (try clear hk); (try clear hi); have hcz58_0 : w57.cell? ⟨gb185, 0, none⟩ = some (.slice Ao16 t177.length co16) := (blk_cell BK185.out 0).trans rfl; have hcz58_1 : w57.cell? ⟨gb185, 1, none⟩ = some (.slice Ao19 t180.length co19) := (blk_cell BK185.out 1).trans rfl; have hcz58_2 : w57.cell? ⟨gb185, 2, none⟩ = some (.int .i64 t183) := (blk_cell BK185.out 2).trans rfl; have hcz58_3 : w57.cell? ⟨gb185, 3, none⟩ = some (.int .i64 t184) := (blk_cell BK185.out 3).trans rfl; have hfz58_0 := blk_frozen BK185.out 0; have hfz58_1 := blk_frozen BK185.out 1; have hfz58_2 := blk_frozen BK185.out 2; have hfz58_3 := blk_frozen BK185.out 3; clear A28) | ((fail_if_success (with_reducible refine gate_callee (f := 93) rfl ?_)); (first | go_values | go_skip | go_guarded | go_step | go_upon | go_back | (simp only [Int.not_lt, Int.not_le] at *; go_simp) | (go_ite <;> go_prune <;> (try go_simp)) | (split <;> (first | (rename_i hx; exact (hx _ rfl).elim) | go_prune)))))
  by_cases c31 : t201 < 0
  · rw [if_pos c31] at H
    have c31b0 : decide (t201 < 0) = true := decide_eq_true c31
    clear c31
    obtain rfl := Option.some.inj H
    go_wp2_with (first | ((with_reducible refine gate_callee (f := 93) rfl ?_); refine goesL_ (some 35) rfl rfl Try.func93 (by kernel_rfl) rfl #[.agg #[.slice Ao16 t188.length co16, .slice Ao19 t189.length co19, .int .i64 t183, .int .i64 t184], .int .i64 1] rfl Z5_32 ?_; (with_reducible refine (laws_heldState.calls k _ _ t188 _ _ t189 t183 t184 1 t201 _ ?side1 ?side2 ?side3 ?side4 A30.out).mono ?_); (case side1 => repeat (first | exact (Kd.R_reads' HO179.out).2.2 | (with_reducible refine Kd.C_alloc ?_ _) | (with_reducible refine Kd.C_drewN ?_ _) | (with_reducible refine Kd.C_drew ?_))); (case side2 => rw [show t188.length = t177.length from (Kd.R_reads' HO179.out).1.symm]; exact (Kd.R_reads' HO179.out).2.1); (case side3 => repeat (first | exact (Kd.R_reads' HO182.out).2.2 | (with_reducible refine Kd.C_alloc ?_ _) | (with_reducible refine Kd.C_drewN ?_ _) | (with_reducible refine Kd.C_drew ?_))); (case side4 => rw [show t189.length = t180.length from (Kd.R_reads' HO182.out).1.symm]; exact (Kd.R_reads' HO182.out).2.1); rintro e w59 ⟨rfl, hb⟩; refine ⟨_, rfl, ?_⟩; have n0_ := Aside0.mk Z5_50; have n1_ := Aside0.mk Z5_51; have n2_ := Aside0.mk Z5_52; have n3_ := Aside0.mk Z5_53; have n4_ := Aside0.mk Z5_54; have n5_ := Aside0.mk Z5_55; have n6_ := Aside0.mk Z5_33; have n7_ := Aside0.mk Z5_34; have n8_ := Aside0.mk Z5_35; have n9_ := Aside0.mk Z5_37; clear HO170; clear HO173; clear HO179; clear HO182; clear HO193; clear HO196; clear BK176; clear BK185; clear BK199; clear HB; have HO170 := n0_; have HO173 := n1_; have HO179 := n2_; have HO182 := n3_; have HO193 := n4_; have HO196 := n5_; have BK176 := n6_; have BK185 := n7_; have BK199 := n8_; have HB := n9_; clear n0_ n1_ n2_ n3_ n4_ n5_ n6_ n7_ n8_ n9_; (try clear hb); (try clear hb2); (try clear hk); (try clear hi)))
    go_ret
    exact ⟨Z5_60, Z5_38⟩
  rw [if_neg c31] at H
  have c31b0 : decide (t201 < 0) = false := decide_eq_false c31
  clear c31
  by_cases c60 : t201 = t187
  rotate_left
  · rw [if_neg c60] at H
    have c60b0 : (t201 == t187) = false := beq_eq_false_iff_ne.mpr c60
    have c60b1 : (t201 != t187) = true := bne_iff_ne.mpr c60
    obtain rfl := Option.some.inj H
    go_wp2_with (first | ((with_reducible refine gate_callee (f := 93) rfl ?_); refine goesL_ (some 35) rfl rfl Try.func93 (by kernel_rfl) rfl #[.agg #[.slice Ao16 t188.length co16, .slice Ao19 t189.length co19, .int .i64 t183, .int .i64 t184], .int .i64 1] rfl Z5_32 ?_; (with_reducible refine (laws_heldState.calls k _ _ t188 _ _ t189 t183 t184 1 t201 _ ?side1 ?side2 ?side3 ?side4 A30.out).mono ?_); (case side1 => repeat (first | exact (Kd.R_reads' HO179.out).2.2 | (with_reducible refine Kd.C_alloc ?_ _) | (with_reducible refine Kd.C_drewN ?_ _) | (with_reducible refine Kd.C_drew ?_))); (case side2 => rw [show t188.length = t177.length from (Kd.R_reads' HO179.out).1.symm]; exact (Kd.R_reads' HO179.out).2.1); (case side3 => repeat (first | exact (Kd.R_reads' HO182.out).2.2 | (with_reducible refine Kd.C_alloc ?_ _) | (with_reducible refine Kd.C_drewN ?_ _) | (with_reducible refine Kd.C_drew ?_))); (case side4 => rw [show t189.length = t180.length from (Kd.R_reads' HO182.out).1.symm]; exact (Kd.R_reads' HO182.out).2.1); rintro e w59 ⟨rfl, hb⟩; refine ⟨_, rfl, ?_⟩; have n0_ := Aside0.mk Z5_50; have n1_ := Aside0.mk Z5_51; have n2_ := Aside0.mk Z5_52; have n3_ := Aside0.mk Z5_53; have n4_ := Aside0.mk Z5_54; have n5_ := Aside0.mk Z5_55; have n6_ := Aside0.mk Z5_33; have n7_ := Aside0.mk Z5_34; have n8_ := Aside0.mk Z5_35; have n9_ := Aside0.mk Z5_37; clear HO170; clear HO173; clear HO179; clear HO182; clear HO193; clear HO196; clear BK176; clear BK185; clear BK199; clear HB; have HO170 := n0_; have HO173 := n1_; have HO179 := n2_; have HO182 := n3_; have HO193 := n4_; have HO196 := n5_; have BK176 := n6_; have BK185 := n7_; have BK199 := n8_; have HB := n9_; clear n0_ n1_ n2_ n3_ n4_ n5_ n6_ n7_ n8_ n9_; (try clear hb); (try clear hb2); (try clear hk); (try clear hi)))
    go_ret
    exact ⟨Z5_60, Z5_38⟩
  rw [if_pos c60] at H
  have c60b0 : (t201 == t187) = true := beq_iff_eq.mpr c60
  have c60b1 : (t201 != t187) = false := bne_eq_false_iff_eq.mpr c60
  clear c60
  obtain rfl := Option.some.inj H
  go_wp2_with (first | ((with_reducible refine gate_callee (f := 93) rfl ?_); refine goesL_ (some 35) rfl rfl Try.func93 (by kernel_rfl) rfl #[.agg #[.slice Ao16 t188.length co16, .slice Ao19 t189.length co19, .int .i64 t183, .int .i64 t184], .int .i64 1] rfl Z5_32 ?_; (with_reducible refine (laws_heldState.calls k _ _ t188 _ _ t189 t183 t184 1 t201 _ ?side1 ?side2 ?side3 ?side4 A30.out).mono ?_); (case side1 => repeat (first | exact (Kd.R_reads' HO179.out).2.2 | (with_reducible refine Kd.C_alloc ?_ _) | (with_reducible refine Kd.C_drewN ?_ _) | (with_reducible refine Kd.C_drew ?_))); (case side2 => rw [show t188.length = t177.length from (Kd.R_reads' HO179.out).1.symm]; exact (Kd.R_reads' HO179.out).2.1); (case side3 => repeat (first | exact (Kd.R_reads' HO182.out).2.2 | (with_reducible refine Kd.C_alloc ?_ _) | (with_reducible refine Kd.C_drewN ?_ _) | (with_reducible refine Kd.C_drew ?_))); (case side4 => rw [show t189.length = t180.length from (Kd.R_reads' HO182.out).1.symm]; exact (Kd.R_reads' HO182.out).2.1); rintro e w59 ⟨rfl, hb⟩; refine ⟨_, rfl, ?_⟩; have n0_ := Aside0.mk Z5_50; have n1_ := Aside0.mk Z5_51; have n2_ := Aside0.mk Z5_52; have n3_ := Aside0.mk Z5_53; have n4_ := Aside0.mk Z5_54; have n5_ := Aside0.mk Z5_55; have n6_ := Aside0.mk Z5_33; have n7_ := Aside0.mk Z5_34; have n8_ := Aside0.mk Z5_35; have n9_ := Aside0.mk Z5_37; clear HO170; clear HO173; clear HO179; clear HO182; clear HO193; clear HO196; clear BK176; clear BK185; clear BK199; clear HB; have HO170 := n0_; have HO173 := n1_; have HO179 := n2_; have HO182 := n3_; have HO193 := n4_; have HO196 := n5_; have BK176 := n6_; have BK185 := n7_; have BK199 := n8_; have HB := n9_; clear n0_ n1_ n2_ n3_ n4_ n5_ n6_ n7_ n8_ n9_; (try clear hb); (try clear hb2); (try clear hk); (try clear hi)))
  go_ret
  exact ⟨Z5_60, Z5_38⟩

/-- THE ONE PURE STATEMENT of laws_FnExactStateNew: yours. -/
def laws_FnExactStateNew.Pure : Prop := ∀ (a0 : Int), (Lit.int .i64 a0).wf = true → ∃ k, laws_FnExactStateNew.f k a0 = some true
theorem laws_FnExactStateNew.walk (P : laws_FnExactStateNew.Pure) (a0 : Int) (w : World) (w0 : (Lit.int .i64 a0).wf = true) :
    Calls Try.prog 14 #[.int .i64 a0] w fun e w' => e = .returned (.bool true) ∧ Below w.heap.size w w' := by
  obtain ⟨k, h⟩ := P a0 w0
  refine (laws_FnExactStateNew.calls k a0 true w h).mono ?_
  rintro e w' ⟨rfl, hd⟩
  exact ⟨rfl, hd⟩

end Go.Proofs.Ytfpbbikhcnpceaa.QFnExactStateNew
