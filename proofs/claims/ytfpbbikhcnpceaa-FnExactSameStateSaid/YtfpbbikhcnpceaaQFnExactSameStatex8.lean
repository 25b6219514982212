-- Written by a program of this session (patch_print.py over the print).
import Derived.Test.YtfpbbikhcnpceaaQFnExactSameStatex0
import Derived.Test.YtfpbbikhcnpceaaQFnExactSameStatex3
import Derived.Test.YtfpbbikhcnpceaaQFnExactSameStatex5
import Derived.Test.YtfpbbikhcnpceaaQFnExactSameStatex6
import Derived.Test.YtfpbbikhcnpceaaQFnExactSameStatex7
namespace Go.Proofs.Ytfpbbikhcnpceaa.QFnExactSameState
open Go.RowKit Go.Proofs.YtfpbbikhcnpceaaW.PrintWords Go.Proofs.YtfpbbikhcnpceaaW.PrintLast Go.Proofs.YtfpbbikhcnpceaaW.PrintMore
attribute [local go_sem] max2_int min2_int max_two min_two max_three min_three max_four min_four   -- for this text's walks alone
set_option linter.unusedVariables false
set_option linter.unusedSimpArgs false

def M8_6 (k : Nat) : Array Bool := ((List.range 6).map fun j => k.testBit j).toArray
theorem Z8_1 {p : Prop} (h : p := by (with_reducible repeat (first | apply Kd.R_alloc | apply Kd.R_drewN | apply Kd.R_drew)); exact (Kd.R_mono (Kd.R_far (p := ⟨gb202, 3, none⟩) (Kd.R_far (p := ⟨gb202, 2, none⟩) (Kd.R_far (p := ⟨gb202, 1, none⟩) (Kd.R_far (p := ⟨gb202, 0, none⟩) (Kd.R_types HO179.out BK202.out (by decide)) (fun _ hk => hk.2) (.slice Ao50 t194.length co50)) (fun _ hk => hk.2) (.slice Ao54 t197.length co54)) (fun _ hk => hk.2) (.int .i64 t200)) (fun _ hk => hk.2) (.int .i64 t201)) (fun _ h_ => h_.1))) : p := h
theorem Z8_2 {p : Prop} (h : p := by (with_reducible repeat (first | apply Kd.R_alloc | apply Kd.R_drewN | apply Kd.R_drew)); exact (Kd.R_mono (Kd.R_far (p := ⟨gb202, 3, none⟩) (Kd.R_far (p := ⟨gb202, 2, none⟩) (Kd.R_far (p := ⟨gb202, 1, none⟩) (Kd.R_far (p := ⟨gb202, 0, none⟩) (Kd.R_types HO182.out BK202.out (by decide)) (fun _ hk => hk.2) (.slice Ao50 t194.length co50)) (fun _ hk => hk.2) (.slice Ao54 t197.length co54)) (fun _ hk => hk.2) (.int .i64 t200)) (fun _ hk => hk.2) (.int .i64 t201)) (fun _ h_ => h_.1))) : p := h
theorem Z8_3 {p : Prop} (h : p := by (with_reducible repeat (first | apply Kd.R_alloc | apply Kd.R_drewN | apply Kd.R_drew)); exact (Kd.R_mono (Kd.R_far (p := ⟨gb202, 3, none⟩) (Kd.R_far (p := ⟨gb202, 2, none⟩) (Kd.R_far (p := ⟨gb202, 1, none⟩) (Kd.R_far (p := ⟨gb202, 0, none⟩) (Kd.R_types HO187.out BK202.out (by decide)) (fun _ hk => hk.2) (.slice Ao50 t194.length co50)) (fun _ hk => hk.2) (.slice Ao54 t197.length co54)) (fun _ hk => hk.2) (.int .i64 t200)) (fun _ hk => hk.2) (.int .i64 t201)) (fun _ h_ => h_.1))) : p := h
theorem Z8_4 {p : Prop} (h : p := by (with_reducible repeat (first | apply Kd.R_alloc | apply Kd.R_drewN | apply Kd.R_drew)); exact (Kd.R_mono (Kd.R_far (p := ⟨gb202, 3, none⟩) (Kd.R_far (p := ⟨gb202, 2, none⟩) (Kd.R_far (p := ⟨gb202, 1, none⟩) (Kd.R_far (p := ⟨gb202, 0, none⟩) (Kd.R_types HO190.out BK202.out (by decide)) (fun _ hk => hk.2) (.slice Ao50 t194.length co50)) (fun _ hk => hk.2) (.slice Ao54 t197.length co54)) (fun _ hk => hk.2) (.int .i64 t200)) (fun _ hk => hk.2) (.int .i64 t201)) (fun _ h_ => h_.1))) : p := h
theorem Z8_5 {p : Prop} (h : p := by (with_reducible repeat (first | apply Kd.R_alloc | apply Kd.R_drewN | apply Kd.R_drew)); exact (Kd.R_mono (Kd.R_far (p := ⟨gb202, 3, none⟩) (Kd.R_far (p := ⟨gb202, 2, none⟩) (Kd.R_far (p := ⟨gb202, 1, none⟩) (Kd.R_far (p := ⟨gb202, 0, none⟩) (Kd.R_types HO196.out BK202.out (by decide)) (fun _ hk => hk.2) (.slice Ao50 t194.length co50)) (fun _ hk => hk.2) (.slice Ao54 t197.length co54)) (fun _ hk => hk.2) (.int .i64 t200)) (fun _ hk => hk.2) (.int .i64 t201)) (fun _ h_ => h_.1))) : p := h
theorem Z8_6 {p : Prop} (h : p := by (with_reducible repeat (first | apply Kd.R_alloc | apply Kd.R_drewN | apply Kd.R_drew)); exact (Kd.R_mono (Kd.R_far (p := ⟨gb202, 3, none⟩) (Kd.R_far (p := ⟨gb202, 2, none⟩) (Kd.R_far (p := ⟨gb202, 1, none⟩) (Kd.R_far (p := ⟨gb202, 0, none⟩) (Kd.R_types HO199.out BK202.out (by decide)) (fun _ hk => hk.2) (.slice Ao50 t194.length co50)) (fun _ hk => hk.2) (.slice Ao54 t197.length co54)) (fun _ hk => hk.2) (.int .i64 t200)) (fun _ hk => hk.2) (.int .i64 t201)) (fun _ h_ => h_.1))) : p := h
theorem Z8_7 {p : Prop} (h : p := by (with_reducible repeat (first | apply Kd.R_alloc | apply Kd.R_drewN | apply Kd.R_drew)); exact (Kd.R_mono (Kd.R_far (p := ⟨gb211, 3, none⟩) (Kd.R_far (p := ⟨gb211, 2, none⟩) (Kd.R_far (p := ⟨gb211, 1, none⟩) (Kd.R_far (p := ⟨gb211, 0, none⟩) (Kd.R_types HO196.out BK211.out (by decide)) (fun _ hk => hk.2) (.slice Ao58 t203.length co58)) (fun _ hk => hk.2) (.slice Ao63 t206.length co63)) (fun _ hk => hk.2) (.int .i64 t209)) (fun _ hk => hk.2) (.int .i64 t210)) (fun _ h_ => h_.1))) : p := h
theorem Z8_8 {p : Prop} (h : p := by (with_reducible repeat (first | apply Kd.R_alloc | apply Kd.R_drewN | apply Kd.R_drew)); exact (Kd.R_mono (Kd.R_far (p := ⟨gb211, 3, none⟩) (Kd.R_far (p := ⟨gb211, 2, none⟩) (Kd.R_far (p := ⟨gb211, 1, none⟩) (Kd.R_far (p := ⟨gb211, 0, none⟩) (Kd.R_types HO199.out BK211.out (by decide)) (fun _ hk => hk.2) (.slice Ao58 t203.length co58)) (fun _ hk => hk.2) (.slice Ao63 t206.length co63)) (fun _ hk => hk.2) (.int .i64 t209)) (fun _ hk => hk.2) (.int .i64 t210)) (fun _ h_ => h_.1))) : p := h
theorem Z8_9 {p : Prop} (h : p := by (with_reducible repeat (first | apply Kd.R_alloc | apply Kd.R_drewN | apply Kd.R_drew)); exact (Kd.R_mono (Kd.R_far (p := ⟨gb211, 3, none⟩) (Kd.R_far (p := ⟨gb211, 2, none⟩) (Kd.R_far (p := ⟨gb211, 1, none⟩) (Kd.R_far (p := ⟨gb211, 0, none⟩) (Kd.R_types HO205.out BK211.out (by decide)) (fun _ hk => hk.2) (.slice Ao58 t203.length co58)) (fun _ hk => hk.2) (.slice Ao63 t206.length co63)) (fun _ hk => hk.2) (.int .i64 t209)) (fun _ hk => hk.2) (.int .i64 t210)) (fun _ h_ => h_.1))) : p := h
theorem Z8_10 {p : Prop} (h : p := by (with_reducible repeat (first | apply Kd.R_alloc | apply Kd.R_drewN | apply Kd.R_drew)); exact (Kd.R_mono (Kd.R_far (p := ⟨gb211, 3, none⟩) (Kd.R_far (p := ⟨gb211, 2, none⟩) (Kd.R_far (p := ⟨gb211, 1, none⟩) (Kd.R_far (p := ⟨gb211, 0, none⟩) (Kd.R_types HO208.out BK211.out (by decide)) (fun _ hk => hk.2) (.slice Ao58 t203.length co58)) (fun _ hk => hk.2) (.slice Ao63 t206.length co63)) (fun _ hk => hk.2) (.int .i64 t209)) (fun _ hk => hk.2) (.int .i64 t210)) (fun _ h_ => h_.1))) : p := h
theorem Z8_48 {p : Prop} (h : p := by (with_reducible repeat (first | refine blk_drewN ?_ _ | refine blk_drew ?_ | refine blk_alloc ?_ _)); exact BK173.out) : p := h
theorem Z8_11 {p : Prop} (h : p := by exact ((by rw [hg]; exact Nat.ne_of_lt (blk_lt (g := gb173) (o := .cells #[.slice A0_0 l0_0.length c0_0, .slice A0_1 l0_1.length c0_1, .int .i64 a0_2, .int .i64 a0_3] 78 (0, 0)) Z8_48) : gb173 ≠ gb174))) : p := h
theorem Z8_12 {p : Prop} (h : p := by exact ((by rw [hg]; exact Nat.ne_of_gt (blk_lt (g := gb173) (o := .cells #[.slice A0_0 l0_0.length c0_0, .slice A0_1 l0_1.length c0_1, .int .i64 a0_2, .int .i64 a0_3] 78 (0, 0)) Z8_48) : gb174 ≠ gb173))) : p := h
theorem Z8_22 {p : Prop} (h : p := by repeat (first | (with_reducible first | exact HB.out | apply below_alloc | apply pw_below_drewN | apply below_drew1 | refine below_set ?_ GE173.out | refine below_set ?_ GE174.out | refine below_set ?_ GE202.out) | exact HB.out)) : p := h
theorem Z8_13 {p : Prop} (h : p := by exact ((by rw [hg]; exact (below_size Z8_22) : w.heap.size ≤ gb211))) : p := h
theorem Z8_19 {p : Prop} (h : p := by repeat (first | (with_reducible first | exact HB.out | apply below_alloc | apply pw_below_drewN | apply below_drew1 | refine below_set ?_ GE173.out | refine below_set ?_ GE174.out | refine below_set ?_ GE202.out | refine below_set ?_ GE211.out) | exact HB.out)) : p := h
theorem Z8_14 {p : Prop} (h : p := by exact (below_step Z8_19 hb)) : p := h
theorem Z8_15 {p : Prop} (h : p := by exact (blk_below (g := gb173) (o := .cells #[.slice A0_0 l0_0.length c0_0, .slice A0_1 l0_1.length c0_1, .int .i64 a0_2, .int .i64 a0_3] 78 (0, 0)) Z8_48 hb)) : p := h
theorem Z8_49 {p : Prop} (h : p := by (with_reducible repeat (first | refine blk_drewN ?_ _ | refine blk_drew ?_ | refine blk_alloc ?_ _)); exact BK174.out) : p := h
theorem Z8_16 {p : Prop} (h : p := by exact (blk_below (g := gb174) (o := .cells #[.slice A1_0 l1_0.length c1_0, .slice A1_1 l1_1.length c1_1, .int .i64 a1_2, .int .i64 a1_3] 78 (0, 0)) Z8_49 hb)) : p := h
theorem Z8_50 {p : Prop} (h : p := by (with_reducible repeat (first | refine blk_drewN ?_ _ | refine blk_drew ?_ | refine blk_alloc ?_ _)); exact BK202.out) : p := h
theorem Z8_17 {p : Prop} (h : p := by exact (blk_below (g := gb202) (o := .cells #[.slice Ao50 t194.length co50, .slice Ao54 t197.length co54, .int .i64 t200, .int .i64 t201] 84 (0, 0)) Z8_50 hb)) : p := h
theorem Z8_18 {p : Prop} (h : p := by exact (blk_below (g := gb211) (o := .cells #[.slice Ao58 t203.length co58, .slice Ao63 t206.length co63, .int .i64 t209, .int .i64 t210] 84 (0, 0)) (by (with_reducible repeat (first | refine blk_drewN ?_ _ | refine blk_drew ?_ | refine blk_alloc ?_ _)); exact BK211.out) hb)) : p := h
theorem Z8_25 {p : Prop} (h : p := by repeat (first | (with_reducible first | exact HB.out | apply below_alloc | apply pw_below_drewN | apply below_drew1 | refine below_set ?_ GE173.out | refine below_set ?_ GE174.out) | exact HB.out)) : p := h
theorem Z8_20 {p : Prop} (h : p := by exact ((by rw [hg]; exact (below_size Z8_25) : w.heap.size ≤ gb202))) : p := h
theorem Z8_21 {p : Prop} (h : p := by exact (below_step Z8_22 hb)) : p := h
theorem Z8_23 {p : Prop} (h : p := by exact ((by rw [hg]; exact (below_size (by repeat (first | (with_reducible first | exact HB.out | apply below_alloc | apply pw_below_drewN | apply below_drew1 | refine below_set ?_ GE173.out) | exact HB.out))) : w.heap.size ≤ gb174))) : p := h
theorem Z8_24 {p : Prop} (h : p := by exact (below_step Z8_25 hb)) : p := h
theorem Z8_26 {p : Prop} (h : p := by exact ((by rw [hg]; exact (below_size (by repeat (first | (with_reducible first | exact HB.out | apply below_alloc | apply pw_below_drewN | apply below_drew1) | exact HB.out))) : w.heap.size ≤ gb173))) : p := h
theorem Z8_27 {p : Prop} (h : p := by exact (below_step (by repeat (first | (with_reducible first | exact HB.out | apply below_alloc | apply pw_below_drewN | apply below_drew1 | refine below_set ?_ GE173.out) | exact HB.out)) hb)) : p := h
theorem Z8_28 {p : Prop} (h : p := by exact (below_step (by repeat (first | (with_reducible first | exact HB.out | apply below_alloc | apply pw_below_drewN | apply below_drew1) | exact HB.out)) hb)) : p := h
theorem Z8_29 {p : Prop} (h : p := by (try simp only [List.map_toArray, List.map_cons, List.map_nil]); first | done | rfl | (simp only [List.length_drop, List.length_take]; rfl)) : p := h
theorem Z8_52 {p : Prop} (h : p := by (with_reducible repeat (first | apply Kd.R_alloc | apply Kd.R_drewN | apply Kd.R_drew)); exact HO179.out) : p := h
theorem Z8_30 {p : Prop} (h : p := by exact (Kd.R_elder' Z8_52 (Kd.R_base ho0) hb)) : p := h
theorem Z8_53 {p : Prop} (h : p := by (with_reducible repeat (first | apply Kd.R_alloc | apply Kd.R_drewN | apply Kd.R_drew)); exact HO182.out) : p := h
theorem Z8_31 {p : Prop} (h : p := by exact (Kd.R_elder' Z8_53 (Kd.R_base ho1) hb)) : p := h
theorem Z8_54 {p : Prop} (h : p := by (with_reducible repeat (first | apply Kd.R_alloc | apply Kd.R_drewN | apply Kd.R_drew)); exact HO187.out) : p := h
theorem Z8_32 {p : Prop} (h : p := by exact (Kd.R_elder' Z8_54 (Kd.R_base ho0) hb)) : p := h
theorem Z8_55 {p : Prop} (h : p := by (with_reducible repeat (first | apply Kd.R_alloc | apply Kd.R_drewN | apply Kd.R_drew)); exact HO190.out) : p := h
theorem Z8_33 {p : Prop} (h : p := by exact (Kd.R_elder' Z8_55 (Kd.R_base ho1) hb)) : p := h
theorem Z8_56 {p : Prop} (h : p := by (with_reducible repeat (first | apply Kd.R_alloc | apply Kd.R_drewN | apply Kd.R_drew)); exact HO196.out) : p := h
theorem Z8_34 {p : Prop} (h : p := by exact (Kd.R_elder' Z8_56 (Kd.R_base ho0) hb)) : p := h
theorem Z8_57 {p : Prop} (h : p := by (with_reducible repeat (first | apply Kd.R_alloc | apply Kd.R_drewN | apply Kd.R_drew)); exact HO199.out) : p := h
theorem Z8_35 {p : Prop} (h : p := by exact (Kd.R_elder' Z8_57 (Kd.R_base ho1) hb)) : p := h
theorem Z8_58 {p : Prop} (h : p := by (with_reducible repeat (first | apply Kd.R_alloc | apply Kd.R_drewN | apply Kd.R_drew)); exact HO205.out) : p := h
theorem Z8_36 {p : Prop} (h : p := by exact (Kd.R_elder' Z8_58 (Kd.R_base ho0) hb)) : p := h
theorem Z8_59 {p : Prop} (h : p := by (with_reducible repeat (first | apply Kd.R_alloc | apply Kd.R_drewN | apply Kd.R_drew)); exact HO208.out) : p := h
theorem Z8_37 {p : Prop} (h : p := by exact (Kd.R_elder' Z8_59 (Kd.R_base ho1) hb)) : p := h
theorem Z8_38 {p : Prop} (h : p := by exact (Kd.R_below Z8_52 hb)) : p := h
theorem Z8_39 {p : Prop} (h : p := by exact (Kd.R_below Z8_53 hb)) : p := h
theorem Z8_40 {p : Prop} (h : p := by exact (Kd.R_below Z8_54 hb)) : p := h
theorem Z8_41 {p : Prop} (h : p := by exact (Kd.R_below Z8_55 hb)) : p := h
theorem Z8_42 {p : Prop} (h : p := by exact (Kd.R_below Z8_56 hb)) : p := h
theorem Z8_43 {p : Prop} (h : p := by exact (Kd.R_below Z8_57 hb)) : p := h
theorem Z8_44 {p : Prop} (h : p := by exact (Kd.R_below Z8_58 hb)) : p := h
theorem Z8_45 {p : Prop} (h : p := by exact (Kd.R_below Z8_59 hb)) : p := h
theorem Z8_60 {p : Prop} (h : p := by (with_reducible repeat (first | apply Kd.R_alloc | apply Kd.R_drewN | apply Kd.R_drew)); exact HO215.out) : p := h
theorem Z8_46 {p : Prop} (h : p := by exact (Kd.R_below Z8_60 hb)) : p := h
theorem Z8_61 {p : Prop} (h : p := by (with_reducible repeat (first | apply Kd.R_alloc | apply Kd.R_drewN | apply Kd.R_drew)); exact HO218.out) : p := h
theorem Z8_47 {p : Prop} (h : p := by exact (Kd.R_below Z8_61 hb)) : p := h
theorem Z8_51 {p : Prop} (h : p := by simp only [Act.put, List.setIfInBounds_toArray, List.set_cons_zero, List.set_cons_succ, i64_w, i32_w]; rfl) : p := h
theorem Z8_62 {p : Prop} (h : p := by first | rfl | (simp [errW_none, errW_some] <;> rfl) | (simp [*, errW_none, errW_some] <;> rfl)) : p := h
/-! ### laws_FnExactSameState: function 12 -/
def laws_FnExactSameState.f (k : Nat) (l0_0 : List (S52)) (l0_1 : List (S127)) (a0_2 : Int) (a0_3 : Int) (l1_0 : List (S52)) (l1_1 : List (S127)) (a1_2 : Int) (a1_3 : Int) : Option (Bool) := (laws_szState.f l0_0 l0_1 a0_2 a0_3 1048576).bind fun t175 => (if t175 < 0 then (some true) else ((laws_szState.f l1_0 l1_1 a1_2 a1_3 t175).bind fun t176 => (if t176 < 0 then (some true) else ((laws_toState.f k l0_0 l0_1 a0_2 a0_3).bind fun bt177 => ((laws_toState.f k l1_0 l1_1 a1_2 a1_3).bind fun bt185 => ((spec_SameState.f k bt177.1 bt177.2.1 bt177.2.2.1 bt177.2.2.2 bt185.1 bt185.2.1 bt185.2.2.1 bt185.2.2.2).bind fun t193 => ((laws_toState.f k l0_0 l0_1 a0_2 a0_3).bind fun bt194 => ((laws_toState.f k l1_0 l1_1 a1_2 a1_3).bind fun bt203 => ((impl_SameState.f k bt194.1 bt194.2.1 bt194.2.2.1 bt194.2.2.2 bt203.1 bt203.2.1 bt203.2.2.1 bt203.2.2.2).bind fun t212 => (if (t212 != t193) = true then (some false) else ((laws_toState.f k l0_0 l0_1 a0_2 a0_3).bind fun bt213 => ((laws_eqState.f k bt194.1 bt194.2.1 bt194.2.2.1 bt194.2.2.2 bt213.1 bt213.2.1 bt213.2.2.1 bt213.2.2.2).bind fun t221 => (if t221 = true then ((laws_toState.f k l1_0 l1_1 a1_2 a1_3).bind fun bt222 => ((laws_eqState.f k bt203.1 bt203.2.1 bt203.2.2.1 bt203.2.2.2 bt222.1 bt222.2.1 bt222.2.2.1 bt222.2.2.2).bind fun t230 => (if t230 = true then (some true) else (some false)))) else (some false))))))))))))))
theorem laws_FnExactSameState.mono : ∀ a0 a1 a2 a3 a4 a5 a6 a7 k, LeO (laws_FnExactSameState.f k a0 a1 a2 a3 a4 a5 a6 a7) (laws_FnExactSameState.f (k + 1) a0 a1 a2 a3 a4 a5 a6 a7) := by
  intro a0 a1 a2 a3 a4 a5 a6 a7 k
  unfold laws_FnExactSameState.f
  repeat' first
      | (with_reducible exact impl_SameState.mono _ _ _ _ _ _ _ _ _)
      | (with_reducible exact laws_eqState.mono _ _ _ _ _ _ _ _ _)
      | (with_reducible exact laws_toState.mono _ _ _ _ _)
      | (with_reducible exact spec_SameState.mono _ _ _ _ _ _ _ _ _)
      | (with_reducible exact LeO.refl _)
      | (with_reducible exact LeO.none _)
      | (with_reducible refine LeO.ite ?_ ?_)
      | (with_reducible refine LeO.bind ?_ (fun _ => ?_))
      | exact impl_SameState.mono _ _ _ _ _ _ _ _ _
      | exact laws_eqState.mono _ _ _ _ _ _ _ _ _
      | exact laws_toState.mono _ _ _ _ _
      | exact spec_SameState.mono _ _ _ _ _ _ _ _ _
      | exact LeO.none _
      | refine LeO.ite ?_ ?_
      | refine LeO.bind ?_ (fun _ => ?_)
set_option maxHeartbeats 8000000 in
set_option maxRecDepth 100000 in
theorem laws_FnExactSameState.calls (k : Nat) (A0_0 : Option Addr) (c0_0 : Nat) (l0_0 : List (S52)) (A0_1 : Option Addr) (c0_1 : Nat) (l0_1 : List (S127)) (a0_2 : Int) (a0_3 : Int) (A1_0 : Option Addr) (c1_0 : Nat) (l1_0 : List (S52)) (A1_1 : Option Addr) (c1_1 : Nat) (l1_1 : List (S127)) (a1_2 : Int) (a1_3 : Int) (r : Bool) (w : World) (hr0_0 : Kd.C k52 w A0_0 l0_0.length l0_0) (hc0_0 : l0_0.length ≤ c0_0) (hr0_1 : Kd.C k127 w A0_1 l0_1.length l0_1) (hc0_1 : l0_1.length ≤ c0_1) (hr1_0 : Kd.C k52 w A1_0 l1_0.length l1_0) (hc1_0 : l1_0.length ≤ c1_0) (hr1_1 : Kd.C k127 w A1_1 l1_1.length l1_1) (hc1_1 : l1_1.length ≤ c1_1) (hrt : r = true) (h : laws_FnExactSameState.f k l0_0 l0_1 a0_2 a0_3 l1_0 l1_1 a1_2 a1_3 = some r) :
    Calls Try.prog 12 #[.agg #[.slice A0_0 l0_0.length c0_0, .slice A0_1 l0_1.length c0_1, .int .i64 a0_2, .int .i64 a0_3], .agg #[.slice A1_0 l1_0.length c1_0, .slice A1_1 l1_1.length c1_1, .int .i64 a1_2, .int .i64 a1_3]] w fun e w' => e = .returned (.bool r) ∧ Below w.heap.size w w' := by
  have hu78 := Try.underlying78
  have hu84 := Try.underlying84
  have HRT := Aside0.mk hrt
  clear hrt
  have HR0_0 := Aside0.mk hr0_0
  have HC0_0 := Aside0.mk hc0_0
  clear hr0_0 hc0_0
  have HR0_1 := Aside0.mk hr0_1
  have HC0_1 := Aside0.mk hc0_1
  clear hr0_1 hc0_1
  have HR1_0 := Aside0.mk hr1_0
  have HC1_0 := Aside0.mk hc1_0
  clear hr1_0 hc1_0
  have HR1_1 := Aside0.mk hr1_1
  have HC1_1 := Aside0.mk hc1_1
  clear hr1_1 hc1_1
  have HB := Aside0.mk (Below.refl w.heap.size w)
  have H : ((laws_szState.f l0_0 l0_1 a0_2 a0_3 1048576).bind fun t175 => (if t175 < 0 then (some true) else ((laws_szState.f l1_0 l1_1 a1_2 a1_3 t175).bind fun t176 => (if t176 < 0 then (some true) else ((laws_toState.f k l0_0 l0_1 a0_2 a0_3).bind fun bt177 => ((laws_toState.f k l1_0 l1_1 a1_2 a1_3).bind fun bt185 => ((spec_SameState.f k bt177.1 bt177.2.1 bt177.2.2.1 bt177.2.2.2 bt185.1 bt185.2.1 bt185.2.2.1 bt185.2.2.2).bind fun t193 => ((laws_toState.f k l0_0 l0_1 a0_2 a0_3).bind fun bt194 => ((laws_toState.f k l1_0 l1_1 a1_2 a1_3).bind fun bt203 => ((impl_SameState.f k bt194.1 bt194.2.1 bt194.2.2.1 bt194.2.2.2 bt203.1 bt203.2.1 bt203.2.2.1 bt203.2.2.2).bind fun t212 => (if (t212 != t193) = true then (some false) else ((laws_toState.f k l0_0 l0_1 a0_2 a0_3).bind fun bt213 => ((laws_eqState.f k bt194.1 bt194.2.1 bt194.2.2.1 bt194.2.2.2 bt213.1 bt213.2.1 bt213.2.2.1 bt213.2.2.2).bind fun t221 => (if t221 = true then ((laws_toState.f k l1_0 l1_1 a1_2 a1_3).bind fun bt222 => ((laws_eqState.f k bt203.1 bt203.2.1 bt203.2.2.1 bt203.2.2.2 bt222.1 bt222.2.1 bt222.2.2.1 bt222.2.2.2).bind fun t230 => (if t230 = true then (some true) else (some false)))) else (some false))))))))))))))) = some r := h
  clear h
  replace H := Option.bind_eq_some_iff.mp H
  obtain ⟨t175, A30, H⟩ := H
  replace H : (if t175 < 0 then (some true) else ((laws_szState.f l1_0 l1_1 a1_2 a1_3 t175).bind fun t176 => (if t176 < 0 then (some true) else ((laws_toState.f k l0_0 l0_1 a0_2 a0_3).bind fun bt177 => ((laws_toState.f k l1_0 l1_1 a1_2 a1_3).bind fun bt185 => ((spec_SameState.f k bt177.1 bt177.2.1 bt177.2.2.1 bt177.2.2.2 bt185.1 bt185.2.1 bt185.2.2.1 bt185.2.2.2).bind fun t193 => ((laws_toState.f k l0_0 l0_1 a0_2 a0_3).bind fun bt194 => ((laws_toState.f k l1_0 l1_1 a1_2 a1_3).bind fun bt203 => ((impl_SameState.f k bt194.1 bt194.2.1 bt194.2.2.1 bt194.2.2.2 bt203.1 bt203.2.1 bt203.2.2.1 bt203.2.2.2).bind fun t212 => (if (t212 != t193) = true then (some false) else ((laws_toState.f k l0_0 l0_1 a0_2 a0_3).bind fun bt213 => ((laws_eqState.f k bt194.1 bt194.2.1 bt194.2.2.1 bt194.2.2.2 bt213.1 bt213.2.1 bt213.2.2.1 bt213.2.2.2).bind fun t221 => (if t221 = true then ((laws_toState.f k l1_0 l1_1 a1_2 a1_3).bind fun bt222 => ((laws_eqState.f k bt203.1 bt203.2.1 bt203.2.2.1 bt203.2.2.2 bt222.1 bt222.2.1 bt222.2.2.1 bt222.2.2.2).bind fun t230 => (if t230 = true then (some true) else (some false)))) else (some false)))))))))))))) = some r := H
  have A3 := Aside0.mk A30
  clear A30
  by_cases c4 : t175 < 0
  · rw [if_pos c4] at H
    have c4b0 : decide (t175 < 0) = true := decide_eq_true c4
    clear c4
    obtain rfl := Option.some.inj H
    go_enter Try.func12, Try.ntmps12
    go_wp2_with (first | ((with_reducible refine gate_dst (N := 2) rfl ?_); refine box_event ?hg (N := 2) ?hd (cs := #[.slice A0_0 l0_0.length c0_0, .slice A0_1 l0_1.length c0_1, .int .i64 a0_2, .int .i64 a0_3]) (t := 78) ?hr ?_; (case hd => rfl); (case hg => rfl); (case hr => first | (go_simp; done) | (go_simp; rfl)); intro gb173 hg w5 hbox hb; have n0_ := Aside0.mk Z8_28; have n1_ := Aside0.mk (hbox); have n2_ := Aside0.mk Z8_26; have n3_ := Aside0.mk Z8_26; clear HB; have HB := n0_; have BK173 := n1_; have GW173 := n2_; have GE173 := n3_; clear n0_ n1_ n2_ n3_; clear hb hbox hg) | ((with_reducible refine gate_dst (N := 3) rfl ?_); refine box_event ?hg (N := 3) ?hd (cs := #[.slice A1_0 l1_0.length c1_0, .slice A1_1 l1_1.length c1_1, .int .i64 a1_2, .int .i64 a1_3]) (t := 78) ?hr ?_; (case hd => rfl); (case hg => rfl); (case hr => first | (go_simp; done) | (go_simp; rfl)); intro gb174 hg w6 hbox hb; have n0_ := Aside0.mk Z8_15; have n1_ := Aside0.mk Z8_27; have n2_ := Aside0.mk (hbox); have n3_ := Aside0.mk Z8_23; have n4_ := Aside0.mk Z8_23; have n5_ := Aside0.mk Z8_11; have n6_ := Aside0.mk Z8_12; clear BK173; clear HB; have BK173 := n0_; have HB := n1_; have BK174 := n2_; have GW174 := n3_; have GE174 := n4_; have NB173_174 := n5_; have NB174_173 := n6_; clear n0_ n1_ n2_ n3_ n4_ n5_ n6_; clear hb hbox hg; have hnb7 := NB173_174.out; have hnc7 := NB174_173.out; have hcz8_0 : w6.cell? ⟨gb173, 0, none⟩ = some (.slice A0_0 l0_0.length c0_0) := (blk_cell BK173.out 0).trans rfl; have hcz8_1 : w6.cell? ⟨gb173, 1, none⟩ = some (.slice A0_1 l0_1.length c0_1) := (blk_cell BK173.out 1).trans rfl; have hcz8_2 : w6.cell? ⟨gb173, 2, none⟩ = some (.int .i64 a0_2) := (blk_cell BK173.out 2).trans rfl; have hcz8_3 : w6.cell? ⟨gb173, 3, none⟩ = some (.int .i64 a0_3) := (blk_cell BK173.out 3).trans rfl; have hfz8_0 := blk_frozen BK173.out 0; have hfz8_1 := blk_frozen BK173.out 1; have hfz8_2 := blk_frozen BK173.out 2; have hfz8_3 := blk_frozen BK173.out 3) | ((with_reducible refine gate_callee (f := 81) rfl ?_); refine goesL_ (some 12) rfl rfl Try.func81 (by kernel_rfl) rfl #[.agg #[.slice A0_0 l0_0.length c0_0, .slice A0_1 l0_1.length c0_1, .int .i64 a0_2, .int .i64 a0_3], .int .i64 1048576] rfl Z8_29 ?_; (with_reducible refine (laws_szState.calls _ _ l0_0 _ _ l0_1 a0_2 a0_3 1048576 t175 _ ?side1 ?side2 ?side3 ?side4 A3.out).mono ?_); (case side1 => repeat (first | exact (Kd.C_below HR0_0.out HB.out) | (with_reducible refine Kd.C_alloc ?_ _) | (with_reducible refine Kd.C_drewN ?_ _) | (with_reducible refine Kd.C_drew ?_))); (case side2 => exact HC0_0.out); (case side3 => repeat (first | exact (Kd.C_below HR0_1.out HB.out) | (with_reducible refine Kd.C_alloc ?_ _) | (with_reducible refine Kd.C_drewN ?_ _) | (with_reducible refine Kd.C_drew ?_))); (case side4 => exact HC0_1.out); rintro e w9 ⟨rfl, hb⟩; refine ⟨_, rfl, ?_⟩; have n0_ := Aside0.mk Z8_15; have n1_ := Aside0.mk Z8_16; have n2_ := Aside0.mk Z8_24; clear BK173; clear BK174; clear HB; have BK173 := n0_; have BK174 := n1_; have HB := n2_; clear n0_ n1_ n2_; (try clear hb); (try clear hb2); (try clear hk); (try clear hi)))
    go_ret
    exact ⟨Z8_62, Z8_25⟩
  rw [if_neg c4] at H
  have c4b0 : decide (t175 < 0) = false := decide_eq_false c4
  clear c4
  replace H := Option.bind_eq_some_iff.mp H
  obtain ⟨t176, A100, H⟩ := H
  replace H : (if t176 < 0 then (some true) else ((laws_toState.f k l0_0 l0_1 a0_2 a0_3).bind fun bt177 => ((laws_toState.f k l1_0 l1_1 a1_2 a1_3).bind fun bt185 => ((spec_SameState.f k bt177.1 bt177.2.1 bt177.2.2.1 bt177.2.2.2 bt185.1 bt185.2.1 bt185.2.2.1 bt185.2.2.2).bind fun t193 => ((laws_toState.f k l0_0 l0_1 a0_2 a0_3).bind fun bt194 => ((laws_toState.f k l1_0 l1_1 a1_2 a1_3).bind fun bt203 => ((impl_SameState.f k bt194.1 bt194.2.1 bt194.2.2.1 bt194.2.2.2 bt203.1 bt203.2.1 bt203.2.2.1 bt203.2.2.2).bind fun t212 => (if (t212 != t193) = true then (some false) else ((laws_toState.f k l0_0 l0_1 a0_2 a0_3).bind fun bt213 => ((laws_eqState.f k bt194.1 bt194.2.1 bt194.2.2.1 bt194.2.2.2 bt213.1 bt213.2.1 bt213.2.2.1 bt213.2.2.2).bind fun t221 => (if t221 = true then ((laws_toState.f k l1_0 l1_1 a1_2 a1_3).bind fun bt222 => ((laws_eqState.f k bt203.1 bt203.2.1 bt203.2.2.1 bt203.2.2.2 bt222.1 bt222.2.1 bt222.2.2.1 bt222.2.2.2).bind fun t230 => (if t230 = true then (some true) else (some false)))) else (some false)))))))))))) = some r := H
  have A10 := Aside0.mk A100
  clear A100
  by_cases c11 : t176 < 0
  · rw [if_pos c11] at H
    have c11b0 : decide (t176 < 0) = true := decide_eq_true c11
    clear c11
    obtain rfl := Option.some.inj H
    go_enter Try.func12, Try.ntmps12
    go_wp2_with (first | ((with_reducible refine gate_dst (N := 2) rfl ?_); refine box_event ?hg (N := 2) ?hd (cs := #[.slice A0_0 l0_0.length c0_0, .slice A0_1 l0_1.length c0_1, .int .i64 a0_2, .int .i64 a0_3]) (t := 78) ?hr ?_; (case hd => rfl); (case hg => rfl); (case hr => first | (go_simp; done) | (go_simp; rfl)); intro gb173 hg w12 hbox hb; have n0_ := Aside0.mk Z8_28; have n1_ := Aside0.mk (hbox); have n2_ := Aside0.mk Z8_26; have n3_ := Aside0.mk Z8_26; clear HB; have HB := n0_; have BK173 := n1_; have GW173 := n2_; have GE173 := n3_; clear n0_ n1_ n2_ n3_; clear hb hbox hg) | ((with_reducible refine gate_dst (N := 3) rfl ?_); refine box_event ?hg (N := 3) ?hd (cs := #[.slice A1_0 l1_0.length c1_0, .slice A1_1 l1_1.length c1_1, .int .i64 a1_2, .int .i64 a1_3]) (t := 78) ?hr ?_; (case hd => rfl); (case hg => rfl); (case hr => first | (go_simp; done) | (go_simp; rfl)); intro gb174 hg w13 hbox hb; have n0_ := Aside0.mk Z8_15; have n1_ := Aside0.mk Z8_27; have n2_ := Aside0.mk (hbox); have n3_ := Aside0.mk Z8_23; have n4_ := Aside0.mk Z8_23; have n5_ := Aside0.mk Z8_11; have n6_ := Aside0.mk Z8_12; clear BK173; clear HB; have BK173 := n0_; have HB := n1_; have BK174 := n2_; have GW174 := n3_; have GE174 := n4_; have NB173_174 := n5_; have NB174_173 := n6_; clear n0_ n1_ n2_ n3_ n4_ n5_ n6_; clear hb hbox hg; have hnb14 := NB173_174.out; have hnc14 := NB174_173.out; have hcz15_0 : w13.cell? ⟨gb173, 0, none⟩ = some (.slice A0_0 l0_0.length c0_0) := (blk_cell BK173.out 0).trans rfl; have hcz15_1 : w13.cell? ⟨gb173, 1, none⟩ = some (.slice A0_1 l0_1.length c0_1) := (blk_cell BK173.out 1).trans rfl; have hcz15_2 : w13.cell? ⟨gb173, 2, none⟩ = some (.int .i64 a0_2) := (blk_cell BK173.out 2).trans rfl; have hcz15_3 : w13.cell? ⟨gb173, 3, none⟩ = some (.int .i64 a0_3) := (blk_cell BK173.out 3).trans rfl; have hfz15_0 := blk_frozen BK173.out 0; have hfz15_1 := blk_frozen BK173.out 1; have hfz15_2 := blk_frozen BK173.out 2; have hfz15_3 := blk_frozen BK173.out 3) | ((with_reducible refine gate_callee (f := 81) rfl ?_); refine goesL_ (some 12) rfl rfl Try.func81 (by kernel_rfl) rfl #[.agg #[.slice A0_0 l0_0.length c0_0, .slice A0_1 l0_1.length c0_1, .int .i64 a0_2, .int .i64 a0_3], .int .i64 1048576] rfl Z8_29 ?_; (with_reducible refine (laws_szState.calls _ _ l0_0 _ _ l0_1 a0_2 a0_3 1048576 t175 _ ?side1 ?side2 ?side3 ?side4 A3.out).mono ?_); (case side1 => repeat (first | exact (Kd.C_below HR0_0.out HB.out) | (with_reducible refine Kd.C_alloc ?_ _) | (with_reducible refine Kd.C_drewN ?_ _) | (with_reducible refine Kd.C_drew ?_))); (case side2 => exact HC0_0.out); (case side3 => repeat (first | exact (Kd.C_below HR0_1.out HB.out) | (with_reducible refine Kd.C_alloc ?_ _) | (with_reducible refine Kd.C_drewN ?_ _) | (with_reducible refine Kd.C_drew ?_))); (case side4 => exact HC0_1.out); rintro e w16 ⟨rfl, hb⟩; refine ⟨_, rfl, ?_⟩; have n0_ := Aside0.mk Z8_15; have n1_ := Aside0.mk Z8_16; have n2_ := Aside0.mk Z8_24; clear BK173; clear BK174; clear HB; have BK173 := n0_; have BK174 := n1_; have HB := n2_; clear n0_ n1_ n2_; (try clear hb); (try clear hb2); (try clear hk); (try clear hi); have hcz17_0 : w16.cell? ⟨gb174, 0, none⟩ = some (.slice A1_0 l1_0.length c1_0) := (blk_cell BK174.out 0).trans rfl; have hcz17_1 : w16.cell? ⟨gb174, 1, none⟩ = some (.slice A1_1 l1_1.length c1_1) := (blk_cell BK174.out 1).trans rfl; have hcz17_2 : w16.cell? ⟨gb174, 2, none⟩ = some (.int .i64 a1_2) := (blk_cell BK174.out 2).trans rfl; have hcz17_3 : w16.cell? ⟨gb174, 3, none⟩ = some (.int .i64 a1_3) := (blk_cell BK174.out 3).trans rfl; have hfz17_0 := blk_frozen BK174.out 0; have hfz17_1 := blk_frozen BK174.out 1; have hfz17_2 := blk_frozen BK174.out 2; have hfz17_3 := blk_frozen BK174.out 3; clear A3) | ((with_reducible refine gate_callee (f := 81) rfl ?_); refine goesL_ (some 17) rfl rfl Try.func81 (by kernel_rfl) rfl #[.agg #[.slice A1_0 l1_0.length c1_0, .slice A1_1 l1_1.length c1_1, .int .i64 a1_2, .int .i64 a1_3], .int .i64 t175] rfl Z8_29 ?_; (with_reducible refine (laws_szState.calls _ _ l1_0 _ _ l1_1 a1_2 a1_3 t175 t176 _ ?side1 ?side2 ?side3 ?side4 A10.out).mono ?_); (case side1 => repeat (first | exact (Kd.C_below HR1_0.out HB.out) | (with_reducible refine Kd.C_alloc ?_ _) | (with_reducible refine Kd.C_drewN ?_ _) | (with_reducible refine Kd.C_drew ?_))); (case side2 => exact HC1_0.out); (case side3 => repeat (first | exact (Kd.C_below HR1_1.out HB.out) | (with_reducible refine Kd.C_alloc ?_ _) | (with_reducible refine Kd.C_drewN ?_ _) | (with_reducible refine Kd.C_drew ?_))); (case side4 => exact HC1_1.out); rintro e w18 ⟨rfl, hb⟩; refine ⟨_, rfl, ?_⟩; have n0_ := Aside0.mk Z8_15; have n1_ := Aside0.mk Z8_16; have n2_ := Aside0.mk Z8_24; clear BK173; clear BK174; clear HB; have BK173 := n0_; have BK174 := n1_; have HB := n2_; clear n0_ n1_ n2_; (try clear hb); (try clear hb2); (try clear hk); (try clear hi); clear A10))
    go_ret
    exact ⟨Z8_62, Z8_25⟩
  rw [if_neg c11] at H
  have c11b0 : decide (t176 < 0) = false := decide_eq_false c11
  clear c11
  replace H := Option.bind_eq_some_iff.mp H
  obtain ⟨⟨t177, t180, t183, t184⟩, A190, H⟩ := H
  replace H : ((laws_toState.f k l1_0 l1_1 a1_2 a1_3).bind fun bt185 => ((spec_SameState.f k t177 t180 t183 t184 bt185.1 bt185.2.1 bt185.2.2.1 bt185.2.2.2).bind fun t193 => ((laws_toState.f k l0_0 l0_1 a0_2 a0_3).bind fun bt194 => ((laws_toState.f k l1_0 l1_1 a1_2 a1_3).bind fun bt203 => ((impl_SameState.f k bt194.1 bt194.2.1 bt194.2.2.1 bt194.2.2.2 bt203.1 bt203.2.1 bt203.2.2.1 bt203.2.2.2).bind fun t212 => (if (t212 != t193) = true then (some false) else ((laws_toState.f k l0_0 l0_1 a0_2 a0_3).bind fun bt213 => ((laws_eqState.f k bt194.1 bt194.2.1 bt194.2.2.1 bt194.2.2.2 bt213.1 bt213.2.1 bt213.2.2.1 bt213.2.2.2).bind fun t221 => (if t221 = true then ((laws_toState.f k l1_0 l1_1 a1_2 a1_3).bind fun bt222 => ((laws_eqState.f k bt203.1 bt203.2.1 bt203.2.2.1 bt203.2.2.2 bt222.1 bt222.2.1 bt222.2.2.1 bt222.2.2.2).bind fun t230 => (if t230 = true then (some true) else (some false)))) else (some false)))))))))) = some r := H
  have A19 := Aside0.mk A190
  clear A190
  replace H := Option.bind_eq_some_iff.mp H
  obtain ⟨⟨t185, t188, t191, t192⟩, A200, H⟩ := H
  replace H : ((spec_SameState.f k t177 t180 t183 t184 t185 t188 t191 t192).bind fun t193 => ((laws_toState.f k l0_0 l0_1 a0_2 a0_3).bind fun bt194 => ((laws_toState.f k l1_0 l1_1 a1_2 a1_3).bind fun bt203 => ((impl_SameState.f k bt194.1 bt194.2.1 bt194.2.2.1 bt194.2.2.2 bt203.1 bt203.2.1 bt203.2.2.1 bt203.2.2.2).bind fun t212 => (if (t212 != t193) = true then (some false) else ((laws_toState.f k l0_0 l0_1 a0_2 a0_3).bind fun bt213 => ((laws_eqState.f k bt194.1 bt194.2.1 bt194.2.2.1 bt194.2.2.2 bt213.1 bt213.2.1 bt213.2.2.1 bt213.2.2.2).bind fun t221 => (if t221 = true then ((laws_toState.f k l1_0 l1_1 a1_2 a1_3).bind fun bt222 => ((laws_eqState.f k bt203.1 bt203.2.1 bt203.2.2.1 bt203.2.2.2 bt222.1 bt222.2.1 bt222.2.2.1 bt222.2.2.2).bind fun t230 => (if t230 = true then (some true) else (some false)))) else (some false))))))))) = some r := H
  have A20 := Aside0.mk A200
  clear A200
  replace H := Option.bind_eq_some_iff.mp H
  obtain ⟨t193, A210, H⟩ := H
  replace H : ((laws_toState.f k l0_0 l0_1 a0_2 a0_3).bind fun bt194 => ((laws_toState.f k l1_0 l1_1 a1_2 a1_3).bind fun bt203 => ((impl_SameState.f k bt194.1 bt194.2.1 bt194.2.2.1 bt194.2.2.2 bt203.1 bt203.2.1 bt203.2.2.1 bt203.2.2.2).bind fun t212 => (if (t212 != t193) = true then (some false) else ((laws_toState.f k l0_0 l0_1 a0_2 a0_3).bind fun bt213 => ((laws_eqState.f k bt194.1 bt194.2.1 bt194.2.2.1 bt194.2.2.2 bt213.1 bt213.2.1 bt213.2.2.1 bt213.2.2.2).bind fun t221 => (if t221 = true then ((laws_toState.f k l1_0 l1_1 a1_2 a1_3).bind fun bt222 => ((laws_eqState.f k bt203.1 bt203.2.1 bt203.2.2.1 bt203.2.2.2 bt222.1 bt222.2.1 bt222.2.2.1 bt222.2.2.2).bind fun t230 => (if t230 = true then (some true) else (some false)))) else (some false)))))))) = some r := H
  have A21 := Aside0.mk A210
  clear A210
  replace H := Option.bind_eq_some_iff.mp H
  obtain ⟨⟨t194, t197, t200, t201⟩, A220, H⟩ := H
  replace H : ((laws_toState.f k l1_0 l1_1 a1_2 a1_3).bind fun bt203 => ((impl_SameState.f k t194 t197 t200 t201 bt203.1 bt203.2.1 bt203.2.2.1 bt203.2.2.2).bind fun t212 => (if (t212 != t193) = true then (some false) else ((laws_toState.f k l0_0 l0_1 a0_2 a0_3).bind fun bt213 => ((laws_eqState.f k t194 t197 t200 t201 bt213.1 bt213.2.1 bt213.2.2.1 bt213.2.2.2).bind fun t221 => (if t221 = true then ((laws_toState.f k l1_0 l1_1 a1_2 a1_3).bind fun bt222 => ((laws_eqState.f k bt203.1 bt203.2.1 bt203.2.2.1 bt203.2.2.2 bt222.1 bt222.2.1 bt222.2.2.1 bt222.2.2.2).bind fun t230 => (if t230 = true then (some true) else (some false)))) else (some false))))))) = some r := H
  have A22 := Aside0.mk A220
  clear A220
  replace H := Option.bind_eq_some_iff.mp H
  obtain ⟨⟨t203, t206, t209, t210⟩, A230, H⟩ := H
  replace H : ((impl_SameState.f k t194 t197 t200 t201 t203 t206 t209 t210).bind fun t212 => (if (t212 != t193) = true then (some false) else ((laws_toState.f k l0_0 l0_1 a0_2 a0_3).bind fun bt213 => ((laws_eqState.f k t194 t197 t200 t201 bt213.1 bt213.2.1 bt213.2.2.1 bt213.2.2.2).bind fun t221 => (if t221 = true then ((laws_toState.f k l1_0 l1_1 a1_2 a1_3).bind fun bt222 => ((laws_eqState.f k t203 t206 t209 t210 bt222.1 bt222.2.1 bt222.2.2.1 bt222.2.2.2).bind fun t230 => (if t230 = true then (some true) else (some false)))) else (some false)))))) = some r := H
  have A23 := Aside0.mk A230
  clear A230
  replace H := Option.bind_eq_some_iff.mp H
  obtain ⟨t212, A240, H⟩ := H
  replace H : (if (t212 != t193) = true then (some false) else ((laws_toState.f k l0_0 l0_1 a0_2 a0_3).bind fun bt213 => ((laws_eqState.f k t194 t197 t200 t201 bt213.1 bt213.2.1 bt213.2.2.1 bt213.2.2.2).bind fun t221 => (if t221 = true then ((laws_toState.f k l1_0 l1_1 a1_2 a1_3).bind fun bt222 => ((laws_eqState.f k t203 t206 t209 t210 bt222.1 bt222.2.1 bt222.2.2.1 bt222.2.2.2).bind fun t230 => (if t230 = true then (some true) else (some false)))) else (some false))))) = some r := H
  have A24 := Aside0.mk A240
  clear A240
  by_cases c25 : (t212 != t193) = true
  · rw [if_pos c25] at H
    exact absurd (H.trans (congrArg some HRT.out)) (by simp)
  rw [if_neg c25] at H
  have c25b0 : (t212 != t193) = false := by simpa using c25
  (try (have c25b1 : decide (t212 = t193) = true := by simpa using c25))
  (try (have c25b2 : (t212 == t193) = true := by simpa using c25))
  clear c25
  replace H := Option.bind_eq_some_iff.mp H
  obtain ⟨⟨t213, t216, t219, t220⟩, A260, H⟩ := H
  replace H : ((laws_eqState.f k t194 t197 t200 t201 t213 t216 t219 t220).bind fun t221 => (if t221 = true then ((laws_toState.f k l1_0 l1_1 a1_2 a1_3).bind fun bt222 => ((laws_eqState.f k t203 t206 t209 t210 bt222.1 bt222.2.1 bt222.2.2.1 bt222.2.2.2).bind fun t230 => (if t230 = true then (some true) else (some false)))) else (some false))) = some r := H
  have A26 := Aside0.mk A260
  clear A260
  replace H := Option.bind_eq_some_iff.mp H
  obtain ⟨t221, A270, H⟩ := H
  replace H : (if t221 = true then ((laws_toState.f k l1_0 l1_1 a1_2 a1_3).bind fun bt222 => ((laws_eqState.f k t203 t206 t209 t210 bt222.1 bt222.2.1 bt222.2.2.1 bt222.2.2.2).bind fun t230 => (if t230 = true then (some true) else (some false)))) else (some false)) = some r := H
  have A27 := Aside0.mk A270
  clear A270
  by_cases c28 : t221 = true
  rotate_left
  · replace c28 := Bool.eq_false_iff.mpr c28
    subst c28
    have H1 : (some false) = some r := by rw [if_neg (show ¬ (false = true) by decide)] at H; exact H
    clear H
    have H := H1
    clear H1
    exact absurd (H.trans (congrArg some HRT.out)) (by simp)
  subst c28
  have H1 : ((laws_toState.f k l1_0 l1_1 a1_2 a1_3).bind fun bt222 => ((laws_eqState.f k t203 t206 t209 t210 bt222.1 bt222.2.1 bt222.2.2.1 bt222.2.2.2).bind fun t230 => (if t230 = true then (some true) else (some false)))) = some r := by rw [if_pos rfl] at H; exact H
  clear H
  have H := H1
  clear H1
  replace H := Option.bind_eq_some_iff.mp H
  obtain ⟨⟨t222, t225, t228, t229⟩, A290, H⟩ := H
  replace H : ((laws_eqState.f k t203 t206 t209 t210 t222 t225 t228 t229).bind fun t230 => (if t230 = true then (some true) else (some false))) = some r := H
  have A29 := Aside0.mk A290
  clear A290
  replace H := Option.bind_eq_some_iff.mp H
  obtain ⟨t230, A300, H⟩ := H
  replace H : (if t230 = true then (some true) else (some false)) = some r := H
  have A30 := Aside0.mk A300
  clear A300
  by_cases c31 : t230 = true
  rotate_left
  · replace c31 := Bool.eq_false_iff.mpr c31
    subst c31
    have H1 : (some false) = some r := by rw [if_neg (show ¬ (false = true) by decide)] at H; exact H
    clear H
    have H := H1
    clear H1
    exact absurd (H.trans (congrArg some HRT.out)) (by simp)
  subst c31
  have H1 : (some true) = some r := by rw [if_pos rfl] at H; exact H
  clear H
  have H := H1
  clear H1
  obtain rfl := Option.some.inj H
  go_enter Try.func12, Try.ntmps12
  try go_wp2_with (first | ((with_reducible refine gate_dst (N := 2) rfl ?_); refine box_event ?hg (N := 2) ?hd (cs := #[.slice A0_0 l0_0.length c0_0, .slice A0_1 l0_1.length c0_1, .int .i64 a0_2, .int .i64 a0_3]) (t := 78) ?hr ?_; (case hd => rfl); (case hg => rfl); (case hr => first | (go_simp; done) | (go_simp; rfl)); intro gb173 hg w32 hbox hb; have n0_ := Aside0.mk Z8_28; have n1_ := Aside0.mk (hbox); have n2_ := Aside0.mk Z8_26; have n3_ := Aside0.mk Z8_26; clear HB; have HB := n0_; have BK173 := n1_; have GW173 := n2_; have GE173 := n3_; clear n0_ n1_ n2_ n3_; clear hb hbox hg) | ((with_reducible refine gate_dst (N := 3) rfl ?_); refine box_event ?hg (N := 3) ?hd (cs := #[.slice A1_0 l1_0.length c1_0, .slice A1_1 l1_1.length c1_1, .int .i64 a1_2, .int .i64 a1_3]) (t := 78) ?hr ?_; (case hd => rfl); (case hg => rfl); (case hr => first | (go_simp; done) | (go_simp; rfl)); intro gb174 hg w33 hbox hb; have n0_ := Aside0.mk Z8_15; have n1_ := Aside0.mk Z8_27; have n2_ := Aside0.mk (hbox); have n3_ := Aside0.mk Z8_23; have n4_ := Aside0.mk Z8_23; have n5_ := Aside0.mk Z8_11; have n6_ := Aside0.mk Z8_12; clear BK173; clear HB; have BK173 := n0_; have HB := n1_; have BK174 := n2_; have GW174 := n3_; have GE174 := n4_; have NB173_174 := n5_; have NB174_173 := n6_; clear n0_ n1_ n2_ n3_ n4_ n5_ n6_; clear hb hbox hg; have hnb34 := NB173_174.out; have hnc34 := NB174_173.out; have hcz35_0 : w33.cell? ⟨gb173, 0, none⟩ = some (.slice A0_0 l0_0.length c0_0) := (blk_cell BK173.out 0).trans rfl; have hcz35_1 : w33.cell? ⟨gb173, 1, none⟩ = some (.slice A0_1 l0_1.length c0_1) := (blk_cell BK173.out 1).trans rfl; have hcz35_2 : w33.cell? ⟨gb173, 2, none⟩ = some (.int .i64 a0_2) := (blk_cell BK173.out 2).trans rfl; have hcz35_3 : w33.cell? ⟨gb173, 3, none⟩ = some (.int .i64 a0_3) := (blk_cell BK173.out 3).trans rfl; have hfz35_0 := blk_frozen BK173.out 0; have hfz35_1 := blk_frozen BK173.out 1; have hfz35_2 := blk_frozen BK173.out 2; have hfz35_3 := blk_frozen BK173.out 3) | ((with_reducible refine gate_callee (f := 81) rfl ?_); refine goesL_ (some 12) rfl rfl Try.func81 (by kernel_rfl) rfl #[.agg #[.slice A0_0 l0_0.length c0_0, .slice A0_1 l0_1.length c0_1, .int .i64 a0_2, .int .i64 a0_3], .int .i64 1048576] rfl Z8_29 ?_; (with_reducible refine (laws_szState.calls _ _ l0_0 _ _ l0_1 a0_2 a0_3 1048576 t175 _ ?side1 ?side2 ?side3 ?side4 A3.out).mono ?_); (case side1 => repeat (first | exact (Kd.C_below HR0_0.out HB.out) | (with_reducible refine Kd.C_alloc ?_ _) | (with_reducible refine Kd.C_drewN ?_ _) | (with_reducible refine Kd.C_drew ?_))); (case side2 => exact HC0_0.out); (case side3 => repeat (first | exact (Kd.C_below HR0_1.out HB.out) | (with_reducible refine Kd.C_alloc ?_ _) | (with_reducible refine Kd.C_drewN ?_ _) | (with_reducible refine Kd.C_drew ?_))); (case side4 => exact HC0_1.out); rintro e w36 ⟨rfl, hb⟩; refine ⟨_, rfl, ?_⟩; have n0_ := Aside0.mk Z8_15; have n1_ := Aside0.mk Z8_16; have n2_ := Aside0.mk Z8_24; clear BK173; clear BK174; clear HB; have BK173 := n0_; have BK174 := n1_; have HB := n2_; clear n0_ n1_ n2_; (try clear hb); (try clear hb2); (try clear hk); (try clear hi); have hcz37_0 : w36.cell? ⟨gb174, 0, none⟩ = some (.slice A1_0 l1_0.length c1_0) := (blk_cell BK174.out 0).trans rfl; have hcz37_1 : w36.cell? ⟨gb174, 1, none⟩ = some (.slice A1_1 l1_1.length c1_1) := (blk_cell BK174.out 1).trans rfl; have hcz37_2 : w36.cell? ⟨gb174, 2, none⟩ = some (.int .i64 a1_2) := (blk_cell BK174.out 2).trans rfl; have hcz37_3 : w36.cell? ⟨gb174, 3, none⟩ = some (.int .i64 a1_3) := (blk_cell BK174.out 3).trans rfl; have hfz37_0 := blk_frozen BK174.out 0; have hfz37_1 := blk_frozen BK174.out 1; have hfz37_2 := blk_frozen BK174.out 2; have hfz37_3 := blk_frozen BK174.out 3; clear A3) | ((with_reducible refine gate_callee (f := 81) rfl ?_); refine goesL_ (some 17) rfl rfl Try.func81 (by kernel_rfl) rfl #[.agg #[.slice A1_0 l1_0.length c1_0, .slice A1_1 l1_1.length c1_1, .int .i64 a1_2, .int .i64 a1_3], .int .i64 t175] rfl Z8_29 ?_; (with_reducible refine (laws_szState.calls _ _ l1_0 _ _ l1_1 a1_2 a1_3 t175 t176 _ ?side1 ?side2 ?side3 ?side4 A10.out).mono ?_); (case side1 => repeat (first | exact (Kd.C_below HR1_0.out HB.out) | (with_reducible refine Kd.C_alloc ?_ _) | (with_reducible refine Kd.C_drewN ?_ _) | (with_reducible refine Kd.C_drew ?_))); (case side2 => exact HC1_0.out); (case side3 => repeat (first | exact (Kd.C_below HR1_1.out HB.out) | (with_reducible refine Kd.C_alloc ?_ _) | (with_reducible refine Kd.C_drewN ?_ _) | (with_reducible refine Kd.C_drew ?_))); (case side4 => exact HC1_1.out); rintro e w38 ⟨rfl, hb⟩; refine ⟨_, rfl, ?_⟩; have n0_ := Aside0.mk Z8_15; have n1_ := Aside0.mk Z8_16; have n2_ := Aside0.mk Z8_24; clear BK173; clear BK174; clear HB; have BK173 := n0_; have BK174 := n1_; have HB := n2_; clear n0_ n1_ n2_; (try clear hb); (try clear hb2); (try clear hk); (try clear hi); clear A10))
  have n0_ := Aside0.mk (blk_drew BK173.out)
  have n1_ := Aside0.mk (blk_drew BK174.out)
  have n2_ := Aside0.mk (below_drew1 HB.out)
  clear BK173
  clear BK174
  clear HB
  have BK173 := n0_
  have BK174 := n1_
  have HB := n2_
  clear n0_ n1_ n2_
  refine start_ (n := 6) (S := fun w' => w'.cell? ⟨gb173, 0, none⟩ = some (.slice A0_0 l0_0.length c0_0) ∧ w'.cell? ⟨gb173, 1, none⟩ = some (.slice A0_1 l0_1.length c0_1) ∧ w'.cell? ⟨gb173, 2, none⟩ = some (.int .i64 a0_2) ∧ w'.cell? ⟨gb173, 3, none⟩ = some (.int .i64 a0_3) ∧ w'.cell? ⟨gb174, 0, none⟩ = some (.slice A1_0 l1_0.length c1_0) ∧ w'.cell? ⟨gb174, 1, none⟩ = some (.slice A1_1 l1_1.length c1_1) ∧ w'.cell? ⟨gb174, 2, none⟩ = some (.int .i64 a1_2) ∧ w'.cell? ⟨gb174, 3, none⟩ = some (.int .i64 a1_3)) (ds := []) #[false, false, false, false, false, false] (by kernel_rfl) rfl rfl ⟨(blk_cell BK173.out 0).trans rfl, (blk_cell BK173.out 1).trans rfl, (blk_cell BK173.out 2).trans rfl, (blk_cell BK173.out 3).trans rfl, (blk_cell BK174.out 0).trans rfl, (blk_cell BK174.out 1).trans rfl, (blk_cell BK174.out 2).trans rfl, (blk_cell BK174.out 3).trans rfl⟩ (fun hHeld => ?_)
  generalize w38.drew = w39 at BK173 BK174 HB hHeld ⊢
  refine take_ (i := 0) (N := some 20) (v := ?_) (a' := ?_) (M8_6 1) rfl rfl (by kernel_rfl) (fun _ _ _ h => h) (Or.inl ⟨(by rfl), ?_⟩) hHeld ?_ ?_
  rotate_left
  · rintro w' ⟨s0, s1, s2, s3, s4, s5, s6, s7⟩
    go_simp
    with_reducible rfl
  rotate_left
  · simp only [Act.put, List.setIfInBounds_toArray, List.set_cons_zero, List.set_cons_succ, i64_w, i32_w]
    rfl
  refine take_ (i := 2) (N := some 22) (v := ?_) (a' := ?_) (M8_6 5) rfl rfl (by kernel_rfl) (fun _ _ _ h => h) (Or.inl ⟨(by rfl), ?_⟩) hHeld ?_ ?_
  rotate_left
  · rintro w' ⟨s0, s1, s2, s3, s4, s5, s6, s7⟩
    go_simp
    with_reducible rfl
  rotate_left
  · simp only [Act.put, List.setIfInBounds_toArray, List.set_cons_zero, List.set_cons_succ, i64_w, i32_w]
    rfl
  refine one_ (i := 1) (N := some 21) (M8_6 7) rfl rfl (by kernel_rfl) (by decide) (fun K hK => ?_)
  refine goes_ Try.func83 (by kernel_rfl) rfl #[.agg #[.slice A0_0 l0_0.length c0_0, .slice A0_1 l0_1.length c0_1, .int .i64 a0_2, .int .i64 a0_3]] (by rfl) rfl rfl Z8_29 ?_
  with_reducible refine (laws_toState.calls k _ _ l0_0 _ _ l0_1 a0_2 a0_3 t177 t180 t183 t184 _ ?side1 ?side2 ?side3 ?side4 A19.out).mono ?_
  (case side1 => repeat (first | exact (Kd.C_below HR0_0.out HB.out) | (with_reducible refine Kd.C_alloc ?_ _) | (with_reducible refine Kd.C_drewN ?_ _) | (with_reducible refine Kd.C_drew ?_)))
  (case side2 => exact HC0_0.out)
  (case side3 => repeat (first | exact (Kd.C_below HR0_1.out HB.out) | (with_reducible refine Kd.C_alloc ?_ _) | (with_reducible refine Kd.C_drewN ?_ _) | (with_reducible refine Kd.C_drew ?_)))
  (case side4 => exact HC0_1.out)
  rintro e w40 ⟨v178, v181, rfl, ho0, ho1, hb⟩
  refine ⟨_, rfl, ?_⟩
  have n0_ := Aside0.mk (Kd.R_lower ho0 (below_size Z8_25))
  have n1_ := Aside0.mk (Kd.R_lower ho1 (below_size Z8_25))
  have n2_ := Aside0.mk Z8_15
  have n3_ := Aside0.mk Z8_16
  have n4_ := Aside0.mk Z8_24
  clear BK173
  clear BK174
  clear HB
  have HO179 := n0_
  have HO182 := n1_
  have BK173 := n2_
  have BK174 := n3_
  have HB := n4_
  clear n0_ n1_ n2_ n3_ n4_
  (try clear hb)
  (try clear hb2)
  (try clear hk)
  (try clear hi)
  (try clear ho0)
  (try clear ho1)
  refine hK.out _ _ ⟨(blk_cell BK173.out 0).trans rfl, (blk_cell BK173.out 1).trans rfl, (blk_cell BK173.out 2).trans rfl, (blk_cell BK173.out 3).trans rfl, (blk_cell BK174.out 0).trans rfl, (blk_cell BK174.out 1).trans rfl, (blk_cell BK174.out 2).trans rfl, (blk_cell BK174.out 3).trans rfl⟩ (fun hHeld => ?_)
  clear hK K
  refine norm_ (a' := ?_) ?_ ?_
  rotate_left
  · show Act.put _ (some 21) _ = _
    simp only [Act.put, List.setIfInBounds_toArray, List.set_cons_zero, List.set_cons_succ, i64_w, i32_w]
    rfl
  refine one_ (i := 3) (N := some 23) (M8_6 15) rfl rfl (by kernel_rfl) (by decide) (fun K hK => ?_)
  refine goes_ Try.func83 (by kernel_rfl) rfl #[.agg #[.slice A1_0 l1_0.length c1_0, .slice A1_1 l1_1.length c1_1, .int .i64 a1_2, .int .i64 a1_3]] (by rfl) rfl rfl Z8_29 ?_
  with_reducible refine (laws_toState.calls k _ _ l1_0 _ _ l1_1 a1_2 a1_3 t185 t188 t191 t192 _ ?side1 ?side2 ?side3 ?side4 A20.out).mono ?_
  (case side1 => repeat (first | exact (Kd.C_below HR1_0.out HB.out) | (with_reducible refine Kd.C_alloc ?_ _) | (with_reducible refine Kd.C_drewN ?_ _) | (with_reducible refine Kd.C_drew ?_)))
  (case side2 => exact HC1_0.out)
  (case side3 => repeat (first | exact (Kd.C_below HR1_1.out HB.out) | (with_reducible refine Kd.C_alloc ?_ _) | (with_reducible refine Kd.C_drewN ?_ _) | (with_reducible refine Kd.C_drew ?_)))
  (case side4 => exact HC1_1.out)
  rintro e w41 ⟨v186, v189, rfl, ho0, ho1, hb⟩
  refine ⟨_, rfl, ?_⟩
  have n0_ := Aside0.mk Z8_30
  have n1_ := Aside0.mk Z8_31
  have n2_ := Aside0.mk (Kd.R_lower (Kd.R_new' ho0 (Kd.R_lt Z8_52)) (below_size Z8_25))
  have n3_ := Aside0.mk (Kd.R_lower (Kd.R_new' ho1 (Kd.R_lt Z8_53)) (below_size Z8_25))
  have n4_ := Aside0.mk Z8_15
  have n5_ := Aside0.mk Z8_16
  have n6_ := Aside0.mk Z8_24
  clear HO179
  clear HO182
  clear BK173
  clear BK174
  clear HB
  have HO179 := n0_
  have HO182 := n1_
  have HO187 := n2_
  have HO190 := n3_
  have BK173 := n4_
  have BK174 := n5_
  have HB := n6_
  clear n0_ n1_ n2_ n3_ n4_ n5_ n6_
  (try clear hb)
  (try clear hb2)
  (try clear hk)
  (try clear hi)
  (try clear ho0)
  (try clear ho1)
  obtain ⟨Ao42, co42, eo42⟩ := Kd.R_slice HO179.out
  (first | subst eo42 | (injection eo42 with f1_ f2_ f3_; have f4_ := f1_.symm; have f5_ := f3_.symm; clear f1_ f2_ f3_; subst f4_; subst f5_))
  obtain ⟨Ao43, co43, eo43⟩ := Kd.R_slice HO182.out
  (first | subst eo43 | (injection eo43 with f1_ f2_ f3_; have f4_ := f1_.symm; have f5_ := f3_.symm; clear f1_ f2_ f3_; subst f4_; subst f5_))
  obtain ⟨Ao44, co44, eo44⟩ := Kd.R_slice HO187.out
  (first | subst eo44 | (injection eo44 with f1_ f2_ f3_; have f4_ := f1_.symm; have f5_ := f3_.symm; clear f1_ f2_ f3_; subst f4_; subst f5_))
  obtain ⟨Ao45, co45, eo45⟩ := Kd.R_slice HO190.out
  (first | subst eo45 | (injection eo45 with f1_ f2_ f3_; have f4_ := f1_.symm; have f5_ := f3_.symm; clear f1_ f2_ f3_; subst f4_; subst f5_))
  refine hK.out _ _ ⟨(blk_cell BK173.out 0).trans rfl, (blk_cell BK173.out 1).trans rfl, (blk_cell BK173.out 2).trans rfl, (blk_cell BK173.out 3).trans rfl, (blk_cell BK174.out 0).trans rfl, (blk_cell BK174.out 1).trans rfl, (blk_cell BK174.out 2).trans rfl, (blk_cell BK174.out 3).trans rfl⟩ (fun hHeld => ?_)
  clear hK K
  refine norm_ (a' := ?_) ?_ ?_
  rotate_left
  · show Act.put _ (some 23) _ = _
    simp only [Act.put, List.setIfInBounds_toArray, List.set_cons_zero, List.set_cons_succ, i64_w, i32_w]
    rfl
  refine one_ (i := 4) (N := some 24) (M8_6 31) rfl rfl (by kernel_rfl) (by decide) (fun K hK => ?_)
  refine goes_ Try.func86 (by kernel_rfl) rfl #[.agg #[.slice Ao42 t177.length co42, .slice Ao43 t180.length co43, .int .i64 t183, .int .i64 t184], .agg #[.slice Ao44 t185.length co44, .slice Ao45 t188.length co45, .int .i64 t191, .int .i64 t192]] (by rfl) rfl rfl Z8_29 ?_
  with_reducible refine (spec_SameState.calls k _ _ t177 _ _ t180 t183 t184 _ _ t185 _ _ t188 t191 t192 t193 _ ?side1 ?side2 ?side3 ?side4 ?side5 ?side6 ?side7 ?side8 A21.out).mono ?_
  (case side1 => repeat (first | exact (Kd.R_reads' HO179.out).2.2 | (with_reducible refine Kd.C_alloc ?_ _) | (with_reducible refine Kd.C_drewN ?_ _) | (with_reducible refine Kd.C_drew ?_)))
  (case side2 => exact (Kd.R_reads' HO179.out).2.1)
  (case side3 => repeat (first | exact (Kd.R_reads' HO182.out).2.2 | (with_reducible refine Kd.C_alloc ?_ _) | (with_reducible refine Kd.C_drewN ?_ _) | (with_reducible refine Kd.C_drew ?_)))
  (case side4 => exact (Kd.R_reads' HO182.out).2.1)
  (case side5 => repeat (first | exact (Kd.R_reads' HO187.out).2.2 | (with_reducible refine Kd.C_alloc ?_ _) | (with_reducible refine Kd.C_drewN ?_ _) | (with_reducible refine Kd.C_drew ?_)))
  (case side6 => exact (Kd.R_reads' HO187.out).2.1)
  (case side7 => repeat (first | exact (Kd.R_reads' HO190.out).2.2 | (with_reducible refine Kd.C_alloc ?_ _) | (with_reducible refine Kd.C_drewN ?_ _) | (with_reducible refine Kd.C_drew ?_)))
  (case side8 => exact (Kd.R_reads' HO190.out).2.1)
  rintro e w46 ⟨rfl, hb⟩
  refine ⟨_, rfl, ?_⟩
  have n0_ := Aside0.mk Z8_38
  have n1_ := Aside0.mk Z8_39
  have n2_ := Aside0.mk Z8_40
  have n3_ := Aside0.mk Z8_41
  have n4_ := Aside0.mk Z8_15
  have n5_ := Aside0.mk Z8_16
  have n6_ := Aside0.mk Z8_24
  clear HO179
  clear HO182
  clear HO187
  clear HO190
  clear BK173
  clear BK174
  clear HB
  have HO179 := n0_
  have HO182 := n1_
  have HO187 := n2_
  have HO190 := n3_
  have BK173 := n4_
  have BK174 := n5_
  have HB := n6_
  clear n0_ n1_ n2_ n3_ n4_ n5_ n6_
  (try clear hb)
  (try clear hb2)
  (try clear hk)
  (try clear hi)
  refine hK.out _ _ ⟨(blk_cell BK173.out 0).trans rfl, (blk_cell BK173.out 1).trans rfl, (blk_cell BK173.out 2).trans rfl, (blk_cell BK173.out 3).trans rfl, (blk_cell BK174.out 0).trans rfl, (blk_cell BK174.out 1).trans rfl, (blk_cell BK174.out 2).trans rfl, (blk_cell BK174.out 3).trans rfl⟩ (fun hHeld => ?_)
  clear hK K
  refine norm_ (a' := ?_) ?_ ?_
  rotate_left
  · show Act.put _ (some 24) _ = _
    simp only [Act.put, List.setIfInBounds_toArray, List.set_cons_zero, List.set_cons_succ, i64_w, i32_w]
    rfl
  refine pure_ (i := 5) (N := some 6) (v := _) (a' := _) (M8_6 63) rfl rfl (by kernel_rfl) (fun _ _ _ h => h) (Or.inl ⟨(by rfl), (by intro w'; go_simp; with_reducible rfl)⟩) Z8_51 ?_
  refine done_ (by kernel_rfl) ?_
  have hcz47_0 : w46.cell? ⟨gb173, 0, none⟩ = some (.slice A0_0 l0_0.length c0_0) := (blk_cell BK173.out 0).trans rfl
  have hcz47_1 : w46.cell? ⟨gb173, 1, none⟩ = some (.slice A0_1 l0_1.length c0_1) := (blk_cell BK173.out 1).trans rfl
  have hcz47_2 : w46.cell? ⟨gb173, 2, none⟩ = some (.int .i64 a0_2) := (blk_cell BK173.out 2).trans rfl
  have hcz47_3 : w46.cell? ⟨gb173, 3, none⟩ = some (.int .i64 a0_3) := (blk_cell BK173.out 3).trans rfl
  have hfz47_0 := blk_frozen BK173.out 0
  have hfz47_1 := blk_frozen BK173.out 1
  have hfz47_2 := blk_frozen BK173.out 2
  have hfz47_3 := blk_frozen BK173.out 3
  try go_wp2_with (first | ((with_reducible refine gate_callee (f := 83) rfl ?_); refine goesL_ (some 26) rfl rfl Try.func83 (by kernel_rfl) rfl #[.agg #[.slice A0_0 l0_0.length c0_0, .slice A0_1 l0_1.length c0_1, .int .i64 a0_2, .int .i64 a0_3]] rfl Z8_29 ?_; (with_reducible refine (laws_toState.calls k _ _ l0_0 _ _ l0_1 a0_2 a0_3 t194 t197 t200 t201 _ ?side1 ?side2 ?side3 ?side4 A22.out).mono ?_); (case side1 => repeat (first | exact (Kd.C_below HR0_0.out HB.out) | (with_reducible refine Kd.C_alloc ?_ _) | (with_reducible refine Kd.C_drewN ?_ _) | (with_reducible refine Kd.C_drew ?_))); (case side2 => exact HC0_0.out); (case side3 => repeat (first | exact (Kd.C_below HR0_1.out HB.out) | (with_reducible refine Kd.C_alloc ?_ _) | (with_reducible refine Kd.C_drewN ?_ _) | (with_reducible refine Kd.C_drew ?_))); (case side4 => exact HC0_1.out); rintro e w48 ⟨v195, v198, rfl, ho0, ho1, hb⟩; refine ⟨_, rfl, ?_⟩; have n0_ := Aside0.mk Z8_30; have n1_ := Aside0.mk Z8_31; have n2_ := Aside0.mk Z8_32; have n3_ := Aside0.mk Z8_33; have n4_ := Aside0.mk (Kd.R_lower (Kd.R_new' (Kd.R_new' ho0 (Kd.R_lt Z8_52)) (Kd.R_lt Z8_54)) (below_size Z8_25)); have n5_ := Aside0.mk (Kd.R_lower (Kd.R_new' (Kd.R_new' ho1 (Kd.R_lt Z8_53)) (Kd.R_lt Z8_55)) (below_size Z8_25)); have n6_ := Aside0.mk Z8_15; have n7_ := Aside0.mk Z8_16; have n8_ := Aside0.mk Z8_24; clear HO179; clear HO182; clear HO187; clear HO190; clear BK173; clear BK174; clear HB; have HO179 := n0_; have HO182 := n1_; have HO187 := n2_; have HO190 := n3_; have HO196 := n4_; have HO199 := n5_; have BK173 := n6_; have BK174 := n7_; have HB := n8_; clear n0_ n1_ n2_ n3_ n4_ n5_ n6_ n7_ n8_; (try clear hb); (try clear hb2); (try clear hk); (try clear hi); (try clear ho0); (try clear ho1); clear A22) | ((with_reducible refine gate_dst (N := 7) rfl ?_); refine box_event ?hg (N := 7) ?hd (cs := #[.slice none 0 0, .slice none 0 0, .int .i64 0, .int .i64 0]) (t := 84) ?hr ?_; (case hd => rfl); (case hg => rfl); (case hr => first | (go_simp; done) | (go_simp; rfl)); intro gb202 hg w49 hbox hb; have n0_ := Aside0.mk Z8_38; have n1_ := Aside0.mk Z8_39; have n2_ := Aside0.mk Z8_40; have n3_ := Aside0.mk Z8_41; have n4_ := Aside0.mk Z8_42; have n5_ := Aside0.mk Z8_43; have n6_ := Aside0.mk Z8_15; have n7_ := Aside0.mk Z8_16; have n8_ := Aside0.mk Z8_24; have n9_ := Aside0.mk (hbox); have n10_ := Aside0.mk Z8_20; have n11_ := Aside0.mk Z8_20; have n12_ := Aside0.mk ((by rw [hg]; exact Nat.ne_of_lt (blk_lt (g := gb173) (o := .cells #[.slice A0_0 l0_0.length c0_0, .slice A0_1 l0_1.length c0_1, .int .i64 a0_2, .int .i64 a0_3] 78 (0, 0)) Z8_48) : gb173 ≠ gb202)); have n13_ := Aside0.mk ((by rw [hg]; exact Nat.ne_of_gt (blk_lt (g := gb173) (o := .cells #[.slice A0_0 l0_0.length c0_0, .slice A0_1 l0_1.length c0_1, .int .i64 a0_2, .int .i64 a0_3] 78 (0, 0)) Z8_48) : gb202 ≠ gb173)); have n14_ := Aside0.mk ((by rw [hg]; exact Nat.ne_of_lt (blk_lt (g := gb174) (o := .cells #[.slice A1_0 l1_0.length c1_0, .slice A1_1 l1_1.length c1_1, .int .i64 a1_2, .int .i64 a1_3] 78 (0, 0)) Z8_49) : gb174 ≠ gb202)); have n15_ := Aside0.mk ((by rw [hg]; exact Nat.ne_of_gt (blk_lt (g := gb174) (o := .cells #[.slice A1_0 l1_0.length c1_0, .slice A1_1 l1_1.length c1_1, .int .i64 a1_2, .int .i64 a1_3] 78 (0, 0)) Z8_49) : gb202 ≠ gb174)); clear HO179; clear HO182; clear HO187; clear HO190; clear HO196; clear HO199; clear BK173; clear BK174; clear HB; have HO179 := n0_; have HO182 := n1_; have HO187 := n2_; have HO190 := n3_; have HO196 := n4_; have HO199 := n5_; have BK173 := n6_; have BK174 := n7_; have HB := n8_; have BK202 := n9_; have GW202 := n10_; have GE202 := n11_; have NB173_202 := n12_; have NB202_173 := n13_; have NB174_202 := n14_; have NB202_174 := n15_; clear n0_ n1_ n2_ n3_ n4_ n5_ n6_ n7_ n8_ n9_ n10_ n11_ n12_ n13_ n14_ n15_; clear hb hbox hg; obtain ⟨Ao50, co50, eo50⟩ := Kd.R_slice HO196.out; subst eo50; have hnb51 := NB202_173.out; have hnc51 := NB173_202.out; have hnb52 := NB202_174.out; have hnc52 := NB174_202.out; have hcz53_0 : w49.cell? ⟨gb202, 0, none⟩ = some (.slice none 0 0) := (blk_cell BK202.out 0).trans rfl; have hcz53_1 : w49.cell? ⟨gb202, 1, none⟩ = some (.slice none 0 0) := (blk_cell BK202.out 1).trans rfl; have hcz53_2 : w49.cell? ⟨gb202, 2, none⟩ = some (.int .i64 0) := (blk_cell BK202.out 2).trans rfl; have hcz53_3 : w49.cell? ⟨gb202, 3, none⟩ = some (.int .i64 0) := (blk_cell BK202.out 3).trans rfl; have hfz53_0 := blk_frozen BK202.out 0; have hfz53_1 := blk_frozen BK202.out 1; have hfz53_2 := blk_frozen BK202.out 2; have hfz53_3 := blk_frozen BK202.out 3; obtain ⟨Ao54, co54, eo54⟩ := Kd.R_slice HO199.out; subst eo54; have hcz55_0 : w49.cell? ⟨gb174, 0, none⟩ = some (.slice A1_0 l1_0.length c1_0) := (blk_cell BK174.out 0).trans rfl; have hcz55_1 : w49.cell? ⟨gb174, 1, none⟩ = some (.slice A1_1 l1_1.length c1_1) := (blk_cell BK174.out 1).trans rfl; have hcz55_2 : w49.cell? ⟨gb174, 2, none⟩ = some (.int .i64 a1_2) := (blk_cell BK174.out 2).trans rfl; have hcz55_3 : w49.cell? ⟨gb174, 3, none⟩ = some (.int .i64 a1_3) := (blk_cell BK174.out 3).trans rfl; have hfz55_0 := blk_frozen BK174.out 0; have hfz55_1 := blk_frozen BK174.out 1; have hfz55_2 := blk_frozen BK174.out 2; have hfz55_3 := blk_frozen BK174.out 3) | ((with_reducible refine gate_callee (f := 83) rfl ?_); refine goesL_ (some 28) rfl rfl Try.func83 (by kernel_rfl) rfl #[.agg #[.slice A1_0 l1_0.length c1_0, .slice A1_1 l1_1.length c1_1, .int .i64 a1_2, .int .i64 a1_3]] rfl Z8_29 ?_; (with_reducible refine (laws_toState.calls k _ _ l1_0 _ _ l1_1 a1_2 a1_3 t203 t206 t209 t210 _ ?side1 ?side2 ?side3 ?side4 A23.out).mono ?_); (case side1 => exact Kd.C_below HR1_0.out Z8_22); (case side2 => exact HC1_0.out); (case side3 => exact Kd.C_below HR1_1.out Z8_22); (case side4 => exact HC1_1.out); rintro e w56 ⟨v204, v207, rfl, ho0, ho1, hb⟩; refine ⟨_, rfl, ?_⟩; have n0_ := Aside0.mk (Kd.R_elder' Z8_1 (Kd.R_base ho0) hb); have n1_ := Aside0.mk (Kd.R_elder' Z8_2 (Kd.R_base ho1) hb); have n2_ := Aside0.mk (Kd.R_elder' Z8_3 (Kd.R_base ho0) hb); have n3_ := Aside0.mk (Kd.R_elder' Z8_4 (Kd.R_base ho1) hb); have n4_ := Aside0.mk (Kd.R_elder' Z8_5 (Kd.R_base ho0) hb); have n5_ := Aside0.mk (Kd.R_elder' Z8_6 (Kd.R_base ho1) hb); have n6_ := Aside0.mk (Kd.R_lower (Kd.R_new' (Kd.R_new' (Kd.R_new' ho0 (Kd.R_lt Z8_1)) (Kd.R_lt Z8_3)) (Kd.R_lt Z8_5)) (below_size Z8_22)); have n7_ := Aside0.mk (Kd.R_lower (Kd.R_new' (Kd.R_new' (Kd.R_new' ho1 (Kd.R_lt Z8_2)) (Kd.R_lt Z8_4)) (Kd.R_lt Z8_6)) (below_size Z8_22)); have n8_ := Aside0.mk (blk_below (g := gb173) (o := .cells #[.slice A0_0 l0_0.length c0_0, .slice A0_1 l0_1.length c0_1, .int .i64 a0_2, .int .i64 a0_3] 78 (0, 0)) (by (with_reducible repeat (first | refine blk_drewN ?_ _ | refine blk_drew ?_ | refine blk_alloc ?_ _)); refine blk_far ?_ NB173_202.out _; (with_reducible repeat (first | refine blk_drewN ?_ _ | refine blk_drew ?_ | refine blk_alloc ?_ _)); refine blk_far ?_ NB173_202.out _; (with_reducible repeat (first | refine blk_drewN ?_ _ | refine blk_drew ?_ | refine blk_alloc ?_ _)); refine blk_far ?_ NB173_202.out _; (with_reducible repeat (first | refine blk_drewN ?_ _ | refine blk_drew ?_ | refine blk_alloc ?_ _)); refine blk_far ?_ NB173_202.out _; (with_reducible repeat (first | refine blk_drewN ?_ _ | refine blk_drew ?_ | refine blk_alloc ?_ _)); exact BK173.out) hb); have n9_ := Aside0.mk (blk_below (g := gb174) (o := .cells #[.slice A1_0 l1_0.length c1_0, .slice A1_1 l1_1.length c1_1, .int .i64 a1_2, .int .i64 a1_3] 78 (0, 0)) (by (with_reducible repeat (first | refine blk_drewN ?_ _ | refine blk_drew ?_ | refine blk_alloc ?_ _)); refine blk_far ?_ NB174_202.out _; (with_reducible repeat (first | refine blk_drewN ?_ _ | refine blk_drew ?_ | refine blk_alloc ?_ _)); refine blk_far ?_ NB174_202.out _; (with_reducible repeat (first | refine blk_drewN ?_ _ | refine blk_drew ?_ | refine blk_alloc ?_ _)); refine blk_far ?_ NB174_202.out _; (with_reducible repeat (first | refine blk_drewN ?_ _ | refine blk_drew ?_ | refine blk_alloc ?_ _)); refine blk_far ?_ NB174_202.out _; (with_reducible repeat (first | refine blk_drewN ?_ _ | refine blk_drew ?_ | refine blk_alloc ?_ _)); exact BK174.out) hb); have n10_ := Aside0.mk (blk_below (g := gb202) (o := .cells #[.slice Ao50 t194.length co50, .slice Ao54 t197.length co54, .int .i64 t200, .int .i64 t201] 84 (0, 0)) (by (with_reducible repeat (first | refine blk_drewN ?_ _ | refine blk_drew ?_ | refine blk_alloc ?_ _)); refine blk_put (cs := #[.slice Ao50 t194.length co50, .slice Ao54 t197.length co54, .int .i64 t200, .int .i64 0]) ?_ 3 _ rfl; (with_reducible repeat (first | refine blk_drewN ?_ _ | refine blk_drew ?_ | refine blk_alloc ?_ _)); refine blk_put (cs := #[.slice Ao50 t194.length co50, .slice Ao54 t197.length co54, .int .i64 0, .int .i64 0]) ?_ 2 _ rfl; (with_reducible repeat (first | refine blk_drewN ?_ _ | refine blk_drew ?_ | refine blk_alloc ?_ _)); refine blk_put (cs := #[.slice Ao50 t194.length co50, .slice none 0 0, .int .i64 0, .int .i64 0]) ?_ 1 _ rfl; (with_reducible repeat (first | refine blk_drewN ?_ _ | refine blk_drew ?_ | refine blk_alloc ?_ _)); refine blk_put (cs := #[.slice none 0 0, .slice none 0 0, .int .i64 0, .int .i64 0]) ?_ 0 _ rfl; (with_reducible repeat (first | refine blk_drewN ?_ _ | refine blk_drew ?_ | refine blk_alloc ?_ _)); exact BK202.out) hb); have n11_ := Aside0.mk Z8_21; clear HO179; clear HO182; clear HO187; clear HO190; clear HO196; clear HO199; clear BK173; clear BK174; clear BK202; clear HB; have HO179 := n0_; have HO182 := n1_; have HO187 := n2_; have HO190 := n3_; have HO196 := n4_; have HO199 := n5_; have HO205 := n6_; have HO208 := n7_; have BK173 := n8_; have BK174 := n9_; have BK202 := n10_; have HB := n11_; clear n0_ n1_ n2_ n3_ n4_ n5_ n6_ n7_ n8_ n9_ n10_ n11_; (try clear hb); (try clear hb2); (try clear hk); (try clear hi); (try clear ho0); (try clear ho1); clear A23) | ((with_reducible refine gate_dst (N := 8) rfl ?_); refine box_event ?hg (N := 8) ?hd (cs := #[.slice none 0 0, .slice none 0 0, .int .i64 0, .int .i64 0]) (t := 84) ?hr ?_; (case hd => rfl); (case hg => rfl); (case hr => first | (go_simp; done) | (go_simp; rfl)); intro gb211 hg w57 hbox hb; have n0_ := Aside0.mk Z8_38; have n1_ := Aside0.mk Z8_39; have n2_ := Aside0.mk Z8_40; have n3_ := Aside0.mk Z8_41; have n4_ := Aside0.mk Z8_42; have n5_ := Aside0.mk Z8_43; have n6_ := Aside0.mk Z8_44; have n7_ := Aside0.mk Z8_45; have n8_ := Aside0.mk Z8_15; have n9_ := Aside0.mk Z8_16; have n10_ := Aside0.mk Z8_17; have n11_ := Aside0.mk Z8_21; have n12_ := Aside0.mk (hbox); have n13_ := Aside0.mk Z8_13; have n14_ := Aside0.mk Z8_13; have n15_ := Aside0.mk ((by rw [hg]; exact Nat.ne_of_lt (blk_lt (g := gb173) (o := .cells #[.slice A0_0 l0_0.length c0_0, .slice A0_1 l0_1.length c0_1, .int .i64 a0_2, .int .i64 a0_3] 78 (0, 0)) Z8_48) : gb173 ≠ gb211)); have n16_ := Aside0.mk ((by rw [hg]; exact Nat.ne_of_gt (blk_lt (g := gb173) (o := .cells #[.slice A0_0 l0_0.length c0_0, .slice A0_1 l0_1.length c0_1, .int .i64 a0_2, .int .i64 a0_3] 78 (0, 0)) Z8_48) : gb211 ≠ gb173)); have n17_ := Aside0.mk ((by rw [hg]; exact Nat.ne_of_lt (blk_lt (g := gb174) (o := .cells #[.slice A1_0 l1_0.length c1_0, .slice A1_1 l1_1.length c1_1, .int .i64 a1_2, .int .i64 a1_3] 78 (0, 0)) Z8_49) : gb174 ≠ gb211)); have n18_ := Aside0.mk ((by rw [hg]; exact Nat.ne_of_gt (blk_lt (g := gb174) (o := .cells #[.slice A1_0 l1_0.length c1_0, .slice A1_1 l1_1.length c1_1, .int .i64 a1_2, .int .i64 a1_3] 78 (0, 0)) Z8_49) : gb211 ≠ gb174)); have n19_ := Aside0.mk ((by rw [hg]; exact Nat.ne_of_lt (blk_lt (g := gb202) (o := .cells #[.slice Ao50 t194.length co50, .slice Ao54 t197.length co54, .int .i64 t200, .int .i64 t201] 84 (0, 0)) Z8_50) : gb202 ≠ gb211)); have n20_ := Aside0.mk ((by rw [hg]; exact Nat.ne_of_gt (blk_lt (g := gb202) (o := .cells #[.slice Ao50 t194.length co50, .slice Ao54 t197.length co54, .int .i64 t200, .int .i64 t201] 84 (0, 0)) Z8_50) : gb211 ≠ gb202)); clear HO179; clear HO182; clear HO187; clear HO190; clear HO196; clear HO199; clear HO205; clear HO208; clear BK173; clear BK174; clear BK202; clear HB; have HO179 := n0_; have HO182 := n1_; have HO187 := n2_; have HO190 := n3_; have HO196 := n4_; have HO199 := n5_; have HO205 := n6_; have HO208 := n7_; have BK173 := n8_; have BK174 := n9_; have BK202 := n10_; have HB := n11_; have BK211 := n12_; have GW211 := n13_; have GE211 := n14_; have NB173_211 := n15_; have NB211_173 := n16_; have NB174_211 := n17_; have NB211_174 := n18_; have NB202_211 := n19_; have NB211_202 := n20_; clear n0_ n1_ n2_ n3_ n4_ n5_ n6_ n7_ n8_ n9_ n10_ n11_ n12_ n13_ n14_ n15_ n16_ n17_ n18_ n19_ n20_; clear hb hbox hg; obtain ⟨Ao58, co58, eo58⟩ := Kd.R_slice HO205.out; subst eo58; have hnb59 := NB211_173.out; have hnc59 := NB173_211.out; have hnb60 := NB211_174.out; have hnc60 := NB174_211.out; have hnb61 := NB211_202.out; have hnc61 := NB202_211.out; have hcz62_0 : w57.cell? ⟨gb211, 0, none⟩ = some (.slice none 0 0) := (blk_cell BK211.out 0).trans rfl; have hcz62_1 : w57.cell? ⟨gb211, 1, none⟩ = some (.slice none 0 0) := (blk_cell BK211.out 1).trans rfl; have hcz62_2 : w57.cell? ⟨gb211, 2, none⟩ = some (.int .i64 0) := (blk_cell BK211.out 2).trans rfl; have hcz62_3 : w57.cell? ⟨gb211, 3, none⟩ = some (.int .i64 0) := (blk_cell BK211.out 3).trans rfl; have hfz62_0 := blk_frozen BK211.out 0; have hfz62_1 := blk_frozen BK211.out 1; have hfz62_2 := blk_frozen BK211.out 2; have hfz62_3 := blk_frozen BK211.out 3; obtain ⟨Ao63, co63, eo63⟩ := Kd.R_slice HO208.out; subst eo63; have hcz64_0 : w57.cell? ⟨gb202, 0, none⟩ = some (.slice Ao50 t194.length co50) := (blk_cell BK202.out 0).trans rfl; have hcz64_1 : w57.cell? ⟨gb202, 1, none⟩ = some (.slice Ao54 t197.length co54) := (blk_cell BK202.out 1).trans rfl; have hcz64_2 : w57.cell? ⟨gb202, 2, none⟩ = some (.int .i64 t200) := (blk_cell BK202.out 2).trans rfl; have hcz64_3 : w57.cell? ⟨gb202, 3, none⟩ = some (.int .i64 t201) := (blk_cell BK202.out 3).trans rfl; have hfz64_0 := blk_frozen BK202.out 0; have hfz64_1 := blk_frozen BK202.out 1; have hfz64_2 := blk_frozen BK202.out 2; have hfz64_3 := blk_frozen BK202.out 3) | ((with_reducible refine gate_callee (f := 87) rfl ?_); refine goesL_ (some 31) rfl rfl Try.func87 (by kernel_rfl) rfl #[.agg #[.slice Ao50 t194.length co50, .slice Ao54 t197.length co54, .int .i64 t200, .int .i64 t201], .agg #[.slice Ao58 t203.length co58, .slice Ao63 t206.length co63, .int .i64 t209, .int .i64 t210]] rfl Z8_29 ?_; (with_reducible refine (impl_SameState.calls k _ _ t194 _ _ t197 t200 t201 _ _ t203 _ _ t206 t209 t210 t212 _ ?side1 ?side2 ?side3 ?side4 ?side5 ?side6 ?side7 ?side8 A24.out).mono ?_); (case side1 => refine (Kd.R_reads' (e := 54) (base := w.heap.size) (ok := fun k_ => (((True ∧ some k_ ≠ (.slice Ao42 t177.length co42 : Value).ownBlock) ∧ some k_ ≠ (.slice Ao44 t185.length co44 : Value).ownBlock) ∧ some k_ ≠ (.slice Ao58 t203.length co58 : Value).ownBlock)) (n := t194.length) (c := co50) ?_).2.2; exact Z8_7); (case side2 => exact (Kd.R_reads' HO196.out).2.1); (case side3 => refine (Kd.R_reads' (e := 118) (base := w.heap.size) (ok := fun k_ => (((True ∧ some k_ ≠ (.slice Ao43 t180.length co43 : Value).ownBlock) ∧ some k_ ≠ (.slice Ao45 t188.length co45 : Value).ownBlock) ∧ some k_ ≠ (.slice Ao63 t206.length co63 : Value).ownBlock)) (n := t197.length) (c := co54) ?_).2.2; exact Z8_8); (case side4 => exact (Kd.R_reads' HO199.out).2.1); (case side5 => refine (Kd.R_reads' (e := 54) (base := w.heap.size) (ok := fun k_ => (((True ∧ some k_ ≠ (.slice Ao42 t177.length co42 : Value).ownBlock) ∧ some k_ ≠ (.slice Ao44 t185.length co44 : Value).ownBlock) ∧ some k_ ≠ (.slice Ao50 t194.length co50 : Value).ownBlock)) (n := t203.length) (c := co58) ?_).2.2; exact Z8_9); (case side6 => exact (Kd.R_reads' HO205.out).2.1); (case side7 => refine (Kd.R_reads' (e := 118) (base := w.heap.size) (ok := fun k_ => (((True ∧ some k_ ≠ (.slice Ao43 t180.length co43 : Value).ownBlock) ∧ some k_ ≠ (.slice Ao45 t188.length co45 : Value).ownBlock) ∧ some k_ ≠ (.slice Ao54 t197.length co54 : Value).ownBlock)) (n := t206.length) (c := co63) ?_).2.2; exact Z8_10); (case side8 => exact (Kd.R_reads' HO208.out).2.1); rintro e w65 ⟨rfl, hb⟩; refine ⟨_, rfl, ?_⟩; have n0_ := Aside0.mk (Kd.R_below (by (with_reducible repeat (first | apply Kd.R_alloc | apply Kd.R_drewN | apply Kd.R_drew)); exact (Kd.R_mono (Kd.R_far (p := ⟨gb211, 3, none⟩) (Kd.R_far (p := ⟨gb211, 2, none⟩) (Kd.R_far (p := ⟨gb211, 1, none⟩) (Kd.R_far (p := ⟨gb211, 0, none⟩) (Kd.R_types HO179.out BK211.out (by decide)) (fun _ hk => hk.2) (.slice Ao58 t203.length co58)) (fun _ hk => hk.2) (.slice Ao63 t206.length co63)) (fun _ hk => hk.2) (.int .i64 t209)) (fun _ hk => hk.2) (.int .i64 t210)) (fun _ h_ => h_.1))) hb); have n1_ := Aside0.mk (Kd.R_below (by (with_reducible repeat (first | apply Kd.R_alloc | apply Kd.R_drewN | apply Kd.R_drew)); exact (Kd.R_mono (Kd.R_far (p := ⟨gb211, 3, none⟩) (Kd.R_far (p := ⟨gb211, 2, none⟩) (Kd.R_far (p := ⟨gb211, 1, none⟩) (Kd.R_far (p := ⟨gb211, 0, none⟩) (Kd.R_types HO182.out BK211.out (by decide)) (fun _ hk => hk.2) (.slice Ao58 t203.length co58)) (fun _ hk => hk.2) (.slice Ao63 t206.length co63)) (fun _ hk => hk.2) (.int .i64 t209)) (fun _ hk => hk.2) (.int .i64 t210)) (fun _ h_ => h_.1))) hb); have n2_ := Aside0.mk (Kd.R_below (by (with_reducible repeat (first | apply Kd.R_alloc | apply Kd.R_drewN | apply Kd.R_drew)); exact (Kd.R_mono (Kd.R_far (p := ⟨gb211, 3, none⟩) (Kd.R_far (p := ⟨gb211, 2, none⟩) (Kd.R_far (p := ⟨gb211, 1, none⟩) (Kd.R_far (p := ⟨gb211, 0, none⟩) (Kd.R_types HO187.out BK211.out (by decide)) (fun _ hk => hk.2) (.slice Ao58 t203.length co58)) (fun _ hk => hk.2) (.slice Ao63 t206.length co63)) (fun _ hk => hk.2) (.int .i64 t209)) (fun _ hk => hk.2) (.int .i64 t210)) (fun _ h_ => h_.1))) hb); have n3_ := Aside0.mk (Kd.R_below (by (with_reducible repeat (first | apply Kd.R_alloc | apply Kd.R_drewN | apply Kd.R_drew)); exact (Kd.R_mono (Kd.R_far (p := ⟨gb211, 3, none⟩) (Kd.R_far (p := ⟨gb211, 2, none⟩) (Kd.R_far (p := ⟨gb211, 1, none⟩) (Kd.R_far (p := ⟨gb211, 0, none⟩) (Kd.R_types HO190.out BK211.out (by decide)) (fun _ hk => hk.2) (.slice Ao58 t203.length co58)) (fun _ hk => hk.2) (.slice Ao63 t206.length co63)) (fun _ hk => hk.2) (.int .i64 t209)) (fun _ hk => hk.2) (.int .i64 t210)) (fun _ h_ => h_.1))) hb); have n4_ := Aside0.mk (Kd.R_below Z8_7 hb); have n5_ := Aside0.mk (Kd.R_below Z8_8 hb); have n6_ := Aside0.mk (Kd.R_below Z8_9 hb); have n7_ := Aside0.mk (Kd.R_below Z8_10 hb); have n8_ := Aside0.mk (blk_below (g := gb173) (o := .cells #[.slice A0_0 l0_0.length c0_0, .slice A0_1 l0_1.length c0_1, .int .i64 a0_2, .int .i64 a0_3] 78 (0, 0)) (by (with_reducible repeat (first | refine blk_drewN ?_ _ | refine blk_drew ?_ | refine blk_alloc ?_ _)); refine blk_far ?_ NB173_211.out _; (with_reducible repeat (first | refine blk_drewN ?_ _ | refine blk_drew ?_ | refine blk_alloc ?_ _)); refine blk_far ?_ NB173_211.out _; (with_reducible repeat (first | refine blk_drewN ?_ _ | refine blk_drew ?_ | refine blk_alloc ?_ _)); refine blk_far ?_ NB173_211.out _; (with_reducible repeat (first | refine blk_drewN ?_ _ | refine blk_drew ?_ | refine blk_alloc ?_ _)); refine blk_far ?_ NB173_211.out _; (with_reducible repeat (first | refine blk_drewN ?_ _ | refine blk_drew ?_ | refine blk_alloc ?_ _)); exact BK173.out) hb); have n9_ := Aside0.mk (blk_below (g := gb174) (o := .cells #[.slice A1_0 l1_0.length c1_0, .slice A1_1 l1_1.length c1_1, .int .i64 a1_2, .int .i64 a1_3] 78 (0, 0)) (by (with_reducible repeat (first | refine blk_drewN ?_ _ | refine blk_drew ?_ | refine blk_alloc ?_ _)); refine blk_far ?_ NB174_211.out _; (with_reducible repeat (first | refine blk_drewN ?_ _ | refine blk_drew ?_ | refine blk_alloc ?_ _)); refine blk_far ?_ NB174_211.out _; (with_reducible repeat (first | refine blk_drewN ?_ _ | refine blk_drew ?_ | refine blk_alloc ?_ _)); refine blk_far ?_ NB174_211.out _; (with_reducible repeat (first | refine blk_drewN ?_ _ | refine blk_drew ?_ | refine blk_alloc ?_ _)); refine blk_far ?_ NB174_211.out _; (with_reducible repeat (first | refine blk_drewN ?_ _ | refine blk_drew ?_ | refine blk_alloc ?_ _)); exact BK174.out) hb); have n10_ := Aside0.mk (blk_below (g := gb202) (o := .cells #[.slice Ao50 t194.length co50, .slice Ao54 t197.length co54, .int .i64 t200, .int .i64 t201] 84 (0, 0)) (by (with_reducible repeat (first | refine blk_drewN ?_ _ | refine blk_drew ?_ | refine blk_alloc ?_ _)); refine blk_far ?_ NB202_211.out _; (with_reducible repeat (first | refine blk_drewN ?_ _ | refine blk_drew ?_ | refine blk_alloc ?_ _)); refine blk_far ?_ NB202_211.out _; (with_reducible repeat (first | refine blk_drewN ?_ _ | refine blk_drew ?_ | refine blk_alloc ?_ _)); refine blk_far ?_ NB202_211.out _; (with_reducible repeat (first | refine blk_drewN ?_ _ | refine blk_drew ?_ | refine blk_alloc ?_ _)); refine blk_far ?_ NB202_211.out _; (with_reducible repeat (first | refine blk_drewN ?_ _ | refine blk_drew ?_ | refine blk_alloc ?_ _)); exact BK202.out) hb); have n11_ := Aside0.mk (blk_below (g := gb211) (o := .cells #[.slice Ao58 t203.length co58, .slice Ao63 t206.length co63, .int .i64 t209, .int .i64 t210] 84 (0, 0)) (by (with_reducible repeat (first | refine blk_drewN ?_ _ | refine blk_drew ?_ | refine blk_alloc ?_ _)); refine blk_put (cs := #[.slice Ao58 t203.length co58, .slice Ao63 t206.length co63, .int .i64 t209, .int .i64 0]) ?_ 3 _ rfl; (with_reducible repeat (first | refine blk_drewN ?_ _ | refine blk_drew ?_ | refine blk_alloc ?_ _)); refine blk_put (cs := #[.slice Ao58 t203.length co58, .slice Ao63 t206.length co63, .int .i64 0, .int .i64 0]) ?_ 2 _ rfl; (with_reducible repeat (first | refine blk_drewN ?_ _ | refine blk_drew ?_ | refine blk_alloc ?_ _)); refine blk_put (cs := #[.slice Ao58 t203.length co58, .slice none 0 0, .int .i64 0, .int .i64 0]) ?_ 1 _ rfl; (with_reducible repeat (first | refine blk_drewN ?_ _ | refine blk_drew ?_ | refine blk_alloc ?_ _)); refine blk_put (cs := #[.slice none 0 0, .slice none 0 0, .int .i64 0, .int .i64 0]) ?_ 0 _ rfl; (with_reducible repeat (first | refine blk_drewN ?_ _ | refine blk_drew ?_ | refine blk_alloc ?_ _)); exact BK211.out) hb); have n12_ := Aside0.mk Z8_14; clear HO179; clear HO182; clear HO187; clear HO190; clear HO196; clear HO199; clear HO205; clear HO208; clear BK173; clear BK174; clear BK202; clear BK211; clear HB; have HO179 := n0_; have HO182 := n1_; have HO187 := n2_; have HO190 := n3_; have HO196 := n4_; have HO199 := n5_; have HO205 := n6_; have HO208 := n7_; have BK173 := n8_; have BK174 := n9_; have BK202 := n10_; have BK211 := n11_; have HB := n12_; clear n0_ n1_ n2_ n3_ n4_ n5_ n6_ n7_ n8_ n9_ n10_ n11_ n12_; (try clear hb); (try clear hb2); (try clear hk); (try clear hi)))
  have n0_ := Aside0.mk (Kd.R_drew HO179.out)
  have n1_ := Aside0.mk (Kd.R_drew HO182.out)
  have n2_ := Aside0.mk (Kd.R_drew HO187.out)
  have n3_ := Aside0.mk (Kd.R_drew HO190.out)
  have n4_ := Aside0.mk (Kd.R_drew HO196.out)
  have n5_ := Aside0.mk (Kd.R_drew HO199.out)
  have n6_ := Aside0.mk (Kd.R_drew HO205.out)
  have n7_ := Aside0.mk (Kd.R_drew HO208.out)
  have n8_ := Aside0.mk (blk_drew BK173.out)
  have n9_ := Aside0.mk (blk_drew BK174.out)
  have n10_ := Aside0.mk (blk_drew BK202.out)
  have n11_ := Aside0.mk (blk_drew BK211.out)
  have n12_ := Aside0.mk (below_drew1 HB.out)
  clear HO179
  clear HO182
  clear HO187
  clear HO190
  clear HO196
  clear HO199
  clear HO205
  clear HO208
  clear BK173
  clear BK174
  clear BK202
  clear BK211
  clear HB
  have HO179 := n0_
  have HO182 := n1_
  have HO187 := n2_
  have HO190 := n3_
  have HO196 := n4_
  have HO199 := n5_
  have HO205 := n6_
  have HO208 := n7_
  have BK173 := n8_
  have BK174 := n9_
  have BK202 := n10_
  have BK211 := n11_
  have HB := n12_
  clear n0_ n1_ n2_ n3_ n4_ n5_ n6_ n7_ n8_ n9_ n10_ n11_ n12_
  refine start_ (n := 5) (S := fun w' => w'.cell? ⟨gb202, 0, none⟩ = some (.slice Ao50 t194.length co50) ∧ w'.cell? ⟨gb202, 1, none⟩ = some (.slice Ao54 t197.length co54) ∧ w'.cell? ⟨gb202, 2, none⟩ = some (.int .i64 t200) ∧ w'.cell? ⟨gb202, 3, none⟩ = some (.int .i64 t201) ∧ w'.cell? ⟨gb173, 0, none⟩ = some (.slice A0_0 l0_0.length c0_0) ∧ w'.cell? ⟨gb173, 1, none⟩ = some (.slice A0_1 l0_1.length c0_1) ∧ w'.cell? ⟨gb173, 2, none⟩ = some (.int .i64 a0_2) ∧ w'.cell? ⟨gb173, 3, none⟩ = some (.int .i64 a0_3)) (ds := []) #[false, false, false, false, false] (by kernel_rfl) rfl rfl ⟨(blk_cell BK202.out 0).trans rfl, (blk_cell BK202.out 1).trans rfl, (blk_cell BK202.out 2).trans rfl, (blk_cell BK202.out 3).trans rfl, (blk_cell BK173.out 0).trans rfl, (blk_cell BK173.out 1).trans rfl, (blk_cell BK173.out 2).trans rfl, (blk_cell BK173.out 3).trans rfl⟩ (fun hHeld => ?_)
  generalize w65.drew = w66 at HO179 HO182 HO187 HO190 HO196 HO199 HO205 HO208 BK173 BK174 BK202 BK211 HB hHeld ⊢
  refine take_ (i := 0) (N := some 35) (v := ?_) (a' := ?_) #[true, false, false, false, false] rfl rfl (by kernel_rfl) (fun _ _ _ h => h) (Or.inl ⟨(by rfl), ?_⟩) hHeld ?_ ?_
  rotate_left
  · rintro w' ⟨s0, s1, s2, s3, s4, s5, s6, s7⟩
    go_simp
    with_reducible rfl
  rotate_left
  · simp only [Act.put, List.setIfInBounds_toArray, List.set_cons_zero, List.set_cons_succ, i64_w, i32_w]
    rfl
  refine take_ (i := 1) (N := some 36) (v := ?_) (a' := ?_) #[true, true, false, false, false] rfl rfl (by kernel_rfl) (fun _ _ _ h => h) (Or.inl ⟨(by rfl), ?_⟩) hHeld ?_ ?_
  rotate_left
  · rintro w' ⟨s0, s1, s2, s3, s4, s5, s6, s7⟩
    go_simp
    with_reducible rfl
  rotate_left
  · simp only [Act.put, List.setIfInBounds_toArray, List.set_cons_zero, List.set_cons_succ, i64_w, i32_w]
    rfl
  refine one_ (i := 2) (N := some 37) #[true, true, true, false, false] rfl rfl (by kernel_rfl) (by decide) (fun K hK => ?_)
  refine goes_ Try.func83 (by kernel_rfl) rfl #[.agg #[.slice A0_0 l0_0.length c0_0, .slice A0_1 l0_1.length c0_1, .int .i64 a0_2, .int .i64 a0_3]] (by rfl) rfl rfl Z8_29 ?_
  with_reducible refine (laws_toState.calls k _ _ l0_0 _ _ l0_1 a0_2 a0_3 t213 t216 t219 t220 _ ?side1 ?side2 ?side3 ?side4 A26.out).mono ?_
  (case side1 => repeat (first | exact (Kd.C_below HR0_0.out HB.out) | (with_reducible refine Kd.C_alloc ?_ _) | (with_reducible refine Kd.C_drewN ?_ _) | (with_reducible refine Kd.C_drew ?_)))
  (case side2 => exact HC0_0.out)
  (case side3 => repeat (first | exact (Kd.C_below HR0_1.out HB.out) | (with_reducible refine Kd.C_alloc ?_ _) | (with_reducible refine Kd.C_drewN ?_ _) | (with_reducible refine Kd.C_drew ?_)))
  (case side4 => exact HC0_1.out)
  rintro e w67 ⟨v214, v217, rfl, ho0, ho1, hb⟩
  refine ⟨_, rfl, ?_⟩
  have n0_ := Aside0.mk Z8_30
  have n1_ := Aside0.mk Z8_31
  have n2_ := Aside0.mk Z8_32
  have n3_ := Aside0.mk Z8_33
  have n4_ := Aside0.mk Z8_34
  have n5_ := Aside0.mk Z8_35
  have n6_ := Aside0.mk Z8_36
  have n7_ := Aside0.mk Z8_37
  have n8_ := Aside0.mk (Kd.R_lower (Kd.R_new' (Kd.R_new' (Kd.R_new' (Kd.R_new' ho0 (Kd.R_lt Z8_52)) (Kd.R_lt Z8_54)) (Kd.R_lt Z8_56)) (Kd.R_lt Z8_58)) (below_size Z8_19))
  have n9_ := Aside0.mk (Kd.R_lower (Kd.R_new' (Kd.R_new' (Kd.R_new' (Kd.R_new' ho1 (Kd.R_lt Z8_53)) (Kd.R_lt Z8_55)) (Kd.R_lt Z8_57)) (Kd.R_lt Z8_59)) (below_size Z8_19))
  have n10_ := Aside0.mk Z8_15
  have n11_ := Aside0.mk Z8_16
  have n12_ := Aside0.mk Z8_17
  have n13_ := Aside0.mk Z8_18
  have n14_ := Aside0.mk Z8_14
  clear HO179
  clear HO182
  clear HO187
  clear HO190
  clear HO196
  clear HO199
  clear HO205
  clear HO208
  clear BK173
  clear BK174
  clear BK202
  clear BK211
  clear HB
  have HO179 := n0_
  have HO182 := n1_
  have HO187 := n2_
  have HO190 := n3_
  have HO196 := n4_
  have HO199 := n5_
  have HO205 := n6_
  have HO208 := n7_
  have HO215 := n8_
  have HO218 := n9_
  have BK173 := n10_
  have BK174 := n11_
  have BK202 := n12_
  have BK211 := n13_
  have HB := n14_
  clear n0_ n1_ n2_ n3_ n4_ n5_ n6_ n7_ n8_ n9_ n10_ n11_ n12_ n13_ n14_
  (try clear hb)
  (try clear hb2)
  (try clear hk)
  (try clear hi)
  (try clear ho0)
  (try clear ho1)
  obtain ⟨Ao68, co68, eo68⟩ := Kd.R_slice HO215.out
  (first | subst eo68 | (injection eo68 with f1_ f2_ f3_; have f4_ := f1_.symm; have f5_ := f3_.symm; clear f1_ f2_ f3_; subst f4_; subst f5_))
  obtain ⟨Ao69, co69, eo69⟩ := Kd.R_slice HO218.out
  (first | subst eo69 | (injection eo69 with f1_ f2_ f3_; have f4_ := f1_.symm; have f5_ := f3_.symm; clear f1_ f2_ f3_; subst f4_; subst f5_))
  refine hK.out _ _ ⟨(blk_cell BK202.out 0).trans rfl, (blk_cell BK202.out 1).trans rfl, (blk_cell BK202.out 2).trans rfl, (blk_cell BK202.out 3).trans rfl, (blk_cell BK173.out 0).trans rfl, (blk_cell BK173.out 1).trans rfl, (blk_cell BK173.out 2).trans rfl, (blk_cell BK173.out 3).trans rfl⟩ (fun hHeld => ?_)
  clear hK K
  refine norm_ (a' := ?_) ?_ ?_
  rotate_left
  · show Act.put _ (some 37) _ = _
    simp only [Act.put, List.setIfInBounds_toArray, List.set_cons_zero, List.set_cons_succ, i64_w, i32_w]
    rfl
  refine one_ (i := 3) (N := some 38) #[true, true, true, true, false] rfl rfl (by kernel_rfl) (by decide) (fun K hK => ?_)
  refine goes_ Try.func85 (by kernel_rfl) rfl #[.agg #[.slice Ao50 t194.length co50, .slice Ao54 t197.length co54, .int .i64 t200, .int .i64 t201], .agg #[.slice Ao68 t213.length co68, .slice Ao69 t216.length co69, .int .i64 t219, .int .i64 t220]] (by rfl) rfl rfl Z8_29 ?_
  with_reducible refine (laws_eqState.calls k _ _ t194 _ _ t197 t200 t201 _ _ t213 _ _ t216 t219 t220 true _ ?side1 ?side2 ?side3 ?side4 ?side5 ?side6 ?side7 ?side8 A27.out).mono ?_
  (case side1 => repeat (first | exact (Kd.R_reads' HO196.out).2.2 | (with_reducible refine Kd.C_alloc ?_ _) | (with_reducible refine Kd.C_drewN ?_ _) | (with_reducible refine Kd.C_drew ?_)))
  (case side2 => exact (Kd.R_reads' HO196.out).2.1)
  (case side3 => repeat (first | exact (Kd.R_reads' HO199.out).2.2 | (with_reducible refine Kd.C_alloc ?_ _) | (with_reducible refine Kd.C_drewN ?_ _) | (with_reducible refine Kd.C_drew ?_)))
  (case side4 => exact (Kd.R_reads' HO199.out).2.1)
  (case side5 => repeat (first | exact (Kd.R_reads' HO215.out).2.2 | (with_reducible refine Kd.C_alloc ?_ _) | (with_reducible refine Kd.C_drewN ?_ _) | (with_reducible refine Kd.C_drew ?_)))
  (case side6 => exact (Kd.R_reads' HO215.out).2.1)
  (case side7 => repeat (first | exact (Kd.R_reads' HO218.out).2.2 | (with_reducible refine Kd.C_alloc ?_ _) | (with_reducible refine Kd.C_drewN ?_ _) | (with_reducible refine Kd.C_drew ?_)))
  (case side8 => exact (Kd.R_reads' HO218.out).2.1)
  rintro e w70 ⟨rfl, hb⟩
  refine ⟨_, rfl, ?_⟩
  have n0_ := Aside0.mk Z8_38
  have n1_ := Aside0.mk Z8_39
  have n2_ := Aside0.mk Z8_40
  have n3_ := Aside0.mk Z8_41
  have n4_ := Aside0.mk Z8_42
  have n5_ := Aside0.mk Z8_43
  have n6_ := Aside0.mk Z8_44
  have n7_ := Aside0.mk Z8_45
  have n8_ := Aside0.mk Z8_46
  have n9_ := Aside0.mk Z8_47
  have n10_ := Aside0.mk Z8_15
  have n11_ := Aside0.mk Z8_16
  have n12_ := Aside0.mk Z8_17
  have n13_ := Aside0.mk Z8_18
  have n14_ := Aside0.mk Z8_14
  clear HO179
  clear HO182
  clear HO187
  clear HO190
  clear HO196
  clear HO199
  clear HO205
  clear HO208
  clear HO215
  clear HO218
  clear BK173
  clear BK174
  clear BK202
  clear BK211
  clear HB
  have HO179 := n0_
  have HO182 := n1_
  have HO187 := n2_
  have HO190 := n3_
  have HO196 := n4_
  have HO199 := n5_
  have HO205 := n6_
  have HO208 := n7_
  have HO215 := n8_
  have HO218 := n9_
  have BK173 := n10_
  have BK174 := n11_
  have BK202 := n12_
  have BK211 := n13_
  have HB := n14_
  clear n0_ n1_ n2_ n3_ n4_ n5_ n6_ n7_ n8_ n9_ n10_ n11_ n12_ n13_ n14_
  (try clear hb)
  (try clear hb2)
  (try clear hk)
  (try clear hi)
  refine hK.out _ _ ⟨(blk_cell BK202.out 0).trans rfl, (blk_cell BK202.out 1).trans rfl, (blk_cell BK202.out 2).trans rfl, (blk_cell BK202.out 3).trans rfl, (blk_cell BK173.out 0).trans rfl, (blk_cell BK173.out 1).trans rfl, (blk_cell BK173.out 2).trans rfl, (blk_cell BK173.out 3).trans rfl⟩ (fun hHeld => ?_)
  clear hK K
  refine norm_ (a' := ?_) ?_ ?_
  rotate_left
  · show Act.put _ (some 38) _ = _
    simp only [Act.put, List.setIfInBounds_toArray, List.set_cons_zero, List.set_cons_succ, i64_w, i32_w]
    rfl
  refine pure_ (i := 4) (N := some 39) (v := _) (a' := _) #[true, true, true, true, true] rfl rfl (by kernel_rfl) (fun _ _ _ h => h) (Or.inl ⟨(by rfl), (by intro w'; go_simp; with_reducible rfl)⟩) Z8_51 ?_
  refine done_ (by kernel_rfl) ?_
  try go_wp2
  have n0_ := Aside0.mk (Kd.R_drew HO179.out)
  have n1_ := Aside0.mk (Kd.R_drew HO182.out)
  have n2_ := Aside0.mk (Kd.R_drew HO187.out)
  have n3_ := Aside0.mk (Kd.R_drew HO190.out)
  have n4_ := Aside0.mk (Kd.R_drew HO196.out)
  have n5_ := Aside0.mk (Kd.R_drew HO199.out)
  have n6_ := Aside0.mk (Kd.R_drew HO205.out)
  have n7_ := Aside0.mk (Kd.R_drew HO208.out)
  have n8_ := Aside0.mk (Kd.R_drew HO215.out)
  have n9_ := Aside0.mk (Kd.R_drew HO218.out)
  have n10_ := Aside0.mk (blk_drew BK173.out)
  have n11_ := Aside0.mk (blk_drew BK174.out)
  have n12_ := Aside0.mk (blk_drew BK202.out)
  have n13_ := Aside0.mk (blk_drew BK211.out)
  have n14_ := Aside0.mk (below_drew1 HB.out)
  clear HO179
  clear HO182
  clear HO187
  clear HO190
  clear HO196
  clear HO199
  clear HO205
  clear HO208
  clear HO215
  clear HO218
  clear BK173
  clear BK174
  clear BK202
  clear BK211
  clear HB
  have HO179 := n0_
  have HO182 := n1_
  have HO187 := n2_
  have HO190 := n3_
  have HO196 := n4_
  have HO199 := n5_
  have HO205 := n6_
  have HO208 := n7_
  have HO215 := n8_
  have HO218 := n9_
  have BK173 := n10_
  have BK174 := n11_
  have BK202 := n12_
  have BK211 := n13_
  have HB := n14_
  clear n0_ n1_ n2_ n3_ n4_ n5_ n6_ n7_ n8_ n9_ n10_ n11_ n12_ n13_ n14_
  refine start_ (n := 5) (S := fun w' => w'.cell? ⟨gb211, 0, none⟩ = some (.slice Ao58 t203.length co58) ∧ w'.cell? ⟨gb211, 1, none⟩ = some (.slice Ao63 t206.length co63) ∧ w'.cell? ⟨gb211, 2, none⟩ = some (.int .i64 t209) ∧ w'.cell? ⟨gb211, 3, none⟩ = some (.int .i64 t210) ∧ w'.cell? ⟨gb174, 0, none⟩ = some (.slice A1_0 l1_0.length c1_0) ∧ w'.cell? ⟨gb174, 1, none⟩ = some (.slice A1_1 l1_1.length c1_1) ∧ w'.cell? ⟨gb174, 2, none⟩ = some (.int .i64 a1_2) ∧ w'.cell? ⟨gb174, 3, none⟩ = some (.int .i64 a1_3)) (ds := []) #[false, false, false, false, false] (by kernel_rfl) rfl rfl ⟨(blk_cell BK211.out 0).trans rfl, (blk_cell BK211.out 1).trans rfl, (blk_cell BK211.out 2).trans rfl, (blk_cell BK211.out 3).trans rfl, (blk_cell BK174.out 0).trans rfl, (blk_cell BK174.out 1).trans rfl, (blk_cell BK174.out 2).trans rfl, (blk_cell BK174.out 3).trans rfl⟩ (fun hHeld => ?_)
  generalize w70.drew = w71 at HO179 HO182 HO187 HO190 HO196 HO199 HO205 HO208 HO215 HO218 BK173 BK174 BK202 BK211 HB hHeld ⊢
  refine take_ (i := 0) (N := some 40) (v := ?_) (a' := ?_) #[true, false, false, false, false] rfl rfl (by kernel_rfl) (fun _ _ _ h => h) (Or.inl ⟨(by rfl), ?_⟩) hHeld ?_ ?_
  rotate_left
  · rintro w' ⟨s0, s1, s2, s3, s4, s5, s6, s7⟩
    go_simp
    with_reducible rfl
  rotate_left
  · simp only [Act.put, List.setIfInBounds_toArray, List.set_cons_zero, List.set_cons_succ, i64_w, i32_w]
    rfl
  refine take_ (i := 1) (N := some 41) (v := ?_) (a' := ?_) #[true, true, false, false, false] rfl rfl (by kernel_rfl) (fun _ _ _ h => h) (Or.inl ⟨(by rfl), ?_⟩) hHeld ?_ ?_
  rotate_left
  · rintro w' ⟨s0, s1, s2, s3, s4, s5, s6, s7⟩
    go_simp
    with_reducible rfl
  rotate_left
  · simp only [Act.put, List.setIfInBounds_toArray, List.set_cons_zero, List.set_cons_succ, i64_w, i32_w]
    rfl
  refine one_ (i := 2) (N := some 42) #[true, true, true, false, false] rfl rfl (by kernel_rfl) (by decide) (fun K hK => ?_)
  refine goes_ Try.func83 (by kernel_rfl) rfl #[.agg #[.slice A1_0 l1_0.length c1_0, .slice A1_1 l1_1.length c1_1, .int .i64 a1_2, .int .i64 a1_3]] (by rfl) rfl rfl Z8_29 ?_
  with_reducible refine (laws_toState.calls k _ _ l1_0 _ _ l1_1 a1_2 a1_3 t222 t225 t228 t229 _ ?side1 ?side2 ?side3 ?side4 A29.out).mono ?_
  (case side1 => repeat (first | exact (Kd.C_below HR1_0.out HB.out) | (with_reducible refine Kd.C_alloc ?_ _) | (with_reducible refine Kd.C_drewN ?_ _) | (with_reducible refine Kd.C_drew ?_)))
  (case side2 => exact HC1_0.out)
  (case side3 => repeat (first | exact (Kd.C_below HR1_1.out HB.out) | (with_reducible refine Kd.C_alloc ?_ _) | (with_reducible refine Kd.C_drewN ?_ _) | (with_reducible refine Kd.C_drew ?_)))
  (case side4 => exact HC1_1.out)
  rintro e w72 ⟨v223, v226, rfl, ho0, ho1, hb⟩
  refine ⟨_, rfl, ?_⟩
  have n0_ := Aside0.mk Z8_30
  have n1_ := Aside0.mk Z8_31
  have n2_ := Aside0.mk Z8_32
  have n3_ := Aside0.mk Z8_33
  have n4_ := Aside0.mk Z8_34
  have n5_ := Aside0.mk Z8_35
  have n6_ := Aside0.mk Z8_36
  have n7_ := Aside0.mk Z8_37
  have n8_ := Aside0.mk (Kd.R_elder' Z8_60 (Kd.R_base ho0) hb)
  have n9_ := Aside0.mk (Kd.R_elder' Z8_61 (Kd.R_base ho1) hb)
  have n10_ := Aside0.mk (Kd.R_lower (Kd.R_new' (Kd.R_new' (Kd.R_new' (Kd.R_new' (Kd.R_new' ho0 (Kd.R_lt Z8_52)) (Kd.R_lt Z8_54)) (Kd.R_lt Z8_56)) (Kd.R_lt Z8_58)) (Kd.R_lt Z8_60)) (below_size Z8_19))
  have n11_ := Aside0.mk (Kd.R_lower (Kd.R_new' (Kd.R_new' (Kd.R_new' (Kd.R_new' (Kd.R_new' ho1 (Kd.R_lt Z8_53)) (Kd.R_lt Z8_55)) (Kd.R_lt Z8_57)) (Kd.R_lt Z8_59)) (Kd.R_lt Z8_61)) (below_size Z8_19))
  have n12_ := Aside0.mk Z8_15
  have n13_ := Aside0.mk Z8_16
  have n14_ := Aside0.mk Z8_17
  have n15_ := Aside0.mk Z8_18
  have n16_ := Aside0.mk Z8_14
  clear HO179
  clear HO182
  clear HO187
  clear HO190
  clear HO196
  clear HO199
  clear HO205
  clear HO208
  clear HO215
  clear HO218
  clear BK173
  clear BK174
  clear BK202
  clear BK211
  clear HB
  have HO179 := n0_
  have HO182 := n1_
  have HO187 := n2_
  have HO190 := n3_
  have HO196 := n4_
  have HO199 := n5_
  have HO205 := n6_
  have HO208 := n7_
  have HO215 := n8_
  have HO218 := n9_
  have HO224 := n10_
  have HO227 := n11_
  have BK173 := n12_
  have BK174 := n13_
  have BK202 := n14_
  have BK211 := n15_
  have HB := n16_
  clear n0_ n1_ n2_ n3_ n4_ n5_ n6_ n7_ n8_ n9_ n10_ n11_ n12_ n13_ n14_ n15_ n16_
  (try clear hb)
  (try clear hb2)
  (try clear hk)
  (try clear hi)
  (try clear ho0)
  (try clear ho1)
  obtain ⟨Ao73, co73, eo73⟩ := Kd.R_slice HO224.out
  (first | subst eo73 | (injection eo73 with f1_ f2_ f3_; have f4_ := f1_.symm; have f5_ := f3_.symm; clear f1_ f2_ f3_; subst f4_; subst f5_))
  obtain ⟨Ao74, co74, eo74⟩ := Kd.R_slice HO227.out
  (first | subst eo74 | (injection eo74 with f1_ f2_ f3_; have f4_ := f1_.symm; have f5_ := f3_.symm; clear f1_ f2_ f3_; subst f4_; subst f5_))
  refine hK.out _ _ ⟨(blk_cell BK211.out 0).trans rfl, (blk_cell BK211.out 1).trans rfl, (blk_cell BK211.out 2).trans rfl, (blk_cell BK211.out 3).trans rfl, (blk_cell BK174.out 0).trans rfl, (blk_cell BK174.out 1).trans rfl, (blk_cell BK174.out 2).trans rfl, (blk_cell BK174.out 3).trans rfl⟩ (fun hHeld => ?_)
  clear hK K
  refine norm_ (a' := ?_) ?_ ?_
  rotate_left
  · show Act.put _ (some 42) _ = _
    simp only [Act.put, List.setIfInBounds_toArray, List.set_cons_zero, List.set_cons_succ, i64_w, i32_w]
    rfl
  refine one_ (i := 3) (N := some 43) #[true, true, true, true, false] rfl rfl (by kernel_rfl) (by decide) (fun K hK => ?_)
  refine goes_ Try.func85 (by kernel_rfl) rfl #[.agg #[.slice Ao58 t203.length co58, .slice Ao63 t206.length co63, .int .i64 t209, .int .i64 t210], .agg #[.slice Ao73 t222.length co73, .slice Ao74 t225.length co74, .int .i64 t228, .int .i64 t229]] (by rfl) rfl rfl Z8_29 ?_
  with_reducible refine (laws_eqState.calls k _ _ t203 _ _ t206 t209 t210 _ _ t222 _ _ t225 t228 t229 true _ ?side1 ?side2 ?side3 ?side4 ?side5 ?side6 ?side7 ?side8 A30.out).mono ?_
  (case side1 => repeat (first | exact (Kd.R_reads' HO205.out).2.2 | (with_reducible refine Kd.C_alloc ?_ _) | (with_reducible refine Kd.C_drewN ?_ _) | (with_reducible refine Kd.C_drew ?_)))
  (case side2 => exact (Kd.R_reads' HO205.out).2.1)
  (case side3 => repeat (first | exact (Kd.R_reads' HO208.out).2.2 | (with_reducible refine Kd.C_alloc ?_ _) | (with_reducible refine Kd.C_drewN ?_ _) | (with_reducible refine Kd.C_drew ?_)))
  (case side4 => exact (Kd.R_reads' HO208.out).2.1)
  (case side5 => repeat (first | exact (Kd.R_reads' HO224.out).2.2 | (with_reducible refine Kd.C_alloc ?_ _) | (with_reducible refine Kd.C_drewN ?_ _) | (with_reducible refine Kd.C_drew ?_)))
  (case side6 => exact (Kd.R_reads' HO224.out).2.1)
  (case side7 => repeat (first | exact (Kd.R_reads' HO227.out).2.2 | (with_reducible refine Kd.C_alloc ?_ _) | (with_reducible refine Kd.C_drewN ?_ _) | (with_reducible refine Kd.C_drew ?_)))
  (case side8 => exact (Kd.R_reads' HO227.out).2.1)
  rintro e w75 ⟨rfl, hb⟩
  refine ⟨_, rfl, ?_⟩
  have n0_ := Aside0.mk Z8_38
  have n1_ := Aside0.mk Z8_39
  have n2_ := Aside0.mk Z8_40
  have n3_ := Aside0.mk Z8_41
  have n4_ := Aside0.mk Z8_42
  have n5_ := Aside0.mk Z8_43
  have n6_ := Aside0.mk Z8_44
  have n7_ := Aside0.mk Z8_45
  have n8_ := Aside0.mk Z8_46
  have n9_ := Aside0.mk Z8_47
  have n10_ := Aside0.mk (Kd.R_below (by (with_reducible repeat (first | apply Kd.R_alloc | apply Kd.R_drewN | apply Kd.R_drew)); exact HO224.out) hb)
  have n11_ := Aside0.mk (Kd.R_below (by (with_reducible repeat (first | apply Kd.R_alloc | apply Kd.R_drewN | apply Kd.R_drew)); exact HO227.out) hb)
  have n12_ := Aside0.mk Z8_15
  have n13_ := Aside0.mk Z8_16
  have n14_ := Aside0.mk Z8_17
  have n15_ := Aside0.mk Z8_18
  have n16_ := Aside0.mk Z8_14
  clear HO179
  clear HO182
  clear HO187
  clear HO190
  clear HO196
  clear HO199
  clear HO205
  clear HO208
  clear HO215
  clear HO218
  clear HO224
  clear HO227
  clear BK173
  clear BK174
  clear BK202
  clear BK211
  clear HB
  have HO179 := n0_
  have HO182 := n1_
  have HO187 := n2_
  have HO190 := n3_
  have HO196 := n4_
  have HO199 := n5_
  have HO205 := n6_
  have HO208 := n7_
  have HO215 := n8_
  have HO218 := n9_
  have HO224 := n10_
  have HO227 := n11_
  have BK173 := n12_
  have BK174 := n13_
  have BK202 := n14_
  have BK211 := n15_
  have HB := n16_
  clear n0_ n1_ n2_ n3_ n4_ n5_ n6_ n7_ n8_ n9_ n10_ n11_ n12_ n13_ n14_ n15_ n16_
  (try clear hb)
  (try clear hb2)
  (try clear hk)
  (try clear hi)
  refine hK.out _ _ ⟨(blk_cell BK211.out 0).trans rfl, (blk_cell BK211.out 1).trans rfl, (blk_cell BK211.out 2).trans rfl, (blk_cell BK211.out 3).trans rfl, (blk_cell BK174.out 0).trans rfl, (blk_cell BK174.out 1).trans rfl, (blk_cell BK174.out 2).trans rfl, (blk_cell BK174.out 3).trans rfl⟩ (fun hHeld => ?_)
  clear hK K
  refine norm_ (a' := ?_) ?_ ?_
  rotate_left
  · show Act.put _ (some 43) _ = _
    simp only [Act.put, List.setIfInBounds_toArray, List.set_cons_zero, List.set_cons_succ, i64_w, i32_w]
    rfl
  refine pure_ (i := 4) (N := some 44) (v := _) (a' := _) #[true, true, true, true, true] rfl rfl (by kernel_rfl) (fun _ _ _ h => h) (Or.inl ⟨(by rfl), (by intro w'; go_simp; with_reducible rfl)⟩) Z8_51 ?_
  refine done_ (by kernel_rfl) ?_
  try go_wp2
  go_ret
  exact ⟨Z8_62, Z8_19⟩

/-- THE ONE PURE STATEMENT of laws_FnExactSameState: yours. -/
def laws_FnExactSameState.Pure : Prop := ∀ (l0_0 : List (S52)) (l0_1 : List (S127)) (a0_2 : Int) (a0_3 : Int) (l1_0 : List (S52)) (l1_1 : List (S127)) (a1_2 : Int) (a1_3 : Int), l0_0.length ≤ maxLen → (∀ x ∈ l0_0, (Lit.int .i64 x.f0).wf = true ∧ (Lit.int .i64 x.f1).wf = true ∧ (Lit.int .i64 x.f2).wf = true ∧ (Lit.int .i64 x.f3).wf = true ∧ (Lit.int .i64 x.f4).wf = true ∧ (Lit.int .i64 x.f5).wf = true ∧ (Lit.int .i64 x.f6).wf = true ∧ (Lit.int .i64 x.f7).wf = true ∧ (Lit.int .i64 x.f8).wf = true ∧ (Lit.int .i64 x.f9).wf = true ∧ (Lit.int .i64 x.f10).wf = true) → l0_1.length ≤ maxLen → (∀ x ∈ l0_1, (Lit.int .i64 x.f0).wf = true ∧ (Lit.int .i64 x.f1).wf = true) → (Lit.int .i64 a0_2).wf = true → (Lit.int .i64 a0_3).wf = true → l1_0.length ≤ maxLen → (∀ x ∈ l1_0, (Lit.int .i64 x.f0).wf = true ∧ (Lit.int .i64 x.f1).wf = true ∧ (Lit.int .i64 x.f2).wf = true ∧ (Lit.int .i64 x.f3).wf = true ∧ (Lit.int .i64 x.f4).wf = true ∧ (Lit.int .i64 x.f5).wf = true ∧ (Lit.int .i64 x.f6).wf = true ∧ (Lit.int .i64 x.f7).wf = true ∧ (Lit.int .i64 x.f8).wf = true ∧ (Lit.int .i64 x.f9).wf = true ∧ (Lit.int .i64 x.f10).wf = true) → l1_1.length ≤ maxLen → (∀ x ∈ l1_1, (Lit.int .i64 x.f0).wf = true ∧ (Lit.int .i64 x.f1).wf = true) → (Lit.int .i64 a1_2).wf = true → (Lit.int .i64 a1_3).wf = true → ∃ k, laws_FnExactSameState.f k l0_0 l0_1 a0_2 a0_3 l1_0 l1_1 a1_2 a1_3 = some true
theorem laws_FnExactSameState.walk (P : laws_FnExactSameState.Pure) (A0_0 : Option Addr) (c0_0 : Nat) (l0_0 : List (S52)) (A0_1 : Option Addr) (c0_1 : Nat) (l0_1 : List (S127)) (a0_2 : Int) (a0_3 : Int) (A1_0 : Option Addr) (c1_0 : Nat) (l1_0 : List (S52)) (A1_1 : Option Addr) (c1_1 : Nat) (l1_1 : List (S127)) (a1_2 : Int) (a1_3 : Int) (w : World) (hr0_0 : Kd.C k52 w A0_0 l0_0.length l0_0) (hc0_0 : l0_0.length ≤ c0_0) (hm0_0 : l0_0.length ≤ maxLen) (hw0_0 : ∀ x ∈ l0_0, (Lit.int .i64 x.f0).wf = true ∧ (Lit.int .i64 x.f1).wf = true ∧ (Lit.int .i64 x.f2).wf = true ∧ (Lit.int .i64 x.f3).wf = true ∧ (Lit.int .i64 x.f4).wf = true ∧ (Lit.int .i64 x.f5).wf = true ∧ (Lit.int .i64 x.f6).wf = true ∧ (Lit.int .i64 x.f7).wf = true ∧ (Lit.int .i64 x.f8).wf = true ∧ (Lit.int .i64 x.f9).wf = true ∧ (Lit.int .i64 x.f10).wf = true) (hr0_1 : Kd.C k127 w A0_1 l0_1.length l0_1) (hc0_1 : l0_1.length ≤ c0_1) (hm0_1 : l0_1.length ≤ maxLen) (hw0_1 : ∀ x ∈ l0_1, (Lit.int .i64 x.f0).wf = true ∧ (Lit.int .i64 x.f1).wf = true) (w0_2 : (Lit.int .i64 a0_2).wf = true) (w0_3 : (Lit.int .i64 a0_3).wf = true) (hr1_0 : Kd.C k52 w A1_0 l1_0.length l1_0) (hc1_0 : l1_0.length ≤ c1_0) (hm1_0 : l1_0.length ≤ maxLen) (hw1_0 : ∀ x ∈ l1_0, (Lit.int .i64 x.f0).wf = true ∧ (Lit.int .i64 x.f1).wf = true ∧ (Lit.int .i64 x.f2).wf = true ∧ (Lit.int .i64 x.f3).wf = true ∧ (Lit.int .i64 x.f4).wf = true ∧ (Lit.int .i64 x.f5).wf = true ∧ (Lit.int .i64 x.f6).wf = true ∧ (Lit.int .i64 x.f7).wf = true ∧ (Lit.int .i64 x.f8).wf = true ∧ (Lit.int .i64 x.f9).wf = true ∧ (Lit.int .i64 x.f10).wf = true) (hr1_1 : Kd.C k127 w A1_1 l1_1.length l1_1) (hc1_1 : l1_1.length ≤ c1_1) (hm1_1 : l1_1.length ≤ maxLen) (hw1_1 : ∀ x ∈ l1_1, (Lit.int .i64 x.f0).wf = true ∧ (Lit.int .i64 x.f1).wf = true) (w1_2 : (Lit.int .i64 a1_2).wf = true) (w1_3 : (Lit.int .i64 a1_3).wf = true) :
    Calls Try.prog 12 #[.agg #[.slice A0_0 l0_0.length c0_0, .slice A0_1 l0_1.length c0_1, .int .i64 a0_2, .int .i64 a0_3], .agg #[.slice A1_0 l1_0.length c1_0, .slice A1_1 l1_1.length c1_1, .int .i64 a1_2, .int .i64 a1_3]] w fun e w' => e = .returned (.bool true) ∧ Below w.heap.size w w' := by
  obtain ⟨k, h⟩ := P l0_0 l0_1 a0_2 a0_3 l1_0 l1_1 a1_2 a1_3 hm0_0 hw0_0 hm0_1 hw0_1 w0_2 w0_3 hm1_0 hw1_0 hm1_1 hw1_1 w1_2 w1_3
  refine (laws_FnExactSameState.calls k _ _ l0_0 _ _ l0_1 a0_2 a0_3 _ _ l1_0 _ _ l1_1 a1_2 a1_3 true w hr0_0 hc0_0 hr0_1 hc0_1 hr1_0 hc1_0 hr1_1 hc1_1 rfl h).mono ?_
  rintro e w' ⟨rfl, hd⟩
  exact ⟨rfl, hd⟩

end Go.Proofs.Ytfpbbikhcnpceaa.QFnExactSameState
