-- Written by a program of this session (patch_print.py over the print).
import Derived.Test.YtfkidiagmekleaaQAllx0
import Derived.Test.YtfkidiagmekleaaQAllx22
import Derived.Test.YtfkidiagmekleaaQAllx24
import Derived.Test.YtfkidiagmekleaaQAllx30
import Derived.Test.YtfkidiagmekleaaHOk
import Derived.Test.YtfkidiagmekleaaHOkI
namespace Go.Proofs.Ytfkidiagmekleaa.QAll
open Go.RowKit Go.Proofs.YtfkidiagmekleaaW.PrintWords Go.Proofs.YtfkidiagmekleaaW.PrintLast Go.Proofs.YtfkidiagmekleaaW.PrintMore
attribute [local go_sem] max2_int min2_int max_two min_two max_three min_three max_four min_four   -- for this text's walks alone
set_option linter.unusedVariables false
set_option linter.unusedSimpArgs false

theorem C33_4 {W : World} {g : Nat} {T : TypeId} {v0 v1 v2 v3 : Value} (h : W.heap[g]? = some (.cells #[v0, v1, v2, v3] T (0, 0))) : (W.cell? ⟨g, 0, none⟩ = some v0 ∧ W.cell? ⟨g, 1, none⟩ = some v1 ∧ W.cell? ⟨g, 2, none⟩ = some v2 ∧ W.cell? ⟨g, 3, none⟩ = some v3) ∧ W.frozen? ⟨g, 0, none⟩ = false ∧ W.frozen? ⟨g, 1, none⟩ = false ∧ W.frozen? ⟨g, 2, none⟩ = false ∧ W.frozen? ⟨g, 3, none⟩ = false := ⟨⟨(blk_cell h 0).trans rfl, (blk_cell h 1).trans rfl, (blk_cell h 2).trans rfl, (blk_cell h 3).trans rfl⟩, blk_frozen h 0, blk_frozen h 1, blk_frozen h 2, blk_frozen h 3⟩
theorem D33_4 {W : World} {g : Nat} {T : TypeId} {v0 v1 v2 v3 : Value} (h : W.heap[g]? = some (.cells #[v0, v1, v2, v3] T (0, 0))) {R : Prop} (r : R) : W.cell? ⟨g, 0, none⟩ = some v0 ∧ W.cell? ⟨g, 1, none⟩ = some v1 ∧ W.cell? ⟨g, 2, none⟩ = some v2 ∧ W.cell? ⟨g, 3, none⟩ = some v3 ∧ R := ⟨(blk_cell h 0).trans rfl, (blk_cell h 1).trans rfl, (blk_cell h 2).trans rfl, (blk_cell h 3).trans rfl, r⟩
theorem E33_4 {W : World} {g : Nat} {T : TypeId} {v0 v1 v2 v3 o0 o1 o2 o3 : Value} (h : W.heap[g]? = some (.cells #[o0, o1, o2, o3] T (0, 0))) : ((((W.setCell ⟨g, 0, none⟩ v0).setCell ⟨g, 1, none⟩ v1).setCell ⟨g, 2, none⟩ v2).setCell ⟨g, 3, none⟩ v3).heap[g]? = some (.cells #[v0, v1, v2, v3] T (0, 0)) := (blk_put (cs := #[v0, v1, v2, o3]) (blk_put (cs := #[v0, v1, o2, o3]) (blk_put (cs := #[v0, o1, o2, o3]) (blk_put (cs := #[o0, o1, o2, o3]) h 0 _ rfl) 1 _ rfl) 2 _ rfl) 3 _ rfl)
theorem F33_4 {W : World} {g : Nat} {v0 v1 v2 v3 : Value} {a : Addr} (h : a.block ≠ g) : ((((W.setCell ⟨g, 0, none⟩ v0).setCell ⟨g, 1, none⟩ v1).setCell ⟨g, 2, none⟩ v2).setCell ⟨g, 3, none⟩ v3).cell? a = W.cell? a := by rw [cell_far (p := ⟨g, 3, none⟩) h, cell_far (p := ⟨g, 2, none⟩) h, cell_far (p := ⟨g, 1, none⟩) h, cell_far (p := ⟨g, 0, none⟩) h]
theorem Z33_1 {p : Prop} (h : p := by (with_reducible repeat (first | apply Kd.R_alloc | apply Kd.R_drewN | apply Kd.R_drew)); exact (Kd.R_mono (Kd.R_far (p := ⟨gb1021, 3, none⟩) (Kd.R_far (p := ⟨gb1021, 2, none⟩) (Kd.R_far (p := ⟨gb1021, 1, none⟩) (Kd.R_far (p := ⟨gb1021, 0, none⟩) (Kd.R_types HO1015.out BK1021.out (by decide)) (fun _ hk => hk.2) (.slice Ao26 t1013.length co26)) (fun _ hk => hk.2) (.slice Ao29 t1016.length co29)) (fun _ hk => hk.2) (.int .i64 t1019)) (fun _ hk => hk.2) (.int .i64 t1020)) (fun _ h_ => h_.1))) : p := h
theorem Z33_2 {p : Prop} (h : p := by (with_reducible repeat (first | apply Kd.R_alloc | apply Kd.R_drewN | apply Kd.R_drew)); exact (Kd.R_mono (Kd.R_far (p := ⟨gb1021, 3, none⟩) (Kd.R_far (p := ⟨gb1021, 2, none⟩) (Kd.R_far (p := ⟨gb1021, 1, none⟩) (Kd.R_far (p := ⟨gb1021, 0, none⟩) (Kd.R_types HO1018.out BK1021.out (by decide)) (fun _ hk => hk.2) (.slice Ao26 t1013.length co26)) (fun _ hk => hk.2) (.slice Ao29 t1016.length co29)) (fun _ hk => hk.2) (.int .i64 t1019)) (fun _ hk => hk.2) (.int .i64 t1020)) (fun _ h_ => h_.1))) : p := h
theorem Z33_3 {p : Prop} (h : p := by exact ((by rw [hg]; exact Nat.ne_of_lt (blk_lt (g := gb998) (o := .cells #[.slice A0_0 l0_0.length c0_0, .slice A0_1 l0_1.length c0_1, .int .i64 a0_2, .int .i64 a0_3] 56 (0, 0)) (by (with_reducible repeat (first | refine blk_drewN ?_ _ | refine blk_drew ?_ | refine blk_alloc ?_ _)); exact BK998.out)) : gb998 ≠ gb999))) : p := h
theorem Z33_4 {p : Prop} (h : p := by exact ((by rw [hg]; exact Nat.ne_of_gt (blk_lt (g := gb998) (o := .cells #[.slice A0_0 l0_0.length c0_0, .slice A0_1 l0_1.length c0_1, .int .i64 a0_2, .int .i64 a0_3] 56 (0, 0)) (by (with_reducible repeat (first | refine blk_drewN ?_ _ | refine blk_drew ?_ | refine blk_alloc ?_ _)); exact BK998.out)) : gb999 ≠ gb998))) : p := h
theorem Z33_5 {p : Prop} (h : p := by exact ((by rw [hg]; exact Nat.ne_of_lt (blk_lt (g := gb1032) (o := .cells #[.slice none 0 0, .slice none 0 0, .int .i64 0, .int .i64 0] 56 (0, 0)) (by (with_reducible repeat (first | refine blk_drewN ?_ _ | refine blk_drew ?_ | refine blk_alloc ?_ _)); exact BK1032.out)) : gb1032 ≠ gb1036))) : p := h
theorem Z33_6 {p : Prop} (h : p := by exact ((by rw [hg]; exact Nat.ne_of_gt (blk_lt (g := gb1032) (o := .cells #[.slice none 0 0, .slice none 0 0, .int .i64 0, .int .i64 0] 56 (0, 0)) (by (with_reducible repeat (first | refine blk_drewN ?_ _ | refine blk_drew ?_ | refine blk_alloc ?_ _)); exact BK1032.out)) : gb1036 ≠ gb1032))) : p := h
theorem Z33_7 {p : Prop} (h : p := by exact (blk_below (g := gb1021) (o := .cells #[.slice Ao26 t1013.length co26, .slice Ao29 t1016.length co29, .int .i64 t1019, .int .i64 t1020] 56 (0, 0)) (by (with_reducible repeat (first | refine blk_drewN ?_ _ | refine blk_drew ?_ | refine blk_alloc ?_ _)); exact BK1021.out) hb)) : p := h
theorem Z33_38 {p : Prop} (h : p := by (with_reducible repeat (first | refine blk_drewN ?_ _ | refine blk_drew ?_ | refine blk_alloc ?_ _)); exact BK1002.out) : p := h
theorem Z33_8 {p : Prop} (h : p := by exact (blk_below (g := gb1002) (o := .cells #[.slice A0_0 l0_0.length c0_0, .slice A0_1 l0_1.length c0_1, .int .i64 a0_2, .int .i64 a0_3] 50 (0, 0)) Z33_38 hb)) : p := h
theorem Z33_9 {p : Prop} (h : p := by exact (blk_below (g := gb998) (o := .cells #[.slice A0_0 l0_0.length c0_0, .slice A0_1 l0_1.length c0_1, .int .i64 a0_2, .int .i64 a0_3] 56 (0, 0)) (by (with_reducible repeat (first | refine blk_drewN ?_ _ | refine blk_drew ?_ | refine blk_alloc ?_ _)); exact BK998.out) hb)) : p := h
theorem Z33_10 {p : Prop} (h : p := by exact (blk_below (g := gb999) (o := .cells #[.slice A1_0 l1_0.length c1_0, .slice A1_1 l1_1.length c1_1, .int .i64 a1_2, .int .i64 a1_3] 56 (0, 0)) (by (with_reducible repeat (first | refine blk_drewN ?_ _ | refine blk_drew ?_ | refine blk_alloc ?_ _)); exact BK999.out) hb)) : p := h
theorem Z33_11 {p : Prop} (h : p := by exact (blk_below (g := gb1032) (o := .cells #[.slice none 0 0, .slice none 0 0, .int .i64 0, .int .i64 0] 56 (0, 0)) (by (with_reducible repeat (first | refine blk_drewN ?_ _ | refine blk_drew ?_ | refine blk_alloc ?_ _)); exact BK1032.out) hb)) : p := h
theorem Z33_27 {p : Prop} (h : p := by repeat (first | (with_reducible first | exact HB.out | apply below_alloc | apply pw_below_drewN | apply below_drew1 | refine below_set ?_ GE1002.out) | exact HB.out)) : p := h
theorem Z33_12 {p : Prop} (h : p := by exact ((by rw [hg]; exact (below_size Z33_27) : w.heap.size ≤ gb1021))) : p := h
theorem Z33_13 {p : Prop} (h : p := by exact ((by rw [hg]; exact (below_size (by repeat (first | (with_reducible first | exact HB.out | apply below_alloc | apply pw_below_drewN | apply below_drew1 | refine below_set ?_ GE1032.out) | exact HB.out))) : w.heap.size ≤ gb1036))) : p := h
theorem Z33_14 {p : Prop} (h : p := by exact ((by rw [hg]; exact (below_size (by repeat (first | (with_reducible first | exact HB.out | apply below_alloc | apply pw_below_drewN | apply below_drew1 | refine below_set ?_ GE998.out) | exact HB.out))) : w.heap.size ≤ gb999))) : p := h
theorem Z33_17 {p : Prop} (h : p := by repeat (first | (with_reducible first | exact HB.out | apply below_alloc | apply pw_below_drewN | apply below_drew1 | refine below_set ?_ GE1002.out | refine below_set ?_ GE1021.out) | exact HB.out)) : p := h
theorem Z33_15 {p : Prop} (h : p := by exact (below_step Z33_17 hb)) : p := h
theorem Z33_19 {p : Prop} (h : p := by repeat (first | (with_reducible first | exact HB.out | apply below_alloc | apply pw_below_drewN | apply below_drew1 | refine below_set ?_ GE998.out | refine below_set ?_ GE999.out) | exact HB.out)) : p := h
theorem Z33_16 {p : Prop} (h : p := by exact (below_step Z33_19 hb)) : p := h
theorem Z33_18 {p : Prop} (h : p := by repeat (first | (with_reducible first | exact HB.out | apply below_alloc | apply pw_below_drewN | apply below_drew1 | refine below_set ?_ GE1032.out | refine below_set ?_ GE1036.out) | exact HB.out)) : p := h
theorem Z33_20 {p : Prop} (h : p := by exact (Kd.R_lower ho6 (below_size (by repeat (first | (with_reducible first | exact HB.out | apply below_alloc | apply pw_below_drewN | apply below_drew1 | refine below_set ?_ GE1032.out) | exact HB.out))))) : p := h
theorem Z33_21 {p : Prop} (h : p := by exact ((by rw [hg]; exact (below_size (by repeat (first | (with_reducible first | exact HB.out | apply below_alloc | apply pw_below_drewN | apply below_drew1) | exact HB.out))) : w.heap.size ≤ gb1002))) : p := h
theorem Z33_22 {p : Prop} (h : p := by exact ((by rw [hg]; exact (below_size (by repeat (first | (with_reducible first | exact HB.out | apply below_alloc | apply pw_below_drewN | apply below_drew1) | exact HB.out))) : w.heap.size ≤ gb1032))) : p := h
theorem Z33_23 {p : Prop} (h : p := by exact ((by rw [hg]; exact (below_size (by repeat (first | (with_reducible first | exact HB.out | apply below_alloc | apply pw_below_drewN | apply below_drew1) | exact HB.out))) : w.heap.size ≤ gb998))) : p := h
theorem Z33_24 {p : Prop} (h : p := by exact (below_step Z33_27 hb)) : p := h
theorem Z33_25 {p : Prop} (h : p := by exact (below_step (by repeat (first | (with_reducible first | exact HB.out | apply below_alloc | apply pw_below_drewN | apply below_drew1 | refine below_set ?_ GE1032.out) | exact HB.out)) hb)) : p := h
theorem Z33_26 {p : Prop} (h : p := by exact (below_step (by repeat (first | (with_reducible first | exact HB.out | apply below_alloc | apply pw_below_drewN | apply below_drew1 | refine below_set ?_ GE998.out) | exact HB.out)) hb)) : p := h
theorem Z33_28 {p : Prop} (h : p := by exact (below_step (by repeat (first | (with_reducible first | exact HB.out | apply below_alloc | apply pw_below_drewN | apply below_drew1) | exact HB.out)) hb)) : p := h
theorem Z33_29 {p : Prop} (h : p := by first | exact Kd.R_nil _ _ _ _ _ | exact Kd.N_nil _ _ _ _ _ | exact Kd.V_nil _ _ _ _ _ | exact Kd.Q_nil _ _ _ _ _ | exact Kd.S_nil _ _ _ _ _) : p := h
theorem Z33_30 {p : Prop} (h : p := by (try simp only [List.map_toArray, List.map_cons, List.map_nil]); first | done | rfl | (simp only [List.length_drop, List.length_take]; rfl)) : p := h
theorem Z33_40 {p : Prop} (h : p := by (with_reducible repeat (first | apply Kd.R_alloc | apply Kd.R_drewN | apply Kd.R_drew)); exact HO1006.out) : p := h
theorem Z33_31 {p : Prop} (h : p := by exact (Kd.R_elder' Z33_40 (Kd.R_base ho0) hb)) : p := h
theorem Z33_41 {p : Prop} (h : p := by (with_reducible repeat (first | apply Kd.R_alloc | apply Kd.R_drewN | apply Kd.R_drew)); exact HO1009.out) : p := h
theorem Z33_32 {p : Prop} (h : p := by exact (Kd.R_elder' Z33_41 (Kd.R_base ho1) hb)) : p := h
theorem Z33_33 {p : Prop} (h : p := by exact (Kd.R_below Z33_40 hb)) : p := h
theorem Z33_34 {p : Prop} (h : p := by exact (Kd.R_below Z33_41 hb)) : p := h
theorem Z33_42 {p : Prop} (h : p := by (with_reducible repeat (first | apply Kd.R_alloc | apply Kd.R_drewN | apply Kd.R_drew)); exact HO1015.out) : p := h
theorem Z33_35 {p : Prop} (h : p := by exact (Kd.R_below Z33_42 hb)) : p := h
theorem Z33_43 {p : Prop} (h : p := by (with_reducible repeat (first | apply Kd.R_alloc | apply Kd.R_drewN | apply Kd.R_drew)); exact HO1018.out) : p := h
theorem Z33_36 {p : Prop} (h : p := by exact (Kd.R_below Z33_43 hb)) : p := h
theorem Z33_37 {p : Prop} (h : p := by exact (Kd.R_below (by (with_reducible repeat (first | apply Kd.R_alloc | apply Kd.R_drewN | apply Kd.R_drew)); exact HO1035.out) hb)) : p := h
theorem Z33_39 {p : Prop} (h : p := by simp only [Act.put, List.setIfInBounds_toArray, List.set_cons_zero, List.set_cons_succ, i64_w, i32_w]; rfl) : p := h
theorem Z33_44 {p : Prop} (h : p := by first | rfl | (simp [errW_none, errW_some] <;> rfl) | (simp [*, errW_none, errW_some] <;> rfl)) : p := h
/-! ### laws_FnExactStateOk: function 5 -/
def laws_FnExactStateOk.f (k : Nat) (l0_0 : List (S75)) (l0_1 : List (S124)) (a0_2 : Int) (a0_3 : Int) : Option (Bool) := (laws_szState.f l0_0 l0_1 a0_2 a0_3 1048576).bind fun t1003 => (if t1003 < 0 then (some true) else ((laws_toState.f k l0_0 l0_1 a0_2 a0_3).bind fun bt1004 => ((spec_StateOk.f k bt1004.1 bt1004.2.1 bt1004.2.2.1 bt1004.2.2.2).bind fun t1012 => ((laws_toState.f k l0_0 l0_1 a0_2 a0_3).bind fun bt1013 => ((impl_StateOk.f k bt1013.1 bt1013.2.1 bt1013.2.2.1 bt1013.2.2.2).bind fun t1022 => (if (t1022 != t1012) = true then (some false) else ((laws_toState.f k l0_0 l0_1 a0_2 a0_3).bind fun bt1023 => ((laws_eqState.f k bt1013.1 bt1013.2.1 bt1013.2.2.1 bt1013.2.2.2 bt1023.1 bt1023.2.1 bt1023.2.2.1 bt1023.2.2.2).bind fun t1031 => (if t1031 = true then (some true) else (some false))))))))))
theorem laws_FnExactStateOk.mono : ∀ a0 a1 a2 a3 k, LeO (laws_FnExactStateOk.f k a0 a1 a2 a3) (laws_FnExactStateOk.f (k + 1) a0 a1 a2 a3) := by
  intro a0 a1 a2 a3 k
  unfold laws_FnExactStateOk.f
  repeat' first
      | (with_reducible exact impl_StateOk.mono _ _ _ _ _)
      | (with_reducible exact laws_eqState.mono _ _ _ _ _ _ _ _ _)
      | (with_reducible exact laws_toState.mono _ _ _ _ _)
      | (with_reducible exact spec_StateOk.mono _ _ _ _ _)
      | (with_reducible exact LeO.refl _)
      | (with_reducible exact LeO.none _)
      | (with_reducible refine LeO.ite ?_ ?_)
      | (with_reducible refine LeO.bind ?_ (fun _ => ?_))
      | exact impl_StateOk.mono _ _ _ _ _
      | exact laws_eqState.mono _ _ _ _ _ _ _ _ _
      | exact laws_toState.mono _ _ _ _ _
      | exact spec_StateOk.mono _ _ _ _ _
      | exact LeO.none _
      | refine LeO.ite ?_ ?_
      | refine LeO.bind ?_ (fun _ => ?_)
set_option maxHeartbeats 8000000 in
set_option maxRecDepth 100000 in
theorem laws_FnExactStateOk.calls (k : Nat) (A0_0 : Option Addr) (c0_0 : Nat) (l0_0 : List (S75)) (A0_1 : Option Addr) (c0_1 : Nat) (l0_1 : List (S124)) (a0_2 : Int) (a0_3 : Int) (r : Bool) (w : World) (hr0_0 : Kd.C k75 w A0_0 l0_0.length l0_0) (hc0_0 : l0_0.length ≤ c0_0) (hr0_1 : Kd.C k124 w A0_1 l0_1.length l0_1) (hc0_1 : l0_1.length ≤ c0_1) (hrt : r = true) (h : laws_FnExactStateOk.f k l0_0 l0_1 a0_2 a0_3 = some r) :
    Calls Try.prog 5 #[.agg #[.slice A0_0 l0_0.length c0_0, .slice A0_1 l0_1.length c0_1, .int .i64 a0_2, .int .i64 a0_3]] w fun e w' => e = .returned (.bool r) ∧ Below w.heap.size w w' := by
  have hu50 := Try.underlying50
  have hu56 := Try.underlying56
  have HRT := Aside0.mk hrt
  clear hrt
  have HR0_0 := Aside0.mk hr0_0
  have HC0_0 := Aside0.mk hc0_0
  clear hr0_0 hc0_0
  have HR0_1 := Aside0.mk hr0_1
  have HC0_1 := Aside0.mk hc0_1
  clear hr0_1 hc0_1
  have HB := Aside0.mk (Below.refl w.heap.size w)
  have H : ((laws_szState.f l0_0 l0_1 a0_2 a0_3 1048576).bind fun t1003 => (if t1003 < 0 then (some true) else ((laws_toState.f k l0_0 l0_1 a0_2 a0_3).bind fun bt1004 => ((spec_StateOk.f k bt1004.1 bt1004.2.1 bt1004.2.2.1 bt1004.2.2.2).bind fun t1012 => ((laws_toState.f k l0_0 l0_1 a0_2 a0_3).bind fun bt1013 => ((impl_StateOk.f k bt1013.1 bt1013.2.1 bt1013.2.2.1 bt1013.2.2.2).bind fun t1022 => (if (t1022 != t1012) = true then (some false) else ((laws_toState.f k l0_0 l0_1 a0_2 a0_3).bind fun bt1023 => ((laws_eqState.f k bt1013.1 bt1013.2.1 bt1013.2.2.1 bt1013.2.2.2 bt1023.1 bt1023.2.1 bt1023.2.2.1 bt1023.2.2.2).bind fun t1031 => (if t1031 = true then (some true) else (some false))))))))))) = some r := h
  clear h
  replace H := Option.bind_eq_some_iff.mp H
  obtain ⟨t1003, A20, H⟩ := H
  (try dsimp only at H)
  have A2 := Aside0.mk A20
  clear A20
  by_cases c3 : t1003 < 0
  · rw [if_pos c3] at H
    have c3b0 : decide (t1003 < 0) = true := decide_eq_true c3
    clear c3
    obtain rfl := Option.some.inj H
    go_enter Try.func5, Try.ntmps5
    go_wp2_with (first | ((with_reducible refine gate_dst (N := 1) rfl ?_); refine box_event ?hg (N := 1) ?hd (cs := #[.slice A0_0 l0_0.length c0_0, .slice A0_1 l0_1.length c0_1, .int .i64 a0_2, .int .i64 a0_3]) (t := 50) ?hr ?_; (case hd => rfl); (case hg => rfl); (case hr => first | (go_simp; done) | (go_simp; rfl)); intro gb1002 hg w4 hbox hb; have n0_ := Aside0.mk Z33_28; have n1_ := Aside0.mk (hbox); have n2_ := Aside0.mk Z33_21; have n3_ := Aside0.mk Z33_21; clear HB; have HB := n0_; have BK1002 := n1_; have GW1002 := n2_; have GE1002 := n3_; clear n0_ n1_ n2_ n3_; clear hb hbox hg; obtain ⟨⟨hcz5_0, hcz5_1, hcz5_2, hcz5_3⟩, hfz5_0, hfz5_1, hfz5_2, hfz5_3⟩ := C33_4 BK1002.out) | ((with_reducible refine gate_callee (f := 35) rfl ?_); refine goesL_ (some 9) rfl rfl Try.func35 (by kernel_rfl) rfl #[.agg #[.slice A0_0 l0_0.length c0_0, .slice A0_1 l0_1.length c0_1, .int .i64 a0_2, .int .i64 a0_3], .int .i64 1048576] rfl Z33_30 ?_; (with_reducible refine (laws_szState.calls _ _ l0_0 _ _ l0_1 a0_2 a0_3 1048576 t1003 _ ?side1 ?side2 ?side3 ?side4 A2.out).mono ?_); (case side1 => repeat (first | exact (Kd.C_below HR0_0.out HB.out) | (with_reducible refine Kd.C_alloc ?_ _) | (with_reducible refine Kd.C_drewN ?_ _) | (with_reducible refine Kd.C_drew ?_))); (case side2 => exact HC0_0.out); (case side3 => repeat (first | exact (Kd.C_below HR0_1.out HB.out) | (with_reducible refine Kd.C_alloc ?_ _) | (with_reducible refine Kd.C_drewN ?_ _) | (with_reducible refine Kd.C_drew ?_))); (case side4 => exact HC0_1.out); rintro e w6 ⟨rfl, hb⟩; refine ⟨_, rfl, ?_⟩; have n0_ := Aside0.mk Z33_8; have n1_ := Aside0.mk Z33_24; clear BK1002; clear HB; have BK1002 := n0_; have HB := n1_; clear n0_ n1_; (try clear hb); (try clear hb2); (try clear hk); (try clear hi)))
    go_ret
    exact ⟨Z33_44, Z33_27⟩
  rw [if_neg c3] at H
  have c3b0 : decide (t1003 < 0) = false := decide_eq_false c3
  clear c3
  replace H := Option.bind_eq_some_iff.mp H
  obtain ⟨⟨t1004, t1007, t1010, t1011⟩, A70, H⟩ := H
  (try dsimp only at H)
  have A7 := Aside0.mk A70
  clear A70
  replace H := Option.bind_eq_some_iff.mp H
  obtain ⟨t1012, A80, H⟩ := H
  (try dsimp only at H)
  have A8 := Aside0.mk A80
  clear A80
  replace H := Option.bind_eq_some_iff.mp H
  obtain ⟨⟨t1013, t1016, t1019, t1020⟩, A90, H⟩ := H
  (try dsimp only at H)
  have A9 := Aside0.mk A90
  clear A90
  replace H := Option.bind_eq_some_iff.mp H
  obtain ⟨t1022, A100, H⟩ := H
  (try dsimp only at H)
  have A10 := Aside0.mk A100
  clear A100
  by_cases c11 : (t1022 != t1012) = true
  · rw [if_pos c11] at H
    exact absurd (H.trans (congrArg some HRT.out)) (by simp)
  rw [if_neg c11] at H
  have c11b0 : (t1022 != t1012) = false := by simpa using c11
  (try (have c11b1 : decide (t1022 = t1012) = true := by simpa using c11))
  (try (have c11b2 : (t1022 == t1012) = true := by simpa using c11))
  clear c11
  replace H := Option.bind_eq_some_iff.mp H
  obtain ⟨⟨t1023, t1026, t1029, t1030⟩, A120, H⟩ := H
  replace H : ((laws_eqState.f k t1013 t1016 t1019 t1020 t1023 t1026 t1029 t1030).bind fun t1031 => (if t1031 = true then (some true) else (some false))) = some r := H
  have A12 := Aside0.mk A120
  clear A120
  replace H := Option.bind_eq_some_iff.mp H
  obtain ⟨t1031, A130, H⟩ := H
  replace H : (if t1031 = true then (some true) else (some false)) = some r := H
  have A13 := Aside0.mk A130
  clear A130
  by_cases c14 : t1031 = true
  rotate_left
  · replace c14 := Bool.eq_false_iff.mpr c14
    subst c14
    have H1 : (some false) = some r := by rw [if_neg (show ¬ (false = true) by decide)] at H; exact H
    clear H
    have H := H1
    clear H1
    exact absurd (H.trans (congrArg some HRT.out)) (by simp)
  subst c14
  have H1 : (some true) = some r := by rw [if_pos rfl] at H; exact H
  clear H
  have H := H1
  clear H1
  obtain rfl := Option.some.inj H
  go_enter Try.func5, Try.ntmps5
  try go_wp2_with (first | ((with_reducible refine gate_dst (N := 1) rfl ?_); refine box_event ?hg (N := 1) ?hd (cs := #[.slice A0_0 l0_0.length c0_0, .slice A0_1 l0_1.length c0_1, .int .i64 a0_2, .int .i64 a0_3]) (t := 50) ?hr ?_; (case hd => rfl); (case hg => rfl); (case hr => first | (go_simp; done) | (go_simp; rfl)); intro gb1002 hg w15 hbox hb; have n0_ := Aside0.mk Z33_28; have n1_ := Aside0.mk (hbox); have n2_ := Aside0.mk Z33_21; have n3_ := Aside0.mk Z33_21; clear HB; have HB := n0_; have BK1002 := n1_; have GW1002 := n2_; have GE1002 := n3_; clear n0_ n1_ n2_ n3_; clear hb hbox hg; obtain ⟨⟨hcz16_0, hcz16_1, hcz16_2, hcz16_3⟩, hfz16_0, hfz16_1, hfz16_2, hfz16_3⟩ := C33_4 BK1002.out) | ((with_reducible refine gate_callee (f := 35) rfl ?_); refine goesL_ (some 9) rfl rfl Try.func35 (by kernel_rfl) rfl #[.agg #[.slice A0_0 l0_0.length c0_0, .slice A0_1 l0_1.length c0_1, .int .i64 a0_2, .int .i64 a0_3], .int .i64 1048576] rfl Z33_30 ?_; (with_reducible refine (laws_szState.calls _ _ l0_0 _ _ l0_1 a0_2 a0_3 1048576 t1003 _ ?side1 ?side2 ?side3 ?side4 A2.out).mono ?_); (case side1 => repeat (first | exact (Kd.C_below HR0_0.out HB.out) | (with_reducible refine Kd.C_alloc ?_ _) | (with_reducible refine Kd.C_drewN ?_ _) | (with_reducible refine Kd.C_drew ?_))); (case side2 => exact HC0_0.out); (case side3 => repeat (first | exact (Kd.C_below HR0_1.out HB.out) | (with_reducible refine Kd.C_alloc ?_ _) | (with_reducible refine Kd.C_drewN ?_ _) | (with_reducible refine Kd.C_drew ?_))); (case side4 => exact HC0_1.out); rintro e w17 ⟨rfl, hb⟩; refine ⟨_, rfl, ?_⟩; have n0_ := Aside0.mk Z33_8; have n1_ := Aside0.mk Z33_24; clear BK1002; clear HB; have BK1002 := n0_; have HB := n1_; clear n0_ n1_; (try clear hb); (try clear hb2); (try clear hk); (try clear hi); obtain ⟨⟨hcz18_0, hcz18_1, hcz18_2, hcz18_3⟩, hfz18_0, hfz18_1, hfz18_2, hfz18_3⟩ := C33_4 BK1002.out) | ((with_reducible refine gate_callee (f := 37) rfl ?_); refine goesL_ (some 13) rfl rfl Try.func37 (by kernel_rfl) rfl #[.agg #[.slice A0_0 l0_0.length c0_0, .slice A0_1 l0_1.length c0_1, .int .i64 a0_2, .int .i64 a0_3]] rfl Z33_30 ?_; (with_reducible refine (laws_toState.calls k _ _ l0_0 _ _ l0_1 a0_2 a0_3 t1004 t1007 t1010 t1011 _ ?side1 ?side2 ?side3 ?side4 A7.out).mono ?_); (case side1 => repeat (first | exact (Kd.C_below HR0_0.out HB.out) | (with_reducible refine Kd.C_alloc ?_ _) | (with_reducible refine Kd.C_drewN ?_ _) | (with_reducible refine Kd.C_drew ?_))); (case side2 => exact HC0_0.out); (case side3 => repeat (first | exact (Kd.C_below HR0_1.out HB.out) | (with_reducible refine Kd.C_alloc ?_ _) | (with_reducible refine Kd.C_drewN ?_ _) | (with_reducible refine Kd.C_drew ?_))); (case side4 => exact HC0_1.out); rintro e w19 ⟨v1005, v1008, rfl, ho0, ho1, hb⟩; refine ⟨_, rfl, ?_⟩; have n0_ := Aside0.mk (Kd.R_lower ho0 (below_size Z33_27)); have n1_ := Aside0.mk (Kd.R_lower ho1 (below_size Z33_27)); have n2_ := Aside0.mk Z33_8; have n3_ := Aside0.mk Z33_24; clear BK1002; clear HB; have HO1006 := n0_; have HO1009 := n1_; have BK1002 := n2_; have HB := n3_; clear n0_ n1_ n2_ n3_; (try clear hb); (try clear hb2); (try clear hk); (try clear hi); (try clear ho0); (try clear ho1); obtain ⟨Ao20, co20, eo20⟩ := Kd.R_slice HO1006.out; subst eo20; obtain ⟨Ao21, co21, eo21⟩ := Kd.R_slice HO1009.out; subst eo21; clear A7) | ((with_reducible refine gate_callee (f := 36) rfl ?_); refine goesL_ (some 14) rfl rfl Try.func36 (by kernel_rfl) rfl #[.agg #[.slice Ao20 t1004.length co20, .slice Ao21 t1007.length co21, .int .i64 t1010, .int .i64 t1011]] rfl Z33_30 ?_; (with_reducible refine (spec_StateOk.calls k _ _ t1004 _ _ t1007 t1010 t1011 t1012 _ ?side1 ?side2 ?side3 ?side4 A8.out).mono ?_); (case side1 => repeat (first | exact (Kd.R_reads' HO1006.out).2.2 | (with_reducible refine Kd.C_alloc ?_ _) | (with_reducible refine Kd.C_drewN ?_ _) | (with_reducible refine Kd.C_drew ?_))); (case side2 => exact (Kd.R_reads' HO1006.out).2.1); (case side3 => repeat (first | exact (Kd.R_reads' HO1009.out).2.2 | (with_reducible refine Kd.C_alloc ?_ _) | (with_reducible refine Kd.C_drewN ?_ _) | (with_reducible refine Kd.C_drew ?_))); (case side4 => exact (Kd.R_reads' HO1009.out).2.1); rintro e w22 ⟨rfl, hb⟩; refine ⟨_, rfl, ?_⟩; have n0_ := Aside0.mk Z33_33; have n1_ := Aside0.mk Z33_34; have n2_ := Aside0.mk Z33_8; have n3_ := Aside0.mk Z33_24; clear HO1006; clear HO1009; clear BK1002; clear HB; have HO1006 := n0_; have HO1009 := n1_; have BK1002 := n2_; have HB := n3_; clear n0_ n1_ n2_ n3_; (try clear hb); (try clear hb2); (try clear hk); (try clear hi); obtain ⟨⟨hcz23_0, hcz23_1, hcz23_2, hcz23_3⟩, hfz23_0, hfz23_1, hfz23_2, hfz23_3⟩ := C33_4 BK1002.out) | ((with_reducible refine gate_callee (f := 37) rfl ?_); refine goesL_ (some 16) rfl rfl Try.func37 (by kernel_rfl) rfl #[.agg #[.slice A0_0 l0_0.length c0_0, .slice A0_1 l0_1.length c0_1, .int .i64 a0_2, .int .i64 a0_3]] rfl Z33_30 ?_; (with_reducible refine (laws_toState.calls k _ _ l0_0 _ _ l0_1 a0_2 a0_3 t1013 t1016 t1019 t1020 _ ?side1 ?side2 ?side3 ?side4 A9.out).mono ?_); (case side1 => repeat (first | exact (Kd.C_below HR0_0.out HB.out) | (with_reducible refine Kd.C_alloc ?_ _) | (with_reducible refine Kd.C_drewN ?_ _) | (with_reducible refine Kd.C_drew ?_))); (case side2 => exact HC0_0.out); (case side3 => repeat (first | exact (Kd.C_below HR0_1.out HB.out) | (with_reducible refine Kd.C_alloc ?_ _) | (with_reducible refine Kd.C_drewN ?_ _) | (with_reducible refine Kd.C_drew ?_))); (case side4 => exact HC0_1.out); rintro e w24 ⟨v1014, v1017, rfl, ho0, ho1, hb⟩; refine ⟨_, rfl, ?_⟩; have n0_ := Aside0.mk Z33_31; have n1_ := Aside0.mk Z33_32; have n2_ := Aside0.mk (Kd.R_lower (Kd.R_new' ho0 (Kd.R_lt Z33_40)) (below_size Z33_27)); have n3_ := Aside0.mk (Kd.R_lower (Kd.R_new' ho1 (Kd.R_lt Z33_41)) (below_size Z33_27)); have n4_ := Aside0.mk Z33_8; have n5_ := Aside0.mk Z33_24; clear HO1006; clear HO1009; clear BK1002; clear HB; have HO1006 := n0_; have HO1009 := n1_; have HO1015 := n2_; have HO1018 := n3_; have BK1002 := n4_; have HB := n5_; clear n0_ n1_ n2_ n3_ n4_ n5_; (try clear hb); (try clear hb2); (try clear hk); (try clear hi); (try clear ho0); (try clear ho1); clear A9) | ((with_reducible refine gate_dst (N := 5) rfl ?_); refine box_event ?hg (N := 5) ?hd (cs := #[.slice none 0 0, .slice none 0 0, .int .i64 0, .int .i64 0]) (t := 56) ?hr ?_; (case hd => rfl); (case hg => rfl); (case hr => first | (go_simp; done) | (go_simp; rfl)); intro gb1021 hg w25 hbox hb; have n0_ := Aside0.mk Z33_33; have n1_ := Aside0.mk Z33_34; have n2_ := Aside0.mk Z33_35; have n3_ := Aside0.mk Z33_36; have n4_ := Aside0.mk Z33_8; have n5_ := Aside0.mk Z33_24; have n6_ := Aside0.mk (hbox); have n7_ := Aside0.mk Z33_12; have n8_ := Aside0.mk Z33_12; have n9_ := Aside0.mk ((by rw [hg]; exact Nat.ne_of_lt (blk_lt (g := gb1002) (o := .cells #[.slice A0_0 l0_0.length c0_0, .slice A0_1 l0_1.length c0_1, .int .i64 a0_2, .int .i64 a0_3] 50 (0, 0)) Z33_38) : gb1002 ≠ gb1021)); have n10_ := Aside0.mk ((by rw [hg]; exact Nat.ne_of_gt (blk_lt (g := gb1002) (o := .cells #[.slice A0_0 l0_0.length c0_0, .slice A0_1 l0_1.length c0_1, .int .i64 a0_2, .int .i64 a0_3] 50 (0, 0)) Z33_38) : gb1021 ≠ gb1002)); clear HO1006; clear HO1009; clear HO1015; clear HO1018; clear BK1002; clear HB; have HO1006 := n0_; have HO1009 := n1_; have HO1015 := n2_; have HO1018 := n3_; have BK1002 := n4_; have HB := n5_; have BK1021 := n6_; have GW1021 := n7_; have GE1021 := n8_; have NB1002_1021 := n9_; have NB1021_1002 := n10_; clear n0_ n1_ n2_ n3_ n4_ n5_ n6_ n7_ n8_ n9_ n10_; clear hb hbox hg; obtain ⟨Ao26, co26, eo26⟩ := Kd.R_slice HO1015.out; subst eo26; have hnb27 := NB1021_1002.out; have hnc27 := NB1002_1021.out; obtain ⟨⟨hcz28_0, hcz28_1, hcz28_2, hcz28_3⟩, hfz28_0, hfz28_1, hfz28_2, hfz28_3⟩ := C33_4 BK1021.out; obtain ⟨Ao29, co29, eo29⟩ := Kd.R_slice HO1018.out; subst eo29) | ((with_reducible refine gate_callee (f := 38) rfl ?_); refine goesL_ (some 18) rfl rfl Try.func38 (by kernel_rfl) rfl #[.agg #[.slice Ao26 t1013.length co26, .slice Ao29 t1016.length co29, .int .i64 t1019, .int .i64 t1020]] rfl Z33_30 ?_; (with_reducible refine (impl_StateOk.calls k _ _ t1013 _ _ t1016 t1019 t1020 t1022 _ ?side1 ?side2 ?side3 ?side4 A10.out).mono ?_); (case side1 => refine (Kd.R_reads' (e := 25) (base := w.heap.size) (ok := fun k_ => (True ∧ some k_ ≠ (.slice Ao20 t1004.length co20 : Value).ownBlock)) (n := t1013.length) (c := co26) ?_).2.2; exact Z33_1); (case side2 => exact (Kd.R_reads' HO1015.out).2.1); (case side3 => refine (Kd.R_reads' (e := 71) (base := w.heap.size) (ok := fun k_ => (True ∧ some k_ ≠ (.slice Ao21 t1007.length co21 : Value).ownBlock)) (n := t1016.length) (c := co29) ?_).2.2; exact Z33_2); (case side4 => exact (Kd.R_reads' HO1018.out).2.1); rintro e w30 ⟨rfl, hb⟩; refine ⟨_, rfl, ?_⟩; have n0_ := Aside0.mk (Kd.R_below (by (with_reducible repeat (first | apply Kd.R_alloc | apply Kd.R_drewN | apply Kd.R_drew)); exact (Kd.R_mono (Kd.R_far (p := ⟨gb1021, 3, none⟩) (Kd.R_far (p := ⟨gb1021, 2, none⟩) (Kd.R_far (p := ⟨gb1021, 1, none⟩) (Kd.R_far (p := ⟨gb1021, 0, none⟩) (Kd.R_types HO1006.out BK1021.out (by decide)) (fun _ hk => hk.2) (.slice Ao26 t1013.length co26)) (fun _ hk => hk.2) (.slice Ao29 t1016.length co29)) (fun _ hk => hk.2) (.int .i64 t1019)) (fun _ hk => hk.2) (.int .i64 t1020)) (fun _ h_ => h_.1))) hb); have n1_ := Aside0.mk (Kd.R_below (by (with_reducible repeat (first | apply Kd.R_alloc | apply Kd.R_drewN | apply Kd.R_drew)); exact (Kd.R_mono (Kd.R_far (p := ⟨gb1021, 3, none⟩) (Kd.R_far (p := ⟨gb1021, 2, none⟩) (Kd.R_far (p := ⟨gb1021, 1, none⟩) (Kd.R_far (p := ⟨gb1021, 0, none⟩) (Kd.R_types HO1009.out BK1021.out (by decide)) (fun _ hk => hk.2) (.slice Ao26 t1013.length co26)) (fun _ hk => hk.2) (.slice Ao29 t1016.length co29)) (fun _ hk => hk.2) (.int .i64 t1019)) (fun _ hk => hk.2) (.int .i64 t1020)) (fun _ h_ => h_.1))) hb); have n2_ := Aside0.mk (Kd.R_below Z33_1 hb); have n3_ := Aside0.mk (Kd.R_below Z33_2 hb); have n4_ := Aside0.mk (blk_below (g := gb1002) (o := .cells #[.slice A0_0 l0_0.length c0_0, .slice A0_1 l0_1.length c0_1, .int .i64 a0_2, .int .i64 a0_3] 50 (0, 0)) (by (with_reducible repeat (first | refine blk_drewN ?_ _ | refine blk_drew ?_ | refine blk_alloc ?_ _)); refine blk_far ?_ NB1002_1021.out _; (with_reducible repeat (first | refine blk_drewN ?_ _ | refine blk_drew ?_ | refine blk_alloc ?_ _)); refine blk_far ?_ NB1002_1021.out _; (with_reducible repeat (first | refine blk_drewN ?_ _ | refine blk_drew ?_ | refine blk_alloc ?_ _)); refine blk_far ?_ NB1002_1021.out _; (with_reducible repeat (first | refine blk_drewN ?_ _ | refine blk_drew ?_ | refine blk_alloc ?_ _)); refine blk_far ?_ NB1002_1021.out _; (with_reducible repeat (first | refine blk_drewN ?_ _ | refine blk_drew ?_ | refine blk_alloc ?_ _)); exact BK1002.out) hb); have n5_ := Aside0.mk (blk_below (g := gb1021) (o := .cells #[.slice Ao26 t1013.length co26, .slice Ao29 t1016.length co29, .int .i64 t1019, .int .i64 t1020] 56 (0, 0)) (by (with_reducible repeat (first | refine blk_drewN ?_ _ | refine blk_drew ?_ | refine blk_alloc ?_ _)); apply E33_4; (with_reducible repeat (first | refine blk_drewN ?_ _ | refine blk_drew ?_ | refine blk_alloc ?_ _)); exact BK1021.out) hb); have n6_ := Aside0.mk Z33_15; clear HO1006; clear HO1009; clear HO1015; clear HO1018; clear BK1002; clear BK1021; clear HB; have HO1006 := n0_; have HO1009 := n1_; have HO1015 := n2_; have HO1018 := n3_; have BK1002 := n4_; have BK1021 := n5_; have HB := n6_; clear n0_ n1_ n2_ n3_ n4_ n5_ n6_; (try clear hb); (try clear hb2); (try clear hk); (try clear hi)))
  have n0_ := Aside0.mk (Kd.R_drew HO1006.out)
  have n1_ := Aside0.mk (Kd.R_drew HO1009.out)
  have n2_ := Aside0.mk (Kd.R_drew HO1015.out)
  have n3_ := Aside0.mk (Kd.R_drew HO1018.out)
  have n4_ := Aside0.mk (blk_drew BK1002.out)
  have n5_ := Aside0.mk (blk_drew BK1021.out)
  have n6_ := Aside0.mk (below_drew1 HB.out)
  clear HO1006
  clear HO1009
  clear HO1015
  clear HO1018
  clear BK1002
  clear BK1021
  clear HB
  have HO1006 := n0_
  have HO1009 := n1_
  have HO1015 := n2_
  have HO1018 := n3_
  have BK1002 := n4_
  have BK1021 := n5_
  have HB := n6_
  clear n0_ n1_ n2_ n3_ n4_ n5_ n6_
  refine start_ (n := 5) (S := fun w' => w'.cell? ⟨gb1021, 0, none⟩ = some (.slice Ao26 t1013.length co26) ∧ w'.cell? ⟨gb1021, 1, none⟩ = some (.slice Ao29 t1016.length co29) ∧ w'.cell? ⟨gb1021, 2, none⟩ = some (.int .i64 t1019) ∧ w'.cell? ⟨gb1021, 3, none⟩ = some (.int .i64 t1020) ∧ w'.cell? ⟨gb1002, 0, none⟩ = some (.slice A0_0 l0_0.length c0_0) ∧ w'.cell? ⟨gb1002, 1, none⟩ = some (.slice A0_1 l0_1.length c0_1) ∧ w'.cell? ⟨gb1002, 2, none⟩ = some (.int .i64 a0_2) ∧ w'.cell? ⟨gb1002, 3, none⟩ = some (.int .i64 a0_3)) (ds := []) #[false, false, false, false, false] (by kernel_rfl) rfl rfl ⟨(blk_cell BK1021.out 0).trans rfl, (blk_cell BK1021.out 1).trans rfl, (blk_cell BK1021.out 2).trans rfl, (blk_cell BK1021.out 3).trans rfl, (blk_cell BK1002.out 0).trans rfl, (blk_cell BK1002.out 1).trans rfl, (blk_cell BK1002.out 2).trans rfl, (blk_cell BK1002.out 3).trans rfl⟩ (fun hHeld => ?_)
  generalize w30.drew = w31 at HO1006 HO1009 HO1015 HO1018 BK1002 BK1021 HB hHeld ⊢
  refine take_ (i := 0) (N := some 22) (v := _) (a' := _) #[true, false, false, false, false] rfl rfl (by kernel_rfl) (fun _ _ _ h => h) (Or.inl ⟨(by rfl), (by rintro w' ⟨s0, s1, s2, s3, s4, s5, s6, s7⟩; go_simp; with_reducible rfl)⟩) hHeld Z33_39 ?_
  refine take_ (i := 1) (N := some 23) (v := _) (a' := _) #[true, true, false, false, false] rfl rfl (by kernel_rfl) (fun _ _ _ h => h) (Or.inl ⟨(by rfl), (by rintro w' ⟨s0, s1, s2, s3, s4, s5, s6, s7⟩; go_simp; with_reducible rfl)⟩) hHeld Z33_39 ?_
  refine one_ (i := 2) (N := some 24) #[true, true, true, false, false] rfl rfl (by kernel_rfl) (by decide) (fun K hK => ?_)
  refine goes_ Try.func37 (by kernel_rfl) rfl #[.agg #[.slice A0_0 l0_0.length c0_0, .slice A0_1 l0_1.length c0_1, .int .i64 a0_2, .int .i64 a0_3]] (by rfl) rfl rfl Z33_30 ?_
  with_reducible refine (laws_toState.calls k _ _ l0_0 _ _ l0_1 a0_2 a0_3 t1023 t1026 t1029 t1030 _ ?side1 ?side2 ?side3 ?side4 A12.out).mono ?_
  (case side1 => repeat (first | exact (Kd.C_below HR0_0.out HB.out) | (with_reducible refine Kd.C_alloc ?_ _) | (with_reducible refine Kd.C_drewN ?_ _) | (with_reducible refine Kd.C_drew ?_)))
  (case side2 => exact HC0_0.out)
  (case side3 => repeat (first | exact (Kd.C_below HR0_1.out HB.out) | (with_reducible refine Kd.C_alloc ?_ _) | (with_reducible refine Kd.C_drewN ?_ _) | (with_reducible refine Kd.C_drew ?_)))
  (case side4 => exact HC0_1.out)
  rintro e w32 ⟨v1024, v1027, rfl, ho0, ho1, hb⟩
  refine ⟨_, rfl, ?_⟩
  have n0_ := Aside0.mk Z33_31
  have n1_ := Aside0.mk Z33_32
  have n2_ := Aside0.mk (Kd.R_elder' Z33_42 (Kd.R_base ho0) hb)
  have n3_ := Aside0.mk (Kd.R_elder' Z33_43 (Kd.R_base ho1) hb)
  have n4_ := Aside0.mk (Kd.R_lower (Kd.R_new' (Kd.R_new' ho0 (Kd.R_lt Z33_40)) (Kd.R_lt Z33_42)) (below_size Z33_17))
  have n5_ := Aside0.mk (Kd.R_lower (Kd.R_new' (Kd.R_new' ho1 (Kd.R_lt Z33_41)) (Kd.R_lt Z33_43)) (below_size Z33_17))
  have n6_ := Aside0.mk Z33_8
  have n7_ := Aside0.mk Z33_7
  have n8_ := Aside0.mk Z33_15
  clear HO1006
  clear HO1009
  clear HO1015
  clear HO1018
  clear BK1002
  clear BK1021
  clear HB
  have HO1006 := n0_
  have HO1009 := n1_
  have HO1015 := n2_
  have HO1018 := n3_
  have HO1025 := n4_
  have HO1028 := n5_
  have BK1002 := n6_
  have BK1021 := n7_
  have HB := n8_
  clear n0_ n1_ n2_ n3_ n4_ n5_ n6_ n7_ n8_
  (try clear hb)
  (try clear hb2)
  (try clear hk)
  (try clear hi)
  (try clear ho0)
  (try clear ho1)
  obtain ⟨Ao33, co33, eo33⟩ := Kd.R_slice HO1025.out
  (first | subst eo33 | (injection eo33 with f1_ f2_ f3_; have f4_ := f1_.symm; have f5_ := f3_.symm; clear f1_ f2_ f3_; subst f4_; subst f5_))
  obtain ⟨Ao34, co34, eo34⟩ := Kd.R_slice HO1028.out
  (first | subst eo34 | (injection eo34 with f1_ f2_ f3_; have f4_ := f1_.symm; have f5_ := f3_.symm; clear f1_ f2_ f3_; subst f4_; subst f5_))
  refine hK.out _ _ (D33_4 BK1021.out (C33_4 BK1002.out).1) (fun hHeld => ?_)
  clear hK K
  refine norm_ (a' := ?_) ?_ ?_
  rotate_left
  · show Act.put _ (some 24) _ = _
    simp only [Act.put, List.setIfInBounds_toArray, List.set_cons_zero, List.set_cons_succ, i64_w, i32_w]
    rfl
  refine one_ (i := 3) (N := some 25) #[true, true, true, true, false] rfl rfl (by kernel_rfl) (by decide) (fun K hK => ?_)
  refine goes_ Try.func39 (by kernel_rfl) rfl #[.agg #[.slice Ao26 t1013.length co26, .slice Ao29 t1016.length co29, .int .i64 t1019, .int .i64 t1020], .agg #[.slice Ao33 t1023.length co33, .slice Ao34 t1026.length co34, .int .i64 t1029, .int .i64 t1030]] (by rfl) rfl rfl Z33_30 ?_
  with_reducible refine (laws_eqState.calls k _ _ t1013 _ _ t1016 t1019 t1020 _ _ t1023 _ _ t1026 t1029 t1030 true _ ?side1 ?side2 ?side3 ?side4 ?side5 ?side6 ?side7 ?side8 A13.out).mono ?_
  (case side1 => repeat (first | exact (Kd.R_reads' HO1015.out).2.2 | (with_reducible refine Kd.C_alloc ?_ _) | (with_reducible refine Kd.C_drewN ?_ _) | (with_reducible refine Kd.C_drew ?_)))
  (case side2 => exact (Kd.R_reads' HO1015.out).2.1)
  (case side3 => repeat (first | exact (Kd.R_reads' HO1018.out).2.2 | (with_reducible refine Kd.C_alloc ?_ _) | (with_reducible refine Kd.C_drewN ?_ _) | (with_reducible refine Kd.C_drew ?_)))
  (case side4 => exact (Kd.R_reads' HO1018.out).2.1)
  (case side5 => repeat (first | exact (Kd.R_reads' HO1025.out).2.2 | (with_reducible refine Kd.C_alloc ?_ _) | (with_reducible refine Kd.C_drewN ?_ _) | (with_reducible refine Kd.C_drew ?_)))
  (case side6 => exact (Kd.R_reads' HO1025.out).2.1)
  (case side7 => repeat (first | exact (Kd.R_reads' HO1028.out).2.2 | (with_reducible refine Kd.C_alloc ?_ _) | (with_reducible refine Kd.C_drewN ?_ _) | (with_reducible refine Kd.C_drew ?_)))
  (case side8 => exact (Kd.R_reads' HO1028.out).2.1)
  rintro e w35 ⟨rfl, hb⟩
  refine ⟨_, rfl, ?_⟩
  have n0_ := Aside0.mk Z33_33
  have n1_ := Aside0.mk Z33_34
  have n2_ := Aside0.mk Z33_35
  have n3_ := Aside0.mk Z33_36
  have n4_ := Aside0.mk (Kd.R_below (by (with_reducible repeat (first | apply Kd.R_alloc | apply Kd.R_drewN | apply Kd.R_drew)); exact HO1025.out) hb)
  have n5_ := Aside0.mk (Kd.R_below (by (with_reducible repeat (first | apply Kd.R_alloc | apply Kd.R_drewN | apply Kd.R_drew)); exact HO1028.out) hb)
  have n6_ := Aside0.mk Z33_8
  have n7_ := Aside0.mk Z33_7
  have n8_ := Aside0.mk Z33_15
  clear HO1006
  clear HO1009
  clear HO1015
  clear HO1018
  clear HO1025
  clear HO1028
  clear BK1002
  clear BK1021
  clear HB
  have HO1006 := n0_
  have HO1009 := n1_
  have HO1015 := n2_
  have HO1018 := n3_
  have HO1025 := n4_
  have HO1028 := n5_
  have BK1002 := n6_
  have BK1021 := n7_
  have HB := n8_
  clear n0_ n1_ n2_ n3_ n4_ n5_ n6_ n7_ n8_
  (try clear hb)
  (try clear hb2)
  (try clear hk)
  (try clear hi)
  refine hK.out _ _ (D33_4 BK1021.out (C33_4 BK1002.out).1) (fun hHeld => ?_)
  clear hK K
  refine norm_ (a' := ?_) ?_ ?_
  rotate_left
  · show Act.put _ (some 25) _ = _
    simp only [Act.put, List.setIfInBounds_toArray, List.set_cons_zero, List.set_cons_succ, i64_w, i32_w]
    rfl
  refine pure_ (i := 4) (N := some 26) (v := _) (a' := _) #[true, true, true, true, true] rfl rfl (by kernel_rfl) (fun _ _ _ h => h) (Or.inl ⟨(by rfl), (by intro w'; go_simp; with_reducible rfl)⟩) Z33_39 ?_
  refine done_ (by kernel_rfl) ?_
  try go_wp2
  go_ret
  exact ⟨Z33_44, Z33_17⟩

/-- THE ONE PURE STATEMENT of laws_FnExactStateOk: yours. -/
def laws_FnExactStateOk.Pure : Prop := ∀ (l0_0 : List (S75)) (l0_1 : List (S124)) (a0_2 : Int) (a0_3 : Int), l0_0.length ≤ maxLen → (∀ x ∈ l0_0, (Lit.int .i64 x.f0).wf = true ∧ (Lit.int .i64 x.f1).wf = true ∧ (Lit.int .i64 x.f2).wf = true ∧ (Lit.int .i64 x.f3).wf = true ∧ (Lit.int .i64 x.f4).wf = true ∧ (Lit.int .i64 x.f5).wf = true ∧ (Lit.int .i64 x.f6).wf = true ∧ (Lit.int .i64 x.f7).wf = true ∧ (Lit.int .i64 x.f8).wf = true ∧ (Lit.int .i64 x.f9).wf = true ∧ (Lit.int .i64 x.f10).wf = true) → l0_1.length ≤ maxLen → (∀ x ∈ l0_1, (Lit.int .i64 x.f0).wf = true ∧ (Lit.int .i64 x.f1).wf = true) → (Lit.int .i64 a0_2).wf = true → (Lit.int .i64 a0_3).wf = true → ∃ k, laws_FnExactStateOk.f k l0_0 l0_1 a0_2 a0_3 = some true
theorem laws_FnExactStateOk.walk (P : laws_FnExactStateOk.Pure) (A0_0 : Option Addr) (c0_0 : Nat) (l0_0 : List (S75)) (A0_1 : Option Addr) (c0_1 : Nat) (l0_1 : List (S124)) (a0_2 : Int) (a0_3 : Int) (w : World) (hr0_0 : Kd.C k75 w A0_0 l0_0.length l0_0) (hc0_0 : l0_0.length ≤ c0_0) (hm0_0 : l0_0.length ≤ maxLen) (hw0_0 : ∀ x ∈ l0_0, (Lit.int .i64 x.f0).wf = true ∧ (Lit.int .i64 x.f1).wf = true ∧ (Lit.int .i64 x.f2).wf = true ∧ (Lit.int .i64 x.f3).wf = true ∧ (Lit.int .i64 x.f4).wf = true ∧ (Lit.int .i64 x.f5).wf = true ∧ (Lit.int .i64 x.f6).wf = true ∧ (Lit.int .i64 x.f7).wf = true ∧ (Lit.int .i64 x.f8).wf = true ∧ (Lit.int .i64 x.f9).wf = true ∧ (Lit.int .i64 x.f10).wf = true) (hr0_1 : Kd.C k124 w A0_1 l0_1.length l0_1) (hc0_1 : l0_1.length ≤ c0_1) (hm0_1 : l0_1.length ≤ maxLen) (hw0_1 : ∀ x ∈ l0_1, (Lit.int .i64 x.f0).wf = true ∧ (Lit.int .i64 x.f1).wf = true) (w0_2 : (Lit.int .i64 a0_2).wf = true) (w0_3 : (Lit.int .i64 a0_3).wf = true) :
    Calls Try.prog 5 #[.agg #[.slice A0_0 l0_0.length c0_0, .slice A0_1 l0_1.length c0_1, .int .i64 a0_2, .int .i64 a0_3]] w fun e w' => e = .returned (.bool true) ∧ Below w.heap.size w w' := by
  obtain ⟨k, h⟩ := P l0_0 l0_1 a0_2 a0_3 hm0_0 hw0_0 hm0_1 hw0_1 w0_2 w0_3
  refine (laws_FnExactStateOk.calls k _ _ l0_0 _ _ l0_1 a0_2 a0_3 true w hr0_0 hc0_0 hr0_1 hc0_1 rfl h).mono ?_
  rintro e w' ⟨rfl, hd⟩
  exact ⟨rfl, hd⟩


end Go.Proofs.Ytfkidiagmekleaa.QAll
