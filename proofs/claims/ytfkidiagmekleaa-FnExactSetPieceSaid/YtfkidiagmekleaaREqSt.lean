-- Written by a program of this session (patch_print.py over the print).
import Derived.Test.YtfkidiagmekleaaQAllx0
import Derived.Test.YtfkidiagmekleaaREqPS
namespace Go.Proofs.Ytfkidiagmekleaa.QAll
open Go.RowKit Go.Proofs.YtfkidiagmekleaaW.PrintWords Go.Proofs.YtfkidiagmekleaaW.PrintLast Go.Proofs.YtfkidiagmekleaaW.PrintMore
attribute [local go_sem] max2_int min2_int max_two min_two max_three min_three max_four min_four   -- for this text's walks alone
set_option linter.unusedVariables false
set_option linter.unusedSimpArgs false

theorem C30_4 {W : World} {g : Nat} {T : TypeId} {v0 v1 v2 v3 : Value} (h : W.heap[g]? = some (.cells #[v0, v1, v2, v3] T (0, 0))) : (W.cell? ⟨g, 0, none⟩ = some v0 ∧ W.cell? ⟨g, 1, none⟩ = some v1 ∧ W.cell? ⟨g, 2, none⟩ = some v2 ∧ W.cell? ⟨g, 3, none⟩ = some v3) ∧ W.frozen? ⟨g, 0, none⟩ = false ∧ W.frozen? ⟨g, 1, none⟩ = false ∧ W.frozen? ⟨g, 2, none⟩ = false ∧ W.frozen? ⟨g, 3, none⟩ = false := ⟨⟨(blk_cell h 0).trans rfl, (blk_cell h 1).trans rfl, (blk_cell h 2).trans rfl, (blk_cell h 3).trans rfl⟩, blk_frozen h 0, blk_frozen h 1, blk_frozen h 2, blk_frozen h 3⟩
theorem Z30_1 {p : Prop} (h : p := by exact ((by rw [hg]; exact Nat.ne_of_lt (blk_lt (g := gb772) (o := .cells #[.slice A0_0 l0_0.length c0_0, .slice A0_1 l0_1.length c0_1, .int .i64 a0_2, .int .i64 a0_3] 56 (0, 0)) (by (with_reducible repeat (first | refine blk_drewN ?_ _ | refine blk_drew ?_ | refine blk_alloc ?_ _)); exact BK772.out)) : gb772 ≠ gb773))) : p := h
theorem Z30_2 {p : Prop} (h : p := by exact ((by rw [hg]; exact Nat.ne_of_gt (blk_lt (g := gb772) (o := .cells #[.slice A0_0 l0_0.length c0_0, .slice A0_1 l0_1.length c0_1, .int .i64 a0_2, .int .i64 a0_3] 56 (0, 0)) (by (with_reducible repeat (first | refine blk_drewN ?_ _ | refine blk_drew ?_ | refine blk_alloc ?_ _)); exact BK772.out)) : gb773 ≠ gb772))) : p := h
theorem Z30_5 {p : Prop} (h : p := by exact (blk_below (g := gb772) (o := .cells #[.slice A0_0 l0_0.length c0_0, .slice A0_1 l0_1.length c0_1, .int .i64 a0_2, .int .i64 a0_3] 56 (0, 0)) (by (with_reducible repeat (first | refine blk_drewN ?_ _ | refine blk_drew ?_ | refine blk_alloc ?_ _)); exact BK772.out) hb)) : p := h
theorem Z30_6 {p : Prop} (h : p := by exact (blk_below (g := gb773) (o := .cells #[.slice A1_0 l1_0.length c1_0, .slice A1_1 l1_1.length c1_1, .int .i64 a1_2, .int .i64 a1_3] 56 (0, 0)) (by (with_reducible repeat (first | refine blk_drewN ?_ _ | refine blk_drew ?_ | refine blk_alloc ?_ _)); exact BK773.out) hb)) : p := h
theorem Z30_8 {p : Prop} (h : p := by exact ((by rw [hg]; exact (below_size (by repeat (first | (with_reducible first | exact HB.out | apply below_alloc | apply pw_below_drewN | apply below_drew1 | refine below_set ?_ GE772.out) | exact HB.out))) : w.heap.size ≤ gb773))) : p := h
theorem Z30_11 {p : Prop} (h : p := by repeat (first | (with_reducible first | exact HB.out | apply below_alloc | apply pw_below_drewN | apply below_drew1 | refine below_set ?_ GE772.out | refine below_set ?_ GE773.out) | exact HB.out)) : p := h
theorem Z30_10 {p : Prop} (h : p := by exact (below_step Z30_11 hb)) : p := h
theorem Z30_13 {p : Prop} (h : p := by exact ((by rw [hg]; exact (below_size (by repeat (first | (with_reducible first | exact HB.out | apply below_alloc | apply pw_below_drewN | apply below_drew1) | exact HB.out))) : w.heap.size ≤ gb772))) : p := h
theorem Z30_15 {p : Prop} (h : p := by exact (below_step (by repeat (first | (with_reducible first | exact HB.out | apply below_alloc | apply pw_below_drewN | apply below_drew1 | refine below_set ?_ GE772.out) | exact HB.out)) hb)) : p := h
theorem Z30_18 {p : Prop} (h : p := by exact (below_step (by repeat (first | (with_reducible first | exact HB.out | apply below_alloc | apply pw_below_drewN | apply below_drew1) | exact HB.out)) hb)) : p := h
theorem Z30_20 {p : Prop} (h : p := by (try simp only [List.map_toArray, List.map_cons, List.map_nil]); first | done | rfl | (simp only [List.length_drop, List.length_take]; rfl)) : p := h
theorem Z30_22 {p : Prop} (h : p := by first | rfl | (simp [errW_none, errW_some] <;> rfl) | (simp [*, errW_none, errW_some] <;> rfl)) : p := h
/-! ### laws_eqSide: function 133 -/
def laws_eqSide.f (a0_0 : Int) (a0_1 : Int) (a0_2 : Bool) (a1_0 : Int) (a1_1 : Int) (a1_2 : Bool) : Option (Bool) := if a0_0 = a1_0 then (if a0_1 = a1_1 then (if (a0_2 != a1_2) = true then (some false) else (some true)) else (some false)) else (some false)
set_option maxHeartbeats 8000000 in
set_option maxRecDepth 100000 in
theorem laws_eqSide.calls (a0_0 : Int) (a0_1 : Int) (a0_2 : Bool) (a1_0 : Int) (a1_1 : Int) (a1_2 : Bool) (r : Bool) (w : World) (h : laws_eqSide.f a0_0 a0_1 a0_2 a1_0 a1_1 a1_2 = some r) :
    Calls Try.prog 133 #[.agg #[.int .i64 a0_0, .int .i64 a0_1, .bool a0_2], .agg #[.int .i64 a1_0, .int .i64 a1_1, .bool a1_2]] w fun e w' => e = .returned (.bool r) ∧ Below w.heap.size w w' := by
  have hu71 := Try.underlying71
  have HB := Aside0.mk (Below.refl w.heap.size w)
  have H : (if a0_0 = a1_0 then (if a0_1 = a1_1 then (if (a0_2 != a1_2) = true then (some false) else (some true)) else (some false)) else (some false)) = some r := h
  clear h
  by_cases c3 : a0_0 = a1_0
  · rw [if_pos c3] at H
    have c3b0 : (a0_0 == a1_0) = true := beq_iff_eq.mpr c3
    have c3b1 : (a0_0 != a1_0) = false := bne_eq_false_iff_eq.mpr c3
    clear c3
    by_cases c4 : a0_1 = a1_1
    · rw [if_pos c4] at H
      have c4b0 : (a0_1 == a1_1) = true := beq_iff_eq.mpr c4
      have c4b1 : (a0_1 != a1_1) = false := bne_eq_false_iff_eq.mpr c4
      clear c4
      by_cases c5 : (a0_2 != a1_2) = true
      · rw [if_pos c5] at H
        have c5b0 : (a0_2 != a1_2) = true := c5
        (try (have c5b1 : decide (a0_2 = a1_2) = false := by simpa using c5))
        (try (have c5b2 : (a0_2 == a1_2) = false := by simpa using c5))
        (try (have c5b3 : ¬ (a0_2 = a1_2) := by simpa using c5))
        clear c5
        obtain rfl := Option.some.inj H
        go_enter Try.func133, Try.ntmps133
        go_wp2_with (first | ((with_reducible refine gate_dst (N := 2) rfl ?_); refine box_event ?hg (N := 2) ?hd (cs := #[.int .i64 a0_0, .int .i64 a0_1, .bool a0_2]) (t := 71) ?hr ?_; (case hd => rfl); (case hg => rfl); (case hr => first | (go_simp; done) | (go_simp; rfl)); intro gb767 hg w6 hbox hb; have n0_ := Aside0.mk (below_step (by repeat (first | (with_reducible first | exact HB.out | apply below_alloc | apply pw_below_drewN | apply below_drew1) | exact HB.out)) hb); have n1_ := Aside0.mk (hbox); have n2_ := Aside0.mk ((by rw [hg]; exact (below_size (by repeat (first | (with_reducible first | exact HB.out | apply below_alloc | apply pw_below_drewN | apply below_drew1) | exact HB.out))) : w.heap.size ≤ gb767)); have n3_ := Aside0.mk ((by rw [hg]; exact (below_size (by repeat (first | (with_reducible first | exact HB.out | apply below_alloc | apply pw_below_drewN | apply below_drew1) | exact HB.out))) : w.heap.size ≤ gb767)); clear HB; have HB := n0_; have BK767 := n1_; have GW767 := n2_; have GE767 := n3_; clear n0_ n1_ n2_ n3_; clear hb hbox hg) | ((with_reducible refine gate_dst (N := 3) rfl ?_); refine box_event ?hg (N := 3) ?hd (cs := #[.int .i64 a1_0, .int .i64 a1_1, .bool a1_2]) (t := 71) ?hr ?_; (case hd => rfl); (case hg => rfl); (case hr => first | (go_simp; done) | (go_simp; rfl)); intro gb768 hg w7 hbox hb; have n0_ := Aside0.mk (blk_below (g := gb767) (o := .cells #[.int .i64 a0_0, .int .i64 a0_1, .bool a0_2] 71 (0, 0)) (by (with_reducible repeat (first | refine blk_drewN ?_ _ | refine blk_drew ?_ | refine blk_alloc ?_ _)); exact BK767.out) hb); have n1_ := Aside0.mk (below_step (by repeat (first | (with_reducible first | exact HB.out | apply below_alloc | apply pw_below_drewN | apply below_drew1 | refine below_set ?_ GE767.out) | exact HB.out)) hb); have n2_ := Aside0.mk (hbox); have n3_ := Aside0.mk ((by rw [hg]; exact (below_size (by repeat (first | (with_reducible first | exact HB.out | apply below_alloc | apply pw_below_drewN | apply below_drew1 | refine below_set ?_ GE767.out) | exact HB.out))) : w.heap.size ≤ gb768)); have n4_ := Aside0.mk ((by rw [hg]; exact (below_size (by repeat (first | (with_reducible first | exact HB.out | apply below_alloc | apply pw_below_drewN | apply below_drew1 | refine below_set ?_ GE767.out) | exact HB.out))) : w.heap.size ≤ gb768)); have n5_ := Aside0.mk ((by rw [hg]; exact Nat.ne_of_lt (blk_lt (g := gb767) (o := .cells #[.int .i64 a0_0, .int .i64 a0_1, .bool a0_2] 71 (0, 0)) (by (with_reducible repeat (first | refine blk_drewN ?_ _ | refine blk_drew ?_ | refine blk_alloc ?_ _)); exact BK767.out)) : gb767 ≠ gb768)); have n6_ := Aside0.mk ((by rw [hg]; exact Nat.ne_of_gt (blk_lt (g := gb767) (o := .cells #[.int .i64 a0_0, .int .i64 a0_1, .bool a0_2] 71 (0, 0)) (by (with_reducible repeat (first | refine blk_drewN ?_ _ | refine blk_drew ?_ | refine blk_alloc ?_ _)); exact BK767.out)) : gb768 ≠ gb767)); clear BK767; clear HB; have BK767 := n0_; have HB := n1_; have BK768 := n2_; have GW768 := n3_; have GE768 := n4_; have NB767_768 := n5_; have NB768_767 := n6_; clear n0_ n1_ n2_ n3_ n4_ n5_ n6_; clear hb hbox hg; have hnb8 := NB767_768.out; have hnc8 := NB768_767.out; have hcz9_0 : w7.cell? ⟨gb767, 0, none⟩ = some (.int .i64 a0_0) := (blk_cell BK767.out 0).trans rfl; have hcz9_1 : w7.cell? ⟨gb767, 1, none⟩ = some (.int .i64 a0_1) := (blk_cell BK767.out 1).trans rfl; have hcz9_2 : w7.cell? ⟨gb767, 2, none⟩ = some (.bool a0_2) := (blk_cell BK767.out 2).trans rfl; have hfz9_0 := blk_frozen BK767.out 0; have hfz9_1 := blk_frozen BK767.out 1; have hfz9_2 := blk_frozen BK767.out 2; have hcz10_0 : w7.cell? ⟨gb768, 0, none⟩ = some (.int .i64 a1_0) := (blk_cell BK768.out 0).trans rfl; have hcz10_1 : w7.cell? ⟨gb768, 1, none⟩ = some (.int .i64 a1_1) := (blk_cell BK768.out 1).trans rfl; have hcz10_2 : w7.cell? ⟨gb768, 2, none⟩ = some (.bool a1_2) := (blk_cell BK768.out 2).trans rfl; have hfz10_0 := blk_frozen BK768.out 0; have hfz10_1 := blk_frozen BK768.out 1; have hfz10_2 := blk_frozen BK768.out 2))
        go_ret
        exact ⟨by first | rfl | (simp [errW_none, errW_some] <;> rfl) | (simp [*, errW_none, errW_some] <;> rfl), by repeat (first | (with_reducible first | exact HB.out | apply below_alloc | apply pw_below_drewN | apply below_drew1 | refine below_set ?_ GE767.out | refine below_set ?_ GE768.out) | exact HB.out)⟩
      · rw [if_neg c5] at H
        have c5b0 : (a0_2 != a1_2) = false := by simpa using c5
        (try (have c5b1 : decide (a0_2 = a1_2) = true := by simpa using c5))
        (try (have c5b2 : (a0_2 == a1_2) = true := by simpa using c5))
        clear c5
        obtain rfl := Option.some.inj H
        go_enter Try.func133, Try.ntmps133
        go_wp2_with (first | ((with_reducible refine gate_dst (N := 2) rfl ?_); refine box_event ?hg (N := 2) ?hd (cs := #[.int .i64 a0_0, .int .i64 a0_1, .bool a0_2]) (t := 71) ?hr ?_; (case hd => rfl); (case hg => rfl); (case hr => first | (go_simp; done) | (go_simp; rfl)); intro gb767 hg w11 hbox hb; have n0_ := Aside0.mk (below_step (by repeat (first | (with_reducible first | exact HB.out | apply below_alloc | apply pw_below_drewN | apply below_drew1) | exact HB.out)) hb); have n1_ := Aside0.mk (hbox); have n2_ := Aside0.mk ((by rw [hg]; exact (below_size (by repeat (first | (with_reducible first | exact HB.out | apply below_alloc | apply pw_below_drewN | apply below_drew1) | exact HB.out))) : w.heap.size ≤ gb767)); have n3_ := Aside0.mk ((by rw [hg]; exact (below_size (by repeat (first | (with_reducible first | exact HB.out | apply below_alloc | apply pw_below_drewN | apply below_drew1) | exact HB.out))) : w.heap.size ≤ gb767)); clear HB; have HB := n0_; have BK767 := n1_; have GW767 := n2_; have GE767 := n3_; clear n0_ n1_ n2_ n3_; clear hb hbox hg) | ((with_reducible refine gate_dst (N := 3) rfl ?_); refine box_event ?hg (N := 3) ?hd (cs := #[.int .i64 a1_0, .int .i64 a1_1, .bool a1_2]) (t := 71) ?hr ?_; (case hd => rfl); (case hg => rfl); (case hr => first | (go_simp; done) | (go_simp; rfl)); intro gb768 hg w12 hbox hb; have n0_ := Aside0.mk (blk_below (g := gb767) (o := .cells #[.int .i64 a0_0, .int .i64 a0_1, .bool a0_2] 71 (0, 0)) (by (with_reducible repeat (first | refine blk_drewN ?_ _ | refine blk_drew ?_ | refine blk_alloc ?_ _)); exact BK767.out) hb); have n1_ := Aside0.mk (below_step (by repeat (first | (with_reducible first | exact HB.out | apply below_alloc | apply pw_below_drewN | apply below_drew1 | refine below_set ?_ GE767.out) | exact HB.out)) hb); have n2_ := Aside0.mk (hbox); have n3_ := Aside0.mk ((by rw [hg]; exact (below_size (by repeat (first | (with_reducible first | exact HB.out | apply below_alloc | apply pw_below_drewN | apply below_drew1 | refine below_set ?_ GE767.out) | exact HB.out))) : w.heap.size ≤ gb768)); have n4_ := Aside0.mk ((by rw [hg]; exact (below_size (by repeat (first | (with_reducible first | exact HB.out | apply below_alloc | apply pw_below_drewN | apply below_drew1 | refine below_set ?_ GE767.out) | exact HB.out))) : w.heap.size ≤ gb768)); have n5_ := Aside0.mk ((by rw [hg]; exact Nat.ne_of_lt (blk_lt (g := gb767) (o := .cells #[.int .i64 a0_0, .int .i64 a0_1, .bool a0_2] 71 (0, 0)) (by (with_reducible repeat (first | refine blk_drewN ?_ _ | refine blk_drew ?_ | refine blk_alloc ?_ _)); exact BK767.out)) : gb767 ≠ gb768)); have n6_ := Aside0.mk ((by rw [hg]; exact Nat.ne_of_gt (blk_lt (g := gb767) (o := .cells #[.int .i64 a0_0, .int .i64 a0_1, .bool a0_2] 71 (0, 0)) (by (with_reducible repeat (first | refine blk_drewN ?_ _ | refine blk_drew ?_ | refine blk_alloc ?_ _)); exact BK767.out)) : gb768 ≠ gb767)); clear BK767; clear HB; have BK767 := n0_; have HB := n1_; have BK768 := n2_; have GW768 := n3_; have GE768 := n4_; have NB767_768 := n5_; have NB768_767 := n6_; clear n0_ n1_ n2_ n3_ n4_ n5_ n6_; clear hb hbox hg; have hnb13 := NB767_768.out; have hnc13 := NB768_767.out; have hcz14_0 : w12.cell? ⟨gb767, 0, none⟩ = some (.int .i64 a0_0) := (blk_cell BK767.out 0).trans rfl; have hcz14_1 : w12.cell? ⟨gb767, 1, none⟩ = some (.int .i64 a0_1) := (blk_cell BK767.out 1).trans rfl; have hcz14_2 : w12.cell? ⟨gb767, 2, none⟩ = some (.bool a0_2) := (blk_cell BK767.out 2).trans rfl; have hfz14_0 := blk_frozen BK767.out 0; have hfz14_1 := blk_frozen BK767.out 1; have hfz14_2 := blk_frozen BK767.out 2; have hcz15_0 : w12.cell? ⟨gb768, 0, none⟩ = some (.int .i64 a1_0) := (blk_cell BK768.out 0).trans rfl; have hcz15_1 : w12.cell? ⟨gb768, 1, none⟩ = some (.int .i64 a1_1) := (blk_cell BK768.out 1).trans rfl; have hcz15_2 : w12.cell? ⟨gb768, 2, none⟩ = some (.bool a1_2) := (blk_cell BK768.out 2).trans rfl; have hfz15_0 := blk_frozen BK768.out 0; have hfz15_1 := blk_frozen BK768.out 1; have hfz15_2 := blk_frozen BK768.out 2))
        go_ret
        exact ⟨by first | rfl | (simp [errW_none, errW_some] <;> rfl) | (simp [*, errW_none, errW_some] <;> rfl), by repeat (first | (with_reducible first | exact HB.out | apply below_alloc | apply pw_below_drewN | apply below_drew1 | refine below_set ?_ GE767.out | refine below_set ?_ GE768.out) | exact HB.out)⟩
    · rw [if_neg c4] at H
      have c4b0 : (a0_1 == a1_1) = false := beq_eq_false_iff_ne.mpr c4
      have c4b1 : (a0_1 != a1_1) = true := bne_iff_ne.mpr c4
      obtain rfl := Option.some.inj H
      go_enter Try.func133, Try.ntmps133
      go_wp2_with (first | ((with_reducible refine gate_dst (N := 2) rfl ?_); refine box_event ?hg (N := 2) ?hd (cs := #[.int .i64 a0_0, .int .i64 a0_1, .bool a0_2]) (t := 71) ?hr ?_; (case hd => rfl); (case hg => rfl); (case hr => first | (go_simp; done) | (go_simp; rfl)); intro gb767 hg w16 hbox hb; have n0_ := Aside0.mk (below_step (by repeat (first | (with_reducible first | exact HB.out | apply below_alloc | apply pw_below_drewN | apply below_drew1) | exact HB.out)) hb); have n1_ := Aside0.mk (hbox); have n2_ := Aside0.mk ((by rw [hg]; exact (below_size (by repeat (first | (with_reducible first | exact HB.out | apply below_alloc | apply pw_below_drewN | apply below_drew1) | exact HB.out))) : w.heap.size ≤ gb767)); have n3_ := Aside0.mk ((by rw [hg]; exact (below_size (by repeat (first | (with_reducible first | exact HB.out | apply below_alloc | apply pw_below_drewN | apply below_drew1) | exact HB.out))) : w.heap.size ≤ gb767)); clear HB; have HB := n0_; have BK767 := n1_; have GW767 := n2_; have GE767 := n3_; clear n0_ n1_ n2_ n3_; clear hb hbox hg) | ((with_reducible refine gate_dst (N := 3) rfl ?_); refine box_event ?hg (N := 3) ?hd (cs := #[.int .i64 a1_0, .int .i64 a1_1, .bool a1_2]) (t := 71) ?hr ?_; (case hd => rfl); (case hg => rfl); (case hr => first | (go_simp; done) | (go_simp; rfl)); intro gb768 hg w17 hbox hb; have n0_ := Aside0.mk (blk_below (g := gb767) (o := .cells #[.int .i64 a0_0, .int .i64 a0_1, .bool a0_2] 71 (0, 0)) (by (with_reducible repeat (first | refine blk_drewN ?_ _ | refine blk_drew ?_ | refine blk_alloc ?_ _)); exact BK767.out) hb); have n1_ := Aside0.mk (below_step (by repeat (first | (with_reducible first | exact HB.out | apply below_alloc | apply pw_below_drewN | apply below_drew1 | refine below_set ?_ GE767.out) | exact HB.out)) hb); have n2_ := Aside0.mk (hbox); have n3_ := Aside0.mk ((by rw [hg]; exact (below_size (by repeat (first | (with_reducible first | exact HB.out | apply below_alloc | apply pw_below_drewN | apply below_drew1 | refine below_set ?_ GE767.out) | exact HB.out))) : w.heap.size ≤ gb768)); have n4_ := Aside0.mk ((by rw [hg]; exact (below_size (by repeat (first | (with_reducible first | exact HB.out | apply below_alloc | apply pw_below_drewN | apply below_drew1 | refine below_set ?_ GE767.out) | exact HB.out))) : w.heap.size ≤ gb768)); have n5_ := Aside0.mk ((by rw [hg]; exact Nat.ne_of_lt (blk_lt (g := gb767) (o := .cells #[.int .i64 a0_0, .int .i64 a0_1, .bool a0_2] 71 (0, 0)) (by (with_reducible repeat (first | refine blk_drewN ?_ _ | refine blk_drew ?_ | refine blk_alloc ?_ _)); exact BK767.out)) : gb767 ≠ gb768)); have n6_ := Aside0.mk ((by rw [hg]; exact Nat.ne_of_gt (blk_lt (g := gb767) (o := .cells #[.int .i64 a0_0, .int .i64 a0_1, .bool a0_2] 71 (0, 0)) (by (with_reducible repeat (first | refine blk_drewN ?_ _ | refine blk_drew ?_ | refine blk_alloc ?_ _)); exact BK767.out)) : gb768 ≠ gb767)); clear BK767; clear HB; have BK767 := n0_; have HB := n1_; have BK768 := n2_; have GW768 := n3_; have GE768 := n4_; have NB767_768 := n5_; have NB768_767 := n6_; clear n0_ n1_ n2_ n3_ n4_ n5_ n6_; clear hb hbox hg; have hnb18 := NB767_768.out; have hnc18 := NB768_767.out; have hcz19_0 : w17.cell? ⟨gb767, 0, none⟩ = some (.int .i64 a0_0) := (blk_cell BK767.out 0).trans rfl; have hcz19_1 : w17.cell? ⟨gb767, 1, none⟩ = some (.int .i64 a0_1) := (blk_cell BK767.out 1).trans rfl; have hcz19_2 : w17.cell? ⟨gb767, 2, none⟩ = some (.bool a0_2) := (blk_cell BK767.out 2).trans rfl; have hfz19_0 := blk_frozen BK767.out 0; have hfz19_1 := blk_frozen BK767.out 1; have hfz19_2 := blk_frozen BK767.out 2; have hcz20_0 : w17.cell? ⟨gb768, 0, none⟩ = some (.int .i64 a1_0) := (blk_cell BK768.out 0).trans rfl; have hcz20_1 : w17.cell? ⟨gb768, 1, none⟩ = some (.int .i64 a1_1) := (blk_cell BK768.out 1).trans rfl; have hcz20_2 : w17.cell? ⟨gb768, 2, none⟩ = some (.bool a1_2) := (blk_cell BK768.out 2).trans rfl; have hfz20_0 := blk_frozen BK768.out 0; have hfz20_1 := blk_frozen BK768.out 1; have hfz20_2 := blk_frozen BK768.out 2))
      go_ret
      exact ⟨by first | rfl | (simp [errW_none, errW_some] <;> rfl) | (simp [*, errW_none, errW_some] <;> rfl), by repeat (first | (with_reducible first | exact HB.out | apply below_alloc | apply pw_below_drewN | apply below_drew1 | refine below_set ?_ GE767.out | refine below_set ?_ GE768.out) | exact HB.out)⟩
  · rw [if_neg c3] at H
    have c3b0 : (a0_0 == a1_0) = false := beq_eq_false_iff_ne.mpr c3
    have c3b1 : (a0_0 != a1_0) = true := bne_iff_ne.mpr c3
    obtain rfl := Option.some.inj H
    go_enter Try.func133, Try.ntmps133
    go_wp2_with (first | ((with_reducible refine gate_dst (N := 2) rfl ?_); refine box_event ?hg (N := 2) ?hd (cs := #[.int .i64 a0_0, .int .i64 a0_1, .bool a0_2]) (t := 71) ?hr ?_; (case hd => rfl); (case hg => rfl); (case hr => first | (go_simp; done) | (go_simp; rfl)); intro gb767 hg w21 hbox hb; have n0_ := Aside0.mk (below_step (by repeat (first | (with_reducible first | exact HB.out | apply below_alloc | apply pw_below_drewN | apply below_drew1) | exact HB.out)) hb); have n1_ := Aside0.mk (hbox); have n2_ := Aside0.mk ((by rw [hg]; exact (below_size (by repeat (first | (with_reducible first | exact HB.out | apply below_alloc | apply pw_below_drewN | apply below_drew1) | exact HB.out))) : w.heap.size ≤ gb767)); have n3_ := Aside0.mk ((by rw [hg]; exact (below_size (by repeat (first | (with_reducible first | exact HB.out | apply below_alloc | apply pw_below_drewN | apply below_drew1) | exact HB.out))) : w.heap.size ≤ gb767)); clear HB; have HB := n0_; have BK767 := n1_; have GW767 := n2_; have GE767 := n3_; clear n0_ n1_ n2_ n3_; clear hb hbox hg) | ((with_reducible refine gate_dst (N := 3) rfl ?_); refine box_event ?hg (N := 3) ?hd (cs := #[.int .i64 a1_0, .int .i64 a1_1, .bool a1_2]) (t := 71) ?hr ?_; (case hd => rfl); (case hg => rfl); (case hr => first | (go_simp; done) | (go_simp; rfl)); intro gb768 hg w22 hbox hb; have n0_ := Aside0.mk (blk_below (g := gb767) (o := .cells #[.int .i64 a0_0, .int .i64 a0_1, .bool a0_2] 71 (0, 0)) (by (with_reducible repeat (first | refine blk_drewN ?_ _ | refine blk_drew ?_ | refine blk_alloc ?_ _)); exact BK767.out) hb); have n1_ := Aside0.mk (below_step (by repeat (first | (with_reducible first | exact HB.out | apply below_alloc | apply pw_below_drewN | apply below_drew1 | refine below_set ?_ GE767.out) | exact HB.out)) hb); have n2_ := Aside0.mk (hbox); have n3_ := Aside0.mk ((by rw [hg]; exact (below_size (by repeat (first | (with_reducible first | exact HB.out | apply below_alloc | apply pw_below_drewN | apply below_drew1 | refine below_set ?_ GE767.out) | exact HB.out))) : w.heap.size ≤ gb768)); have n4_ := Aside0.mk ((by rw [hg]; exact (below_size (by repeat (first | (with_reducible first | exact HB.out | apply below_alloc | apply pw_below_drewN | apply below_drew1 | refine below_set ?_ GE767.out) | exact HB.out))) : w.heap.size ≤ gb768)); have n5_ := Aside0.mk ((by rw [hg]; exact Nat.ne_of_lt (blk_lt (g := gb767) (o := .cells #[.int .i64 a0_0, .int .i64 a0_1, .bool a0_2] 71 (0, 0)) (by (with_reducible repeat (first | refine blk_drewN ?_ _ | refine blk_drew ?_ | refine blk_alloc ?_ _)); exact BK767.out)) : gb767 ≠ gb768)); have n6_ := Aside0.mk ((by rw [hg]; exact Nat.ne_of_gt (blk_lt (g := gb767) (o := .cells #[.int .i64 a0_0, .int .i64 a0_1, .bool a0_2] 71 (0, 0)) (by (with_reducible repeat (first | refine blk_drewN ?_ _ | refine blk_drew ?_ | refine blk_alloc ?_ _)); exact BK767.out)) : gb768 ≠ gb767)); clear BK767; clear HB; have BK767 := n0_; have HB := n1_; have BK768 := n2_; have GW768 := n3_; have GE768 := n4_; have NB767_768 := n5_; have NB768_767 := n6_; clear n0_ n1_ n2_ n3_ n4_ n5_ n6_; clear hb hbox hg; have hnb23 := NB767_768.out; have hnc23 := NB768_767.out; have hcz24_0 : w22.cell? ⟨gb767, 0, none⟩ = some (.int .i64 a0_0) := (blk_cell BK767.out 0).trans rfl; have hcz24_1 : w22.cell? ⟨gb767, 1, none⟩ = some (.int .i64 a0_1) := (blk_cell BK767.out 1).trans rfl; have hcz24_2 : w22.cell? ⟨gb767, 2, none⟩ = some (.bool a0_2) := (blk_cell BK767.out 2).trans rfl; have hfz24_0 := blk_frozen BK767.out 0; have hfz24_1 := blk_frozen BK767.out 1; have hfz24_2 := blk_frozen BK767.out 2; have hcz25_0 : w22.cell? ⟨gb768, 0, none⟩ = some (.int .i64 a1_0) := (blk_cell BK768.out 0).trans rfl; have hcz25_1 : w22.cell? ⟨gb768, 1, none⟩ = some (.int .i64 a1_1) := (blk_cell BK768.out 1).trans rfl; have hcz25_2 : w22.cell? ⟨gb768, 2, none⟩ = some (.bool a1_2) := (blk_cell BK768.out 2).trans rfl; have hfz25_0 := blk_frozen BK768.out 0; have hfz25_1 := blk_frozen BK768.out 1; have hfz25_2 := blk_frozen BK768.out 2))
    go_ret
    exact ⟨by first | rfl | (simp [errW_none, errW_some] <;> rfl) | (simp [*, errW_none, errW_some] <;> rfl), by repeat (first | (with_reducible first | exact HB.out | apply below_alloc | apply pw_below_drewN | apply below_drew1 | refine below_set ?_ GE767.out | refine below_set ?_ GE768.out) | exact HB.out)⟩

/-! ### laws_eqSideS: function 106 -/
def laws_eqSideS.l0 : Nat → List (S71) → List (S71) → Int → Option (Bool)
  | 0, _, _, _ => none
  | k + 1, x0, x1, x5 => if x5 < (x0.length : Int) then (if 0 ≤ x5 then (if x5 < (x1.length : Int) then ((laws_eqSide.f ((rd_T71 x0 x5).f0) ((rd_T71 x0 x5).f1) ((rd_T71 x0 x5).f2) ((rd_T71 x1 x5).f0) ((rd_T71 x1 x5).f1) ((rd_T71 x1 x5).f2)).bind fun t771 => (if t771 = true then (laws_eqSideS.l0 k x0 x1 (wrap64 (x5 + 1))) else (some false))) else (none)) else (none)) else (some true)
def laws_eqSideS.f (k : Nat) (l0 : List (S71)) (l1 : List (S71)) : Option (Bool) := if (l0.length : Int) = (l1.length : Int) then (laws_eqSideS.l0 k l0 l1 0) else (some false)
theorem laws_eqSideS.mono_l : ∀ k, (∀ y0 y1 y2, LeO (laws_eqSideS.l0 k y0 y1 y2) (laws_eqSideS.l0 (k + 1) y0 y1 y2))
  | 0 => fun _ _ _ r h => by simp [laws_eqSideS.l0] at h
  | k + 1 => by
    have ih0 := laws_eqSideS.mono_l k
    · intro y0 y1 y2
      unfold laws_eqSideS.l0
      repeat' first
      | (with_reducible exact ih0 _ _ _)
      | (with_reducible exact LeO.refl _)
      | (with_reducible exact LeO.none _)
      | (with_reducible refine LeO.ite ?_ ?_)
      | (with_reducible refine LeO.bind ?_ (fun _ => ?_))
      | exact ih0 _ _ _
      | exact LeO.none _
      | refine LeO.ite ?_ ?_
      | refine LeO.bind ?_ (fun _ => ?_)
theorem laws_eqSideS.mono : ∀ a0 a1 k, LeO (laws_eqSideS.f k a0 a1) (laws_eqSideS.f (k + 1) a0 a1) := by
  intro a0 a1 k
  have ih0 := laws_eqSideS.mono_l k
  unfold laws_eqSideS.f
  repeat' first
      | (with_reducible exact ih0 _ _ _)
      | (with_reducible exact LeO.refl _)
      | (with_reducible exact LeO.none _)
      | (with_reducible refine LeO.ite ?_ ?_)
      | (with_reducible refine LeO.bind ?_ (fun _ => ?_))
      | exact ih0 _ _ _
      | exact LeO.none _
      | refine LeO.ite ?_ ?_
      | refine LeO.bind ?_ (fun _ => ?_)
def laws_eqSideS.T6 : Bool × List (List Nat × List Nat) := (true, [([], []), ([], []), ([0, 1], [0, 1]), ([2], [2]), ([], []), ([], []), ([4, 5], [4, 5]), ([6], [6]), ([3, 7], [3, 7]), ([8], [8])])
def laws_eqSideS.B6 : List Nat := [0, 0, 3, 7, 0, 0, 48, 112, 255, 511]
theorem laws_eqSideS.tab6 : rtab .any (opsOf Try.f106 6) = laws_eqSideS.T6 := by kernel_rfl
theorem laws_eqSideS.bits6 : waitsOk laws_eqSideS.T6.2 laws_eqSideS.B6 = true := by kernel_rfl
set_option maxHeartbeats 8000000 in
set_option maxRecDepth 100000 in
theorem laws_eqSideS.calls (k : Nat) (A0 : Option Addr) (c0 : Nat) (l0 : List (S71)) (A1 : Option Addr) (c1 : Nat) (l1 : List (S71)) (r : Bool) (w : World) (hr0 : Kd.C k71 w A0 l0.length l0) (hc0 : l0.length ≤ c0) (hr1 : Kd.C k71 w A1 l1.length l1) (hc1 : l1.length ≤ c1) (h : laws_eqSideS.f k l0 l1 = some r) :
    Calls Try.prog 106 #[.slice A0 l0.length c0, .slice A1 l1.length c1] w fun e w' => e = .returned (.bool r) ∧ Below w.heap.size w w' := by
  have hu71 := Try.underlying71
  have HR0 := Aside0.mk hr0
  have HC0 := Aside0.mk hc0
  clear hr0 hc0
  have HR1 := Aside0.mk hr1
  have HC1 := Aside0.mk hc1
  clear hr1 hc1
  have HB := Aside0.mk (Below.refl w.heap.size w)
  have H : (if (l0.length : Int) = (l1.length : Int) then (laws_eqSideS.l0 k l0 l1 0) else (some false)) = some r := h
  clear h
  by_cases c3 : (l0.length : Int) = (l1.length : Int)
  · rw [if_pos c3] at H
    have c3b0 : ((l0.length : Int) == (l1.length : Int)) = true := beq_iff_eq.mpr c3
    have c3b1 : ((l0.length : Int) != (l1.length : Int)) = false := bne_eq_false_iff_eq.mpr c3
    have c3b2 : (l0.length == l1.length) = true := by first | simpa using c3 | (simp at c3 ⊢; omega)
    clear c3
    have H' := Aside0.mk H
    clear H
    go_enter Try.func106, Try.ntmps106
    go_wp2
    go_loopg [5] k (fun kq v5 w' => ∃ (x5_1 : Int), v5 = .int .i64 x5_1 ∧ Aside0 (laws_eqSideS.l0 kq l0 l1 x5_1 = some r) ∧ Aside0 (kq ≤ k) ∧ Aside0 (Below w.heap.size w w'))
    case atStart => exact ⟨(0), (by first | rfl | (simp; done) | (simp [*]; done)), H', ⟨Nat.le_refl _⟩, ⟨by repeat (first | (with_reducible first | exact HB.out | apply below_alloc | apply pw_below_drewN | apply below_drew1) | exact HB.out)⟩⟩
    case round =>
      clear H'
      try clear c1
      try clear p2
      try clear c3
      try clear c3b0
      try clear c3b1
      try clear c3b2
      obtain ⟨x5_1, rfl, HA, HK1, HB⟩ := hrel
      cases gk with
      | zero => exact absurd HA.out (by simp [laws_eqSideS.l0])
      | succ k1 =>
        have H := HA.out
        clear HA
        simp only [laws_eqSideS.l0] at H
        by_cases c4 : x5_1 < (l0.length : Int)
        · rw [if_pos c4] at H
          have c4b0 : decide (x5_1 < (l0.length : Int)) = true := decide_eq_true c4
          clear c4
          by_cases c5 : 0 ≤ x5_1
          · rw [if_pos c5] at H
            have c5b0 : decide (0 ≤ x5_1) = true := decide_eq_true c5
            clear c5
            by_cases c6 : x5_1 < (l1.length : Int)
            · rw [if_pos c6] at H
              have c6b0 : decide (x5_1 < (l1.length : Int)) = true := decide_eq_true c6
              clear c6
              replace H := Option.bind_eq_some_iff.mp H
              obtain ⟨t771, A70, H⟩ := H
              replace H : (if t771 = true then (laws_eqSideS.l0 k1 l0 l1 (wrap64 (x5_1 + 1))) else (some false)) = some r := H
              have A7 := Aside0.mk A70
              clear A70
              by_cases c8 : t771 = true
              · subst c8
                have H1 : (laws_eqSideS.l0 k1 l0 l1 (wrap64 (x5_1 + 1))) = some r := by rw [if_pos rfl] at H; exact H
                clear H
                have H := H1
                clear H1
                have H' := Aside0.mk H
                clear H
                try go_wp2
                have n0_ := Aside0.mk (below_drew1 HB.out)
                clear HB
                have HB := n0_
                clear n0_
                have p769 : 0 ≤ (x5_1 : Int) := of_decide_eq_true (by first | (with_reducible assumption) | assumption)
                have q769 : x5_1 < (l0.length : Int) := of_decide_eq_true (by first | (with_reducible assumption) | assumption)
                obtain ⟨ad769, e769, hx769_0, hx769_1, hx769_2⟩ := at_T71 HR0.out x5_1 p769 q769
                have hw769_2 := hx769_2
                have hw769_1 := hx769_1
                have hw769_0 := hx769_0
                cases e769
                replace hx769_0 := (HB.out.cell (World.block_lt_of_cell? w _ hx769_0)).trans hx769_0
                replace hx769_1 := (HB.out.cell (World.block_lt_of_cell? w _ hx769_1)).trans hx769_1
                replace hx769_2 := (HB.out.cell (World.block_lt_of_cell? w _ hx769_2)).trans hx769_2
                replace p769 := eq_true p769
                replace q769 := eq_true q769
                have p770 : 0 ≤ (x5_1 : Int) := of_decide_eq_true (by first | (with_reducible assumption) | assumption)
                have q770 : x5_1 < (l1.length : Int) := of_decide_eq_true (by first | (with_reducible assumption) | assumption)
                obtain ⟨ad770, e770, hx770_0, hx770_1, hx770_2⟩ := at_T71 HR1.out x5_1 p770 q770
                have hw770_2 := hx770_2
                have hw770_1 := hx770_1
                have hw770_0 := hx770_0
                cases e770
                replace hx770_0 := (HB.out.cell (World.block_lt_of_cell? w _ hx770_0)).trans hx770_0
                replace hx770_1 := (HB.out.cell (World.block_lt_of_cell? w _ hx770_1)).trans hx770_1
                replace hx770_2 := (HB.out.cell (World.block_lt_of_cell? w _ hx770_2)).trans hx770_2
                replace p770 := eq_true p770
                replace q770 := eq_true q770
                refine start_ (n := 10) (S := fun w' => w'.cell? (ad769.add ((x5_1).toNat * 3)) = some (.int .i64 ((rd_T71 l0 x5_1).f0)) ∧ w'.cell? ⟨(ad769.add ((x5_1).toNat * 3)).block, (ad769.add ((x5_1).toNat * 3)).off + 1, none⟩ = some (.int .i64 ((rd_T71 l0 x5_1).f1)) ∧ w'.cell? ⟨(ad769.add ((x5_1).toNat * 3)).block, (ad769.add ((x5_1).toNat * 3)).off + 2, none⟩ = some (.bool ((rd_T71 l0 x5_1).f2)) ∧ w'.cell? (ad770.add ((x5_1).toNat * 3)) = some (.int .i64 ((rd_T71 l1 x5_1).f0)) ∧ w'.cell? ⟨(ad770.add ((x5_1).toNat * 3)).block, (ad770.add ((x5_1).toNat * 3)).off + 1, none⟩ = some (.int .i64 ((rd_T71 l1 x5_1).f1)) ∧ w'.cell? ⟨(ad770.add ((x5_1).toNat * 3)).block, (ad770.add ((x5_1).toNat * 3)).off + 2, none⟩ = some (.bool ((rd_T71 l1 x5_1).f2))) (ds := []) #[false, false, false, false, false, false, false, false, false, false] (by kernel_rfl) rfl rfl ⟨((HB.out.cell (World.block_lt_of_cell? w _ hw769_0)).trans hw769_0), ((HB.out.cell (World.block_lt_of_cell? w _ hw769_1)).trans hw769_1), ((HB.out.cell (World.block_lt_of_cell? w _ hw769_2)).trans hw769_2), ((HB.out.cell (World.block_lt_of_cell? w _ hw770_0)).trans hw770_0), ((HB.out.cell (World.block_lt_of_cell? w _ hw770_1)).trans hw770_1), ((HB.out.cell (World.block_lt_of_cell? w _ hw770_2)).trans hw770_2)⟩ (fun hHeld => ?_); refine with_tabW laws_eqSideS.tab6 laws_eqSideS.bits6 (fun HT_ HW_ => ?_)
                generalize wr.drew = w9 at HB hx769_0 hx769_1 hx769_2 hx770_0 hx770_1 hx770_2 hHeld ⊢
                refine pure_ (i := 0) (N := some 17) (v := ?_) (a' := ?_) #[true, false, false, false, false, false, false, false, false, false] rfl rfl (any_of HT_.out (by kernel_rfl)) (fun _ _ _ h => h) (Or.inl ⟨by rfl, ?_⟩) ?_ ?_
                rotate_left
                · intro w'
                  go_simp
                  with_reducible rfl
                rotate_left
                · simp only [Act.put, List.setIfInBounds_toArray, List.set_cons_zero, List.set_cons_succ, i64_w, i32_w]
                  rfl
                refine pure_ (i := 1) (N := some 18) (v := ?_) (a' := ?_) #[true, true, false, false, false, false, false, false, false, false] rfl rfl (any_of HT_.out (by kernel_rfl)) (fun _ _ _ h => h) (Or.inl ⟨by rfl, ?_⟩) ?_ ?_
                rotate_left
                · intro w'
                  go_simp
                  with_reducible rfl
                rotate_left
                · simp only [Act.put, List.setIfInBounds_toArray, List.set_cons_zero, List.set_cons_succ, i64_w, i32_w]
                  rfl
                refine pure_ (i := 2) (N := some 19) (v := ?_) (a' := ?_) #[true, true, true, false, false, false, false, false, false, false] rfl rfl (any_of HT_.out (by kernel_rfl)) (fun _ _ _ h => h) (Or.inl ⟨by rfl, ?_⟩) ?_ ?_
                rotate_left
                · intro w'
                  go_simp
                  with_reducible rfl
                rotate_left
                · simp only [Act.put, List.setIfInBounds_toArray, List.set_cons_zero, List.set_cons_succ, i64_w, i32_w]
                  rfl
                refine pure_ (i := 4) (N := some 21) (v := ?_) (a' := ?_) #[true, true, true, false, true, false, false, false, false, false] rfl rfl (any_of HT_.out (by kernel_rfl)) (fun _ _ _ h => h) (Or.inl ⟨by rfl, ?_⟩) ?_ ?_
                rotate_left
                · intro w'
                  go_simp
                  with_reducible rfl
                rotate_left
                · simp only [Act.put, List.setIfInBounds_toArray, List.set_cons_zero, List.set_cons_succ, i64_w, i32_w]
                  rfl
                refine pure_ (i := 5) (N := some 22) (v := ?_) (a' := ?_) #[true, true, true, false, true, true, false, false, false, false] rfl rfl (any_of HT_.out (by kernel_rfl)) (fun _ _ _ h => h) (Or.inl ⟨by rfl, ?_⟩) ?_ ?_
                rotate_left
                · intro w'
                  go_simp
                  with_reducible rfl
                rotate_left
                · simp only [Act.put, List.setIfInBounds_toArray, List.set_cons_zero, List.set_cons_succ, i64_w, i32_w]
                  rfl
                refine pure_ (i := 6) (N := some 23) (v := ?_) (a' := ?_) #[true, true, true, false, true, true, true, false, false, false] rfl rfl (any_of HT_.out (by kernel_rfl)) (fun _ _ _ h => h) (Or.inl ⟨by rfl, ?_⟩) ?_ ?_
                rotate_left
                · intro w'
                  go_simp
                  with_reducible rfl
                rotate_left
                · simp only [Act.put, List.setIfInBounds_toArray, List.set_cons_zero, List.set_cons_succ, i64_w, i32_w]
                  rfl
                refine take_ (i := 3) (N := some 20) (v := ?_) (a' := ?_) #[true, true, true, true, true, true, true, false, false, false] rfl rfl (take_ofW HT_.out HW_.out (by kernel_rfl)) (fun _ _ _ h => h) (Or.inl ⟨by rfl, ?_⟩) hHeld ?_ ?_
                rotate_left
                · rintro w' ⟨s0, s1, s2, s3, s4, s5⟩
                  go_simp
                  with_reducible rfl
                rotate_left
                · simp only [Act.put, List.setIfInBounds_toArray, List.set_cons_zero, List.set_cons_succ, i64_w, i32_w]
                  rfl
                refine take_ (i := 7) (N := some 24) (v := ?_) (a' := ?_) #[true, true, true, true, true, true, true, true, false, false] rfl rfl (take_ofW HT_.out HW_.out (by kernel_rfl)) (fun _ _ _ h => h) (Or.inl ⟨by rfl, ?_⟩) hHeld ?_ ?_
                rotate_left
                · rintro w' ⟨s0, s1, s2, s3, s4, s5⟩
                  go_simp
                  with_reducible rfl
                rotate_left
                · simp only [Act.put, List.setIfInBounds_toArray, List.set_cons_zero, List.set_cons_succ, i64_w, i32_w]
                  rfl
                refine one_ (i := 8) (N := some 25) #[true, true, true, true, true, true, true, true, true, false] rfl rfl (one_of HT_.out (by kernel_rfl)) (by decide) (fun K hK => ?_)
                refine goes_ Try.func133 (by kernel_rfl) rfl #[.agg #[.int .i64 ((rd_T71 l0 x5_1).f0), .int .i64 ((rd_T71 l0 x5_1).f1), .bool ((rd_T71 l0 x5_1).f2)], .agg #[.int .i64 ((rd_T71 l1 x5_1).f0), .int .i64 ((rd_T71 l1 x5_1).f1), .bool ((rd_T71 l1 x5_1).f2)]] (by rfl) rfl rfl (by (try simp only [List.map_toArray, List.map_cons, List.map_nil]); first | done | rfl | (simp only [List.length_drop, List.length_take]; rfl)) ?_
                with_reducible refine (laws_eqSide.calls ((rd_T71 l0 x5_1).f0) ((rd_T71 l0 x5_1).f1) ((rd_T71 l0 x5_1).f2) ((rd_T71 l1 x5_1).f0) ((rd_T71 l1 x5_1).f1) ((rd_T71 l1 x5_1).f2) true _ A7.out).mono ?_
                rintro e w10 ⟨rfl, hb⟩
                refine ⟨_, rfl, ?_⟩
                have n0_ := Aside0.mk (below_step (by repeat (first | (with_reducible first | exact HB.out | apply below_alloc | apply pw_below_drewN | apply below_drew1) | exact HB.out)) hb)
                clear HB
                have HB := n0_
                clear n0_
                (try clear hb)
                (try clear hb2)
                (try clear hk)
                (try clear hi)
                refine hK.out _ _ ⟨((HB.out.cell (World.block_lt_of_cell? w _ hw769_0)).trans hw769_0), ((HB.out.cell (World.block_lt_of_cell? w _ hw769_1)).trans hw769_1), ((HB.out.cell (World.block_lt_of_cell? w _ hw769_2)).trans hw769_2), ((HB.out.cell (World.block_lt_of_cell? w _ hw770_0)).trans hw770_0), ((HB.out.cell (World.block_lt_of_cell? w _ hw770_1)).trans hw770_1), ((HB.out.cell (World.block_lt_of_cell? w _ hw770_2)).trans hw770_2)⟩ (fun hHeld => ?_)
                clear hK K
                refine norm_ (a' := ?_) ?_ ?_
                rotate_left
                · show Act.put _ (some 25) _ = _
                  simp only [Act.put, List.setIfInBounds_toArray, List.set_cons_zero, List.set_cons_succ, i64_w, i32_w]
                  rfl
                refine pure_ (i := 9) (N := some 26) (v := ?_) (a' := ?_) #[true, true, true, true, true, true, true, true, true, true] rfl rfl (any_of HT_.out (by kernel_rfl)) (fun _ _ _ h => h) (Or.inl ⟨by rfl, ?_⟩) ?_ ?_
                rotate_left
                · intro w'
                  go_simp
                  with_reducible rfl
                rotate_left
                · simp only [Act.put, List.setIfInBounds_toArray, List.set_cons_zero, List.set_cons_succ, i64_w, i32_w]
                  rfl
                refine done_ (done_of HT_.out (by kernel_rfl)) ?_
                try go_wp2
                go_roundg k1
                case measure => have := HK1.out; omega
                case rel => exact ⟨(wrap64 (x5_1 + 1)), (by first | rfl | (simp; done) | (simp [*]; done)), H', ⟨by have := HK1.out; omega⟩, ⟨by repeat (first | (with_reducible first | exact HB.out | apply below_alloc | apply pw_below_drewN | apply below_drew1) | exact HB.out)⟩⟩
              · replace c8 := Bool.eq_false_iff.mpr c8
                subst c8
                have H1 : (some false) = some r := by rw [if_neg (show ¬ (false = true) by decide)] at H; exact H
                clear H
                have H := H1
                clear H1
                obtain rfl := Option.some.inj H
                try go_wp2
                have n0_ := Aside0.mk (below_drew1 HB.out)
                clear HB
                have HB := n0_
                clear n0_
                have p769 : 0 ≤ (x5_1 : Int) := of_decide_eq_true (by first | (with_reducible assumption) | assumption)
                have q769 : x5_1 < (l0.length : Int) := of_decide_eq_true (by first | (with_reducible assumption) | assumption)
                obtain ⟨ad769, e769, hx769_0, hx769_1, hx769_2⟩ := at_T71 HR0.out x5_1 p769 q769
                have hw769_2 := hx769_2
                have hw769_1 := hx769_1
                have hw769_0 := hx769_0
                cases e769
                replace hx769_0 := (HB.out.cell (World.block_lt_of_cell? w _ hx769_0)).trans hx769_0
                replace hx769_1 := (HB.out.cell (World.block_lt_of_cell? w _ hx769_1)).trans hx769_1
                replace hx769_2 := (HB.out.cell (World.block_lt_of_cell? w _ hx769_2)).trans hx769_2
                replace p769 := eq_true p769
                replace q769 := eq_true q769
                have p770 : 0 ≤ (x5_1 : Int) := of_decide_eq_true (by first | (with_reducible assumption) | assumption)
                have q770 : x5_1 < (l1.length : Int) := of_decide_eq_true (by first | (with_reducible assumption) | assumption)
                obtain ⟨ad770, e770, hx770_0, hx770_1, hx770_2⟩ := at_T71 HR1.out x5_1 p770 q770
                have hw770_2 := hx770_2
                have hw770_1 := hx770_1
                have hw770_0 := hx770_0
                cases e770
                replace hx770_0 := (HB.out.cell (World.block_lt_of_cell? w _ hx770_0)).trans hx770_0
                replace hx770_1 := (HB.out.cell (World.block_lt_of_cell? w _ hx770_1)).trans hx770_1
                replace hx770_2 := (HB.out.cell (World.block_lt_of_cell? w _ hx770_2)).trans hx770_2
                replace p770 := eq_true p770
                replace q770 := eq_true q770
                refine start_ (n := 10) (S := fun w' => w'.cell? (ad769.add ((x5_1).toNat * 3)) = some (.int .i64 ((rd_T71 l0 x5_1).f0)) ∧ w'.cell? ⟨(ad769.add ((x5_1).toNat * 3)).block, (ad769.add ((x5_1).toNat * 3)).off + 1, none⟩ = some (.int .i64 ((rd_T71 l0 x5_1).f1)) ∧ w'.cell? ⟨(ad769.add ((x5_1).toNat * 3)).block, (ad769.add ((x5_1).toNat * 3)).off + 2, none⟩ = some (.bool ((rd_T71 l0 x5_1).f2)) ∧ w'.cell? (ad770.add ((x5_1).toNat * 3)) = some (.int .i64 ((rd_T71 l1 x5_1).f0)) ∧ w'.cell? ⟨(ad770.add ((x5_1).toNat * 3)).block, (ad770.add ((x5_1).toNat * 3)).off + 1, none⟩ = some (.int .i64 ((rd_T71 l1 x5_1).f1)) ∧ w'.cell? ⟨(ad770.add ((x5_1).toNat * 3)).block, (ad770.add ((x5_1).toNat * 3)).off + 2, none⟩ = some (.bool ((rd_T71 l1 x5_1).f2))) (ds := []) #[false, false, false, false, false, false, false, false, false, false] (by kernel_rfl) rfl rfl ⟨((HB.out.cell (World.block_lt_of_cell? w _ hw769_0)).trans hw769_0), ((HB.out.cell (World.block_lt_of_cell? w _ hw769_1)).trans hw769_1), ((HB.out.cell (World.block_lt_of_cell? w _ hw769_2)).trans hw769_2), ((HB.out.cell (World.block_lt_of_cell? w _ hw770_0)).trans hw770_0), ((HB.out.cell (World.block_lt_of_cell? w _ hw770_1)).trans hw770_1), ((HB.out.cell (World.block_lt_of_cell? w _ hw770_2)).trans hw770_2)⟩ (fun hHeld => ?_); refine with_tabW laws_eqSideS.tab6 laws_eqSideS.bits6 (fun HT_ HW_ => ?_)
                generalize wr.drew = w11 at HB hx769_0 hx769_1 hx769_2 hx770_0 hx770_1 hx770_2 hHeld ⊢
                refine pure_ (i := 0) (N := some 17) (v := ?_) (a' := ?_) #[true, false, false, false, false, false, false, false, false, false] rfl rfl (any_of HT_.out (by kernel_rfl)) (fun _ _ _ h => h) (Or.inl ⟨by rfl, ?_⟩) ?_ ?_
                rotate_left
                · intro w'
                  go_simp
                  with_reducible rfl
                rotate_left
                · simp only [Act.put, List.setIfInBounds_toArray, List.set_cons_zero, List.set_cons_succ, i64_w, i32_w]
                  rfl
                refine pure_ (i := 1) (N := some 18) (v := ?_) (a' := ?_) #[true, true, false, false, false, false, false, false, false, false] rfl rfl (any_of HT_.out (by kernel_rfl)) (fun _ _ _ h => h) (Or.inl ⟨by rfl, ?_⟩) ?_ ?_
                rotate_left
                · intro w'
                  go_simp
                  with_reducible rfl
                rotate_left
                · simp only [Act.put, List.setIfInBounds_toArray, List.set_cons_zero, List.set_cons_succ, i64_w, i32_w]
                  rfl
                refine pure_ (i := 2) (N := some 19) (v := ?_) (a' := ?_) #[true, true, true, false, false, false, false, false, false, false] rfl rfl (any_of HT_.out (by kernel_rfl)) (fun _ _ _ h => h) (Or.inl ⟨by rfl, ?_⟩) ?_ ?_
                rotate_left
                · intro w'
                  go_simp
                  with_reducible rfl
                rotate_left
                · simp only [Act.put, List.setIfInBounds_toArray, List.set_cons_zero, List.set_cons_succ, i64_w, i32_w]
                  rfl
                refine pure_ (i := 4) (N := some 21) (v := ?_) (a' := ?_) #[true, true, true, false, true, false, false, false, false, false] rfl rfl (any_of HT_.out (by kernel_rfl)) (fun _ _ _ h => h) (Or.inl ⟨by rfl, ?_⟩) ?_ ?_
                rotate_left
                · intro w'
                  go_simp
                  with_reducible rfl
                rotate_left
                · simp only [Act.put, List.setIfInBounds_toArray, List.set_cons_zero, List.set_cons_succ, i64_w, i32_w]
                  rfl
                refine pure_ (i := 5) (N := some 22) (v := ?_) (a' := ?_) #[true, true, true, false, true, true, false, false, false, false] rfl rfl (any_of HT_.out (by kernel_rfl)) (fun _ _ _ h => h) (Or.inl ⟨by rfl, ?_⟩) ?_ ?_
                rotate_left
                · intro w'
                  go_simp
                  with_reducible rfl
                rotate_left
                · simp only [Act.put, List.setIfInBounds_toArray, List.set_cons_zero, List.set_cons_succ, i64_w, i32_w]
                  rfl
                refine pure_ (i := 6) (N := some 23) (v := ?_) (a' := ?_) #[true, true, true, false, true, true, true, false, false, false] rfl rfl (any_of HT_.out (by kernel_rfl)) (fun _ _ _ h => h) (Or.inl ⟨by rfl, ?_⟩) ?_ ?_
                rotate_left
                · intro w'
                  go_simp
                  with_reducible rfl
                rotate_left
                · simp only [Act.put, List.setIfInBounds_toArray, List.set_cons_zero, List.set_cons_succ, i64_w, i32_w]
                  rfl
                refine take_ (i := 3) (N := some 20) (v := ?_) (a' := ?_) #[true, true, true, true, true, true, true, false, false, false] rfl rfl (take_ofW HT_.out HW_.out (by kernel_rfl)) (fun _ _ _ h => h) (Or.inl ⟨by rfl, ?_⟩) hHeld ?_ ?_
                rotate_left
                · rintro w' ⟨s0, s1, s2, s3, s4, s5⟩
                  go_simp
                  with_reducible rfl
                rotate_left
                · simp only [Act.put, List.setIfInBounds_toArray, List.set_cons_zero, List.set_cons_succ, i64_w, i32_w]
                  rfl
                refine take_ (i := 7) (N := some 24) (v := ?_) (a' := ?_) #[true, true, true, true, true, true, true, true, false, false] rfl rfl (take_ofW HT_.out HW_.out (by kernel_rfl)) (fun _ _ _ h => h) (Or.inl ⟨by rfl, ?_⟩) hHeld ?_ ?_
                rotate_left
                · rintro w' ⟨s0, s1, s2, s3, s4, s5⟩
                  go_simp
                  with_reducible rfl
                rotate_left
                · simp only [Act.put, List.setIfInBounds_toArray, List.set_cons_zero, List.set_cons_succ, i64_w, i32_w]
                  rfl
                refine one_ (i := 8) (N := some 25) #[true, true, true, true, true, true, true, true, true, false] rfl rfl (one_of HT_.out (by kernel_rfl)) (by decide) (fun K hK => ?_)
                refine goes_ Try.func133 (by kernel_rfl) rfl #[.agg #[.int .i64 ((rd_T71 l0 x5_1).f0), .int .i64 ((rd_T71 l0 x5_1).f1), .bool ((rd_T71 l0 x5_1).f2)], .agg #[.int .i64 ((rd_T71 l1 x5_1).f0), .int .i64 ((rd_T71 l1 x5_1).f1), .bool ((rd_T71 l1 x5_1).f2)]] (by rfl) rfl rfl (by (try simp only [List.map_toArray, List.map_cons, List.map_nil]); first | done | rfl | (simp only [List.length_drop, List.length_take]; rfl)) ?_
                with_reducible refine (laws_eqSide.calls ((rd_T71 l0 x5_1).f0) ((rd_T71 l0 x5_1).f1) ((rd_T71 l0 x5_1).f2) ((rd_T71 l1 x5_1).f0) ((rd_T71 l1 x5_1).f1) ((rd_T71 l1 x5_1).f2) false _ A7.out).mono ?_
                rintro e w12 ⟨rfl, hb⟩
                refine ⟨_, rfl, ?_⟩
                have n0_ := Aside0.mk (below_step (by repeat (first | (with_reducible first | exact HB.out | apply below_alloc | apply pw_below_drewN | apply below_drew1) | exact HB.out)) hb)
                clear HB
                have HB := n0_
                clear n0_
                (try clear hb)
                (try clear hb2)
                (try clear hk)
                (try clear hi)
                refine hK.out _ _ ⟨((HB.out.cell (World.block_lt_of_cell? w _ hw769_0)).trans hw769_0), ((HB.out.cell (World.block_lt_of_cell? w _ hw769_1)).trans hw769_1), ((HB.out.cell (World.block_lt_of_cell? w _ hw769_2)).trans hw769_2), ((HB.out.cell (World.block_lt_of_cell? w _ hw770_0)).trans hw770_0), ((HB.out.cell (World.block_lt_of_cell? w _ hw770_1)).trans hw770_1), ((HB.out.cell (World.block_lt_of_cell? w _ hw770_2)).trans hw770_2)⟩ (fun hHeld => ?_)
                clear hK K
                refine norm_ (a' := ?_) ?_ ?_
                rotate_left
                · show Act.put _ (some 25) _ = _
                  simp only [Act.put, List.setIfInBounds_toArray, List.set_cons_zero, List.set_cons_succ, i64_w, i32_w]
                  rfl
                refine pure_ (i := 9) (N := some 26) (v := ?_) (a' := ?_) #[true, true, true, true, true, true, true, true, true, true] rfl rfl (any_of HT_.out (by kernel_rfl)) (fun _ _ _ h => h) (Or.inl ⟨by rfl, ?_⟩) ?_ ?_
                rotate_left
                · intro w'
                  go_simp
                  with_reducible rfl
                rotate_left
                · simp only [Act.put, List.setIfInBounds_toArray, List.set_cons_zero, List.set_cons_succ, i64_w, i32_w]
                  rfl
                refine done_ (done_of HT_.out (by kernel_rfl)) ?_
                try go_wp2
                go_ret
                exact ⟨by first | rfl | (simp [errW_none, errW_some] <;> rfl) | (simp [*, errW_none, errW_some] <;> rfl), by repeat (first | (with_reducible first | exact HB.out | apply below_alloc | apply pw_below_drewN | apply below_drew1) | exact HB.out)⟩
            · rw [if_neg c6] at H
              exact absurd H (by simp)
          · rw [if_neg c5] at H
            exact absurd H (by simp)
        · rw [if_neg c4] at H
          have c4b0 : decide (x5_1 < (l0.length : Int)) = false := decide_eq_false c4
          clear c4
          obtain rfl := Option.some.inj H
          go_wp2
          go_ret
          exact ⟨by first | rfl | (simp [errW_none, errW_some] <;> rfl) | (simp [*, errW_none, errW_some] <;> rfl), by repeat (first | (with_reducible first | exact HB.out | apply below_alloc | apply pw_below_drewN | apply below_drew1) | exact HB.out)⟩
  · rw [if_neg c3] at H
    have c3b0 : ((l0.length : Int) == (l1.length : Int)) = false := beq_eq_false_iff_ne.mpr c3
    have c3b1 : ((l0.length : Int) != (l1.length : Int)) = true := bne_iff_ne.mpr c3
    have c3b2 : (l0.length == l1.length) = false := by first | simpa using c3 | (simp at c3 ⊢; omega)
    obtain rfl := Option.some.inj H
    go_enter Try.func106, Try.ntmps106
    go_wp2
    go_ret
    exact ⟨by first | rfl | (simp [errW_none, errW_some] <;> rfl) | (simp [*, errW_none, errW_some] <;> rfl), by repeat (first | (with_reducible first | exact HB.out | apply below_alloc | apply pw_below_drewN | apply below_drew1) | exact HB.out)⟩


/-! ### laws_eqState: function 39 -/
def laws_eqState.f (k : Nat) (l0_0 : List (S25)) (l0_1 : List (S71)) (a0_2 : Int) (a0_3 : Int) (l1_0 : List (S25)) (l1_1 : List (S71)) (a1_2 : Int) (a1_3 : Int) : Option (Bool) := (laws_eqPieceS.f k l0_0 l1_0).bind fun t774 => (if t774 = true then ((laws_eqSideS.f k l0_1 l1_1).bind fun t775 => (if t775 = true then (if a0_2 = a1_2 then (if a0_3 = a1_3 then (some true) else (some false)) else (some false)) else (some false))) else (some false))
theorem laws_eqState.mono : ∀ a0 a1 a2 a3 a4 a5 a6 a7 k, LeO (laws_eqState.f k a0 a1 a2 a3 a4 a5 a6 a7) (laws_eqState.f (k + 1) a0 a1 a2 a3 a4 a5 a6 a7) := by
  intro a0 a1 a2 a3 a4 a5 a6 a7 k
  unfold laws_eqState.f
  repeat' first
      | (with_reducible exact laws_eqPieceS.mono _ _ _)
      | (with_reducible exact laws_eqSideS.mono _ _ _)
      | (with_reducible exact LeO.refl _)
      | (with_reducible exact LeO.none _)
      | (with_reducible refine LeO.ite ?_ ?_)
      | (with_reducible refine LeO.bind ?_ (fun _ => ?_))
      | exact laws_eqPieceS.mono _ _ _
      | exact laws_eqSideS.mono _ _ _
      | exact LeO.none _
      | refine LeO.ite ?_ ?_
      | refine LeO.bind ?_ (fun _ => ?_)
set_option maxHeartbeats 8000000 in
set_option maxRecDepth 100000 in
theorem laws_eqState.calls (k : Nat) (A0_0 : Option Addr) (c0_0 : Nat) (l0_0 : List (S25)) (A0_1 : Option Addr) (c0_1 : Nat) (l0_1 : List (S71)) (a0_2 : Int) (a0_3 : Int) (A1_0 : Option Addr) (c1_0 : Nat) (l1_0 : List (S25)) (A1_1 : Option Addr) (c1_1 : Nat) (l1_1 : List (S71)) (a1_2 : Int) (a1_3 : Int) (r : Bool) (w : World) (hr0_0 : Kd.C k25 w A0_0 l0_0.length l0_0) (hc0_0 : l0_0.length ≤ c0_0) (hr0_1 : Kd.C k71 w A0_1 l0_1.length l0_1) (hc0_1 : l0_1.length ≤ c0_1) (hr1_0 : Kd.C k25 w A1_0 l1_0.length l1_0) (hc1_0 : l1_0.length ≤ c1_0) (hr1_1 : Kd.C k71 w A1_1 l1_1.length l1_1) (hc1_1 : l1_1.length ≤ c1_1) (h : laws_eqState.f k l0_0 l0_1 a0_2 a0_3 l1_0 l1_1 a1_2 a1_3 = some r) :
    Calls Try.prog 39 #[.agg #[.slice A0_0 l0_0.length c0_0, .slice A0_1 l0_1.length c0_1, .int .i64 a0_2, .int .i64 a0_3], .agg #[.slice A1_0 l1_0.length c1_0, .slice A1_1 l1_1.length c1_1, .int .i64 a1_2, .int .i64 a1_3]] w fun e w' => e = .returned (.bool r) ∧ Below w.heap.size w w' := by
  have hu56 := Try.underlying56
  have HR0_0 := Aside0.mk hr0_0
  have HC0_0 := Aside0.mk hc0_0
  clear hr0_0 hc0_0
  have HR0_1 := Aside0.mk hr0_1
  have HC0_1 := Aside0.mk hc0_1
  clear hr0_1 hc0_1
  have HR1_0 := Aside0.mk hr1_0
  have HC1_0 := Aside0.mk hc1_0
  clear hr1_0 hc1_0
  have HR1_1 := Aside0.mk hr1_1
  have HC1_1 := Aside0.mk hc1_1
  clear hr1_1 hc1_1
  have HB := Aside0.mk (Below.refl w.heap.size w)
  have H : ((laws_eqPieceS.f k l0_0 l1_0).bind fun t774 => (if t774 = true then ((laws_eqSideS.f k l0_1 l1_1).bind fun t775 => (if t775 = true then (if a0_2 = a1_2 then (if a0_3 = a1_3 then (some true) else (some false)) else (some false)) else (some false))) else (some false))) = some r := h
  clear h
  replace H := Option.bind_eq_some_iff.mp H
  obtain ⟨t774, A30, H⟩ := H
  (try dsimp only at H)
  have A3 := Aside0.mk A30
  clear A30
  by_cases c4 : t774 = true
  rotate_left
  · replace c4 := Bool.eq_false_iff.mpr c4
    subst c4
    have H1 : (some false) = some r := by rw [if_neg (show ¬ (false = true) by decide)] at H; exact H
    clear H
    have H := H1
    clear H1
    obtain rfl := Option.some.inj H
    go_enter Try.func39, Try.ntmps39
    go_wp2_with (first | ((with_reducible refine gate_dst (N := 2) rfl ?_); refine box_event ?hg (N := 2) ?hd (cs := #[.slice A0_0 l0_0.length c0_0, .slice A0_1 l0_1.length c0_1, .int .i64 a0_2, .int .i64 a0_3]) (t := 56) ?hr ?_; (case hd => rfl); (case hg => rfl); (case hr => first | (go_simp; done) | (go_simp; rfl)); intro gb772 hg w51 hbox hb; have n0_ := Aside0.mk Z30_18; have n1_ := Aside0.mk (hbox); have n2_ := Aside0.mk Z30_13; have n3_ := Aside0.mk Z30_13; clear HB; have HB := n0_; have BK772 := n1_; have GW772 := n2_; have GE772 := n3_; clear n0_ n1_ n2_ n3_; clear hb hbox hg) | ((with_reducible refine gate_dst (N := 3) rfl ?_); refine box_event ?hg (N := 3) ?hd (cs := #[.slice A1_0 l1_0.length c1_0, .slice A1_1 l1_1.length c1_1, .int .i64 a1_2, .int .i64 a1_3]) (t := 56) ?hr ?_; (case hd => rfl); (case hg => rfl); (case hr => first | (go_simp; done) | (go_simp; rfl)); intro gb773 hg w52 hbox hb; have n0_ := Aside0.mk Z30_5; have n1_ := Aside0.mk Z30_15; have n2_ := Aside0.mk (hbox); have n3_ := Aside0.mk Z30_8; have n4_ := Aside0.mk Z30_8; have n5_ := Aside0.mk Z30_1; have n6_ := Aside0.mk Z30_2; clear BK772; clear HB; have BK772 := n0_; have HB := n1_; have BK773 := n2_; have GW773 := n3_; have GE773 := n4_; have NB772_773 := n5_; have NB773_772 := n6_; clear n0_ n1_ n2_ n3_ n4_ n5_ n6_; clear hb hbox hg; have hnb53 := NB772_773.out; have hnc53 := NB773_772.out; obtain ⟨⟨hcz54_0, hcz54_1, hcz54_2, hcz54_3⟩, hfz54_0, hfz54_1, hfz54_2, hfz54_3⟩ := C30_4 BK772.out; obtain ⟨⟨hcz55_0, hcz55_1, hcz55_2, hcz55_3⟩, hfz55_0, hfz55_1, hfz55_2, hfz55_3⟩ := C30_4 BK773.out) | ((with_reducible refine gate_callee (f := 105) rfl ?_); refine goesL_ (some 9) rfl rfl Try.func105 (by kernel_rfl) rfl #[.slice A0_0 l0_0.length c0_0, .slice A1_0 l1_0.length c1_0] rfl Z30_20 ?_; (with_reducible refine (laws_eqPieceS.calls k _ _ l0_0 _ _ l1_0 false _ ?side1 ?side2 ?side3 ?side4 A3.out).mono ?_); (case side1 => repeat (first | exact (Kd.C_below HR0_0.out HB.out) | (with_reducible refine Kd.C_alloc ?_ _) | (with_reducible refine Kd.C_drewN ?_ _) | (with_reducible refine Kd.C_drew ?_))); (case side2 => exact HC0_0.out); (case side3 => repeat (first | exact (Kd.C_below HR1_0.out HB.out) | (with_reducible refine Kd.C_alloc ?_ _) | (with_reducible refine Kd.C_drewN ?_ _) | (with_reducible refine Kd.C_drew ?_))); (case side4 => exact HC1_0.out); rintro e w56 ⟨rfl, hb⟩; refine ⟨_, rfl, ?_⟩; have n0_ := Aside0.mk Z30_5; have n1_ := Aside0.mk Z30_6; have n2_ := Aside0.mk Z30_10; clear BK772; clear BK773; clear HB; have BK772 := n0_; have BK773 := n1_; have HB := n2_; clear n0_ n1_ n2_; (try clear hb); (try clear hb2); (try clear hk); (try clear hi)))
    go_ret
    exact ⟨Z30_22, Z30_11⟩
  subst c4
  rw [if_pos rfl] at H
  replace H := Option.bind_eq_some_iff.mp H
  obtain ⟨t775, A50, H⟩ := H
  replace H : (if t775 = true then (if a0_2 = a1_2 then (if a0_3 = a1_3 then (some true) else (some false)) else (some false)) else (some false)) = some r := H
  have A5 := Aside0.mk A50
  clear A50
  by_cases c6 : t775 = true
  rotate_left
  · replace c6 := Bool.eq_false_iff.mpr c6
    subst c6
    have H1 : (some false) = some r := by rw [if_neg (show ¬ (false = true) by decide)] at H; exact H
    clear H
    have H := H1
    clear H1
    obtain rfl := Option.some.inj H
    go_enter Try.func39, Try.ntmps39
    go_wp2_with (first | ((with_reducible refine gate_dst (N := 2) rfl ?_); refine box_event ?hg (N := 2) ?hd (cs := #[.slice A0_0 l0_0.length c0_0, .slice A0_1 l0_1.length c0_1, .int .i64 a0_2, .int .i64 a0_3]) (t := 56) ?hr ?_; (case hd => rfl); (case hg => rfl); (case hr => first | (go_simp; done) | (go_simp; rfl)); intro gb772 hg w42 hbox hb; have n0_ := Aside0.mk Z30_18; have n1_ := Aside0.mk (hbox); have n2_ := Aside0.mk Z30_13; have n3_ := Aside0.mk Z30_13; clear HB; have HB := n0_; have BK772 := n1_; have GW772 := n2_; have GE772 := n3_; clear n0_ n1_ n2_ n3_; clear hb hbox hg) | ((with_reducible refine gate_dst (N := 3) rfl ?_); refine box_event ?hg (N := 3) ?hd (cs := #[.slice A1_0 l1_0.length c1_0, .slice A1_1 l1_1.length c1_1, .int .i64 a1_2, .int .i64 a1_3]) (t := 56) ?hr ?_; (case hd => rfl); (case hg => rfl); (case hr => first | (go_simp; done) | (go_simp; rfl)); intro gb773 hg w43 hbox hb; have n0_ := Aside0.mk Z30_5; have n1_ := Aside0.mk Z30_15; have n2_ := Aside0.mk (hbox); have n3_ := Aside0.mk Z30_8; have n4_ := Aside0.mk Z30_8; have n5_ := Aside0.mk Z30_1; have n6_ := Aside0.mk Z30_2; clear BK772; clear HB; have BK772 := n0_; have HB := n1_; have BK773 := n2_; have GW773 := n3_; have GE773 := n4_; have NB772_773 := n5_; have NB773_772 := n6_; clear n0_ n1_ n2_ n3_ n4_ n5_ n6_; clear hb hbox hg; have hnb44 := NB772_773.out; have hnc44 := NB773_772.out; obtain ⟨⟨hcz45_0, hcz45_1, hcz45_2, hcz45_3⟩, hfz45_0, hfz45_1, hfz45_2, hfz45_3⟩ := C30_4 BK772.out; obtain ⟨⟨hcz46_0, hcz46_1, hcz46_2, hcz46_3⟩, hfz46_0, hfz46_1, hfz46_2, hfz46_3⟩ := C30_4 BK773.out) | ((with_reducible refine gate_callee (f := 105) rfl ?_); refine goesL_ (some 9) rfl rfl Try.func105 (by kernel_rfl) rfl #[.slice A0_0 l0_0.length c0_0, .slice A1_0 l1_0.length c1_0] rfl Z30_20 ?_; (with_reducible refine (laws_eqPieceS.calls k _ _ l0_0 _ _ l1_0 true _ ?side1 ?side2 ?side3 ?side4 A3.out).mono ?_); (case side1 => repeat (first | exact (Kd.C_below HR0_0.out HB.out) | (with_reducible refine Kd.C_alloc ?_ _) | (with_reducible refine Kd.C_drewN ?_ _) | (with_reducible refine Kd.C_drew ?_))); (case side2 => exact HC0_0.out); (case side3 => repeat (first | exact (Kd.C_below HR1_0.out HB.out) | (with_reducible refine Kd.C_alloc ?_ _) | (with_reducible refine Kd.C_drewN ?_ _) | (with_reducible refine Kd.C_drew ?_))); (case side4 => exact HC1_0.out); rintro e w47 ⟨rfl, hb⟩; refine ⟨_, rfl, ?_⟩; have n0_ := Aside0.mk Z30_5; have n1_ := Aside0.mk Z30_6; have n2_ := Aside0.mk Z30_10; clear BK772; clear BK773; clear HB; have BK772 := n0_; have BK773 := n1_; have HB := n2_; clear n0_ n1_ n2_; (try clear hb); (try clear hb2); (try clear hk); (try clear hi); obtain ⟨⟨hcz48_0, hcz48_1, hcz48_2, hcz48_3⟩, hfz48_0, hfz48_1, hfz48_2, hfz48_3⟩ := C30_4 BK772.out; obtain ⟨⟨hcz49_0, hcz49_1, hcz49_2, hcz49_3⟩, hfz49_0, hfz49_1, hfz49_2, hfz49_3⟩ := C30_4 BK773.out) | ((with_reducible refine gate_callee (f := 106) rfl ?_); refine goesL_ (some 15) rfl rfl Try.func106 (by kernel_rfl) rfl #[.slice A0_1 l0_1.length c0_1, .slice A1_1 l1_1.length c1_1] rfl Z30_20 ?_; (with_reducible refine (laws_eqSideS.calls k _ _ l0_1 _ _ l1_1 false _ ?side1 ?side2 ?side3 ?side4 A5.out).mono ?_); (case side1 => repeat (first | exact (Kd.C_below HR0_1.out HB.out) | (with_reducible refine Kd.C_alloc ?_ _) | (with_reducible refine Kd.C_drewN ?_ _) | (with_reducible refine Kd.C_drew ?_))); (case side2 => exact HC0_1.out); (case side3 => repeat (first | exact (Kd.C_below HR1_1.out HB.out) | (with_reducible refine Kd.C_alloc ?_ _) | (with_reducible refine Kd.C_drewN ?_ _) | (with_reducible refine Kd.C_drew ?_))); (case side4 => exact HC1_1.out); rintro e w50 ⟨rfl, hb⟩; refine ⟨_, rfl, ?_⟩; have n0_ := Aside0.mk Z30_5; have n1_ := Aside0.mk Z30_6; have n2_ := Aside0.mk Z30_10; clear BK772; clear BK773; clear HB; have BK772 := n0_; have BK773 := n1_; have HB := n2_; clear n0_ n1_ n2_; (try clear hb); (try clear hb2); (try clear hk); (try clear hi)))
    go_ret
    exact ⟨Z30_22, Z30_11⟩
  subst c6
  have H1 : (if a0_2 = a1_2 then (if a0_3 = a1_3 then (some true) else (some false)) else (some false)) = some r := by rw [if_pos rfl] at H; exact H
  clear H
  have H := H1
  clear H1
  by_cases c7 : a0_2 = a1_2
  rotate_left
  · rw [if_neg c7] at H
    have c7b0 : (a0_2 == a1_2) = false := beq_eq_false_iff_ne.mpr c7
    have c7b1 : (a0_2 != a1_2) = true := bne_iff_ne.mpr c7
    obtain rfl := Option.some.inj H
    go_enter Try.func39, Try.ntmps39
    go_wp2_with (first | ((with_reducible refine gate_dst (N := 2) rfl ?_); refine box_event ?hg (N := 2) ?hd (cs := #[.slice A0_0 l0_0.length c0_0, .slice A0_1 l0_1.length c0_1, .int .i64 a0_2, .int .i64 a0_3]) (t := 56) ?hr ?_; (case hd => rfl); (case hg => rfl); (case hr => first | (go_simp; done) | (go_simp; rfl)); intro gb772 hg w31 hbox hb; have n0_ := Aside0.mk Z30_18; have n1_ := Aside0.mk (hbox); have n2_ := Aside0.mk Z30_13; have n3_ := Aside0.mk Z30_13; clear HB; have HB := n0_; have BK772 := n1_; have GW772 := n2_; have GE772 := n3_; clear n0_ n1_ n2_ n3_; clear hb hbox hg) | ((with_reducible refine gate_dst (N := 3) rfl ?_); refine box_event ?hg (N := 3) ?hd (cs := #[.slice A1_0 l1_0.length c1_0, .slice A1_1 l1_1.length c1_1, .int .i64 a1_2, .int .i64 a1_3]) (t := 56) ?hr ?_; (case hd => rfl); (case hg => rfl); (case hr => first | (go_simp; done) | (go_simp; rfl)); intro gb773 hg w32 hbox hb; have n0_ := Aside0.mk Z30_5; have n1_ := Aside0.mk Z30_15; have n2_ := Aside0.mk (hbox); have n3_ := Aside0.mk Z30_8; have n4_ := Aside0.mk Z30_8; have n5_ := Aside0.mk Z30_1; have n6_ := Aside0.mk Z30_2; clear BK772; clear HB; have BK772 := n0_; have HB := n1_; have BK773 := n2_; have GW773 := n3_; have GE773 := n4_; have NB772_773 := n5_; have NB773_772 := n6_; clear n0_ n1_ n2_ n3_ n4_ n5_ n6_; clear hb hbox hg; have hnb33 := NB772_773.out; have hnc33 := NB773_772.out; obtain ⟨⟨hcz34_0, hcz34_1, hcz34_2, hcz34_3⟩, hfz34_0, hfz34_1, hfz34_2, hfz34_3⟩ := C30_4 BK772.out; obtain ⟨⟨hcz35_0, hcz35_1, hcz35_2, hcz35_3⟩, hfz35_0, hfz35_1, hfz35_2, hfz35_3⟩ := C30_4 BK773.out) | ((with_reducible refine gate_callee (f := 105) rfl ?_); refine goesL_ (some 9) rfl rfl Try.func105 (by kernel_rfl) rfl #[.slice A0_0 l0_0.length c0_0, .slice A1_0 l1_0.length c1_0] rfl Z30_20 ?_; (with_reducible refine (laws_eqPieceS.calls k _ _ l0_0 _ _ l1_0 true _ ?side1 ?side2 ?side3 ?side4 A3.out).mono ?_); (case side1 => repeat (first | exact (Kd.C_below HR0_0.out HB.out) | (with_reducible refine Kd.C_alloc ?_ _) | (with_reducible refine Kd.C_drewN ?_ _) | (with_reducible refine Kd.C_drew ?_))); (case side2 => exact HC0_0.out); (case side3 => repeat (first | exact (Kd.C_below HR1_0.out HB.out) | (with_reducible refine Kd.C_alloc ?_ _) | (with_reducible refine Kd.C_drewN ?_ _) | (with_reducible refine Kd.C_drew ?_))); (case side4 => exact HC1_0.out); rintro e w36 ⟨rfl, hb⟩; refine ⟨_, rfl, ?_⟩; have n0_ := Aside0.mk Z30_5; have n1_ := Aside0.mk Z30_6; have n2_ := Aside0.mk Z30_10; clear BK772; clear BK773; clear HB; have BK772 := n0_; have BK773 := n1_; have HB := n2_; clear n0_ n1_ n2_; (try clear hb); (try clear hb2); (try clear hk); (try clear hi); obtain ⟨⟨hcz37_0, hcz37_1, hcz37_2, hcz37_3⟩, hfz37_0, hfz37_1, hfz37_2, hfz37_3⟩ := C30_4 BK772.out; obtain ⟨⟨hcz38_0, hcz38_1, hcz38_2, hcz38_3⟩, hfz38_0, hfz38_1, hfz38_2, hfz38_3⟩ := C30_4 BK773.out) | ((with_reducible refine gate_callee (f := 106) rfl ?_); refine goesL_ (some 15) rfl rfl Try.func106 (by kernel_rfl) rfl #[.slice A0_1 l0_1.length c0_1, .slice A1_1 l1_1.length c1_1] rfl Z30_20 ?_; (with_reducible refine (laws_eqSideS.calls k _ _ l0_1 _ _ l1_1 true _ ?side1 ?side2 ?side3 ?side4 A5.out).mono ?_); (case side1 => repeat (first | exact (Kd.C_below HR0_1.out HB.out) | (with_reducible refine Kd.C_alloc ?_ _) | (with_reducible refine Kd.C_drewN ?_ _) | (with_reducible refine Kd.C_drew ?_))); (case side2 => exact HC0_1.out); (case side3 => repeat (first | exact (Kd.C_below HR1_1.out HB.out) | (with_reducible refine Kd.C_alloc ?_ _) | (with_reducible refine Kd.C_drewN ?_ _) | (with_reducible refine Kd.C_drew ?_))); (case side4 => exact HC1_1.out); rintro e w39 ⟨rfl, hb⟩; refine ⟨_, rfl, ?_⟩; have n0_ := Aside0.mk Z30_5; have n1_ := Aside0.mk Z30_6; have n2_ := Aside0.mk Z30_10; clear BK772; clear BK773; clear HB; have BK772 := n0_; have BK773 := n1_; have HB := n2_; clear n0_ n1_ n2_; (try clear hb); (try clear hb2); (try clear hk); (try clear hi); obtain ⟨⟨hcz40_0, hcz40_1, hcz40_2, hcz40_3⟩, hfz40_0, hfz40_1, hfz40_2, hfz40_3⟩ := C30_4 BK772.out; obtain ⟨⟨hcz41_0, hcz41_1, hcz41_2, hcz41_3⟩, hfz41_0, hfz41_1, hfz41_2, hfz41_3⟩ := C30_4 BK773.out))
    go_ret
    exact ⟨Z30_22, Z30_11⟩
  rw [if_pos c7] at H
  have c7b0 : (a0_2 == a1_2) = true := beq_iff_eq.mpr c7
  have c7b1 : (a0_2 != a1_2) = false := bne_eq_false_iff_eq.mpr c7
  clear c7
  by_cases c8 : a0_3 = a1_3
  rotate_left
  · rw [if_neg c8] at H
    have c8b0 : (a0_3 == a1_3) = false := beq_eq_false_iff_ne.mpr c8
    have c8b1 : (a0_3 != a1_3) = true := bne_iff_ne.mpr c8
    obtain rfl := Option.some.inj H
    go_enter Try.func39, Try.ntmps39
    go_wp2_with (first | ((with_reducible refine gate_dst (N := 2) rfl ?_); refine box_event ?hg (N := 2) ?hd (cs := #[.slice A0_0 l0_0.length c0_0, .slice A0_1 l0_1.length c0_1, .int .i64 a0_2, .int .i64 a0_3]) (t := 56) ?hr ?_; (case hd => rfl); (case hg => rfl); (case hr => first | (go_simp; done) | (go_simp; rfl)); intro gb772 hg w20 hbox hb; have n0_ := Aside0.mk Z30_18; have n1_ := Aside0.mk (hbox); have n2_ := Aside0.mk Z30_13; have n3_ := Aside0.mk Z30_13; clear HB; have HB := n0_; have BK772 := n1_; have GW772 := n2_; have GE772 := n3_; clear n0_ n1_ n2_ n3_; clear hb hbox hg) | ((with_reducible refine gate_dst (N := 3) rfl ?_); refine box_event ?hg (N := 3) ?hd (cs := #[.slice A1_0 l1_0.length c1_0, .slice A1_1 l1_1.length c1_1, .int .i64 a1_2, .int .i64 a1_3]) (t := 56) ?hr ?_; (case hd => rfl); (case hg => rfl); (case hr => first | (go_simp; done) | (go_simp; rfl)); intro gb773 hg w21 hbox hb; have n0_ := Aside0.mk Z30_5; have n1_ := Aside0.mk Z30_15; have n2_ := Aside0.mk (hbox); have n3_ := Aside0.mk Z30_8; have n4_ := Aside0.mk Z30_8; have n5_ := Aside0.mk Z30_1; have n6_ := Aside0.mk Z30_2; clear BK772; clear HB; have BK772 := n0_; have HB := n1_; have BK773 := n2_; have GW773 := n3_; have GE773 := n4_; have NB772_773 := n5_; have NB773_772 := n6_; clear n0_ n1_ n2_ n3_ n4_ n5_ n6_; clear hb hbox hg; have hnb22 := NB772_773.out; have hnc22 := NB773_772.out; obtain ⟨⟨hcz23_0, hcz23_1, hcz23_2, hcz23_3⟩, hfz23_0, hfz23_1, hfz23_2, hfz23_3⟩ := C30_4 BK772.out; obtain ⟨⟨hcz24_0, hcz24_1, hcz24_2, hcz24_3⟩, hfz24_0, hfz24_1, hfz24_2, hfz24_3⟩ := C30_4 BK773.out) | ((with_reducible refine gate_callee (f := 105) rfl ?_); refine goesL_ (some 9) rfl rfl Try.func105 (by kernel_rfl) rfl #[.slice A0_0 l0_0.length c0_0, .slice A1_0 l1_0.length c1_0] rfl Z30_20 ?_; (with_reducible refine (laws_eqPieceS.calls k _ _ l0_0 _ _ l1_0 true _ ?side1 ?side2 ?side3 ?side4 A3.out).mono ?_); (case side1 => repeat (first | exact (Kd.C_below HR0_0.out HB.out) | (with_reducible refine Kd.C_alloc ?_ _) | (with_reducible refine Kd.C_drewN ?_ _) | (with_reducible refine Kd.C_drew ?_))); (case side2 => exact HC0_0.out); (case side3 => repeat (first | exact (Kd.C_below HR1_0.out HB.out) | (with_reducible refine Kd.C_alloc ?_ _) | (with_reducible refine Kd.C_drewN ?_ _) | (with_reducible refine Kd.C_drew ?_))); (case side4 => exact HC1_0.out); rintro e w25 ⟨rfl, hb⟩; refine ⟨_, rfl, ?_⟩; have n0_ := Aside0.mk Z30_5; have n1_ := Aside0.mk Z30_6; have n2_ := Aside0.mk Z30_10; clear BK772; clear BK773; clear HB; have BK772 := n0_; have BK773 := n1_; have HB := n2_; clear n0_ n1_ n2_; (try clear hb); (try clear hb2); (try clear hk); (try clear hi); obtain ⟨⟨hcz26_0, hcz26_1, hcz26_2, hcz26_3⟩, hfz26_0, hfz26_1, hfz26_2, hfz26_3⟩ := C30_4 BK772.out; obtain ⟨⟨hcz27_0, hcz27_1, hcz27_2, hcz27_3⟩, hfz27_0, hfz27_1, hfz27_2, hfz27_3⟩ := C30_4 BK773.out) | ((with_reducible refine gate_callee (f := 106) rfl ?_); refine goesL_ (some 15) rfl rfl Try.func106 (by kernel_rfl) rfl #[.slice A0_1 l0_1.length c0_1, .slice A1_1 l1_1.length c1_1] rfl Z30_20 ?_; (with_reducible refine (laws_eqSideS.calls k _ _ l0_1 _ _ l1_1 true _ ?side1 ?side2 ?side3 ?side4 A5.out).mono ?_); (case side1 => repeat (first | exact (Kd.C_below HR0_1.out HB.out) | (with_reducible refine Kd.C_alloc ?_ _) | (with_reducible refine Kd.C_drewN ?_ _) | (with_reducible refine Kd.C_drew ?_))); (case side2 => exact HC0_1.out); (case side3 => repeat (first | exact (Kd.C_below HR1_1.out HB.out) | (with_reducible refine Kd.C_alloc ?_ _) | (with_reducible refine Kd.C_drewN ?_ _) | (with_reducible refine Kd.C_drew ?_))); (case side4 => exact HC1_1.out); rintro e w28 ⟨rfl, hb⟩; refine ⟨_, rfl, ?_⟩; have n0_ := Aside0.mk Z30_5; have n1_ := Aside0.mk Z30_6; have n2_ := Aside0.mk Z30_10; clear BK772; clear BK773; clear HB; have BK772 := n0_; have BK773 := n1_; have HB := n2_; clear n0_ n1_ n2_; (try clear hb); (try clear hb2); (try clear hk); (try clear hi); obtain ⟨⟨hcz29_0, hcz29_1, hcz29_2, hcz29_3⟩, hfz29_0, hfz29_1, hfz29_2, hfz29_3⟩ := C30_4 BK772.out; obtain ⟨⟨hcz30_0, hcz30_1, hcz30_2, hcz30_3⟩, hfz30_0, hfz30_1, hfz30_2, hfz30_3⟩ := C30_4 BK773.out))
    go_ret
    exact ⟨Z30_22, Z30_11⟩
  rw [if_pos c8] at H
  have c8b0 : (a0_3 == a1_3) = true := beq_iff_eq.mpr c8
  have c8b1 : (a0_3 != a1_3) = false := bne_eq_false_iff_eq.mpr c8
  clear c8
  obtain rfl := Option.some.inj H
  go_enter Try.func39, Try.ntmps39
  go_wp2_with (first | ((with_reducible refine gate_dst (N := 2) rfl ?_); refine box_event ?hg (N := 2) ?hd (cs := #[.slice A0_0 l0_0.length c0_0, .slice A0_1 l0_1.length c0_1, .int .i64 a0_2, .int .i64 a0_3]) (t := 56) ?hr ?_; (case hd => rfl); (case hg => rfl); (case hr => first | (go_simp; done) | (go_simp; rfl)); intro gb772 hg w9 hbox hb; have n0_ := Aside0.mk Z30_18; have n1_ := Aside0.mk (hbox); have n2_ := Aside0.mk Z30_13; have n3_ := Aside0.mk Z30_13; clear HB; have HB := n0_; have BK772 := n1_; have GW772 := n2_; have GE772 := n3_; clear n0_ n1_ n2_ n3_; clear hb hbox hg) | ((with_reducible refine gate_dst (N := 3) rfl ?_); refine box_event ?hg (N := 3) ?hd (cs := #[.slice A1_0 l1_0.length c1_0, .slice A1_1 l1_1.length c1_1, .int .i64 a1_2, .int .i64 a1_3]) (t := 56) ?hr ?_; (case hd => rfl); (case hg => rfl); (case hr => first | (go_simp; done) | (go_simp; rfl)); intro gb773 hg w10 hbox hb; have n0_ := Aside0.mk Z30_5; have n1_ := Aside0.mk Z30_15; have n2_ := Aside0.mk (hbox); have n3_ := Aside0.mk Z30_8; have n4_ := Aside0.mk Z30_8; have n5_ := Aside0.mk Z30_1; have n6_ := Aside0.mk Z30_2; clear BK772; clear HB; have BK772 := n0_; have HB := n1_; have BK773 := n2_; have GW773 := n3_; have GE773 := n4_; have NB772_773 := n5_; have NB773_772 := n6_; clear n0_ n1_ n2_ n3_ n4_ n5_ n6_; clear hb hbox hg; have hnb11 := NB772_773.out; have hnc11 := NB773_772.out; obtain ⟨⟨hcz12_0, hcz12_1, hcz12_2, hcz12_3⟩, hfz12_0, hfz12_1, hfz12_2, hfz12_3⟩ := C30_4 BK772.out; obtain ⟨⟨hcz13_0, hcz13_1, hcz13_2, hcz13_3⟩, hfz13_0, hfz13_1, hfz13_2, hfz13_3⟩ := C30_4 BK773.out) | ((with_reducible refine gate_callee (f := 105) rfl ?_); refine goesL_ (some 9) rfl rfl Try.func105 (by kernel_rfl) rfl #[.slice A0_0 l0_0.length c0_0, .slice A1_0 l1_0.length c1_0] rfl Z30_20 ?_; (with_reducible refine (laws_eqPieceS.calls k _ _ l0_0 _ _ l1_0 true _ ?side1 ?side2 ?side3 ?side4 A3.out).mono ?_); (case side1 => repeat (first | exact (Kd.C_below HR0_0.out HB.out) | (with_reducible refine Kd.C_alloc ?_ _) | (with_reducible refine Kd.C_drewN ?_ _) | (with_reducible refine Kd.C_drew ?_))); (case side2 => exact HC0_0.out); (case side3 => repeat (first | exact (Kd.C_below HR1_0.out HB.out) | (with_reducible refine Kd.C_alloc ?_ _) | (with_reducible refine Kd.C_drewN ?_ _) | (with_reducible refine Kd.C_drew ?_))); (case side4 => exact HC1_0.out); rintro e w14 ⟨rfl, hb⟩; refine ⟨_, rfl, ?_⟩; have n0_ := Aside0.mk Z30_5; have n1_ := Aside0.mk Z30_6; have n2_ := Aside0.mk Z30_10; clear BK772; clear BK773; clear HB; have BK772 := n0_; have BK773 := n1_; have HB := n2_; clear n0_ n1_ n2_; (try clear hb); (try clear hb2); (try clear hk); (try clear hi); obtain ⟨⟨hcz15_0, hcz15_1, hcz15_2, hcz15_3⟩, hfz15_0, hfz15_1, hfz15_2, hfz15_3⟩ := C30_4 BK772.out; obtain ⟨⟨hcz16_0, hcz16_1, hcz16_2, hcz16_3⟩, hfz16_0, hfz16_1, hfz16_2, hfz16_3⟩ := C30_4 BK773.out) | ((with_reducible refine gate_callee (f := 106) rfl ?_); refine goesL_ (some 15) rfl rfl Try.func106 (by kernel_rfl) rfl #[.slice A0_1 l0_1.length c0_1, .slice A1_1 l1_1.length c1_1] rfl Z30_20 ?_; (with_reducible refine (laws_eqSideS.calls k _ _ l0_1 _ _ l1_1 true _ ?side1 ?side2 ?side3 ?side4 A5.out).mono ?_); (case side1 => repeat (first | exact (Kd.C_below HR0_1.out HB.out) | (with_reducible refine Kd.C_alloc ?_ _) | (with_reducible refine Kd.C_drewN ?_ _) | (with_reducible refine Kd.C_drew ?_))); (case side2 => exact HC0_1.out); (case side3 => repeat (first | exact (Kd.C_below HR1_1.out HB.out) | (with_reducible refine Kd.C_alloc ?_ _) | (with_reducible refine Kd.C_drewN ?_ _) | (with_reducible refine Kd.C_drew ?_))); (case side4 => exact HC1_1.out); rintro e w17 ⟨rfl, hb⟩; refine ⟨_, rfl, ?_⟩; have n0_ := Aside0.mk Z30_5; have n1_ := Aside0.mk Z30_6; have n2_ := Aside0.mk Z30_10; clear BK772; clear BK773; clear HB; have BK772 := n0_; have BK773 := n1_; have HB := n2_; clear n0_ n1_ n2_; (try clear hb); (try clear hb2); (try clear hk); (try clear hi); obtain ⟨⟨hcz18_0, hcz18_1, hcz18_2, hcz18_3⟩, hfz18_0, hfz18_1, hfz18_2, hfz18_3⟩ := C30_4 BK772.out; obtain ⟨⟨hcz19_0, hcz19_1, hcz19_2, hcz19_3⟩, hfz19_0, hfz19_1, hfz19_2, hfz19_3⟩ := C30_4 BK773.out))
  go_ret
  exact ⟨Z30_22, Z30_11⟩



end Go.Proofs.Ytfkidiagmekleaa.QAll
