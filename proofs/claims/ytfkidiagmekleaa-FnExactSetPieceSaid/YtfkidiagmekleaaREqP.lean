-- Written by a program of this session (patch_print.py over the print).
import Derived.Test.YtfkidiagmekleaaQAllx0
namespace Go.Proofs.Ytfkidiagmekleaa.QAll
open Go.RowKit Go.Proofs.YtfkidiagmekleaaW.PrintWords Go.Proofs.YtfkidiagmekleaaW.PrintLast Go.Proofs.YtfkidiagmekleaaW.PrintMore
attribute [local go_sem] max2_int min2_int max_two min_two max_three min_three max_four min_four   -- for this text's walks alone
set_option linter.unusedVariables false
set_option linter.unusedSimpArgs false

theorem C27_13 {W : World} {g : Nat} {T : TypeId} {v0 v1 v2 v3 v4 v5 v6 v7 v8 v9 v10 v11 v12 : Value} (h : W.heap[g]? = some (.cells #[v0, v1, v2, v3, v4, v5, v6, v7, v8, v9, v10, v11, v12] T (0, 0))) : (W.cell? ⟨g, 0, none⟩ = some v0 ∧ W.cell? ⟨g, 1, none⟩ = some v1 ∧ W.cell? ⟨g, 2, none⟩ = some v2 ∧ W.cell? ⟨g, 3, none⟩ = some v3 ∧ W.cell? ⟨g, 4, none⟩ = some v4 ∧ W.cell? ⟨g, 5, none⟩ = some v5 ∧ W.cell? ⟨g, 6, none⟩ = some v6 ∧ W.cell? ⟨g, 7, none⟩ = some v7 ∧ W.cell? ⟨g, 8, none⟩ = some v8 ∧ W.cell? ⟨g, 9, none⟩ = some v9 ∧ W.cell? ⟨g, 10, none⟩ = some v10 ∧ W.cell? ⟨g, 11, none⟩ = some v11 ∧ W.cell? ⟨g, 12, none⟩ = some v12) ∧ W.frozen? ⟨g, 0, none⟩ = false ∧ W.frozen? ⟨g, 1, none⟩ = false ∧ W.frozen? ⟨g, 2, none⟩ = false ∧ W.frozen? ⟨g, 3, none⟩ = false ∧ W.frozen? ⟨g, 4, none⟩ = false ∧ W.frozen? ⟨g, 5, none⟩ = false ∧ W.frozen? ⟨g, 6, none⟩ = false ∧ W.frozen? ⟨g, 7, none⟩ = false ∧ W.frozen? ⟨g, 8, none⟩ = false ∧ W.frozen? ⟨g, 9, none⟩ = false ∧ W.frozen? ⟨g, 10, none⟩ = false ∧ W.frozen? ⟨g, 11, none⟩ = false ∧ W.frozen? ⟨g, 12, none⟩ = false := ⟨⟨(blk_cell h 0).trans rfl, (blk_cell h 1).trans rfl, (blk_cell h 2).trans rfl, (blk_cell h 3).trans rfl, (blk_cell h 4).trans rfl, (blk_cell h 5).trans rfl, (blk_cell h 6).trans rfl, (blk_cell h 7).trans rfl, (blk_cell h 8).trans rfl, (blk_cell h 9).trans rfl, (blk_cell h 10).trans rfl, (blk_cell h 11).trans rfl, (blk_cell h 12).trans rfl⟩, blk_frozen h 0, blk_frozen h 1, blk_frozen h 2, blk_frozen h 3, blk_frozen h 4, blk_frozen h 5, blk_frozen h 6, blk_frozen h 7, blk_frozen h 8, blk_frozen h 9, blk_frozen h 10, blk_frozen h 11, blk_frozen h 12⟩
theorem Z27_1 {p : Prop} (h : p := by exact ((by rw [hg]; exact Nat.ne_of_lt (blk_lt (g := gb762) (o := .cells #[.int .i64 a0_0, .int .i64 a0_1, .int .i64 a0_2, .int .i64 a0_3, .int .i64 a0_4, .int .i64 a0_5, .int .i64 a0_6, .int .i64 a0_7, .int .i64 a0_8, .int .i64 a0_9, .int .i64 a0_10, .bool a0_11, .bool a0_12] 25 (0, 0)) (by (with_reducible repeat (first | refine blk_drewN ?_ _ | refine blk_drew ?_ | refine blk_alloc ?_ _)); exact BK762.out)) : gb762 ≠ gb763))) : p := h
theorem Z27_2 {p : Prop} (h : p := by exact ((by rw [hg]; exact Nat.ne_of_gt (blk_lt (g := gb762) (o := .cells #[.int .i64 a0_0, .int .i64 a0_1, .int .i64 a0_2, .int .i64 a0_3, .int .i64 a0_4, .int .i64 a0_5, .int .i64 a0_6, .int .i64 a0_7, .int .i64 a0_8, .int .i64 a0_9, .int .i64 a0_10, .bool a0_11, .bool a0_12] 25 (0, 0)) (by (with_reducible repeat (first | refine blk_drewN ?_ _ | refine blk_drew ?_ | refine blk_alloc ?_ _)); exact BK762.out)) : gb763 ≠ gb762))) : p := h
theorem Z27_3 {p : Prop} (h : p := by exact (blk_below (g := gb762) (o := .cells #[.int .i64 a0_0, .int .i64 a0_1, .int .i64 a0_2, .int .i64 a0_3, .int .i64 a0_4, .int .i64 a0_5, .int .i64 a0_6, .int .i64 a0_7, .int .i64 a0_8, .int .i64 a0_9, .int .i64 a0_10, .bool a0_11, .bool a0_12] 25 (0, 0)) (by (with_reducible repeat (first | refine blk_drewN ?_ _ | refine blk_drew ?_ | refine blk_alloc ?_ _)); exact BK762.out) hb)) : p := h
theorem Z27_4 {p : Prop} (h : p := by exact ((by rw [hg]; exact (below_size (by repeat (first | (with_reducible first | exact HB.out | apply below_alloc | apply pw_below_drewN | apply below_drew1 | refine below_set ?_ GE762.out) | exact HB.out))) : w.heap.size ≤ gb763))) : p := h
theorem Z27_5 {p : Prop} (h : p := by repeat (first | (with_reducible first | exact HB.out | apply below_alloc | apply pw_below_drewN | apply below_drew1 | refine below_set ?_ GE762.out | refine below_set ?_ GE763.out) | exact HB.out)) : p := h
theorem Z27_6 {p : Prop} (h : p := by exact ((by rw [hg]; exact (below_size (by repeat (first | (with_reducible first | exact HB.out | apply below_alloc | apply pw_below_drewN | apply below_drew1) | exact HB.out))) : w.heap.size ≤ gb762))) : p := h
theorem Z27_7 {p : Prop} (h : p := by exact (below_step (by repeat (first | (with_reducible first | exact HB.out | apply below_alloc | apply pw_below_drewN | apply below_drew1 | refine below_set ?_ GE762.out) | exact HB.out)) hb)) : p := h
theorem Z27_8 {p : Prop} (h : p := by first | rfl | (simp [errW_none, errW_some] <;> rfl) | (simp [*, errW_none, errW_some] <;> rfl)) : p := h
/-! ### laws_eqPiece: function 132 -/
def laws_eqPiece.f (a0_0 : Int) (a0_1 : Int) (a0_2 : Int) (a0_3 : Int) (a0_4 : Int) (a0_5 : Int) (a0_6 : Int) (a0_7 : Int) (a0_8 : Int) (a0_9 : Int) (a0_10 : Int) (a0_11 : Bool) (a0_12 : Bool) (a1_0 : Int) (a1_1 : Int) (a1_2 : Int) (a1_3 : Int) (a1_4 : Int) (a1_5 : Int) (a1_6 : Int) (a1_7 : Int) (a1_8 : Int) (a1_9 : Int) (a1_10 : Int) (a1_11 : Bool) (a1_12 : Bool) : Option (Bool) := if a0_0 = a1_0 then (if a0_1 = a1_1 then (if a0_2 = a1_2 then (if a0_3 = a1_3 then (if a0_4 = a1_4 then (if a0_5 = a1_5 then (if a0_6 = a1_6 then (if a0_7 = a1_7 then (if a0_8 = a1_8 then (if a0_9 = a1_9 then (if a0_10 = a1_10 then (if (a0_11 != a1_11) = true then (some false) else (if (a0_12 != a1_12) = true then (some false) else (some true))) else (some false)) else (some false)) else (some false)) else (some false)) else (some false)) else (some false)) else (some false)) else (some false)) else (some false)) else (some false)) else (some false)
set_option maxHeartbeats 8000000 in
set_option maxRecDepth 100000 in
theorem laws_eqPiece.calls (a0_0 : Int) (a0_1 : Int) (a0_2 : Int) (a0_3 : Int) (a0_4 : Int) (a0_5 : Int) (a0_6 : Int) (a0_7 : Int) (a0_8 : Int) (a0_9 : Int) (a0_10 : Int) (a0_11 : Bool) (a0_12 : Bool) (a1_0 : Int) (a1_1 : Int) (a1_2 : Int) (a1_3 : Int) (a1_4 : Int) (a1_5 : Int) (a1_6 : Int) (a1_7 : Int) (a1_8 : Int) (a1_9 : Int) (a1_10 : Int) (a1_11 : Bool) (a1_12 : Bool) (r : Bool) (w : World) (h : laws_eqPiece.f a0_0 a0_1 a0_2 a0_3 a0_4 a0_5 a0_6 a0_7 a0_8 a0_9 a0_10 a0_11 a0_12 a1_0 a1_1 a1_2 a1_3 a1_4 a1_5 a1_6 a1_7 a1_8 a1_9 a1_10 a1_11 a1_12 = some r) :
    Calls Try.prog 132 #[.agg #[.int .i64 a0_0, .int .i64 a0_1, .int .i64 a0_2, .int .i64 a0_3, .int .i64 a0_4, .int .i64 a0_5, .int .i64 a0_6, .int .i64 a0_7, .int .i64 a0_8, .int .i64 a0_9, .int .i64 a0_10, .bool a0_11, .bool a0_12], .agg #[.int .i64 a1_0, .int .i64 a1_1, .int .i64 a1_2, .int .i64 a1_3, .int .i64 a1_4, .int .i64 a1_5, .int .i64 a1_6, .int .i64 a1_7, .int .i64 a1_8, .int .i64 a1_9, .int .i64 a1_10, .bool a1_11, .bool a1_12]] w fun e w' => e = .returned (.bool r) ∧ Below w.heap.size w w' := by
  have hu25 := Try.underlying25
  have HB := Aside0.mk (Below.refl w.heap.size w)
  have H : (if a0_0 = a1_0 then (if a0_1 = a1_1 then (if a0_2 = a1_2 then (if a0_3 = a1_3 then (if a0_4 = a1_4 then (if a0_5 = a1_5 then (if a0_6 = a1_6 then (if a0_7 = a1_7 then (if a0_8 = a1_8 then (if a0_9 = a1_9 then (if a0_10 = a1_10 then (if (a0_11 != a1_11) = true then (some false) else (if (a0_12 != a1_12) = true then (some false) else (some true))) else (some false)) else (some false)) else (some false)) else (some false)) else (some false)) else (some false)) else (some false)) else (some false)) else (some false)) else (some false)) else (some false)) = some r := h
  clear h
  go_enter Try.func132, Try.ntmps132
  repeat' (first | ((with_reducible refine gate_dst (N := 2) rfl ?_); refine box_event ?hg (N := 2) ?hd (cs := #[.int .i64 a0_0, .int .i64 a0_1, .int .i64 a0_2, .int .i64 a0_3, .int .i64 a0_4, .int .i64 a0_5, .int .i64 a0_6, .int .i64 a0_7, .int .i64 a0_8, .int .i64 a0_9, .int .i64 a0_10, .bool a0_11, .bool a0_12]) (t := 25) ?hr ?_; (case hd => rfl); (case hg => rfl); (case hr => first | (go_simp; done) | (go_simp; rfl)); intro gb762 hg w15 hbox hb; have n0_ := Aside0.mk (below_step (by repeat (first | (with_reducible first | exact HB.out | apply below_alloc | apply pw_below_drewN | apply below_drew1) | exact HB.out)) hb); have n1_ := Aside0.mk (hbox); have n2_ := Aside0.mk Z27_6; have n3_ := Aside0.mk Z27_6; clear HB; have HB := n0_; have BK762 := n1_; have GW762 := n2_; have GE762 := n3_; clear n0_ n1_ n2_ n3_; clear hb hbox hg) | ((fail_if_success (with_reducible refine gate_dst (N := 3) rfl ?_)); (first | go_values | go_skip | go_guarded | go_step | go_upon | go_back | (simp only [Int.not_lt, Int.not_le] at *; go_simp) | (go_ite <;> go_prune <;> (try go_simp)) | (split <;> (first | (rename_i hx; exact (hx _ rfl).elim) | go_prune)))))
  by_cases c3 : a0_0 = a1_0
  rotate_left
  · rw [if_neg c3] at H
    have c3b0 : (a0_0 == a1_0) = false := beq_eq_false_iff_ne.mpr c3
    have c3b1 : (a0_0 != a1_0) = true := bne_iff_ne.mpr c3
    obtain rfl := Option.some.inj H
    go_wp2_with (first | ((with_reducible refine gate_dst (N := 3) rfl ?_); refine box_event ?hg (N := 3) ?hd (cs := #[.int .i64 a1_0, .int .i64 a1_1, .int .i64 a1_2, .int .i64 a1_3, .int .i64 a1_4, .int .i64 a1_5, .int .i64 a1_6, .int .i64 a1_7, .int .i64 a1_8, .int .i64 a1_9, .int .i64 a1_10, .bool a1_11, .bool a1_12]) (t := 25) ?hr ?_; (case hd => rfl); (case hg => rfl); (case hr => first | (go_simp; done) | (go_simp; rfl)); intro gb763 hg w16 hbox hb; have n0_ := Aside0.mk Z27_3; have n1_ := Aside0.mk Z27_7; have n2_ := Aside0.mk (hbox); have n3_ := Aside0.mk Z27_4; have n4_ := Aside0.mk Z27_4; have n5_ := Aside0.mk Z27_1; have n6_ := Aside0.mk Z27_2; clear BK762; clear HB; have BK762 := n0_; have HB := n1_; have BK763 := n2_; have GW763 := n3_; have GE763 := n4_; have NB762_763 := n5_; have NB763_762 := n6_; clear n0_ n1_ n2_ n3_ n4_ n5_ n6_; clear hb hbox hg; have hnb17 := NB762_763.out; have hnc17 := NB763_762.out; obtain ⟨⟨hcz18_0, hcz18_1, hcz18_2, hcz18_3, hcz18_4, hcz18_5, hcz18_6, hcz18_7, hcz18_8, hcz18_9, hcz18_10, hcz18_11, hcz18_12⟩, hfz18_0, hfz18_1, hfz18_2, hfz18_3, hfz18_4, hfz18_5, hfz18_6, hfz18_7, hfz18_8, hfz18_9, hfz18_10, hfz18_11, hfz18_12⟩ := C27_13 BK762.out; obtain ⟨⟨hcz19_0, hcz19_1, hcz19_2, hcz19_3, hcz19_4, hcz19_5, hcz19_6, hcz19_7, hcz19_8, hcz19_9, hcz19_10, hcz19_11, hcz19_12⟩, hfz19_0, hfz19_1, hfz19_2, hfz19_3, hfz19_4, hfz19_5, hfz19_6, hfz19_7, hfz19_8, hfz19_9, hfz19_10, hfz19_11, hfz19_12⟩ := C27_13 BK763.out))
    go_ret
    exact ⟨Z27_8, Z27_5⟩
  rw [if_pos c3] at H
  have c3b0 : (a0_0 == a1_0) = true := beq_iff_eq.mpr c3
  have c3b1 : (a0_0 != a1_0) = false := bne_eq_false_iff_eq.mpr c3
  clear c3
  by_cases c4 : a0_1 = a1_1
  rotate_left
  · rw [if_neg c4] at H
    have c4b0 : (a0_1 == a1_1) = false := beq_eq_false_iff_ne.mpr c4
    have c4b1 : (a0_1 != a1_1) = true := bne_iff_ne.mpr c4
    obtain rfl := Option.some.inj H
    go_wp2_with (first | ((with_reducible refine gate_dst (N := 3) rfl ?_); refine box_event ?hg (N := 3) ?hd (cs := #[.int .i64 a1_0, .int .i64 a1_1, .int .i64 a1_2, .int .i64 a1_3, .int .i64 a1_4, .int .i64 a1_5, .int .i64 a1_6, .int .i64 a1_7, .int .i64 a1_8, .int .i64 a1_9, .int .i64 a1_10, .bool a1_11, .bool a1_12]) (t := 25) ?hr ?_; (case hd => rfl); (case hg => rfl); (case hr => first | (go_simp; done) | (go_simp; rfl)); intro gb763 hg w16 hbox hb; have n0_ := Aside0.mk Z27_3; have n1_ := Aside0.mk Z27_7; have n2_ := Aside0.mk (hbox); have n3_ := Aside0.mk Z27_4; have n4_ := Aside0.mk Z27_4; have n5_ := Aside0.mk Z27_1; have n6_ := Aside0.mk Z27_2; clear BK762; clear HB; have BK762 := n0_; have HB := n1_; have BK763 := n2_; have GW763 := n3_; have GE763 := n4_; have NB762_763 := n5_; have NB763_762 := n6_; clear n0_ n1_ n2_ n3_ n4_ n5_ n6_; clear hb hbox hg; have hnb17 := NB762_763.out; have hnc17 := NB763_762.out; obtain ⟨⟨hcz18_0, hcz18_1, hcz18_2, hcz18_3, hcz18_4, hcz18_5, hcz18_6, hcz18_7, hcz18_8, hcz18_9, hcz18_10, hcz18_11, hcz18_12⟩, hfz18_0, hfz18_1, hfz18_2, hfz18_3, hfz18_4, hfz18_5, hfz18_6, hfz18_7, hfz18_8, hfz18_9, hfz18_10, hfz18_11, hfz18_12⟩ := C27_13 BK762.out; obtain ⟨⟨hcz19_0, hcz19_1, hcz19_2, hcz19_3, hcz19_4, hcz19_5, hcz19_6, hcz19_7, hcz19_8, hcz19_9, hcz19_10, hcz19_11, hcz19_12⟩, hfz19_0, hfz19_1, hfz19_2, hfz19_3, hfz19_4, hfz19_5, hfz19_6, hfz19_7, hfz19_8, hfz19_9, hfz19_10, hfz19_11, hfz19_12⟩ := C27_13 BK763.out))
    go_ret
    exact ⟨Z27_8, Z27_5⟩
  rw [if_pos c4] at H
  have c4b0 : (a0_1 == a1_1) = true := beq_iff_eq.mpr c4
  have c4b1 : (a0_1 != a1_1) = false := bne_eq_false_iff_eq.mpr c4
  clear c4
  by_cases c5 : a0_2 = a1_2
  rotate_left
  · rw [if_neg c5] at H
    have c5b0 : (a0_2 == a1_2) = false := beq_eq_false_iff_ne.mpr c5
    have c5b1 : (a0_2 != a1_2) = true := bne_iff_ne.mpr c5
    obtain rfl := Option.some.inj H
    go_wp2_with (first | ((with_reducible refine gate_dst (N := 3) rfl ?_); refine box_event ?hg (N := 3) ?hd (cs := #[.int .i64 a1_0, .int .i64 a1_1, .int .i64 a1_2, .int .i64 a1_3, .int .i64 a1_4, .int .i64 a1_5, .int .i64 a1_6, .int .i64 a1_7, .int .i64 a1_8, .int .i64 a1_9, .int .i64 a1_10, .bool a1_11, .bool a1_12]) (t := 25) ?hr ?_; (case hd => rfl); (case hg => rfl); (case hr => first | (go_simp; done) | (go_simp; rfl)); intro gb763 hg w16 hbox hb; have n0_ := Aside0.mk Z27_3; have n1_ := Aside0.mk Z27_7; have n2_ := Aside0.mk (hbox); have n3_ := Aside0.mk Z27_4; have n4_ := Aside0.mk Z27_4; have n5_ := Aside0.mk Z27_1; have n6_ := Aside0.mk Z27_2; clear BK762; clear HB; have BK762 := n0_; have HB := n1_; have BK763 := n2_; have GW763 := n3_; have GE763 := n4_; have NB762_763 := n5_; have NB763_762 := n6_; clear n0_ n1_ n2_ n3_ n4_ n5_ n6_; clear hb hbox hg; have hnb17 := NB762_763.out; have hnc17 := NB763_762.out; obtain ⟨⟨hcz18_0, hcz18_1, hcz18_2, hcz18_3, hcz18_4, hcz18_5, hcz18_6, hcz18_7, hcz18_8, hcz18_9, hcz18_10, hcz18_11, hcz18_12⟩, hfz18_0, hfz18_1, hfz18_2, hfz18_3, hfz18_4, hfz18_5, hfz18_6, hfz18_7, hfz18_8, hfz18_9, hfz18_10, hfz18_11, hfz18_12⟩ := C27_13 BK762.out; obtain ⟨⟨hcz19_0, hcz19_1, hcz19_2, hcz19_3, hcz19_4, hcz19_5, hcz19_6, hcz19_7, hcz19_8, hcz19_9, hcz19_10, hcz19_11, hcz19_12⟩, hfz19_0, hfz19_1, hfz19_2, hfz19_3, hfz19_4, hfz19_5, hfz19_6, hfz19_7, hfz19_8, hfz19_9, hfz19_10, hfz19_11, hfz19_12⟩ := C27_13 BK763.out))
    go_ret
    exact ⟨Z27_8, Z27_5⟩
  rw [if_pos c5] at H
  have c5b0 : (a0_2 == a1_2) = true := beq_iff_eq.mpr c5
  have c5b1 : (a0_2 != a1_2) = false := bne_eq_false_iff_eq.mpr c5
  clear c5
  by_cases c6 : a0_3 = a1_3
  rotate_left
  · rw [if_neg c6] at H
    have c6b0 : (a0_3 == a1_3) = false := beq_eq_false_iff_ne.mpr c6
    have c6b1 : (a0_3 != a1_3) = true := bne_iff_ne.mpr c6
    obtain rfl := Option.some.inj H
    go_wp2_with (first | ((with_reducible refine gate_dst (N := 3) rfl ?_); refine box_event ?hg (N := 3) ?hd (cs := #[.int .i64 a1_0, .int .i64 a1_1, .int .i64 a1_2, .int .i64 a1_3, .int .i64 a1_4, .int .i64 a1_5, .int .i64 a1_6, .int .i64 a1_7, .int .i64 a1_8, .int .i64 a1_9, .int .i64 a1_10, .bool a1_11, .bool a1_12]) (t := 25) ?hr ?_; (case hd => rfl); (case hg => rfl); (case hr => first | (go_simp; done) | (go_simp; rfl)); intro gb763 hg w16 hbox hb; have n0_ := Aside0.mk Z27_3; have n1_ := Aside0.mk Z27_7; have n2_ := Aside0.mk (hbox); have n3_ := Aside0.mk Z27_4; have n4_ := Aside0.mk Z27_4; have n5_ := Aside0.mk Z27_1; have n6_ := Aside0.mk Z27_2; clear BK762; clear HB; have BK762 := n0_; have HB := n1_; have BK763 := n2_; have GW763 := n3_; have GE763 := n4_; have NB762_763 := n5_; have NB763_762 := n6_; clear n0_ n1_ n2_ n3_ n4_ n5_ n6_; clear hb hbox hg; have hnb17 := NB762_763.out; have hnc17 := NB763_762.out; obtain ⟨⟨hcz18_0, hcz18_1, hcz18_2, hcz18_3, hcz18_4, hcz18_5, hcz18_6, hcz18_7, hcz18_8, hcz18_9, hcz18_10, hcz18_11, hcz18_12⟩, hfz18_0, hfz18_1, hfz18_2, hfz18_3, hfz18_4, hfz18_5, hfz18_6, hfz18_7, hfz18_8, hfz18_9, hfz18_10, hfz18_11, hfz18_12⟩ := C27_13 BK762.out; obtain ⟨⟨hcz19_0, hcz19_1, hcz19_2, hcz19_3, hcz19_4, hcz19_5, hcz19_6, hcz19_7, hcz19_8, hcz19_9, hcz19_10, hcz19_11, hcz19_12⟩, hfz19_0, hfz19_1, hfz19_2, hfz19_3, hfz19_4, hfz19_5, hfz19_6, hfz19_7, hfz19_8, hfz19_9, hfz19_10, hfz19_11, hfz19_12⟩ := C27_13 BK763.out))
    go_ret
    exact ⟨Z27_8, Z27_5⟩
  rw [if_pos c6] at H
  have c6b0 : (a0_3 == a1_3) = true := beq_iff_eq.mpr c6
  have c6b1 : (a0_3 != a1_3) = false := bne_eq_false_iff_eq.mpr c6
  clear c6
  by_cases c7 : a0_4 = a1_4
  rotate_left
  · rw [if_neg c7] at H
    have c7b0 : (a0_4 == a1_4) = false := beq_eq_false_iff_ne.mpr c7
    have c7b1 : (a0_4 != a1_4) = true := bne_iff_ne.mpr c7
    obtain rfl := Option.some.inj H
    go_wp2_with (first | ((with_reducible refine gate_dst (N := 3) rfl ?_); refine box_event ?hg (N := 3) ?hd (cs := #[.int .i64 a1_0, .int .i64 a1_1, .int .i64 a1_2, .int .i64 a1_3, .int .i64 a1_4, .int .i64 a1_5, .int .i64 a1_6, .int .i64 a1_7, .int .i64 a1_8, .int .i64 a1_9, .int .i64 a1_10, .bool a1_11, .bool a1_12]) (t := 25) ?hr ?_; (case hd => rfl); (case hg => rfl); (case hr => first | (go_simp; done) | (go_simp; rfl)); intro gb763 hg w16 hbox hb; have n0_ := Aside0.mk Z27_3; have n1_ := Aside0.mk Z27_7; have n2_ := Aside0.mk (hbox); have n3_ := Aside0.mk Z27_4; have n4_ := Aside0.mk Z27_4; have n5_ := Aside0.mk Z27_1; have n6_ := Aside0.mk Z27_2; clear BK762; clear HB; have BK762 := n0_; have HB := n1_; have BK763 := n2_; have GW763 := n3_; have GE763 := n4_; have NB762_763 := n5_; have NB763_762 := n6_; clear n0_ n1_ n2_ n3_ n4_ n5_ n6_; clear hb hbox hg; have hnb17 := NB762_763.out; have hnc17 := NB763_762.out; obtain ⟨⟨hcz18_0, hcz18_1, hcz18_2, hcz18_3, hcz18_4, hcz18_5, hcz18_6, hcz18_7, hcz18_8, hcz18_9, hcz18_10, hcz18_11, hcz18_12⟩, hfz18_0, hfz18_1, hfz18_2, hfz18_3, hfz18_4, hfz18_5, hfz18_6, hfz18_7, hfz18_8, hfz18_9, hfz18_10, hfz18_11, hfz18_12⟩ := C27_13 BK762.out; obtain ⟨⟨hcz19_0, hcz19_1, hcz19_2, hcz19_3, hcz19_4, hcz19_5, hcz19_6, hcz19_7, hcz19_8, hcz19_9, hcz19_10, hcz19_11, hcz19_12⟩, hfz19_0, hfz19_1, hfz19_2, hfz19_3, hfz19_4, hfz19_5, hfz19_6, hfz19_7, hfz19_8, hfz19_9, hfz19_10, hfz19_11, hfz19_12⟩ := C27_13 BK763.out))
    go_ret
    exact ⟨Z27_8, Z27_5⟩
  rw [if_pos c7] at H
  have c7b0 : (a0_4 == a1_4) = true := beq_iff_eq.mpr c7
  have c7b1 : (a0_4 != a1_4) = false := bne_eq_false_iff_eq.mpr c7
  clear c7
  by_cases c8 : a0_5 = a1_5
  rotate_left
  · rw [if_neg c8] at H
    have c8b0 : (a0_5 == a1_5) = false := beq_eq_false_iff_ne.mpr c8
    have c8b1 : (a0_5 != a1_5) = true := bne_iff_ne.mpr c8
    obtain rfl := Option.some.inj H
    go_wp2_with (first | ((with_reducible refine gate_dst (N := 3) rfl ?_); refine box_event ?hg (N := 3) ?hd (cs := #[.int .i64 a1_0, .int .i64 a1_1, .int .i64 a1_2, .int .i64 a1_3, .int .i64 a1_4, .int .i64 a1_5, .int .i64 a1_6, .int .i64 a1_7, .int .i64 a1_8, .int .i64 a1_9, .int .i64 a1_10, .bool a1_11, .bool a1_12]) (t := 25) ?hr ?_; (case hd => rfl); (case hg => rfl); (case hr => first | (go_simp; done) | (go_simp; rfl)); intro gb763 hg w16 hbox hb; have n0_ := Aside0.mk Z27_3; have n1_ := Aside0.mk Z27_7; have n2_ := Aside0.mk (hbox); have n3_ := Aside0.mk Z27_4; have n4_ := Aside0.mk Z27_4; have n5_ := Aside0.mk Z27_1; have n6_ := Aside0.mk Z27_2; clear BK762; clear HB; have BK762 := n0_; have HB := n1_; have BK763 := n2_; have GW763 := n3_; have GE763 := n4_; have NB762_763 := n5_; have NB763_762 := n6_; clear n0_ n1_ n2_ n3_ n4_ n5_ n6_; clear hb hbox hg; have hnb17 := NB762_763.out; have hnc17 := NB763_762.out; obtain ⟨⟨hcz18_0, hcz18_1, hcz18_2, hcz18_3, hcz18_4, hcz18_5, hcz18_6, hcz18_7, hcz18_8, hcz18_9, hcz18_10, hcz18_11, hcz18_12⟩, hfz18_0, hfz18_1, hfz18_2, hfz18_3, hfz18_4, hfz18_5, hfz18_6, hfz18_7, hfz18_8, hfz18_9, hfz18_10, hfz18_11, hfz18_12⟩ := C27_13 BK762.out; obtain ⟨⟨hcz19_0, hcz19_1, hcz19_2, hcz19_3, hcz19_4, hcz19_5, hcz19_6, hcz19_7, hcz19_8, hcz19_9, hcz19_10, hcz19_11, hcz19_12⟩, hfz19_0, hfz19_1, hfz19_2, hfz19_3, hfz19_4, hfz19_5, hfz19_6, hfz19_7, hfz19_8, hfz19_9, hfz19_10, hfz19_11, hfz19_12⟩ := C27_13 BK763.out))
    go_ret
    exact ⟨Z27_8, Z27_5⟩
  rw [if_pos c8] at H
  have c8b0 : (a0_5 == a1_5) = true := beq_iff_eq.mpr c8
  have c8b1 : (a0_5 != a1_5) = false := bne_eq_false_iff_eq.mpr c8
  clear c8
  by_cases c9 : a0_6 = a1_6
  rotate_left
  · rw [if_neg c9] at H
    have c9b0 : (a0_6 == a1_6) = false := beq_eq_false_iff_ne.mpr c9
    have c9b1 : (a0_6 != a1_6) = true := bne_iff_ne.mpr c9
    obtain rfl := Option.some.inj H
    go_wp2_with (first | ((with_reducible refine gate_dst (N := 3) rfl ?_); refine box_event ?hg (N := 3) ?hd (cs := #[.int .i64 a1_0, .int .i64 a1_1, .int .i64 a1_2, .int .i64 a1_3, .int .i64 a1_4, .int .i64 a1_5, .int .i64 a1_6, .int .i64 a1_7, .int .i64 a1_8, .int .i64 a1_9, .int .i64 a1_10, .bool a1_11, .bool a1_12]) (t := 25) ?hr ?_; (case hd => rfl); (case hg => rfl); (case hr => first | (go_simp; done) | (go_simp; rfl)); intro gb763 hg w16 hbox hb; have n0_ := Aside0.mk Z27_3; have n1_ := Aside0.mk Z27_7; have n2_ := Aside0.mk (hbox); have n3_ := Aside0.mk Z27_4; have n4_ := Aside0.mk Z27_4; have n5_ := Aside0.mk Z27_1; have n6_ := Aside0.mk Z27_2; clear BK762; clear HB; have BK762 := n0_; have HB := n1_; have BK763 := n2_; have GW763 := n3_; have GE763 := n4_; have NB762_763 := n5_; have NB763_762 := n6_; clear n0_ n1_ n2_ n3_ n4_ n5_ n6_; clear hb hbox hg; have hnb17 := NB762_763.out; have hnc17 := NB763_762.out; obtain ⟨⟨hcz18_0, hcz18_1, hcz18_2, hcz18_3, hcz18_4, hcz18_5, hcz18_6, hcz18_7, hcz18_8, hcz18_9, hcz18_10, hcz18_11, hcz18_12⟩, hfz18_0, hfz18_1, hfz18_2, hfz18_3, hfz18_4, hfz18_5, hfz18_6, hfz18_7, hfz18_8, hfz18_9, hfz18_10, hfz18_11, hfz18_12⟩ := C27_13 BK762.out; obtain ⟨⟨hcz19_0, hcz19_1, hcz19_2, hcz19_3, hcz19_4, hcz19_5, hcz19_6, hcz19_7, hcz19_8, hcz19_9, hcz19_10, hcz19_11, hcz19_12⟩, hfz19_0, hfz19_1, hfz19_2, hfz19_3, hfz19_4, hfz19_5, hfz19_6, hfz19_7, hfz19_8, hfz19_9, hfz19_10, hfz19_11, hfz19_12⟩ := C27_13 BK763.out))
    go_ret
    exact ⟨Z27_8, Z27_5⟩
  rw [if_pos c9] at H
  have c9b0 : (a0_6 == a1_6) = true := beq_iff_eq.mpr c9
  have c9b1 : (a0_6 != a1_6) = false := bne_eq_false_iff_eq.mpr c9
  clear c9
  by_cases c10 : a0_7 = a1_7
  rotate_left
  · rw [if_neg c10] at H
    have c10b0 : (a0_7 == a1_7) = false := beq_eq_false_iff_ne.mpr c10
    have c10b1 : (a0_7 != a1_7) = true := bne_iff_ne.mpr c10
    obtain rfl := Option.some.inj H
    go_wp2_with (first | ((with_reducible refine gate_dst (N := 3) rfl ?_); refine box_event ?hg (N := 3) ?hd (cs := #[.int .i64 a1_0, .int .i64 a1_1, .int .i64 a1_2, .int .i64 a1_3, .int .i64 a1_4, .int .i64 a1_5, .int .i64 a1_6, .int .i64 a1_7, .int .i64 a1_8, .int .i64 a1_9, .int .i64 a1_10, .bool a1_11, .bool a1_12]) (t := 25) ?hr ?_; (case hd => rfl); (case hg => rfl); (case hr => first | (go_simp; done) | (go_simp; rfl)); intro gb763 hg w16 hbox hb; have n0_ := Aside0.mk Z27_3; have n1_ := Aside0.mk Z27_7; have n2_ := Aside0.mk (hbox); have n3_ := Aside0.mk Z27_4; have n4_ := Aside0.mk Z27_4; have n5_ := Aside0.mk Z27_1; have n6_ := Aside0.mk Z27_2; clear BK762; clear HB; have BK762 := n0_; have HB := n1_; have BK763 := n2_; have GW763 := n3_; have GE763 := n4_; have NB762_763 := n5_; have NB763_762 := n6_; clear n0_ n1_ n2_ n3_ n4_ n5_ n6_; clear hb hbox hg; have hnb17 := NB762_763.out; have hnc17 := NB763_762.out; obtain ⟨⟨hcz18_0, hcz18_1, hcz18_2, hcz18_3, hcz18_4, hcz18_5, hcz18_6, hcz18_7, hcz18_8, hcz18_9, hcz18_10, hcz18_11, hcz18_12⟩, hfz18_0, hfz18_1, hfz18_2, hfz18_3, hfz18_4, hfz18_5, hfz18_6, hfz18_7, hfz18_8, hfz18_9, hfz18_10, hfz18_11, hfz18_12⟩ := C27_13 BK762.out; obtain ⟨⟨hcz19_0, hcz19_1, hcz19_2, hcz19_3, hcz19_4, hcz19_5, hcz19_6, hcz19_7, hcz19_8, hcz19_9, hcz19_10, hcz19_11, hcz19_12⟩, hfz19_0, hfz19_1, hfz19_2, hfz19_3, hfz19_4, hfz19_5, hfz19_6, hfz19_7, hfz19_8, hfz19_9, hfz19_10, hfz19_11, hfz19_12⟩ := C27_13 BK763.out))
    go_ret
    exact ⟨Z27_8, Z27_5⟩
  rw [if_pos c10] at H
  have c10b0 : (a0_7 == a1_7) = true := beq_iff_eq.mpr c10
  have c10b1 : (a0_7 != a1_7) = false := bne_eq_false_iff_eq.mpr c10
  clear c10
  by_cases c11 : a0_8 = a1_8
  rotate_left
  · rw [if_neg c11] at H
    have c11b0 : (a0_8 == a1_8) = false := beq_eq_false_iff_ne.mpr c11
    have c11b1 : (a0_8 != a1_8) = true := bne_iff_ne.mpr c11
    obtain rfl := Option.some.inj H
    go_wp2_with (first | ((with_reducible refine gate_dst (N := 3) rfl ?_); refine box_event ?hg (N := 3) ?hd (cs := #[.int .i64 a1_0, .int .i64 a1_1, .int .i64 a1_2, .int .i64 a1_3, .int .i64 a1_4, .int .i64 a1_5, .int .i64 a1_6, .int .i64 a1_7, .int .i64 a1_8, .int .i64 a1_9, .int .i64 a1_10, .bool a1_11, .bool a1_12]) (t := 25) ?hr ?_; (case hd => rfl); (case hg => rfl); (case hr => first | (go_simp; done) | (go_simp; rfl)); intro gb763 hg w16 hbox hb; have n0_ := Aside0.mk Z27_3; have n1_ := Aside0.mk Z27_7; have n2_ := Aside0.mk (hbox); have n3_ := Aside0.mk Z27_4; have n4_ := Aside0.mk Z27_4; have n5_ := Aside0.mk Z27_1; have n6_ := Aside0.mk Z27_2; clear BK762; clear HB; have BK762 := n0_; have HB := n1_; have BK763 := n2_; have GW763 := n3_; have GE763 := n4_; have NB762_763 := n5_; have NB763_762 := n6_; clear n0_ n1_ n2_ n3_ n4_ n5_ n6_; clear hb hbox hg; have hnb17 := NB762_763.out; have hnc17 := NB763_762.out; obtain ⟨⟨hcz18_0, hcz18_1, hcz18_2, hcz18_3, hcz18_4, hcz18_5, hcz18_6, hcz18_7, hcz18_8, hcz18_9, hcz18_10, hcz18_11, hcz18_12⟩, hfz18_0, hfz18_1, hfz18_2, hfz18_3, hfz18_4, hfz18_5, hfz18_6, hfz18_7, hfz18_8, hfz18_9, hfz18_10, hfz18_11, hfz18_12⟩ := C27_13 BK762.out; obtain ⟨⟨hcz19_0, hcz19_1, hcz19_2, hcz19_3, hcz19_4, hcz19_5, hcz19_6, hcz19_7, hcz19_8, hcz19_9, hcz19_10, hcz19_11, hcz19_12⟩, hfz19_0, hfz19_1, hfz19_2, hfz19_3, hfz19_4, hfz19_5, hfz19_6, hfz19_7, hfz19_8, hfz19_9, hfz19_10, hfz19_11, hfz19_12⟩ := C27_13 BK763.out))
    go_ret
    exact ⟨Z27_8, Z27_5⟩
  rw [if_pos c11] at H
  have c11b0 : (a0_8 == a1_8) = true := beq_iff_eq.mpr c11
  have c11b1 : (a0_8 != a1_8) = false := bne_eq_false_iff_eq.mpr c11
  clear c11
  by_cases c12 : a0_9 = a1_9
  rotate_left
  · rw [if_neg c12] at H
    have c12b0 : (a0_9 == a1_9) = false := beq_eq_false_iff_ne.mpr c12
    have c12b1 : (a0_9 != a1_9) = true := bne_iff_ne.mpr c12
    obtain rfl := Option.some.inj H
    go_wp2_with (first | ((with_reducible refine gate_dst (N := 3) rfl ?_); refine box_event ?hg (N := 3) ?hd (cs := #[.int .i64 a1_0, .int .i64 a1_1, .int .i64 a1_2, .int .i64 a1_3, .int .i64 a1_4, .int .i64 a1_5, .int .i64 a1_6, .int .i64 a1_7, .int .i64 a1_8, .int .i64 a1_9, .int .i64 a1_10, .bool a1_11, .bool a1_12]) (t := 25) ?hr ?_; (case hd => rfl); (case hg => rfl); (case hr => first | (go_simp; done) | (go_simp; rfl)); intro gb763 hg w16 hbox hb; have n0_ := Aside0.mk Z27_3; have n1_ := Aside0.mk Z27_7; have n2_ := Aside0.mk (hbox); have n3_ := Aside0.mk Z27_4; have n4_ := Aside0.mk Z27_4; have n5_ := Aside0.mk Z27_1; have n6_ := Aside0.mk Z27_2; clear BK762; clear HB; have BK762 := n0_; have HB := n1_; have BK763 := n2_; have GW763 := n3_; have GE763 := n4_; have NB762_763 := n5_; have NB763_762 := n6_; clear n0_ n1_ n2_ n3_ n4_ n5_ n6_; clear hb hbox hg; have hnb17 := NB762_763.out; have hnc17 := NB763_762.out; obtain ⟨⟨hcz18_0, hcz18_1, hcz18_2, hcz18_3, hcz18_4, hcz18_5, hcz18_6, hcz18_7, hcz18_8, hcz18_9, hcz18_10, hcz18_11, hcz18_12⟩, hfz18_0, hfz18_1, hfz18_2, hfz18_3, hfz18_4, hfz18_5, hfz18_6, hfz18_7, hfz18_8, hfz18_9, hfz18_10, hfz18_11, hfz18_12⟩ := C27_13 BK762.out; obtain ⟨⟨hcz19_0, hcz19_1, hcz19_2, hcz19_3, hcz19_4, hcz19_5, hcz19_6, hcz19_7, hcz19_8, hcz19_9, hcz19_10, hcz19_11, hcz19_12⟩, hfz19_0, hfz19_1, hfz19_2, hfz19_3, hfz19_4, hfz19_5, hfz19_6, hfz19_7, hfz19_8, hfz19_9, hfz19_10, hfz19_11, hfz19_12⟩ := C27_13 BK763.out))
    go_ret
    exact ⟨Z27_8, Z27_5⟩
  rw [if_pos c12] at H
  have c12b0 : (a0_9 == a1_9) = true := beq_iff_eq.mpr c12
  have c12b1 : (a0_9 != a1_9) = false := bne_eq_false_iff_eq.mpr c12
  clear c12
  by_cases c13 : a0_10 = a1_10
  rotate_left
  · rw [if_neg c13] at H
    have c13b0 : (a0_10 == a1_10) = false := beq_eq_false_iff_ne.mpr c13
    have c13b1 : (a0_10 != a1_10) = true := bne_iff_ne.mpr c13
    obtain rfl := Option.some.inj H
    go_wp2_with (first | ((with_reducible refine gate_dst (N := 3) rfl ?_); refine box_event ?hg (N := 3) ?hd (cs := #[.int .i64 a1_0, .int .i64 a1_1, .int .i64 a1_2, .int .i64 a1_3, .int .i64 a1_4, .int .i64 a1_5, .int .i64 a1_6, .int .i64 a1_7, .int .i64 a1_8, .int .i64 a1_9, .int .i64 a1_10, .bool a1_11, .bool a1_12]) (t := 25) ?hr ?_; (case hd => rfl); (case hg => rfl); (case hr => first | (go_simp; done) | (go_simp; rfl)); intro gb763 hg w16 hbox hb; have n0_ := Aside0.mk Z27_3; have n1_ := Aside0.mk Z27_7; have n2_ := Aside0.mk (hbox); have n3_ := Aside0.mk Z27_4; have n4_ := Aside0.mk Z27_4; have n5_ := Aside0.mk Z27_1; have n6_ := Aside0.mk Z27_2; clear BK762; clear HB; have BK762 := n0_; have HB := n1_; have BK763 := n2_; have GW763 := n3_; have GE763 := n4_; have NB762_763 := n5_; have NB763_762 := n6_; clear n0_ n1_ n2_ n3_ n4_ n5_ n6_; clear hb hbox hg; have hnb17 := NB762_763.out; have hnc17 := NB763_762.out; obtain ⟨⟨hcz18_0, hcz18_1, hcz18_2, hcz18_3, hcz18_4, hcz18_5, hcz18_6, hcz18_7, hcz18_8, hcz18_9, hcz18_10, hcz18_11, hcz18_12⟩, hfz18_0, hfz18_1, hfz18_2, hfz18_3, hfz18_4, hfz18_5, hfz18_6, hfz18_7, hfz18_8, hfz18_9, hfz18_10, hfz18_11, hfz18_12⟩ := C27_13 BK762.out; obtain ⟨⟨hcz19_0, hcz19_1, hcz19_2, hcz19_3, hcz19_4, hcz19_5, hcz19_6, hcz19_7, hcz19_8, hcz19_9, hcz19_10, hcz19_11, hcz19_12⟩, hfz19_0, hfz19_1, hfz19_2, hfz19_3, hfz19_4, hfz19_5, hfz19_6, hfz19_7, hfz19_8, hfz19_9, hfz19_10, hfz19_11, hfz19_12⟩ := C27_13 BK763.out))
    go_ret
    exact ⟨Z27_8, Z27_5⟩
  rw [if_pos c13] at H
  have c13b0 : (a0_10 == a1_10) = true := beq_iff_eq.mpr c13
  have c13b1 : (a0_10 != a1_10) = false := bne_eq_false_iff_eq.mpr c13
  clear c13
  by_cases c14 : (a0_11 != a1_11) = true
  · rw [if_pos c14] at H
    have c14b0 : (a0_11 != a1_11) = true := c14
    (try (have c14b1 : decide (a0_11 = a1_11) = false := by simpa using c14))
    (try (have c14b2 : (a0_11 == a1_11) = false := by simpa using c14))
    (try (have c14b3 : ¬ (a0_11 = a1_11) := by simpa using c14))
    clear c14
    obtain rfl := Option.some.inj H
    go_wp2_with (first | ((with_reducible refine gate_dst (N := 3) rfl ?_); refine box_event ?hg (N := 3) ?hd (cs := #[.int .i64 a1_0, .int .i64 a1_1, .int .i64 a1_2, .int .i64 a1_3, .int .i64 a1_4, .int .i64 a1_5, .int .i64 a1_6, .int .i64 a1_7, .int .i64 a1_8, .int .i64 a1_9, .int .i64 a1_10, .bool a1_11, .bool a1_12]) (t := 25) ?hr ?_; (case hd => rfl); (case hg => rfl); (case hr => first | (go_simp; done) | (go_simp; rfl)); intro gb763 hg w16 hbox hb; have n0_ := Aside0.mk Z27_3; have n1_ := Aside0.mk Z27_7; have n2_ := Aside0.mk (hbox); have n3_ := Aside0.mk Z27_4; have n4_ := Aside0.mk Z27_4; have n5_ := Aside0.mk Z27_1; have n6_ := Aside0.mk Z27_2; clear BK762; clear HB; have BK762 := n0_; have HB := n1_; have BK763 := n2_; have GW763 := n3_; have GE763 := n4_; have NB762_763 := n5_; have NB763_762 := n6_; clear n0_ n1_ n2_ n3_ n4_ n5_ n6_; clear hb hbox hg; have hnb17 := NB762_763.out; have hnc17 := NB763_762.out; obtain ⟨⟨hcz18_0, hcz18_1, hcz18_2, hcz18_3, hcz18_4, hcz18_5, hcz18_6, hcz18_7, hcz18_8, hcz18_9, hcz18_10, hcz18_11, hcz18_12⟩, hfz18_0, hfz18_1, hfz18_2, hfz18_3, hfz18_4, hfz18_5, hfz18_6, hfz18_7, hfz18_8, hfz18_9, hfz18_10, hfz18_11, hfz18_12⟩ := C27_13 BK762.out; obtain ⟨⟨hcz19_0, hcz19_1, hcz19_2, hcz19_3, hcz19_4, hcz19_5, hcz19_6, hcz19_7, hcz19_8, hcz19_9, hcz19_10, hcz19_11, hcz19_12⟩, hfz19_0, hfz19_1, hfz19_2, hfz19_3, hfz19_4, hfz19_5, hfz19_6, hfz19_7, hfz19_8, hfz19_9, hfz19_10, hfz19_11, hfz19_12⟩ := C27_13 BK763.out))
    go_ret
    exact ⟨Z27_8, Z27_5⟩
  rw [if_neg c14] at H
  have c14b0 : (a0_11 != a1_11) = false := by simpa using c14
  (try (have c14b1 : decide (a0_11 = a1_11) = true := by simpa using c14))
  (try (have c14b2 : (a0_11 == a1_11) = true := by simpa using c14))
  clear c14
  by_cases c20 : (a0_12 != a1_12) = true
  rotate_left
  · rw [if_neg c20] at H
    have c20b0 : (a0_12 != a1_12) = false := by simpa using c20
    (try (have c20b1 : decide (a0_12 = a1_12) = true := by simpa using c20))
    (try (have c20b2 : (a0_12 == a1_12) = true := by simpa using c20))
    clear c20
    obtain rfl := Option.some.inj H
    go_wp2_with (first | ((with_reducible refine gate_dst (N := 3) rfl ?_); refine box_event ?hg (N := 3) ?hd (cs := #[.int .i64 a1_0, .int .i64 a1_1, .int .i64 a1_2, .int .i64 a1_3, .int .i64 a1_4, .int .i64 a1_5, .int .i64 a1_6, .int .i64 a1_7, .int .i64 a1_8, .int .i64 a1_9, .int .i64 a1_10, .bool a1_11, .bool a1_12]) (t := 25) ?hr ?_; (case hd => rfl); (case hg => rfl); (case hr => first | (go_simp; done) | (go_simp; rfl)); intro gb763 hg w16 hbox hb; have n0_ := Aside0.mk Z27_3; have n1_ := Aside0.mk Z27_7; have n2_ := Aside0.mk (hbox); have n3_ := Aside0.mk Z27_4; have n4_ := Aside0.mk Z27_4; have n5_ := Aside0.mk Z27_1; have n6_ := Aside0.mk Z27_2; clear BK762; clear HB; have BK762 := n0_; have HB := n1_; have BK763 := n2_; have GW763 := n3_; have GE763 := n4_; have NB762_763 := n5_; have NB763_762 := n6_; clear n0_ n1_ n2_ n3_ n4_ n5_ n6_; clear hb hbox hg; have hnb17 := NB762_763.out; have hnc17 := NB763_762.out; obtain ⟨⟨hcz18_0, hcz18_1, hcz18_2, hcz18_3, hcz18_4, hcz18_5, hcz18_6, hcz18_7, hcz18_8, hcz18_9, hcz18_10, hcz18_11, hcz18_12⟩, hfz18_0, hfz18_1, hfz18_2, hfz18_3, hfz18_4, hfz18_5, hfz18_6, hfz18_7, hfz18_8, hfz18_9, hfz18_10, hfz18_11, hfz18_12⟩ := C27_13 BK762.out; obtain ⟨⟨hcz19_0, hcz19_1, hcz19_2, hcz19_3, hcz19_4, hcz19_5, hcz19_6, hcz19_7, hcz19_8, hcz19_9, hcz19_10, hcz19_11, hcz19_12⟩, hfz19_0, hfz19_1, hfz19_2, hfz19_3, hfz19_4, hfz19_5, hfz19_6, hfz19_7, hfz19_8, hfz19_9, hfz19_10, hfz19_11, hfz19_12⟩ := C27_13 BK763.out))
    go_ret
    exact ⟨Z27_8, Z27_5⟩
  rw [if_pos c20] at H
  have c20b0 : (a0_12 != a1_12) = true := c20
  (try (have c20b1 : decide (a0_12 = a1_12) = false := by simpa using c20))
  (try (have c20b2 : (a0_12 == a1_12) = false := by simpa using c20))
  (try (have c20b3 : ¬ (a0_12 = a1_12) := by simpa using c20))
  clear c20
  obtain rfl := Option.some.inj H
  go_wp2_with (first | ((with_reducible refine gate_dst (N := 3) rfl ?_); refine box_event ?hg (N := 3) ?hd (cs := #[.int .i64 a1_0, .int .i64 a1_1, .int .i64 a1_2, .int .i64 a1_3, .int .i64 a1_4, .int .i64 a1_5, .int .i64 a1_6, .int .i64 a1_7, .int .i64 a1_8, .int .i64 a1_9, .int .i64 a1_10, .bool a1_11, .bool a1_12]) (t := 25) ?hr ?_; (case hd => rfl); (case hg => rfl); (case hr => first | (go_simp; done) | (go_simp; rfl)); intro gb763 hg w16 hbox hb; have n0_ := Aside0.mk Z27_3; have n1_ := Aside0.mk Z27_7; have n2_ := Aside0.mk (hbox); have n3_ := Aside0.mk Z27_4; have n4_ := Aside0.mk Z27_4; have n5_ := Aside0.mk Z27_1; have n6_ := Aside0.mk Z27_2; clear BK762; clear HB; have BK762 := n0_; have HB := n1_; have BK763 := n2_; have GW763 := n3_; have GE763 := n4_; have NB762_763 := n5_; have NB763_762 := n6_; clear n0_ n1_ n2_ n3_ n4_ n5_ n6_; clear hb hbox hg; have hnb17 := NB762_763.out; have hnc17 := NB763_762.out; obtain ⟨⟨hcz18_0, hcz18_1, hcz18_2, hcz18_3, hcz18_4, hcz18_5, hcz18_6, hcz18_7, hcz18_8, hcz18_9, hcz18_10, hcz18_11, hcz18_12⟩, hfz18_0, hfz18_1, hfz18_2, hfz18_3, hfz18_4, hfz18_5, hfz18_6, hfz18_7, hfz18_8, hfz18_9, hfz18_10, hfz18_11, hfz18_12⟩ := C27_13 BK762.out; obtain ⟨⟨hcz19_0, hcz19_1, hcz19_2, hcz19_3, hcz19_4, hcz19_5, hcz19_6, hcz19_7, hcz19_8, hcz19_9, hcz19_10, hcz19_11, hcz19_12⟩, hfz19_0, hfz19_1, hfz19_2, hfz19_3, hfz19_4, hfz19_5, hfz19_6, hfz19_7, hfz19_8, hfz19_9, hfz19_10, hfz19_11, hfz19_12⟩ := C27_13 BK763.out))
  go_ret
  exact ⟨Z27_8, Z27_5⟩



end Go.Proofs.Ytfkidiagmekleaa.QAll
