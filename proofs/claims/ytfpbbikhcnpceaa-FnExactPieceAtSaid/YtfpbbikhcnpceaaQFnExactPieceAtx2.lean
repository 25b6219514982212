-- Written by a program of this session (patch_print.py over the print).
import Derived.Test.YtfpbbikhcnpceaaQFnExactPieceAtx0
namespace Go.Proofs.Ytfpbbikhcnpceaa.QFnExactPieceAt
open Go.RowKit Go.Proofs.YtfpbbikhcnpceaaW.PrintWords Go.Proofs.YtfpbbikhcnpceaaW.PrintLast Go.Proofs.YtfpbbikhcnpceaaW.PrintMore
attribute [local go_sem] max2_int min2_int max_two min_two max_three min_three max_four min_four   -- for this text's walks alone
set_option linter.unusedVariables false
set_option linter.unusedSimpArgs false

def M2_10 (k : Nat) : Array Bool := ((List.range 10).map fun j => k.testBit j).toArray
theorem Z2_1 {p : Prop} (h : p := by exact ((by rw [hg]; exact Nat.ne_of_lt (blk_lt (g := gb147) (o := .cells #[.int .i64 a0_0, .int .i64 a0_1, .int .i64 a0_2, .int .i64 a0_3, .int .i64 a0_4, .int .i64 a0_5, .int .i64 a0_6, .int .i64 a0_7, .int .i64 a0_8, .int .i64 a0_9, .int .i64 a0_10, .bool a0_11, .bool a0_12] 54 (0, 0)) (by (with_reducible repeat (first | refine blk_drewN ?_ _ | refine blk_drew ?_ | refine blk_alloc ?_ _)); exact BK147.out)) : gb147 ≠ gb148))) : p := h
theorem Z2_2 {p : Prop} (h : p := by exact ((by rw [hg]; exact Nat.ne_of_gt (blk_lt (g := gb147) (o := .cells #[.int .i64 a0_0, .int .i64 a0_1, .int .i64 a0_2, .int .i64 a0_3, .int .i64 a0_4, .int .i64 a0_5, .int .i64 a0_6, .int .i64 a0_7, .int .i64 a0_8, .int .i64 a0_9, .int .i64 a0_10, .bool a0_11, .bool a0_12] 54 (0, 0)) (by (with_reducible repeat (first | refine blk_drewN ?_ _ | refine blk_drew ?_ | refine blk_alloc ?_ _)); exact BK147.out)) : gb148 ≠ gb147))) : p := h
theorem Z2_3 {p : Prop} (h : p := by exact (blk_below (g := gb147) (o := .cells #[.int .i64 a0_0, .int .i64 a0_1, .int .i64 a0_2, .int .i64 a0_3, .int .i64 a0_4, .int .i64 a0_5, .int .i64 a0_6, .int .i64 a0_7, .int .i64 a0_8, .int .i64 a0_9, .int .i64 a0_10, .bool a0_11, .bool a0_12] 54 (0, 0)) (by (with_reducible repeat (first | refine blk_drewN ?_ _ | refine blk_drew ?_ | refine blk_alloc ?_ _)); exact BK147.out) hb)) : p := h
theorem Z2_4 {p : Prop} (h : p := by exact ((by rw [hg]; exact Nat.ne_of_lt (blk_lt (g := gb152) (o := .cells #[.int .i64 a0_0, .int .i64 a0_1, .bool a0_2] 118 (0, 0)) (by (with_reducible repeat (first | refine blk_drewN ?_ _ | refine blk_drew ?_ | refine blk_alloc ?_ _)); exact BK152.out)) : gb152 ≠ gb153))) : p := h
theorem Z2_5 {p : Prop} (h : p := by exact ((by rw [hg]; exact Nat.ne_of_gt (blk_lt (g := gb152) (o := .cells #[.int .i64 a0_0, .int .i64 a0_1, .bool a0_2] 118 (0, 0)) (by (with_reducible repeat (first | refine blk_drewN ?_ _ | refine blk_drew ?_ | refine blk_alloc ?_ _)); exact BK152.out)) : gb153 ≠ gb152))) : p := h
theorem Z2_6 {p : Prop} (h : p := by exact ((by rw [hg]; exact (below_size (by repeat (first | (with_reducible first | exact HB.out | apply below_alloc | apply pw_below_drewN | apply below_drew1 | refine below_set ?_ GE147.out) | exact HB.out))) : w.heap.size ≤ gb148))) : p := h
theorem Z2_7 {p : Prop} (h : p := by exact ((by rw [hg]; exact (below_size (by repeat (first | (with_reducible first | exact HB.out | apply below_alloc | apply pw_below_drewN | apply below_drew1 | refine below_set ?_ GE152.out) | exact HB.out))) : w.heap.size ≤ gb153))) : p := h
theorem Z2_8 {p : Prop} (h : p := by exact (blk_below (g := gb152) (o := .cells #[.int .i64 a0_0, .int .i64 a0_1, .bool a0_2] 118 (0, 0)) (by (with_reducible repeat (first | refine blk_drewN ?_ _ | refine blk_drew ?_ | refine blk_alloc ?_ _)); exact BK152.out) hb)) : p := h
theorem Z2_9 {p : Prop} (h : p := by repeat (first | (with_reducible first | exact HB.out | apply below_alloc | apply pw_below_drewN | apply below_drew1 | refine below_set ?_ GE147.out | refine below_set ?_ GE148.out) | exact HB.out)) : p := h
theorem Z2_10 {p : Prop} (h : p := by repeat (first | (with_reducible first | exact HB.out | apply below_alloc | apply pw_below_drewN | apply below_drew1 | refine below_set ?_ GE152.out | refine below_set ?_ GE153.out) | exact HB.out)) : p := h
theorem Z2_17 {p : Prop} (h : p := by repeat (first | (with_reducible first | exact HB.out | apply below_alloc | apply pw_below_drewN | apply below_drew1) | exact HB.out)) : p := h
theorem Z2_11 {p : Prop} (h : p := by exact ((by rw [hg]; exact (below_size Z2_17) : w.heap.size ≤ gb147))) : p := h
theorem Z2_12 {p : Prop} (h : p := by exact ((by rw [hg]; exact (below_size Z2_17) : w.heap.size ≤ gb152))) : p := h
theorem Z2_13 {p : Prop} (h : p := by exact (below_step (by repeat (first | (with_reducible first | exact HB.out | apply below_alloc | apply pw_below_drewN | apply below_drew1 | refine below_set ?_ GE147.out) | exact HB.out)) hb)) : p := h
theorem Z2_14 {p : Prop} (h : p := by exact (below_step (by repeat (first | (with_reducible first | exact HB.out | apply below_alloc | apply pw_below_drewN | apply below_drew1 | refine below_set ?_ GE152.out) | exact HB.out)) hb)) : p := h
theorem Z2_15 {p : Prop} (h : p := by exact (below_step Z2_17 hb)) : p := h
theorem Z2_16 {p : Prop} (h : p := by (try simp only [List.map_toArray, List.map_cons, List.map_nil]); first | done | rfl | (simp only [List.length_drop, List.length_take]; rfl)) : p := h
theorem Z2_18 {p : Prop} (h : p := by simp only [Act.put, List.setIfInBounds_toArray, List.set_cons_zero, List.set_cons_succ, i64_w, i32_w]; rfl) : p := h
theorem Z2_19 {p : Prop} (h : p := by first | rfl | (simp [errW_none, errW_some] <;> rfl) | (simp [*, errW_none, errW_some] <;> rfl)) : p := h
theorem Z2_20 {p : Prop} (h : p := by first | (with_reducible assumption) | assumption) : p := h
/-! ### laws_eqPiece: function 63 -/
def laws_eqPiece.f (a0_0 : Int) (a0_1 : Int) (a0_2 : Int) (a0_3 : Int) (a0_4 : Int) (a0_5 : Int) (a0_6 : Int) (a0_7 : Int) (a0_8 : Int) (a0_9 : Int) (a0_10 : Int) (a0_11 : Bool) (a0_12 : Bool) (a1_0 : Int) (a1_1 : Int) (a1_2 : Int) (a1_3 : Int) (a1_4 : Int) (a1_5 : Int) (a1_6 : Int) (a1_7 : Int) (a1_8 : Int) (a1_9 : Int) (a1_10 : Int) (a1_11 : Bool) (a1_12 : Bool) : Option (Bool) := if a0_0 = a1_0 then (if a0_1 = a1_1 then (if a0_2 = a1_2 then (if a0_3 = a1_3 then (if a0_4 = a1_4 then (if a0_5 = a1_5 then (if a0_6 = a1_6 then (if a0_7 = a1_7 then (if a0_8 = a1_8 then (if a0_9 = a1_9 then (if a0_10 = a1_10 then (if (a0_11 != a1_11) = true then (some false) else (if (a0_12 != a1_12) = true then (some false) else (some true))) else (some false)) else (some false)) else (some false)) else (some false)) else (some false)) else (some false)) else (some false)) else (some false)) else (some false)) else (some false)) else (some false)
set_option maxHeartbeats 8000000 in
set_option maxRecDepth 100000 in
theorem laws_eqPiece.calls (a0_0 : Int) (a0_1 : Int) (a0_2 : Int) (a0_3 : Int) (a0_4 : Int) (a0_5 : Int) (a0_6 : Int) (a0_7 : Int) (a0_8 : Int) (a0_9 : Int) (a0_10 : Int) (a0_11 : Bool) (a0_12 : Bool) (a1_0 : Int) (a1_1 : Int) (a1_2 : Int) (a1_3 : Int) (a1_4 : Int) (a1_5 : Int) (a1_6 : Int) (a1_7 : Int) (a1_8 : Int) (a1_9 : Int) (a1_10 : Int) (a1_11 : Bool) (a1_12 : Bool) (r : Bool) (w : World) (h : laws_eqPiece.f a0_0 a0_1 a0_2 a0_3 a0_4 a0_5 a0_6 a0_7 a0_8 a0_9 a0_10 a0_11 a0_12 a1_0 a1_1 a1_2 a1_3 a1_4 a1_5 a1_6 a1_7 a1_8 a1_9 a1_10 a1_11 a1_12 = some r) :
    Calls Try.prog 63 #[.agg #[.int .i64 a0_0, .int .i64 a0_1, .int .i64 a0_2, .int .i64 a0_3, .int .i64 a0_4, .int .i64 a0_5, .int .i64 a0_6, .int .i64 a0_7, .int .i64 a0_8, .int .i64 a0_9, .int .i64 a0_10, .bool a0_11, .bool a0_12], .agg #[.int .i64 a1_0, .int .i64 a1_1, .int .i64 a1_2, .int .i64 a1_3, .int .i64 a1_4, .int .i64 a1_5, .int .i64 a1_6, .int .i64 a1_7, .int .i64 a1_8, .int .i64 a1_9, .int .i64 a1_10, .bool a1_11, .bool a1_12]] w fun e w' => e = .returned (.bool r) ∧ Below w.heap.size w w' := by
  have hu54 := Try.underlying54
  have HB := Aside0.mk (Below.refl w.heap.size w)
  have H : (if a0_0 = a1_0 then (if a0_1 = a1_1 then (if a0_2 = a1_2 then (if a0_3 = a1_3 then (if a0_4 = a1_4 then (if a0_5 = a1_5 then (if a0_6 = a1_6 then (if a0_7 = a1_7 then (if a0_8 = a1_8 then (if a0_9 = a1_9 then (if a0_10 = a1_10 then (if (a0_11 != a1_11) = true then (some false) else (if (a0_12 != a1_12) = true then (some false) else (some true))) else (some false)) else (some false)) else (some false)) else (some false)) else (some false)) else (some false)) else (some false)) else (some false)) else (some false)) else (some false)) else (some false)) = some r := h
  clear h
  go_enter Try.func63, Try.ntmps63
  repeat' (first | ((with_reducible refine gate_dst (N := 2) rfl ?_); refine box_event ?hg (N := 2) ?hd (cs := #[.int .i64 a0_0, .int .i64 a0_1, .int .i64 a0_2, .int .i64 a0_3, .int .i64 a0_4, .int .i64 a0_5, .int .i64 a0_6, .int .i64 a0_7, .int .i64 a0_8, .int .i64 a0_9, .int .i64 a0_10, .bool a0_11, .bool a0_12]) (t := 54) ?hr ?_; (case hd => rfl); (case hg => rfl); (case hr => first | (go_simp; done) | (go_simp; rfl)); intro gb147 hg w15 hbox hb; have n0_ := Aside0.mk Z2_15; have n1_ := Aside0.mk (hbox); have n2_ := Aside0.mk Z2_11; have n3_ := Aside0.mk Z2_11; clear HB; have HB := n0_; have BK147 := n1_; have GW147 := n2_; have GE147 := n3_; clear n0_ n1_ n2_ n3_; clear hb hbox hg) | ((fail_if_success (with_reducible refine gate_dst (N := 3) rfl ?_)); (first | go_values | go_skip | go_guarded | go_step | go_upon | go_back | (simp only [Int.not_lt, Int.not_le] at *; go_simp) | (go_ite <;> go_prune <;> (try go_simp)) | (split <;> (first | (rename_i hx; exact (hx _ rfl).elim) | go_prune)))))
  by_cases c3 : a0_0 = a1_0
  rotate_left
  · rw [if_neg c3] at H
    have c3b0 : (a0_0 == a1_0) = false := beq_eq_false_iff_ne.mpr c3
    have c3b1 : (a0_0 != a1_0) = true := bne_iff_ne.mpr c3
    obtain rfl := Option.some.inj H
    go_wp2_with (first | ((with_reducible refine gate_dst (N := 3) rfl ?_); refine box_event ?hg (N := 3) ?hd (cs := #[.int .i64 a1_0, .int .i64 a1_1, .int .i64 a1_2, .int .i64 a1_3, .int .i64 a1_4, .int .i64 a1_5, .int .i64 a1_6, .int .i64 a1_7, .int .i64 a1_8, .int .i64 a1_9, .int .i64 a1_10, .bool a1_11, .bool a1_12]) (t := 54) ?hr ?_; (case hd => rfl); (case hg => rfl); (case hr => first | (go_simp; done) | (go_simp; rfl)); intro gb148 hg w16 hbox hb; have n0_ := Aside0.mk Z2_3; have n1_ := Aside0.mk Z2_13; have n2_ := Aside0.mk (hbox); have n3_ := Aside0.mk Z2_6; have n4_ := Aside0.mk Z2_6; have n5_ := Aside0.mk Z2_1; have n6_ := Aside0.mk Z2_2; clear BK147; clear HB; have BK147 := n0_; have HB := n1_; have BK148 := n2_; have GW148 := n3_; have GE148 := n4_; have NB147_148 := n5_; have NB148_147 := n6_; clear n0_ n1_ n2_ n3_ n4_ n5_ n6_; clear hb hbox hg; have hnb17 := NB147_148.out; have hnc17 := NB148_147.out; have hcz18_0 : w16.cell? ⟨gb147, 0, none⟩ = some (.int .i64 a0_0) := (blk_cell BK147.out 0).trans rfl; have hcz18_1 : w16.cell? ⟨gb147, 1, none⟩ = some (.int .i64 a0_1) := (blk_cell BK147.out 1).trans rfl; have hcz18_2 : w16.cell? ⟨gb147, 2, none⟩ = some (.int .i64 a0_2) := (blk_cell BK147.out 2).trans rfl; have hcz18_3 : w16.cell? ⟨gb147, 3, none⟩ = some (.int .i64 a0_3) := (blk_cell BK147.out 3).trans rfl; have hcz18_4 : w16.cell? ⟨gb147, 4, none⟩ = some (.int .i64 a0_4) := (blk_cell BK147.out 4).trans rfl; have hcz18_5 : w16.cell? ⟨gb147, 5, none⟩ = some (.int .i64 a0_5) := (blk_cell BK147.out 5).trans rfl; have hcz18_6 : w16.cell? ⟨gb147, 6, none⟩ = some (.int .i64 a0_6) := (blk_cell BK147.out 6).trans rfl; have hcz18_7 : w16.cell? ⟨gb147, 7, none⟩ = some (.int .i64 a0_7) := (blk_cell BK147.out 7).trans rfl; have hcz18_8 : w16.cell? ⟨gb147, 8, none⟩ = some (.int .i64 a0_8) := (blk_cell BK147.out 8).trans rfl; have hcz18_9 : w16.cell? ⟨gb147, 9, none⟩ = some (.int .i64 a0_9) := (blk_cell BK147.out 9).trans rfl; have hcz18_10 : w16.cell? ⟨gb147, 10, none⟩ = some (.int .i64 a0_10) := (blk_cell BK147.out 10).trans rfl; have hcz18_11 : w16.cell? ⟨gb147, 11, none⟩ = some (.bool a0_11) := (blk_cell BK147.out 11).trans rfl; have hcz18_12 : w16.cell? ⟨gb147, 12, none⟩ = some (.bool a0_12) := (blk_cell BK147.out 12).trans rfl; have hfz18_0 := blk_frozen BK147.out 0; have hfz18_1 := blk_frozen BK147.out 1; have hfz18_2 := blk_frozen BK147.out 2; have hfz18_3 := blk_frozen BK147.out 3; have hfz18_4 := blk_frozen BK147.out 4; have hfz18_5 := blk_frozen BK147.out 5; have hfz18_6 := blk_frozen BK147.out 6; have hfz18_7 := blk_frozen BK147.out 7; have hfz18_8 := blk_frozen BK147.out 8; have hfz18_9 := blk_frozen BK147.out 9; have hfz18_10 := blk_frozen BK147.out 10; have hfz18_11 := blk_frozen BK147.out 11; have hfz18_12 := blk_frozen BK147.out 12; have hcz19_0 : w16.cell? ⟨gb148, 0, none⟩ = some (.int .i64 a1_0) := (blk_cell BK148.out 0).trans rfl; have hcz19_1 : w16.cell? ⟨gb148, 1, none⟩ = some (.int .i64 a1_1) := (blk_cell BK148.out 1).trans rfl; have hcz19_2 : w16.cell? ⟨gb148, 2, none⟩ = some (.int .i64 a1_2) := (blk_cell BK148.out 2).trans rfl; have hcz19_3 : w16.cell? ⟨gb148, 3, none⟩ = some (.int .i64 a1_3) := (blk_cell BK148.out 3).trans rfl; have hcz19_4 : w16.cell? ⟨gb148, 4, none⟩ = some (.int .i64 a1_4) := (blk_cell BK148.out 4).trans rfl; have hcz19_5 : w16.cell? ⟨gb148, 5, none⟩ = some (.int .i64 a1_5) := (blk_cell BK148.out 5).trans rfl; have hcz19_6 : w16.cell? ⟨gb148, 6, none⟩ = some (.int .i64 a1_6) := (blk_cell BK148.out 6).trans rfl; have hcz19_7 : w16.cell? ⟨gb148, 7, none⟩ = some (.int .i64 a1_7) := (blk_cell BK148.out 7).trans rfl; have hcz19_8 : w16.cell? ⟨gb148, 8, none⟩ = some (.int .i64 a1_8) := (blk_cell BK148.out 8).trans rfl; have hcz19_9 : w16.cell? ⟨gb148, 9, none⟩ = some (.int .i64 a1_9) := (blk_cell BK148.out 9).trans rfl; have hcz19_10 : w16.cell? ⟨gb148, 10, none⟩ = some (.int .i64 a1_10) := (blk_cell BK148.out 10).trans rfl; have hcz19_11 : w16.cell? ⟨gb148, 11, none⟩ = some (.bool a1_11) := (blk_cell BK148.out 11).trans rfl; have hcz19_12 : w16.cell? ⟨gb148, 12, none⟩ = some (.bool a1_12) := (blk_cell BK148.out 12).trans rfl; have hfz19_0 := blk_frozen BK148.out 0; have hfz19_1 := blk_frozen BK148.out 1; have hfz19_2 := blk_frozen BK148.out 2; have hfz19_3 := blk_frozen BK148.out 3; have hfz19_4 := blk_frozen BK148.out 4; have hfz19_5 := blk_frozen BK148.out 5; have hfz19_6 := blk_frozen BK148.out 6; have hfz19_7 := blk_frozen BK148.out 7; have hfz19_8 := blk_frozen BK148.out 8; have hfz19_9 := blk_frozen BK148.out 9; have hfz19_10 := blk_frozen BK148.out 10; have hfz19_11 := blk_frozen BK148.out 11; have hfz19_12 := blk_frozen BK148.out 12))
    go_ret
    exact ⟨Z2_19, Z2_9⟩
  rw [if_pos c3] at H
  have c3b0 : (a0_0 == a1_0) = true := beq_iff_eq.mpr c3
  have c3b1 : (a0_0 != a1_0) = false := bne_eq_false_iff_eq.mpr c3
  clear c3
  by_cases c4 : a0_1 = a1_1
  rotate_left
  · rw [if_neg c4] at H
    have c4b0 : (a0_1 == a1_1) = false := beq_eq_false_iff_ne.mpr c4
    have c4b1 : (a0_1 != a1_1) = true := bne_iff_ne.mpr c4
    obtain rfl := Option.some.inj H
    go_wp2_with (first | ((with_reducible refine gate_dst (N := 3) rfl ?_); refine box_event ?hg (N := 3) ?hd (cs := #[.int .i64 a1_0, .int .i64 a1_1, .int .i64 a1_2, .int .i64 a1_3, .int .i64 a1_4, .int .i64 a1_5, .int .i64 a1_6, .int .i64 a1_7, .int .i64 a1_8, .int .i64 a1_9, .int .i64 a1_10, .bool a1_11, .bool a1_12]) (t := 54) ?hr ?_; (case hd => rfl); (case hg => rfl); (case hr => first | (go_simp; done) | (go_simp; rfl)); intro gb148 hg w16 hbox hb; have n0_ := Aside0.mk Z2_3; have n1_ := Aside0.mk Z2_13; have n2_ := Aside0.mk (hbox); have n3_ := Aside0.mk Z2_6; have n4_ := Aside0.mk Z2_6; have n5_ := Aside0.mk Z2_1; have n6_ := Aside0.mk Z2_2; clear BK147; clear HB; have BK147 := n0_; have HB := n1_; have BK148 := n2_; have GW148 := n3_; have GE148 := n4_; have NB147_148 := n5_; have NB148_147 := n6_; clear n0_ n1_ n2_ n3_ n4_ n5_ n6_; clear hb hbox hg; have hnb17 := NB147_148.out; have hnc17 := NB148_147.out; have hcz18_0 : w16.cell? ⟨gb147, 0, none⟩ = some (.int .i64 a0_0) := (blk_cell BK147.out 0).trans rfl; have hcz18_1 : w16.cell? ⟨gb147, 1, none⟩ = some (.int .i64 a0_1) := (blk_cell BK147.out 1).trans rfl; have hcz18_2 : w16.cell? ⟨gb147, 2, none⟩ = some (.int .i64 a0_2) := (blk_cell BK147.out 2).trans rfl; have hcz18_3 : w16.cell? ⟨gb147, 3, none⟩ = some (.int .i64 a0_3) := (blk_cell BK147.out 3).trans rfl; have hcz18_4 : w16.cell? ⟨gb147, 4, none⟩ = some (.int .i64 a0_4) := (blk_cell BK147.out 4).trans rfl; have hcz18_5 : w16.cell? ⟨gb147, 5, none⟩ = some (.int .i64 a0_5) := (blk_cell BK147.out 5).trans rfl; have hcz18_6 : w16.cell? ⟨gb147, 6, none⟩ = some (.int .i64 a0_6) := (blk_cell BK147.out 6).trans rfl; have hcz18_7 : w16.cell? ⟨gb147, 7, none⟩ = some (.int .i64 a0_7) := (blk_cell BK147.out 7).trans rfl; have hcz18_8 : w16.cell? ⟨gb147, 8, none⟩ = some (.int .i64 a0_8) := (blk_cell BK147.out 8).trans rfl; have hcz18_9 : w16.cell? ⟨gb147, 9, none⟩ = some (.int .i64 a0_9) := (blk_cell BK147.out 9).trans rfl; have hcz18_10 : w16.cell? ⟨gb147, 10, none⟩ = some (.int .i64 a0_10) := (blk_cell BK147.out 10).trans rfl; have hcz18_11 : w16.cell? ⟨gb147, 11, none⟩ = some (.bool a0_11) := (blk_cell BK147.out 11).trans rfl; have hcz18_12 : w16.cell? ⟨gb147, 12, none⟩ = some (.bool a0_12) := (blk_cell BK147.out 12).trans rfl; have hfz18_0 := blk_frozen BK147.out 0; have hfz18_1 := blk_frozen BK147.out 1; have hfz18_2 := blk_frozen BK147.out 2; have hfz18_3 := blk_frozen BK147.out 3; have hfz18_4 := blk_frozen BK147.out 4; have hfz18_5 := blk_frozen BK147.out 5; have hfz18_6 := blk_frozen BK147.out 6; have hfz18_7 := blk_frozen BK147.out 7; have hfz18_8 := blk_frozen BK147.out 8; have hfz18_9 := blk_frozen BK147.out 9; have hfz18_10 := blk_frozen BK147.out 10; have hfz18_11 := blk_frozen BK147.out 11; have hfz18_12 := blk_frozen BK147.out 12; have hcz19_0 : w16.cell? ⟨gb148, 0, none⟩ = some (.int .i64 a1_0) := (blk_cell BK148.out 0).trans rfl; have hcz19_1 : w16.cell? ⟨gb148, 1, none⟩ = some (.int .i64 a1_1) := (blk_cell BK148.out 1).trans rfl; have hcz19_2 : w16.cell? ⟨gb148, 2, none⟩ = some (.int .i64 a1_2) := (blk_cell BK148.out 2).trans rfl; have hcz19_3 : w16.cell? ⟨gb148, 3, none⟩ = some (.int .i64 a1_3) := (blk_cell BK148.out 3).trans rfl; have hcz19_4 : w16.cell? ⟨gb148, 4, none⟩ = some (.int .i64 a1_4) := (blk_cell BK148.out 4).trans rfl; have hcz19_5 : w16.cell? ⟨gb148, 5, none⟩ = some (.int .i64 a1_5) := (blk_cell BK148.out 5).trans rfl; have hcz19_6 : w16.cell? ⟨gb148, 6, none⟩ = some (.int .i64 a1_6) := (blk_cell BK148.out 6).trans rfl; have hcz19_7 : w16.cell? ⟨gb148, 7, none⟩ = some (.int .i64 a1_7) := (blk_cell BK148.out 7).trans rfl; have hcz19_8 : w16.cell? ⟨gb148, 8, none⟩ = some (.int .i64 a1_8) := (blk_cell BK148.out 8).trans rfl; have hcz19_9 : w16.cell? ⟨gb148, 9, none⟩ = some (.int .i64 a1_9) := (blk_cell BK148.out 9).trans rfl; have hcz19_10 : w16.cell? ⟨gb148, 10, none⟩ = some (.int .i64 a1_10) := (blk_cell BK148.out 10).trans rfl; have hcz19_11 : w16.cell? ⟨gb148, 11, none⟩ = some (.bool a1_11) := (blk_cell BK148.out 11).trans rfl; have hcz19_12 : w16.cell? ⟨gb148, 12, none⟩ = some (.bool a1_12) := (blk_cell BK148.out 12).trans rfl; have hfz19_0 := blk_frozen BK148.out 0; have hfz19_1 := blk_frozen BK148.out 1; have hfz19_2 := blk_frozen BK148.out 2; have hfz19_3 := blk_frozen BK148.out 3; have hfz19_4 := blk_frozen BK148.out 4; have hfz19_5 := blk_frozen BK148.out 5; have hfz19_6 := blk_frozen BK148.out 6; have hfz19_7 := blk_frozen BK148.out 7; have hfz19_8 := blk_frozen BK148.out 8; have hfz19_9 := blk_frozen BK148.out 9; have hfz19_10 := blk_frozen BK148.out 10; have hfz19_11 := blk_frozen BK148.out 11; have hfz19_12 := blk_frozen BK148.out 12))
    go_ret
    exact ⟨Z2_19, Z2_9⟩
  rw [if_pos c4] at H
  have c4b0 : (a0_1 == a1_1) = true := beq_iff_eq.mpr c4
  have c4b1 : (a0_1 != a1_1) = false := bne_eq_false_iff_eq.mpr c4
  clear c4
  by_cases c5 : a0_2 = a1_2
  rotate_left
  · rw [if_neg c5] at H
    have c5b0 : (a0_2 == a1_2) = false := beq_eq_false_iff_ne.mpr c5
    have c5b1 : (a0_2 != a1_2) = true := bne_iff_ne.mpr c5
    obtain rfl := Option.some.inj H
    go_wp2_with (first | ((with_reducible refine gate_dst (N := 3) rfl ?_); refine box_event ?hg (N := 3) ?hd (cs := #[.int .i64 a1_0, .int .i64 a1_1, .int .i64 a1_2, .int .i64 a1_3, .int .i64 a1_4, .int .i64 a1_5, .int .i64 a1_6, .int .i64 a1_7, .int .i64 a1_8, .int .i64 a1_9, .int .i64 a1_10, .bool a1_11, .bool a1_12]) (t := 54) ?hr ?_; (case hd => rfl); (case hg => rfl); (case hr => first | (go_simp; done) | (go_simp; rfl)); intro gb148 hg w16 hbox hb; have n0_ := Aside0.mk Z2_3; have n1_ := Aside0.mk Z2_13; have n2_ := Aside0.mk (hbox); have n3_ := Aside0.mk Z2_6; have n4_ := Aside0.mk Z2_6; have n5_ := Aside0.mk Z2_1; have n6_ := Aside0.mk Z2_2; clear BK147; clear HB; have BK147 := n0_; have HB := n1_; have BK148 := n2_; have GW148 := n3_; have GE148 := n4_; have NB147_148 := n5_; have NB148_147 := n6_; clear n0_ n1_ n2_ n3_ n4_ n5_ n6_; clear hb hbox hg; have hnb17 := NB147_148.out; have hnc17 := NB148_147.out; have hcz18_0 : w16.cell? ⟨gb147, 0, none⟩ = some (.int .i64 a0_0) := (blk_cell BK147.out 0).trans rfl; have hcz18_1 : w16.cell? ⟨gb147, 1, none⟩ = some (.int .i64 a0_1) := (blk_cell BK147.out 1).trans rfl; have hcz18_2 : w16.cell? ⟨gb147, 2, none⟩ = some (.int .i64 a0_2) := (blk_cell BK147.out 2).trans rfl; have hcz18_3 : w16.cell? ⟨gb147, 3, none⟩ = some (.int .i64 a0_3) := (blk_cell BK147.out 3).trans rfl; have hcz18_4 : w16.cell? ⟨gb147, 4, none⟩ = some (.int .i64 a0_4) := (blk_cell BK147.out 4).trans rfl; have hcz18_5 : w16.cell? ⟨gb147, 5, none⟩ = some (.int .i64 a0_5) := (blk_cell BK147.out 5).trans rfl; have hcz18_6 : w16.cell? ⟨gb147, 6, none⟩ = some (.int .i64 a0_6) := (blk_cell BK147.out 6).trans rfl; have hcz18_7 : w16.cell? ⟨gb147, 7, none⟩ = some (.int .i64 a0_7) := (blk_cell BK147.out 7).trans rfl; have hcz18_8 : w16.cell? ⟨gb147, 8, none⟩ = some (.int .i64 a0_8) := (blk_cell BK147.out 8).trans rfl; have hcz18_9 : w16.cell? ⟨gb147, 9, none⟩ = some (.int .i64 a0_9) := (blk_cell BK147.out 9).trans rfl; have hcz18_10 : w16.cell? ⟨gb147, 10, none⟩ = some (.int .i64 a0_10) := (blk_cell BK147.out 10).trans rfl; have hcz18_11 : w16.cell? ⟨gb147, 11, none⟩ = some (.bool a0_11) := (blk_cell BK147.out 11).trans rfl; have hcz18_12 : w16.cell? ⟨gb147, 12, none⟩ = some (.bool a0_12) := (blk_cell BK147.out 12).trans rfl; have hfz18_0 := blk_frozen BK147.out 0; have hfz18_1 := blk_frozen BK147.out 1; have hfz18_2 := blk_frozen BK147.out 2; have hfz18_3 := blk_frozen BK147.out 3; have hfz18_4 := blk_frozen BK147.out 4; have hfz18_5 := blk_frozen BK147.out 5; have hfz18_6 := blk_frozen BK147.out 6; have hfz18_7 := blk_frozen BK147.out 7; have hfz18_8 := blk_frozen BK147.out 8; have hfz18_9 := blk_frozen BK147.out 9; have hfz18_10 := blk_frozen BK147.out 10; have hfz18_11 := blk_frozen BK147.out 11; have hfz18_12 := blk_frozen BK147.out 12; have hcz19_0 : w16.cell? ⟨gb148, 0, none⟩ = some (.int .i64 a1_0) := (blk_cell BK148.out 0).trans rfl; have hcz19_1 : w16.cell? ⟨gb148, 1, none⟩ = some (.int .i64 a1_1) := (blk_cell BK148.out 1).trans rfl; have hcz19_2 : w16.cell? ⟨gb148, 2, none⟩ = some (.int .i64 a1_2) := (blk_cell BK148.out 2).trans rfl; have hcz19_3 : w16.cell? ⟨gb148, 3, none⟩ = some (.int .i64 a1_3) := (blk_cell BK148.out 3).trans rfl; have hcz19_4 : w16.cell? ⟨gb148, 4, none⟩ = some (.int .i64 a1_4) := (blk_cell BK148.out 4).trans rfl; have hcz19_5 : w16.cell? ⟨gb148, 5, none⟩ = some (.int .i64 a1_5) := (blk_cell BK148.out 5).trans rfl; have hcz19_6 : w16.cell? ⟨gb148, 6, none⟩ = some (.int .i64 a1_6) := (blk_cell BK148.out 6).trans rfl; have hcz19_7 : w16.cell? ⟨gb148, 7, none⟩ = some (.int .i64 a1_7) := (blk_cell BK148.out 7).trans rfl; have hcz19_8 : w16.cell? ⟨gb148, 8, none⟩ = some (.int .i64 a1_8) := (blk_cell BK148.out 8).trans rfl; have hcz19_9 : w16.cell? ⟨gb148, 9, none⟩ = some (.int .i64 a1_9) := (blk_cell BK148.out 9).trans rfl; have hcz19_10 : w16.cell? ⟨gb148, 10, none⟩ = some (.int .i64 a1_10) := (blk_cell BK148.out 10).trans rfl; have hcz19_11 : w16.cell? ⟨gb148, 11, none⟩ = some (.bool a1_11) := (blk_cell BK148.out 11).trans rfl; have hcz19_12 : w16.cell? ⟨gb148, 12, none⟩ = some (.bool a1_12) := (blk_cell BK148.out 12).trans rfl; have hfz19_0 := blk_frozen BK148.out 0; have hfz19_1 := blk_frozen BK148.out 1; have hfz19_2 := blk_frozen BK148.out 2; have hfz19_3 := blk_frozen BK148.out 3; have hfz19_4 := blk_frozen BK148.out 4; have hfz19_5 := blk_frozen BK148.out 5; have hfz19_6 := blk_frozen BK148.out 6; have hfz19_7 := blk_frozen BK148.out 7; have hfz19_8 := blk_frozen BK148.out 8; have hfz19_9 := blk_frozen BK148.out 9; have hfz19_10 := blk_frozen BK148.out 10; have hfz19_11 := blk_frozen BK148.out 11; have hfz19_12 := blk_frozen BK148.out 12))
    go_ret
    exact ⟨Z2_19, Z2_9⟩
  rw [if_pos c5] at H
  have c5b0 : (a0_2 == a1_2) = true := beq_iff_eq.mpr c5
  have c5b1 : (a0_2 != a1_2) = false := bne_eq_false_iff_eq.mpr c5
  clear c5
  by_cases c6 : a0_3 = a1_3
  rotate_left
  · rw [if_neg c6] at H
    have c6b0 : (a0_3 == a1_3) = false := beq_eq_false_iff_ne.mpr c6
    have c6b1 : (a0_3 != a1_3) = true := bne_iff_ne.mpr c6
    obtain rfl := Option.some.inj H
    go_wp2_with (first | ((with_reducible refine gate_dst (N := 3) rfl ?_); refine box_event ?hg (N := 3) ?hd (cs := #[.int .i64 a1_0, .int .i64 a1_1, .int .i64 a1_2, .int .i64 a1_3, .int .i64 a1_4, .int .i64 a1_5, .int .i64 a1_6, .int .i64 a1_7, .int .i64 a1_8, .int .i64 a1_9, .int .i64 a1_10, .bool a1_11, .bool a1_12]) (t := 54) ?hr ?_; (case hd => rfl); (case hg => rfl); (case hr => first | (go_simp; done) | (go_simp; rfl)); intro gb148 hg w16 hbox hb; have n0_ := Aside0.mk Z2_3; have n1_ := Aside0.mk Z2_13; have n2_ := Aside0.mk (hbox); have n3_ := Aside0.mk Z2_6; have n4_ := Aside0.mk Z2_6; have n5_ := Aside0.mk Z2_1; have n6_ := Aside0.mk Z2_2; clear BK147; clear HB; have BK147 := n0_; have HB := n1_; have BK148 := n2_; have GW148 := n3_; have GE148 := n4_; have NB147_148 := n5_; have NB148_147 := n6_; clear n0_ n1_ n2_ n3_ n4_ n5_ n6_; clear hb hbox hg; have hnb17 := NB147_148.out; have hnc17 := NB148_147.out; have hcz18_0 : w16.cell? ⟨gb147, 0, none⟩ = some (.int .i64 a0_0) := (blk_cell BK147.out 0).trans rfl; have hcz18_1 : w16.cell? ⟨gb147, 1, none⟩ = some (.int .i64 a0_1) := (blk_cell BK147.out 1).trans rfl; have hcz18_2 : w16.cell? ⟨gb147, 2, none⟩ = some (.int .i64 a0_2) := (blk_cell BK147.out 2).trans rfl; have hcz18_3 : w16.cell? ⟨gb147, 3, none⟩ = some (.int .i64 a0_3) := (blk_cell BK147.out 3).trans rfl; have hcz18_4 : w16.cell? ⟨gb147, 4, none⟩ = some (.int .i64 a0_4) := (blk_cell BK147.out 4).trans rfl; have hcz18_5 : w16.cell? ⟨gb147, 5, none⟩ = some (.int .i64 a0_5) := (blk_cell BK147.out 5).trans rfl; have hcz18_6 : w16.cell? ⟨gb147, 6, none⟩ = some (.int .i64 a0_6) := (blk_cell BK147.out 6).trans rfl; have hcz18_7 : w16.cell? ⟨gb147, 7, none⟩ = some (.int .i64 a0_7) := (blk_cell BK147.out 7).trans rfl; have hcz18_8 : w16.cell? ⟨gb147, 8, none⟩ = some (.int .i64 a0_8) := (blk_cell BK147.out 8).trans rfl; have hcz18_9 : w16.cell? ⟨gb147, 9, none⟩ = some (.int .i64 a0_9) := (blk_cell BK147.out 9).trans rfl; have hcz18_10 : w16.cell? ⟨gb147, 10, none⟩ = some (.int .i64 a0_10) := (blk_cell BK147.out 10).trans rfl; have hcz18_11 : w16.cell? ⟨gb147, 11, none⟩ = some (.bool a0_11) := (blk_cell BK147.out 11).trans rfl; have hcz18_12 : w16.cell? ⟨gb147, 12, none⟩ = some (.bool a0_12) := (blk_cell BK147.out 12).trans rfl; have hfz18_0 := blk_frozen BK147.out 0; have hfz18_1 := blk_frozen BK147.out 1; have hfz18_2 := blk_frozen BK147.out 2; have hfz18_3 := blk_frozen BK147.out 3; have hfz18_4 := blk_frozen BK147.out 4; have hfz18_5 := blk_frozen BK147.out 5; have hfz18_6 := blk_frozen BK147.out 6; have hfz18_7 := blk_frozen BK147.out 7; have hfz18_8 := blk_frozen BK147.out 8; have hfz18_9 := blk_frozen BK147.out 9; have hfz18_10 := blk_frozen BK147.out 10; have hfz18_11 := blk_frozen BK147.out 11; have hfz18_12 := blk_frozen BK147.out 12; have hcz19_0 : w16.cell? ⟨gb148, 0, none⟩ = some (.int .i64 a1_0) := (blk_cell BK148.out 0).trans rfl; have hcz19_1 : w16.cell? ⟨gb148, 1, none⟩ = some (.int .i64 a1_1) := (blk_cell BK148.out 1).trans rfl; have hcz19_2 : w16.cell? ⟨gb148, 2, none⟩ = some (.int .i64 a1_2) := (blk_cell BK148.out 2).trans rfl; have hcz19_3 : w16.cell? ⟨gb148, 3, none⟩ = some (.int .i64 a1_3) := (blk_cell BK148.out 3).trans rfl; have hcz19_4 : w16.cell? ⟨gb148, 4, none⟩ = some (.int .i64 a1_4) := (blk_cell BK148.out 4).trans rfl; have hcz19_5 : w16.cell? ⟨gb148, 5, none⟩ = some (.int .i64 a1_5) := (blk_cell BK148.out 5).trans rfl; have hcz19_6 : w16.cell? ⟨gb148, 6, none⟩ = some (.int .i64 a1_6) := (blk_cell BK148.out 6).trans rfl; have hcz19_7 : w16.cell? ⟨gb148, 7, none⟩ = some (.int .i64 a1_7) := (blk_cell BK148.out 7).trans rfl; have hcz19_8 : w16.cell? ⟨gb148, 8, none⟩ = some (.int .i64 a1_8) := (blk_cell BK148.out 8).trans rfl; have hcz19_9 : w16.cell? ⟨gb148, 9, none⟩ = some (.int .i64 a1_9) := (blk_cell BK148.out 9).trans rfl; have hcz19_10 : w16.cell? ⟨gb148, 10, none⟩ = some (.int .i64 a1_10) := (blk_cell BK148.out 10).trans rfl; have hcz19_11 : w16.cell? ⟨gb148, 11, none⟩ = some (.bool a1_11) := (blk_cell BK148.out 11).trans rfl; have hcz19_12 : w16.cell? ⟨gb148, 12, none⟩ = some (.bool a1_12) := (blk_cell BK148.out 12).trans rfl; have hfz19_0 := blk_frozen BK148.out 0; have hfz19_1 := blk_frozen BK148.out 1; have hfz19_2 := blk_frozen BK148.out 2; have hfz19_3 := blk_frozen BK148.out 3; have hfz19_4 := blk_frozen BK148.out 4; have hfz19_5 := blk_frozen BK148.out 5; have hfz19_6 := blk_frozen BK148.out 6; have hfz19_7 := blk_frozen BK148.out 7; have hfz19_8 := blk_frozen BK148.out 8; have hfz19_9 := blk_frozen BK148.out 9; have hfz19_10 := blk_frozen BK148.out 10; have hfz19_11 := blk_frozen BK148.out 11; have hfz19_12 := blk_frozen BK148.out 12))
    go_ret
    exact ⟨Z2_19, Z2_9⟩
  rw [if_pos c6] at H
  have c6b0 : (a0_3 == a1_3) = true := beq_iff_eq.mpr c6
  have c6b1 : (a0_3 != a1_3) = false := bne_eq_false_iff_eq.mpr c6
  clear c6
  by_cases c7 : a0_4 = a1_4
  rotate_left
  · rw [if_neg c7] at H
    have c7b0 : (a0_4 == a1_4) = false := beq_eq_false_iff_ne.mpr c7
    have c7b1 : (a0_4 != a1_4) = true := bne_iff_ne.mpr c7
    obtain rfl := Option.some.inj H
    go_wp2_with (first | ((with_reducible refine gate_dst (N := 3) rfl ?_); refine box_event ?hg (N := 3) ?hd (cs := #[.int .i64 a1_0, .int .i64 a1_1, .int .i64 a1_2, .int .i64 a1_3, .int .i64 a1_4, .int .i64 a1_5, .int .i64 a1_6, .int .i64 a1_7, .int .i64 a1_8, .int .i64 a1_9, .int .i64 a1_10, .bool a1_11, .bool a1_12]) (t := 54) ?hr ?_; (case hd => rfl); (case hg => rfl); (case hr => first | (go_simp; done) | (go_simp; rfl)); intro gb148 hg w16 hbox hb; have n0_ := Aside0.mk Z2_3; have n1_ := Aside0.mk Z2_13; have n2_ := Aside0.mk (hbox); have n3_ := Aside0.mk Z2_6; have n4_ := Aside0.mk Z2_6; have n5_ := Aside0.mk Z2_1; have n6_ := Aside0.mk Z2_2; clear BK147; clear HB; have BK147 := n0_; have HB := n1_; have BK148 := n2_; have GW148 := n3_; have GE148 := n4_; have NB147_148 := n5_; have NB148_147 := n6_; clear n0_ n1_ n2_ n3_ n4_ n5_ n6_; clear hb hbox hg; have hnb17 := NB147_148.out; have hnc17 := NB148_147.out; have hcz18_0 : w16.cell? ⟨gb147, 0, none⟩ = some (.int .i64 a0_0) := (blk_cell BK147.out 0).trans rfl; have hcz18_1 : w16.cell? ⟨gb147, 1, none⟩ = some (.int .i64 a0_1) := (blk_cell BK147.out 1).trans rfl; have hcz18_2 : w16.cell? ⟨gb147, 2, none⟩ = some (.int .i64 a0_2) := (blk_cell BK147.out 2).trans rfl; have hcz18_3 : w16.cell? ⟨gb147, 3, none⟩ = some (.int .i64 a0_3) := (blk_cell BK147.out 3).trans rfl; have hcz18_4 : w16.cell? ⟨gb147, 4, none⟩ = some (.int .i64 a0_4) := (blk_cell BK147.out 4).trans rfl; have hcz18_5 : w16.cell? ⟨gb147, 5, none⟩ = some (.int .i64 a0_5) := (blk_cell BK147.out 5).trans rfl; have hcz18_6 : w16.cell? ⟨gb147, 6, none⟩ = some (.int .i64 a0_6) := (blk_cell BK147.out 6).trans rfl; have hcz18_7 : w16.cell? ⟨gb147, 7, none⟩ = some (.int .i64 a0_7) := (blk_cell BK147.out 7).trans rfl; have hcz18_8 : w16.cell? ⟨gb147, 8, none⟩ = some (.int .i64 a0_8) := (blk_cell BK147.out 8).trans rfl; have hcz18_9 : w16.cell? ⟨gb147, 9, none⟩ = some (.int .i64 a0_9) := (blk_cell BK147.out 9).trans rfl; have hcz18_10 : w16.cell? ⟨gb147, 10, none⟩ = some (.int .i64 a0_10) := (blk_cell BK147.out 10).trans rfl; have hcz18_11 : w16.cell? ⟨gb147, 11, none⟩ = some (.bool a0_11) := (blk_cell BK147.out 11).trans rfl; have hcz18_12 : w16.cell? ⟨gb147, 12, none⟩ = some (.bool a0_12) := (blk_cell BK147.out 12).trans rfl; have hfz18_0 := blk_frozen BK147.out 0; have hfz18_1 := blk_frozen BK147.out 1; have hfz18_2 := blk_frozen BK147.out 2; have hfz18_3 := blk_frozen BK147.out 3; have hfz18_4 := blk_frozen BK147.out 4; have hfz18_5 := blk_frozen BK147.out 5; have hfz18_6 := blk_frozen BK147.out 6; have hfz18_7 := blk_frozen BK147.out 7; have hfz18_8 := blk_frozen BK147.out 8; have hfz18_9 := blk_frozen BK147.out 9; have hfz18_10 := blk_frozen BK147.out 10; have hfz18_11 := blk_frozen BK147.out 11; have hfz18_12 := blk_frozen BK147.out 12; have hcz19_0 : w16.cell? ⟨gb148, 0, none⟩ = some (.int .i64 a1_0) := (blk_cell BK148.out 0).trans rfl; have hcz19_1 : w16.cell? ⟨gb148, 1, none⟩ = some (.int .i64 a1_1) := (blk_cell BK148.out 1).trans rfl; have hcz19_2 : w16.cell? ⟨gb148, 2, none⟩ = some (.int .i64 a1_2) := (blk_cell BK148.out 2).trans rfl; have hcz19_3 : w16.cell? ⟨gb148, 3, none⟩ = some (.int .i64 a1_3) := (blk_cell BK148.out 3).trans rfl; have hcz19_4 : w16.cell? ⟨gb148, 4, none⟩ = some (.int .i64 a1_4) := (blk_cell BK148.out 4).trans rfl; have hcz19_5 : w16.cell? ⟨gb148, 5, none⟩ = some (.int .i64 a1_5) := (blk_cell BK148.out 5).trans rfl; have hcz19_6 : w16.cell? ⟨gb148, 6, none⟩ = some (.int .i64 a1_6) := (blk_cell BK148.out 6).trans rfl; have hcz19_7 : w16.cell? ⟨gb148, 7, none⟩ = some (.int .i64 a1_7) := (blk_cell BK148.out 7).trans rfl; have hcz19_8 : w16.cell? ⟨gb148, 8, none⟩ = some (.int .i64 a1_8) := (blk_cell BK148.out 8).trans rfl; have hcz19_9 : w16.cell? ⟨gb148, 9, none⟩ = some (.int .i64 a1_9) := (blk_cell BK148.out 9).trans rfl; have hcz19_10 : w16.cell? ⟨gb148, 10, none⟩ = some (.int .i64 a1_10) := (blk_cell BK148.out 10).trans rfl; have hcz19_11 : w16.cell? ⟨gb148, 11, none⟩ = some (.bool a1_11) := (blk_cell BK148.out 11).trans rfl; have hcz19_12 : w16.cell? ⟨gb148, 12, none⟩ = some (.bool a1_12) := (blk_cell BK148.out 12).trans rfl; have hfz19_0 := blk_frozen BK148.out 0; have hfz19_1 := blk_frozen BK148.out 1; have hfz19_2 := blk_frozen BK148.out 2; have hfz19_3 := blk_frozen BK148.out 3; have hfz19_4 := blk_frozen BK148.out 4; have hfz19_5 := blk_frozen BK148.out 5; have hfz19_6 := blk_frozen BK148.out 6; have hfz19_7 := blk_frozen BK148.out 7; have hfz19_8 := blk_frozen BK148.out 8; have hfz19_9 := blk_frozen BK148.out 9; have hfz19_10 := blk_frozen BK148.out 10; have hfz19_11 := blk_frozen BK148.out 11; have hfz19_12 := blk_frozen BK148.out 12))
    go_ret
    exact ⟨Z2_19, Z2_9⟩
  rw [if_pos c7] at H
  have c7b0 : (a0_4 == a1_4) = true := beq_iff_eq.mpr c7
  have c7b1 : (a0_4 != a1_4) = false := bne_eq_false_iff_eq.mpr c7
  clear c7
  by_cases c8 : a0_5 = a1_5
  rotate_left
  · rw [if_neg c8] at H
    have c8b0 : (a0_5 == a1_5) = false := beq_eq_false_iff_ne.mpr c8
    have c8b1 : (a0_5 != a1_5) = true := bne_iff_ne.mpr c8
    obtain rfl := Option.some.inj H
    go_wp2_with (first | ((with_reducible refine gate_dst (N := 3) rfl ?_); refine box_event ?hg (N := 3) ?hd (cs := #[.int .i64 a1_0, .int .i64 a1_1, .int .i64 a1_2, .int .i64 a1_3, .int .i64 a1_4, .int .i64 a1_5, .int .i64 a1_6, .int .i64 a1_7, .int .i64 a1_8, .int .i64 a1_9, .int .i64 a1_10, .bool a1_11, .bool a1_12]) (t := 54) ?hr ?_; (case hd => rfl); (case hg => rfl); (case hr => first | (go_simp; done) | (go_simp; rfl)); intro gb148 hg w16 hbox hb; have n0_ := Aside0.mk Z2_3; have n1_ := Aside0.mk Z2_13; have n2_ := Aside0.mk (hbox); have n3_ := Aside0.mk Z2_6; have n4_ := Aside0.mk Z2_6; have n5_ := Aside0.mk Z2_1; have n6_ := Aside0.mk Z2_2; clear BK147; clear HB; have BK147 := n0_; have HB := n1_; have BK148 := n2_; have GW148 := n3_; have GE148 := n4_; have NB147_148 := n5_; have NB148_147 := n6_; clear n0_ n1_ n2_ n3_ n4_ n5_ n6_; clear hb hbox hg; have hnb17 := NB147_148.out; have hnc17 := NB148_147.out; have hcz18_0 : w16.cell? ⟨gb147, 0, none⟩ = some (.int .i64 a0_0) := (blk_cell BK147.out 0).trans rfl; have hcz18_1 : w16.cell? ⟨gb147, 1, none⟩ = some (.int .i64 a0_1) := (blk_cell BK147.out 1).trans rfl; have hcz18_2 : w16.cell? ⟨gb147, 2, none⟩ = some (.int .i64 a0_2) := (blk_cell BK147.out 2).trans rfl; have hcz18_3 : w16.cell? ⟨gb147, 3, none⟩ = some (.int .i64 a0_3) := (blk_cell BK147.out 3).trans rfl; have hcz18_4 : w16.cell? ⟨gb147, 4, none⟩ = some (.int .i64 a0_4) := (blk_cell BK147.out 4).trans rfl; have hcz18_5 : w16.cell? ⟨gb147, 5, none⟩ = some (.int .i64 a0_5) := (blk_cell BK147.out 5).trans rfl; have hcz18_6 : w16.cell? ⟨gb147, 6, none⟩ = some (.int .i64 a0_6) := (blk_cell BK147.out 6).trans rfl; have hcz18_7 : w16.cell? ⟨gb147, 7, none⟩ = some (.int .i64 a0_7) := (blk_cell BK147.out 7).trans rfl; have hcz18_8 : w16.cell? ⟨gb147, 8, none⟩ = some (.int .i64 a0_8) := (blk_cell BK147.out 8).trans rfl; have hcz18_9 : w16.cell? ⟨gb147, 9, none⟩ = some (.int .i64 a0_9) := (blk_cell BK147.out 9).trans rfl; have hcz18_10 : w16.cell? ⟨gb147, 10, none⟩ = some (.int .i64 a0_10) := (blk_cell BK147.out 10).trans rfl; have hcz18_11 : w16.cell? ⟨gb147, 11, none⟩ = some (.bool a0_11) := (blk_cell BK147.out 11).trans rfl; have hcz18_12 : w16.cell? ⟨gb147, 12, none⟩ = some (.bool a0_12) := (blk_cell BK147.out 12).trans rfl; have hfz18_0 := blk_frozen BK147.out 0; have hfz18_1 := blk_frozen BK147.out 1; have hfz18_2 := blk_frozen BK147.out 2; have hfz18_3 := blk_frozen BK147.out 3; have hfz18_4 := blk_frozen BK147.out 4; have hfz18_5 := blk_frozen BK147.out 5; have hfz18_6 := blk_frozen BK147.out 6; have hfz18_7 := blk_frozen BK147.out 7; have hfz18_8 := blk_frozen BK147.out 8; have hfz18_9 := blk_frozen BK147.out 9; have hfz18_10 := blk_frozen BK147.out 10; have hfz18_11 := blk_frozen BK147.out 11; have hfz18_12 := blk_frozen BK147.out 12; have hcz19_0 : w16.cell? ⟨gb148, 0, none⟩ = some (.int .i64 a1_0) := (blk_cell BK148.out 0).trans rfl; have hcz19_1 : w16.cell? ⟨gb148, 1, none⟩ = some (.int .i64 a1_1) := (blk_cell BK148.out 1).trans rfl; have hcz19_2 : w16.cell? ⟨gb148, 2, none⟩ = some (.int .i64 a1_2) := (blk_cell BK148.out 2).trans rfl; have hcz19_3 : w16.cell? ⟨gb148, 3, none⟩ = some (.int .i64 a1_3) := (blk_cell BK148.out 3).trans rfl; have hcz19_4 : w16.cell? ⟨gb148, 4, none⟩ = some (.int .i64 a1_4) := (blk_cell BK148.out 4).trans rfl; have hcz19_5 : w16.cell? ⟨gb148, 5, none⟩ = some (.int .i64 a1_5) := (blk_cell BK148.out 5).trans rfl; have hcz19_6 : w16.cell? ⟨gb148, 6, none⟩ = some (.int .i64 a1_6) := (blk_cell BK148.out 6).trans rfl; have hcz19_7 : w16.cell? ⟨gb148, 7, none⟩ = some (.int .i64 a1_7) := (blk_cell BK148.out 7).trans rfl; have hcz19_8 : w16.cell? ⟨gb148, 8, none⟩ = some (.int .i64 a1_8) := (blk_cell BK148.out 8).trans rfl; have hcz19_9 : w16.cell? ⟨gb148, 9, none⟩ = some (.int .i64 a1_9) := (blk_cell BK148.out 9).trans rfl; have hcz19_10 : w16.cell? ⟨gb148, 10, none⟩ = some (.int .i64 a1_10) := (blk_cell BK148.out 10).trans rfl; have hcz19_11 : w16.cell? ⟨gb148, 11, none⟩ = some (.bool a1_11) := (blk_cell BK148.out 11).trans rfl; have hcz19_12 : w16.cell? ⟨gb148, 12, none⟩ = some (.bool a1_12) := (blk_cell BK148.out 12).trans rfl; have hfz19_0 := blk_frozen BK148.out 0; have hfz19_1 := blk_frozen BK148.out 1; have hfz19_2 := blk_frozen BK148.out 2; have hfz19_3 := blk_frozen BK148.out 3; have hfz19_4 := blk_frozen BK148.out 4; have hfz19_5 := blk_frozen BK148.out 5; have hfz19_6 := blk_frozen BK148.out 6; have hfz19_7 := blk_frozen BK148.out 7; have hfz19_8 := blk_frozen BK148.out 8; have hfz19_9 := blk_frozen BK148.out 9; have hfz19_10 := blk_frozen BK148.out 10; have hfz19_11 := blk_frozen BK148.out 11; have hfz19_12 := blk_frozen BK148.out 12))
    go_ret
    exact ⟨Z2_19, Z2_9⟩
  rw [if_pos c8] at H
  have c8b0 : (a0_5 == a1_5) = true := beq_iff_eq.mpr c8
  have c8b1 : (a0_5 != a1_5) = false := bne_eq_false_iff_eq.mpr c8
  clear c8
  by_cases c9 : a0_6 = a1_6
  rotate_left
  · rw [if_neg c9] at H
    have c9b0 : (a0_6 == a1_6) = false := beq_eq_false_iff_ne.mpr c9
    have c9b1 : (a0_6 != a1_6) = true := bne_iff_ne.mpr c9
    obtain rfl := Option.some.inj H
    go_wp2_with (first | ((with_reducible refine gate_dst (N := 3) rfl ?_); refine box_event ?hg (N := 3) ?hd (cs := #[.int .i64 a1_0, .int .i64 a1_1, .int .i64 a1_2, .int .i64 a1_3, .int .i64 a1_4, .int .i64 a1_5, .int .i64 a1_6, .int .i64 a1_7, .int .i64 a1_8, .int .i64 a1_9, .int .i64 a1_10, .bool a1_11, .bool a1_12]) (t := 54) ?hr ?_; (case hd => rfl); (case hg => rfl); (case hr => first | (go_simp; done) | (go_simp; rfl)); intro gb148 hg w16 hbox hb; have n0_ := Aside0.mk Z2_3; have n1_ := Aside0.mk Z2_13; have n2_ := Aside0.mk (hbox); have n3_ := Aside0.mk Z2_6; have n4_ := Aside0.mk Z2_6; have n5_ := Aside0.mk Z2_1; have n6_ := Aside0.mk Z2_2; clear BK147; clear HB; have BK147 := n0_; have HB := n1_; have BK148 := n2_; have GW148 := n3_; have GE148 := n4_; have NB147_148 := n5_; have NB148_147 := n6_; clear n0_ n1_ n2_ n3_ n4_ n5_ n6_; clear hb hbox hg; have hnb17 := NB147_148.out; have hnc17 := NB148_147.out; have hcz18_0 : w16.cell? ⟨gb147, 0, none⟩ = some (.int .i64 a0_0) := (blk_cell BK147.out 0).trans rfl; have hcz18_1 : w16.cell? ⟨gb147, 1, none⟩ = some (.int .i64 a0_1) := (blk_cell BK147.out 1).trans rfl; have hcz18_2 : w16.cell? ⟨gb147, 2, none⟩ = some (.int .i64 a0_2) := (blk_cell BK147.out 2).trans rfl; have hcz18_3 : w16.cell? ⟨gb147, 3, none⟩ = some (.int .i64 a0_3) := (blk_cell BK147.out 3).trans rfl; have hcz18_4 : w16.cell? ⟨gb147, 4, none⟩ = some (.int .i64 a0_4) := (blk_cell BK147.out 4).trans rfl; have hcz18_5 : w16.cell? ⟨gb147, 5, none⟩ = some (.int .i64 a0_5) := (blk_cell BK147.out 5).trans rfl; have hcz18_6 : w16.cell? ⟨gb147, 6, none⟩ = some (.int .i64 a0_6) := (blk_cell BK147.out 6).trans rfl; have hcz18_7 : w16.cell? ⟨gb147, 7, none⟩ = some (.int .i64 a0_7) := (blk_cell BK147.out 7).trans rfl; have hcz18_8 : w16.cell? ⟨gb147, 8, none⟩ = some (.int .i64 a0_8) := (blk_cell BK147.out 8).trans rfl; have hcz18_9 : w16.cell? ⟨gb147, 9, none⟩ = some (.int .i64 a0_9) := (blk_cell BK147.out 9).trans rfl; have hcz18_10 : w16.cell? ⟨gb147, 10, none⟩ = some (.int .i64 a0_10) := (blk_cell BK147.out 10).trans rfl; have hcz18_11 : w16.cell? ⟨gb147, 11, none⟩ = some (.bool a0_11) := (blk_cell BK147.out 11).trans rfl; have hcz18_12 : w16.cell? ⟨gb147, 12, none⟩ = some (.bool a0_12) := (blk_cell BK147.out 12).trans rfl; have hfz18_0 := blk_frozen BK147.out 0; have hfz18_1 := blk_frozen BK147.out 1; have hfz18_2 := blk_frozen BK147.out 2; have hfz18_3 := blk_frozen BK147.out 3; have hfz18_4 := blk_frozen BK147.out 4; have hfz18_5 := blk_frozen BK147.out 5; have hfz18_6 := blk_frozen BK147.out 6; have hfz18_7 := blk_frozen BK147.out 7; have hfz18_8 := blk_frozen BK147.out 8; have hfz18_9 := blk_frozen BK147.out 9; have hfz18_10 := blk_frozen BK147.out 10; have hfz18_11 := blk_frozen BK147.out 11; have hfz18_12 := blk_frozen BK147.out 12; have hcz19_0 : w16.cell? ⟨gb148, 0, none⟩ = some (.int .i64 a1_0) := (blk_cell BK148.out 0).trans rfl; have hcz19_1 : w16.cell? ⟨gb148, 1, none⟩ = some (.int .i64 a1_1) := (blk_cell BK148.out 1).trans rfl; have hcz19_2 : w16.cell? ⟨gb148, 2, none⟩ = some (.int .i64 a1_2) := (blk_cell BK148.out 2).trans rfl; have hcz19_3 : w16.cell? ⟨gb148, 3, none⟩ = some (.int .i64 a1_3) := (blk_cell BK148.out 3).trans rfl; have hcz19_4 : w16.cell? ⟨gb148, 4, none⟩ = some (.int .i64 a1_4) := (blk_cell BK148.out 4).trans rfl; have hcz19_5 : w16.cell? ⟨gb148, 5, none⟩ = some (.int .i64 a1_5) := (blk_cell BK148.out 5).trans rfl; have hcz19_6 : w16.cell? ⟨gb148, 6, none⟩ = some (.int .i64 a1_6) := (blk_cell BK148.out 6).trans rfl; have hcz19_7 : w16.cell? ⟨gb148, 7, none⟩ = some (.int .i64 a1_7) := (blk_cell BK148.out 7).trans rfl; have hcz19_8 : w16.cell? ⟨gb148, 8, none⟩ = some (.int .i64 a1_8) := (blk_cell BK148.out 8).trans rfl; have hcz19_9 : w16.cell? ⟨gb148, 9, none⟩ = some (.int .i64 a1_9) := (blk_cell BK148.out 9).trans rfl; have hcz19_10 : w16.cell? ⟨gb148, 10, none⟩ = some (.int .i64 a1_10) := (blk_cell BK148.out 10).trans rfl; have hcz19_11 : w16.cell? ⟨gb148, 11, none⟩ = some (.bool a1_11) := (blk_cell BK148.out 11).trans rfl; have hcz19_12 : w16.cell? ⟨gb148, 12, none⟩ = some (.bool a1_12) := (blk_cell BK148.out 12).trans rfl; have hfz19_0 := blk_frozen BK148.out 0; have hfz19_1 := blk_frozen BK148.out 1; have hfz19_2 := blk_frozen BK148.out 2; have hfz19_3 := blk_frozen BK148.out 3; have hfz19_4 := blk_frozen BK148.out 4; have hfz19_5 := blk_frozen BK148.out 5; have hfz19_6 := blk_frozen BK148.out 6; have hfz19_7 := blk_frozen BK148.out 7; have hfz19_8 := blk_frozen BK148.out 8; have hfz19_9 := blk_frozen BK148.out 9; have hfz19_10 := blk_frozen BK148.out 10; have hfz19_11 := blk_frozen BK148.out 11; have hfz19_12 := blk_frozen BK148.out 12))
    go_ret
    exact ⟨Z2_19, Z2_9⟩
  rw [if_pos c9] at H
  have c9b0 : (a0_6 == a1_6) = true := beq_iff_eq.mpr c9
  have c9b1 : (a0_6 != a1_6) = false := bne_eq_false_iff_eq.mpr c9
  clear c9
  by_cases c10 : a0_7 = a1_7
  rotate_left
  · rw [if_neg c10] at H
    have c10b0 : (a0_7 == a1_7) = false := beq_eq_false_iff_ne.mpr c10
    have c10b1 : (a0_7 != a1_7) = true := bne_iff_ne.mpr c10
    obtain rfl := Option.some.inj H
    go_wp2_with (first | ((with_reducible refine gate_dst (N := 3) rfl ?_); refine box_event ?hg (N := 3) ?hd (cs := #[.int .i64 a1_0, .int .i64 a1_1, .int .i64 a1_2, .int .i64 a1_3, .int .i64 a1_4, .int .i64 a1_5, .int .i64 a1_6, .int .i64 a1_7, .int .i64 a1_8, .int .i64 a1_9, .int .i64 a1_10, .bool a1_11, .bool a1_12]) (t := 54) ?hr ?_; (case hd => rfl); (case hg => rfl); (case hr => first | (go_simp; done) | (go_simp; rfl)); intro gb148 hg w16 hbox hb; have n0_ := Aside0.mk Z2_3; have n1_ := Aside0.mk Z2_13; have n2_ := Aside0.mk (hbox); have n3_ := Aside0.mk Z2_6; have n4_ := Aside0.mk Z2_6; have n5_ := Aside0.mk Z2_1; have n6_ := Aside0.mk Z2_2; clear BK147; clear HB; have BK147 := n0_; have HB := n1_; have BK148 := n2_; have GW148 := n3_; have GE148 := n4_; have NB147_148 := n5_; have NB148_147 := n6_; clear n0_ n1_ n2_ n3_ n4_ n5_ n6_; clear hb hbox hg; have hnb17 := NB147_148.out; have hnc17 := NB148_147.out; have hcz18_0 : w16.cell? ⟨gb147, 0, none⟩ = some (.int .i64 a0_0) := (blk_cell BK147.out 0).trans rfl; have hcz18_1 : w16.cell? ⟨gb147, 1, none⟩ = some (.int .i64 a0_1) := (blk_cell BK147.out 1).trans rfl; have hcz18_2 : w16.cell? ⟨gb147, 2, none⟩ = some (.int .i64 a0_2) := (blk_cell BK147.out 2).trans rfl; have hcz18_3 : w16.cell? ⟨gb147, 3, none⟩ = some (.int .i64 a0_3) := (blk_cell BK147.out 3).trans rfl; have hcz18_4 : w16.cell? ⟨gb147, 4, none⟩ = some (.int .i64 a0_4) := (blk_cell BK147.out 4).trans rfl; have hcz18_5 : w16.cell? ⟨gb147, 5, none⟩ = some (.int .i64 a0_5) := (blk_cell BK147.out 5).trans rfl; have hcz18_6 : w16.cell? ⟨gb147, 6, none⟩ = some (.int .i64 a0_6) := (blk_cell BK147.out 6).trans rfl; have hcz18_7 : w16.cell? ⟨gb147, 7, none⟩ = some (.int .i64 a0_7) := (blk_cell BK147.out 7).trans rfl; have hcz18_8 : w16.cell? ⟨gb147, 8, none⟩ = some (.int .i64 a0_8) := (blk_cell BK147.out 8).trans rfl; have hcz18_9 : w16.cell? ⟨gb147, 9, none⟩ = some (.int .i64 a0_9) := (blk_cell BK147.out 9).trans rfl; have hcz18_10 : w16.cell? ⟨gb147, 10, none⟩ = some (.int .i64 a0_10) := (blk_cell BK147.out 10).trans rfl; have hcz18_11 : w16.cell? ⟨gb147, 11, none⟩ = some (.bool a0_11) := (blk_cell BK147.out 11).trans rfl; have hcz18_12 : w16.cell? ⟨gb147, 12, none⟩ = some (.bool a0_12) := (blk_cell BK147.out 12).trans rfl; have hfz18_0 := blk_frozen BK147.out 0; have hfz18_1 := blk_frozen BK147.out 1; have hfz18_2 := blk_frozen BK147.out 2; have hfz18_3 := blk_frozen BK147.out 3; have hfz18_4 := blk_frozen BK147.out 4; have hfz18_5 := blk_frozen BK147.out 5; have hfz18_6 := blk_frozen BK147.out 6; have hfz18_7 := blk_frozen BK147.out 7; have hfz18_8 := blk_frozen BK147.out 8; have hfz18_9 := blk_frozen BK147.out 9; have hfz18_10 := blk_frozen BK147.out 10; have hfz18_11 := blk_frozen BK147.out 11; have hfz18_12 := blk_frozen BK147.out 12; have hcz19_0 : w16.cell? ⟨gb148, 0, none⟩ = some (.int .i64 a1_0) := (blk_cell BK148.out 0).trans rfl; have hcz19_1 : w16.cell? ⟨gb148, 1, none⟩ = some (.int .i64 a1_1) := (blk_cell BK148.out 1).trans rfl; have hcz19_2 : w16.cell? ⟨gb148, 2, none⟩ = some (.int .i64 a1_2) := (blk_cell BK148.out 2).trans rfl; have hcz19_3 : w16.cell? ⟨gb148, 3, none⟩ = some (.int .i64 a1_3) := (blk_cell BK148.out 3).trans rfl; have hcz19_4 : w16.cell? ⟨gb148, 4, none⟩ = some (.int .i64 a1_4) := (blk_cell BK148.out 4).trans rfl; have hcz19_5 : w16.cell? ⟨gb148, 5, none⟩ = some (.int .i64 a1_5) := (blk_cell BK148.out 5).trans rfl; have hcz19_6 : w16.cell? ⟨gb148, 6, none⟩ = some (.int .i64 a1_6) := (blk_cell BK148.out 6).trans rfl; have hcz19_7 : w16.cell? ⟨gb148, 7, none⟩ = some (.int .i64 a1_7) := (blk_cell BK148.out 7).trans rfl; have hcz19_8 : w16.cell? ⟨gb148, 8, none⟩ = some (.int .i64 a1_8) := (blk_cell BK148.out 8).trans rfl; have hcz19_9 : w16.cell? ⟨gb148, 9, none⟩ = some (.int .i64 a1_9) := (blk_cell BK148.out 9).trans rfl; have hcz19_10 : w16.cell? ⟨gb148, 10, none⟩ = some (.int .i64 a1_10) := (blk_cell BK148.out 10).trans rfl; have hcz19_11 : w16.cell? ⟨gb148, 11, none⟩ = some (.bool a1_11) := (blk_cell BK148.out 11).trans rfl; have hcz19_12 : w16.cell? ⟨gb148, 12, none⟩ = some (.bool a1_12) := (blk_cell BK148.out 12).trans rfl; have hfz19_0 := blk_frozen BK148.out 0; have hfz19_1 := blk_frozen BK148.out 1; have hfz19_2 := blk_frozen BK148.out 2; have hfz19_3 := blk_frozen BK148.out 3; have hfz19_4 := blk_frozen BK148.out 4; have hfz19_5 := blk_frozen BK148.out 5; have hfz19_6 := blk_frozen BK148.out 6; have hfz19_7 := blk_frozen BK148.out 7; have hfz19_8 := blk_frozen BK148.out 8; have hfz19_9 := blk_frozen BK148.out 9; have hfz19_10 := blk_frozen BK148.out 10; have hfz19_11 := blk_frozen BK148.out 11; have hfz19_12 := blk_frozen BK148.out 12))
    go_ret
    exact ⟨Z2_19, Z2_9⟩
  rw [if_pos c10] at H
  have c10b0 : (a0_7 == a1_7) = true := beq_iff_eq.mpr c10
  have c10b1 : (a0_7 != a1_7) = false := bne_eq_false_iff_eq.mpr c10
  clear c10
  by_cases c11 : a0_8 = a1_8
  rotate_left
  · rw [if_neg c11] at H
    have c11b0 : (a0_8 == a1_8) = false := beq_eq_false_iff_ne.mpr c11
    have c11b1 : (a0_8 != a1_8) = true := bne_iff_ne.mpr c11
    obtain rfl := Option.some.inj H
    go_wp2_with (first | ((with_reducible refine gate_dst (N := 3) rfl ?_); refine box_event ?hg (N := 3) ?hd (cs := #[.int .i64 a1_0, .int .i64 a1_1, .int .i64 a1_2, .int .i64 a1_3, .int .i64 a1_4, .int .i64 a1_5, .int .i64 a1_6, .int .i64 a1_7, .int .i64 a1_8, .int .i64 a1_9, .int .i64 a1_10, .bool a1_11, .bool a1_12]) (t := 54) ?hr ?_; (case hd => rfl); (case hg => rfl); (case hr => first | (go_simp; done) | (go_simp; rfl)); intro gb148 hg w16 hbox hb; have n0_ := Aside0.mk Z2_3; have n1_ := Aside0.mk Z2_13; have n2_ := Aside0.mk (hbox); have n3_ := Aside0.mk Z2_6; have n4_ := Aside0.mk Z2_6; have n5_ := Aside0.mk Z2_1; have n6_ := Aside0.mk Z2_2; clear BK147; clear HB; have BK147 := n0_; have HB := n1_; have BK148 := n2_; have GW148 := n3_; have GE148 := n4_; have NB147_148 := n5_; have NB148_147 := n6_; clear n0_ n1_ n2_ n3_ n4_ n5_ n6_; clear hb hbox hg; have hnb17 := NB147_148.out; have hnc17 := NB148_147.out; have hcz18_0 : w16.cell? ⟨gb147, 0, none⟩ = some (.int .i64 a0_0) := (blk_cell BK147.out 0).trans rfl; have hcz18_1 : w16.cell? ⟨gb147, 1, none⟩ = some (.int .i64 a0_1) := (blk_cell BK147.out 1).trans rfl; have hcz18_2 : w16.cell? ⟨gb147, 2, none⟩ = some (.int .i64 a0_2) := (blk_cell BK147.out 2).trans rfl; have hcz18_3 : w16.cell? ⟨gb147, 3, none⟩ = some (.int .i64 a0_3) := (blk_cell BK147.out 3).trans rfl; have hcz18_4 : w16.cell? ⟨gb147, 4, none⟩ = some (.int .i64 a0_4) := (blk_cell BK147.out 4).trans rfl; have hcz18_5 : w16.cell? ⟨gb147, 5, none⟩ = some (.int .i64 a0_5) := (blk_cell BK147.out 5).trans rfl; have hcz18_6 : w16.cell? ⟨gb147, 6, none⟩ = some (.int .i64 a0_6) := (blk_cell BK147.out 6).trans rfl; have hcz18_7 : w16.cell? ⟨gb147, 7, none⟩ = some (.int .i64 a0_7) := (blk_cell BK147.out 7).trans rfl; have hcz18_8 : w16.cell? ⟨gb147, 8, none⟩ = some (.int .i64 a0_8) := (blk_cell BK147.out 8).trans rfl; have hcz18_9 : w16.cell? ⟨gb147, 9, none⟩ = some (.int .i64 a0_9) := (blk_cell BK147.out 9).trans rfl; have hcz18_10 : w16.cell? ⟨gb147, 10, none⟩ = some (.int .i64 a0_10) := (blk_cell BK147.out 10).trans rfl; have hcz18_11 : w16.cell? ⟨gb147, 11, none⟩ = some (.bool a0_11) := (blk_cell BK147.out 11).trans rfl; have hcz18_12 : w16.cell? ⟨gb147, 12, none⟩ = some (.bool a0_12) := (blk_cell BK147.out 12).trans rfl; have hfz18_0 := blk_frozen BK147.out 0; have hfz18_1 := blk_frozen BK147.out 1; have hfz18_2 := blk_frozen BK147.out 2; have hfz18_3 := blk_frozen BK147.out 3; have hfz18_4 := blk_frozen BK147.out 4; have hfz18_5 := blk_frozen BK147.out 5; have hfz18_6 := blk_frozen BK147.out 6; have hfz18_7 := blk_frozen BK147.out 7; have hfz18_8 := blk_frozen BK147.out 8; have hfz18_9 := blk_frozen BK147.out 9; have hfz18_10 := blk_frozen BK147.out 10; have hfz18_11 := blk_frozen BK147.out 11; have hfz18_12 := blk_frozen BK147.out 12; have hcz19_0 : w16.cell? ⟨gb148, 0, none⟩ = some (.int .i64 a1_0) := (blk_cell BK148.out 0).trans rfl; have hcz19_1 : w16.cell? ⟨gb148, 1, none⟩ = some (.int .i64 a1_1) := (blk_cell BK148.out 1).trans rfl; have hcz19_2 : w16.cell? ⟨gb148, 2, none⟩ = some (.int .i64 a1_2) := (blk_cell BK148.out 2).trans rfl; have hcz19_3 : w16.cell? ⟨gb148, 3, none⟩ = some (.int .i64 a1_3) := (blk_cell BK148.out 3).trans rfl; have hcz19_4 : w16.cell? ⟨gb148, 4, none⟩ = some (.int .i64 a1_4) := (blk_cell BK148.out 4).trans rfl; have hcz19_5 : w16.cell? ⟨gb148, 5, none⟩ = some (.int .i64 a1_5) := (blk_cell BK148.out 5).trans rfl; have hcz19_6 : w16.cell? ⟨gb148, 6, none⟩ = some (.int .i64 a1_6) := (blk_cell BK148.out 6).trans rfl; have hcz19_7 : w16.cell? ⟨gb148, 7, none⟩ = some (.int .i64 a1_7) := (blk_cell BK148.out 7).trans rfl; have hcz19_8 : w16.cell? ⟨gb148, 8, none⟩ = some (.int .i64 a1_8) := (blk_cell BK148.out 8).trans rfl; have hcz19_9 : w16.cell? ⟨gb148, 9, none⟩ = some (.int .i64 a1_9) := (blk_cell BK148.out 9).trans rfl; have hcz19_10 : w16.cell? ⟨gb148, 10, none⟩ = some (.int .i64 a1_10) := (blk_cell BK148.out 10).trans rfl; have hcz19_11 : w16.cell? ⟨gb148, 11, none⟩ = some (.bool a1_11) := (blk_cell BK148.out 11).trans rfl; have hcz19_12 : w16.cell? ⟨gb148, 12, none⟩ = some (.bool a1_12) := (blk_cell BK148.out 12).trans rfl; have hfz19_0 := blk_frozen BK148.out 0; have hfz19_1 := blk_frozen BK148.out 1; have hfz19_2 := blk_frozen BK148.out 2; have hfz19_3 := blk_frozen BK148.out 3; have hfz19_4 := blk_frozen BK148.out 4; have hfz19_5 := blk_frozen BK148.out 5; have hfz19_6 := blk_frozen BK148.out 6; have hfz19_7 := blk_frozen BK148.out 7; have hfz19_8 := blk_frozen BK148.out 8; have hfz19_9 := blk_frozen BK148.out 9; have hfz19_10 := blk_frozen BK148.out 10; have hfz19_11 := blk_frozen BK148.out 11; have hfz19_12 := blk_frozen BK148.out 12))
    go_ret
    exact ⟨Z2_19, Z2_9⟩
  rw [if_pos c11] at H
  have c11b0 : (a0_8 == a1_8) = true := beq_iff_eq.mpr c11
  have c11b1 : (a0_8 != a1_8) = false := bne_eq_false_iff_eq.mpr c11
  clear c11
  by_cases c12 : a0_9 = a1_9
  rotate_left
  · rw [if_neg c12] at H
    have c12b0 : (a0_9 == a1_9) = false := beq_eq_false_iff_ne.mpr c12
    have c12b1 : (a0_9 != a1_9) = true := bne_iff_ne.mpr c12
    obtain rfl := Option.some.inj H
    go_wp2_with (first | ((with_reducible refine gate_dst (N := 3) rfl ?_); refine box_event ?hg (N := 3) ?hd (cs := #[.int .i64 a1_0, .int .i64 a1_1, .int .i64 a1_2, .int .i64 a1_3, .int .i64 a1_4, .int .i64 a1_5, .int .i64 a1_6, .int .i64 a1_7, .int .i64 a1_8, .int .i64 a1_9, .int .i64 a1_10, .bool a1_11, .bool a1_12]) (t := 54) ?hr ?_; (case hd => rfl); (case hg => rfl); (case hr => first | (go_simp; done) | (go_simp; rfl)); intro gb148 hg w16 hbox hb; have n0_ := Aside0.mk Z2_3; have n1_ := Aside0.mk Z2_13; have n2_ := Aside0.mk (hbox); have n3_ := Aside0.mk Z2_6; have n4_ := Aside0.mk Z2_6; have n5_ := Aside0.mk Z2_1; have n6_ := Aside0.mk Z2_2; clear BK147; clear HB; have BK147 := n0_; have HB := n1_; have BK148 := n2_; have GW148 := n3_; have GE148 := n4_; have NB147_148 := n5_; have NB148_147 := n6_; clear n0_ n1_ n2_ n3_ n4_ n5_ n6_; clear hb hbox hg; have hnb17 := NB147_148.out; have hnc17 := NB148_147.out; have hcz18_0 : w16.cell? ⟨gb147, 0, none⟩ = some (.int .i64 a0_0) := (blk_cell BK147.out 0).trans rfl; have hcz18_1 : w16.cell? ⟨gb147, 1, none⟩ = some (.int .i64 a0_1) := (blk_cell BK147.out 1).trans rfl; have hcz18_2 : w16.cell? ⟨gb147, 2, none⟩ = some (.int .i64 a0_2) := (blk_cell BK147.out 2).trans rfl; have hcz18_3 : w16.cell? ⟨gb147, 3, none⟩ = some (.int .i64 a0_3) := (blk_cell BK147.out 3).trans rfl; have hcz18_4 : w16.cell? ⟨gb147, 4, none⟩ = some (.int .i64 a0_4) := (blk_cell BK147.out 4).trans rfl; have hcz18_5 : w16.cell? ⟨gb147, 5, none⟩ = some (.int .i64 a0_5) := (blk_cell BK147.out 5).trans rfl; have hcz18_6 : w16.cell? ⟨gb147, 6, none⟩ = some (.int .i64 a0_6) := (blk_cell BK147.out 6).trans rfl; have hcz18_7 : w16.cell? ⟨gb147, 7, none⟩ = some (.int .i64 a0_7) := (blk_cell BK147.out 7).trans rfl; have hcz18_8 : w16.cell? ⟨gb147, 8, none⟩ = some (.int .i64 a0_8) := (blk_cell BK147.out 8).trans rfl; have hcz18_9 : w16.cell? ⟨gb147, 9, none⟩ = some (.int .i64 a0_9) := (blk_cell BK147.out 9).trans rfl; have hcz18_10 : w16.cell? ⟨gb147, 10, none⟩ = some (.int .i64 a0_10) := (blk_cell BK147.out 10).trans rfl; have hcz18_11 : w16.cell? ⟨gb147, 11, none⟩ = some (.bool a0_11) := (blk_cell BK147.out 11).trans rfl; have hcz18_12 : w16.cell? ⟨gb147, 12, none⟩ = some (.bool a0_12) := (blk_cell BK147.out 12).trans rfl; have hfz18_0 := blk_frozen BK147.out 0; have hfz18_1 := blk_frozen BK147.out 1; have hfz18_2 := blk_frozen BK147.out 2; have hfz18_3 := blk_frozen BK147.out 3; have hfz18_4 := blk_frozen BK147.out 4; have hfz18_5 := blk_frozen BK147.out 5; have hfz18_6 := blk_frozen BK147.out 6; have hfz18_7 := blk_frozen BK147.out 7; have hfz18_8 := blk_frozen BK147.out 8; have hfz18_9 := blk_frozen BK147.out 9; have hfz18_10 := blk_frozen BK147.out 10; have hfz18_11 := blk_frozen BK147.out 11; have hfz18_12 := blk_frozen BK147.out 12; have hcz19_0 : w16.cell? ⟨gb148, 0, none⟩ = some (.int .i64 a1_0) := (blk_cell BK148.out 0).trans rfl; have hcz19_1 : w16.cell? ⟨gb148, 1, none⟩ = some (.int .i64 a1_1) := (blk_cell BK148.out 1).trans rfl; have hcz19_2 : w16.cell? ⟨gb148, 2, none⟩ = some (.int .i64 a1_2) := (blk_cell BK148.out 2).trans rfl; have hcz19_3 : w16.cell? ⟨gb148, 3, none⟩ = some (.int .i64 a1_3) := (blk_cell BK148.out 3).trans rfl; have hcz19_4 : w16.cell? ⟨gb148, 4, none⟩ = some (.int .i64 a1_4) := (blk_cell BK148.out 4).trans rfl; have hcz19_5 : w16.cell? ⟨gb148, 5, none⟩ = some (.int .i64 a1_5) := (blk_cell BK148.out 5).trans rfl; have hcz19_6 : w16.cell? ⟨gb148, 6, none⟩ = some (.int .i64 a1_6) := (blk_cell BK148.out 6).trans rfl; have hcz19_7 : w16.cell? ⟨gb148, 7, none⟩ = some (.int .i64 a1_7) := (blk_cell BK148.out 7).trans rfl; have hcz19_8 : w16.cell? ⟨gb148, 8, none⟩ = some (.int .i64 a1_8) := (blk_cell BK148.out 8).trans rfl; have hcz19_9 : w16.cell? ⟨gb148, 9, none⟩ = some (.int .i64 a1_9) := (blk_cell BK148.out 9).trans rfl; have hcz19_10 : w16.cell? ⟨gb148, 10, none⟩ = some (.int .i64 a1_10) := (blk_cell BK148.out 10).trans rfl; have hcz19_11 : w16.cell? ⟨gb148, 11, none⟩ = some (.bool a1_11) := (blk_cell BK148.out 11).trans rfl; have hcz19_12 : w16.cell? ⟨gb148, 12, none⟩ = some (.bool a1_12) := (blk_cell BK148.out 12).trans rfl; have hfz19_0 := blk_frozen BK148.out 0; have hfz19_1 := blk_frozen BK148.out 1; have hfz19_2 := blk_frozen BK148.out 2; have hfz19_3 := blk_frozen BK148.out 3; have hfz19_4 := blk_frozen BK148.out 4; have hfz19_5 := blk_frozen BK148.out 5; have hfz19_6 := blk_frozen BK148.out 6; have hfz19_7 := blk_frozen BK148.out 7; have hfz19_8 := blk_frozen BK148.out 8; have hfz19_9 := blk_frozen BK148.out 9; have hfz19_10 := blk_frozen BK148.out 10; have hfz19_11 := blk_frozen BK148.out 11; have hfz19_12 := blk_frozen BK148.out 12))
    go_ret
    exact ⟨Z2_19, Z2_9⟩
  rw [if_pos c12] at H
  have c12b0 : (a0_9 == a1_9) = true := beq_iff_eq.mpr c12
  have c12b1 : (a0_9 != a1_9) = false := bne_eq_false_iff_eq.mpr c12
  clear c12
  by_cases c13 : a0_10 = a1_10
  rotate_left
  · rw [if_neg c13] at H
    have c13b0 : (a0_10 == a1_10) = false := beq_eq_false_iff_ne.mpr c13
    have c13b1 : (a0_10 != a1_10) = true := bne_iff_ne.mpr c13
    obtain rfl := Option.some.inj H
    go_wp2_with (first | ((with_reducible refine gate_dst (N := 3) rfl ?_); refine box_event ?hg (N := 3) ?hd (cs := #[.int .i64 a1_0, .int .i64 a1_1, .int .i64 a1_2, .int .i64 a1_3, .int .i64 a1_4, .int .i64 a1_5, .int .i64 a1_6, .int .i64 a1_7, .int .i64 a1_8, .int .i64 a1_9, .int .i64 a1_10, .bool a1_11, .bool a1_12]) (t := 54) ?hr ?_; (case hd => rfl); (case hg => rfl); (case hr => first | (go_simp; done) | (go_simp; rfl)); intro gb148 hg w16 hbox hb; have n0_ := Aside0.mk Z2_3; have n1_ := Aside0.mk Z2_13; have n2_ := Aside0.mk (hbox); have n3_ := Aside0.mk Z2_6; have n4_ := Aside0.mk Z2_6; have n5_ := Aside0.mk Z2_1; have n6_ := Aside0.mk Z2_2; clear BK147; clear HB; have BK147 := n0_; have HB := n1_; have BK148 := n2_; have GW148 := n3_; have GE148 := n4_; have NB147_148 := n5_; have NB148_147 := n6_; clear n0_ n1_ n2_ n3_ n4_ n5_ n6_; clear hb hbox hg; have hnb17 := NB147_148.out; have hnc17 := NB148_147.out; have hcz18_0 : w16.cell? ⟨gb147, 0, none⟩ = some (.int .i64 a0_0) := (blk_cell BK147.out 0).trans rfl; have hcz18_1 : w16.cell? ⟨gb147, 1, none⟩ = some (.int .i64 a0_1) := (blk_cell BK147.out 1).trans rfl; have hcz18_2 : w16.cell? ⟨gb147, 2, none⟩ = some (.int .i64 a0_2) := (blk_cell BK147.out 2).trans rfl; have hcz18_3 : w16.cell? ⟨gb147, 3, none⟩ = some (.int .i64 a0_3) := (blk_cell BK147.out 3).trans rfl; have hcz18_4 : w16.cell? ⟨gb147, 4, none⟩ = some (.int .i64 a0_4) := (blk_cell BK147.out 4).trans rfl; have hcz18_5 : w16.cell? ⟨gb147, 5, none⟩ = some (.int .i64 a0_5) := (blk_cell BK147.out 5).trans rfl; have hcz18_6 : w16.cell? ⟨gb147, 6, none⟩ = some (.int .i64 a0_6) := (blk_cell BK147.out 6).trans rfl; have hcz18_7 : w16.cell? ⟨gb147, 7, none⟩ = some (.int .i64 a0_7) := (blk_cell BK147.out 7).trans rfl; have hcz18_8 : w16.cell? ⟨gb147, 8, none⟩ = some (.int .i64 a0_8) := (blk_cell BK147.out 8).trans rfl; have hcz18_9 : w16.cell? ⟨gb147, 9, none⟩ = some (.int .i64 a0_9) := (blk_cell BK147.out 9).trans rfl; have hcz18_10 : w16.cell? ⟨gb147, 10, none⟩ = some (.int .i64 a0_10) := (blk_cell BK147.out 10).trans rfl; have hcz18_11 : w16.cell? ⟨gb147, 11, none⟩ = some (.bool a0_11) := (blk_cell BK147.out 11).trans rfl; have hcz18_12 : w16.cell? ⟨gb147, 12, none⟩ = some (.bool a0_12) := (blk_cell BK147.out 12).trans rfl; have hfz18_0 := blk_frozen BK147.out 0; have hfz18_1 := blk_frozen BK147.out 1; have hfz18_2 := blk_frozen BK147.out 2; have hfz18_3 := blk_frozen BK147.out 3; have hfz18_4 := blk_frozen BK147.out 4; have hfz18_5 := blk_frozen BK147.out 5; have hfz18_6 := blk_frozen BK147.out 6; have hfz18_7 := blk_frozen BK147.out 7; have hfz18_8 := blk_frozen BK147.out 8; have hfz18_9 := blk_frozen BK147.out 9; have hfz18_10 := blk_frozen BK147.out 10; have hfz18_11 := blk_frozen BK147.out 11; have hfz18_12 := blk_frozen BK147.out 12; have hcz19_0 : w16.cell? ⟨gb148, 0, none⟩ = some (.int .i64 a1_0) := (blk_cell BK148.out 0).trans rfl; have hcz19_1 : w16.cell? ⟨gb148, 1, none⟩ = some (.int .i64 a1_1) := (blk_cell BK148.out 1).trans rfl; have hcz19_2 : w16.cell? ⟨gb148, 2, none⟩ = some (.int .i64 a1_2) := (blk_cell BK148.out 2).trans rfl; have hcz19_3 : w16.cell? ⟨gb148, 3, none⟩ = some (.int .i64 a1_3) := (blk_cell BK148.out 3).trans rfl; have hcz19_4 : w16.cell? ⟨gb148, 4, none⟩ = some (.int .i64 a1_4) := (blk_cell BK148.out 4).trans rfl; have hcz19_5 : w16.cell? ⟨gb148, 5, none⟩ = some (.int .i64 a1_5) := (blk_cell BK148.out 5).trans rfl; have hcz19_6 : w16.cell? ⟨gb148, 6, none⟩ = some (.int .i64 a1_6) := (blk_cell BK148.out 6).trans rfl; have hcz19_7 : w16.cell? ⟨gb148, 7, none⟩ = some (.int .i64 a1_7) := (blk_cell BK148.out 7).trans rfl; have hcz19_8 : w16.cell? ⟨gb148, 8, none⟩ = some (.int .i64 a1_8) := (blk_cell BK148.out 8).trans rfl; have hcz19_9 : w16.cell? ⟨gb148, 9, none⟩ = some (.int .i64 a1_9) := (blk_cell BK148.out 9).trans rfl; have hcz19_10 : w16.cell? ⟨gb148, 10, none⟩ = some (.int .i64 a1_10) := (blk_cell BK148.out 10).trans rfl; have hcz19_11 : w16.cell? ⟨gb148, 11, none⟩ = some (.bool a1_11) := (blk_cell BK148.out 11).trans rfl; have hcz19_12 : w16.cell? ⟨gb148, 12, none⟩ = some (.bool a1_12) := (blk_cell BK148.out 12).trans rfl; have hfz19_0 := blk_frozen BK148.out 0; have hfz19_1 := blk_frozen BK148.out 1; have hfz19_2 := blk_frozen BK148.out 2; have hfz19_3 := blk_frozen BK148.out 3; have hfz19_4 := blk_frozen BK148.out 4; have hfz19_5 := blk_frozen BK148.out 5; have hfz19_6 := blk_frozen BK148.out 6; have hfz19_7 := blk_frozen BK148.out 7; have hfz19_8 := blk_frozen BK148.out 8; have hfz19_9 := blk_frozen BK148.out 9; have hfz19_10 := blk_frozen BK148.out 10; have hfz19_11 := blk_frozen BK148.out 11; have hfz19_12 := blk_frozen BK148.out 12))
    go_ret
    exact ⟨Z2_19, Z2_9⟩
  rw [if_pos c13] at H
  have c13b0 : (a0_10 == a1_10) = true := beq_iff_eq.mpr c13
  have c13b1 : (a0_10 != a1_10) = false := bne_eq_false_iff_eq.mpr c13
  clear c13
  by_cases c14 : (a0_11 != a1_11) = true
  · rw [if_pos c14] at H
    have c14b0 : (a0_11 != a1_11) = true := c14
    (try (have c14b1 : decide (a0_11 = a1_11) = false := by simpa using c14))
    (try (have c14b2 : (a0_11 == a1_11) = false := by simpa using c14))
    (try (have c14b3 : ¬ (a0_11 = a1_11) := by simpa using c14))
    clear c14
    obtain rfl := Option.some.inj H
    go_wp2_with (first | ((with_reducible refine gate_dst (N := 3) rfl ?_); refine box_event ?hg (N := 3) ?hd (cs := #[.int .i64 a1_0, .int .i64 a1_1, .int .i64 a1_2, .int .i64 a1_3, .int .i64 a1_4, .int .i64 a1_5, .int .i64 a1_6, .int .i64 a1_7, .int .i64 a1_8, .int .i64 a1_9, .int .i64 a1_10, .bool a1_11, .bool a1_12]) (t := 54) ?hr ?_; (case hd => rfl); (case hg => rfl); (case hr => first | (go_simp; done) | (go_simp; rfl)); intro gb148 hg w16 hbox hb; have n0_ := Aside0.mk Z2_3; have n1_ := Aside0.mk Z2_13; have n2_ := Aside0.mk (hbox); have n3_ := Aside0.mk Z2_6; have n4_ := Aside0.mk Z2_6; have n5_ := Aside0.mk Z2_1; have n6_ := Aside0.mk Z2_2; clear BK147; clear HB; have BK147 := n0_; have HB := n1_; have BK148 := n2_; have GW148 := n3_; have GE148 := n4_; have NB147_148 := n5_; have NB148_147 := n6_; clear n0_ n1_ n2_ n3_ n4_ n5_ n6_; clear hb hbox hg; have hnb17 := NB147_148.out; have hnc17 := NB148_147.out; have hcz18_0 : w16.cell? ⟨gb147, 0, none⟩ = some (.int .i64 a0_0) := (blk_cell BK147.out 0).trans rfl; have hcz18_1 : w16.cell? ⟨gb147, 1, none⟩ = some (.int .i64 a0_1) := (blk_cell BK147.out 1).trans rfl; have hcz18_2 : w16.cell? ⟨gb147, 2, none⟩ = some (.int .i64 a0_2) := (blk_cell BK147.out 2).trans rfl; have hcz18_3 : w16.cell? ⟨gb147, 3, none⟩ = some (.int .i64 a0_3) := (blk_cell BK147.out 3).trans rfl; have hcz18_4 : w16.cell? ⟨gb147, 4, none⟩ = some (.int .i64 a0_4) := (blk_cell BK147.out 4).trans rfl; have hcz18_5 : w16.cell? ⟨gb147, 5, none⟩ = some (.int .i64 a0_5) := (blk_cell BK147.out 5).trans rfl; have hcz18_6 : w16.cell? ⟨gb147, 6, none⟩ = some (.int .i64 a0_6) := (blk_cell BK147.out 6).trans rfl; have hcz18_7 : w16.cell? ⟨gb147, 7, none⟩ = some (.int .i64 a0_7) := (blk_cell BK147.out 7).trans rfl; have hcz18_8 : w16.cell? ⟨gb147, 8, none⟩ = some (.int .i64 a0_8) := (blk_cell BK147.out 8).trans rfl; have hcz18_9 : w16.cell? ⟨gb147, 9, none⟩ = some (.int .i64 a0_9) := (blk_cell BK147.out 9).trans rfl; have hcz18_10 : w16.cell? ⟨gb147, 10, none⟩ = some (.int .i64 a0_10) := (blk_cell BK147.out 10).trans rfl; have hcz18_11 : w16.cell? ⟨gb147, 11, none⟩ = some (.bool a0_11) := (blk_cell BK147.out 11).trans rfl; have hcz18_12 : w16.cell? ⟨gb147, 12, none⟩ = some (.bool a0_12) := (blk_cell BK147.out 12).trans rfl; have hfz18_0 := blk_frozen BK147.out 0; have hfz18_1 := blk_frozen BK147.out 1; have hfz18_2 := blk_frozen BK147.out 2; have hfz18_3 := blk_frozen BK147.out 3; have hfz18_4 := blk_frozen BK147.out 4; have hfz18_5 := blk_frozen BK147.out 5; have hfz18_6 := blk_frozen BK147.out 6; have hfz18_7 := blk_frozen BK147.out 7; have hfz18_8 := blk_frozen BK147.out 8; have hfz18_9 := blk_frozen BK147.out 9; have hfz18_10 := blk_frozen BK147.out 10; have hfz18_11 := blk_frozen BK147.out 11; have hfz18_12 := blk_frozen BK147.out 12; have hcz19_0 : w16.cell? ⟨gb148, 0, none⟩ = some (.int .i64 a1_0) := (blk_cell BK148.out 0).trans rfl; have hcz19_1 : w16.cell? ⟨gb148, 1, none⟩ = some (.int .i64 a1_1) := (blk_cell BK148.out 1).trans rfl; have hcz19_2 : w16.cell? ⟨gb148, 2, none⟩ = some (.int .i64 a1_2) := (blk_cell BK148.out 2).trans rfl; have hcz19_3 : w16.cell? ⟨gb148, 3, none⟩ = some (.int .i64 a1_3) := (blk_cell BK148.out 3).trans rfl; have hcz19_4 : w16.cell? ⟨gb148, 4, none⟩ = some (.int .i64 a1_4) := (blk_cell BK148.out 4).trans rfl; have hcz19_5 : w16.cell? ⟨gb148, 5, none⟩ = some (.int .i64 a1_5) := (blk_cell BK148.out 5).trans rfl; have hcz19_6 : w16.cell? ⟨gb148, 6, none⟩ = some (.int .i64 a1_6) := (blk_cell BK148.out 6).trans rfl; have hcz19_7 : w16.cell? ⟨gb148, 7, none⟩ = some (.int .i64 a1_7) := (blk_cell BK148.out 7).trans rfl; have hcz19_8 : w16.cell? ⟨gb148, 8, none⟩ = some (.int .i64 a1_8) := (blk_cell BK148.out 8).trans rfl; have hcz19_9 : w16.cell? ⟨gb148, 9, none⟩ = some (.int .i64 a1_9) := (blk_cell BK148.out 9).trans rfl; have hcz19_10 : w16.cell? ⟨gb148, 10, none⟩ = some (.int .i64 a1_10) := (blk_cell BK148.out 10).trans rfl; have hcz19_11 : w16.cell? ⟨gb148, 11, none⟩ = some (.bool a1_11) := (blk_cell BK148.out 11).trans rfl; have hcz19_12 : w16.cell? ⟨gb148, 12, none⟩ = some (.bool a1_12) := (blk_cell BK148.out 12).trans rfl; have hfz19_0 := blk_frozen BK148.out 0; have hfz19_1 := blk_frozen BK148.out 1; have hfz19_2 := blk_frozen BK148.out 2; have hfz19_3 := blk_frozen BK148.out 3; have hfz19_4 := blk_frozen BK148.out 4; have hfz19_5 := blk_frozen BK148.out 5; have hfz19_6 := blk_frozen BK148.out 6; have hfz19_7 := blk_frozen BK148.out 7; have hfz19_8 := blk_frozen BK148.out 8; have hfz19_9 := blk_frozen BK148.out 9; have hfz19_10 := blk_frozen BK148.out 10; have hfz19_11 := blk_frozen BK148.out 11; have hfz19_12 := blk_frozen BK148.out 12))
    go_ret
    exact ⟨Z2_19, Z2_9⟩
  rw [if_neg c14] at H
  have c14b0 : (a0_11 != a1_11) = false := by simpa using c14
  (try (have c14b1 : decide (a0_11 = a1_11) = true := by simpa using c14))
  (try (have c14b2 : (a0_11 == a1_11) = true := by simpa using c14))
  clear c14
  by_cases c20 : (a0_12 != a1_12) = true
  rotate_left
  · rw [if_neg c20] at H
    have c20b0 : (a0_12 != a1_12) = false := by simpa using c20
    (try (have c20b1 : decide (a0_12 = a1_12) = true := by simpa using c20))
    (try (have c20b2 : (a0_12 == a1_12) = true := by simpa using c20))
    clear c20
    obtain rfl := Option.some.inj H
    go_wp2_with (first | ((with_reducible refine gate_dst (N := 3) rfl ?_); refine box_event ?hg (N := 3) ?hd (cs := #[.int .i64 a1_0, .int .i64 a1_1, .int .i64 a1_2, .int .i64 a1_3, .int .i64 a1_4, .int .i64 a1_5, .int .i64 a1_6, .int .i64 a1_7, .int .i64 a1_8, .int .i64 a1_9, .int .i64 a1_10, .bool a1_11, .bool a1_12]) (t := 54) ?hr ?_; (case hd => rfl); (case hg => rfl); (case hr => first | (go_simp; done) | (go_simp; rfl)); intro gb148 hg w16 hbox hb; have n0_ := Aside0.mk Z2_3; have n1_ := Aside0.mk Z2_13; have n2_ := Aside0.mk (hbox); have n3_ := Aside0.mk Z2_6; have n4_ := Aside0.mk Z2_6; have n5_ := Aside0.mk Z2_1; have n6_ := Aside0.mk Z2_2; clear BK147; clear HB; have BK147 := n0_; have HB := n1_; have BK148 := n2_; have GW148 := n3_; have GE148 := n4_; have NB147_148 := n5_; have NB148_147 := n6_; clear n0_ n1_ n2_ n3_ n4_ n5_ n6_; clear hb hbox hg; have hnb17 := NB147_148.out; have hnc17 := NB148_147.out; have hcz18_0 : w16.cell? ⟨gb147, 0, none⟩ = some (.int .i64 a0_0) := (blk_cell BK147.out 0).trans rfl; have hcz18_1 : w16.cell? ⟨gb147, 1, none⟩ = some (.int .i64 a0_1) := (blk_cell BK147.out 1).trans rfl; have hcz18_2 : w16.cell? ⟨gb147, 2, none⟩ = some (.int .i64 a0_2) := (blk_cell BK147.out 2).trans rfl; have hcz18_3 : w16.cell? ⟨gb147, 3, none⟩ = some (.int .i64 a0_3) := (blk_cell BK147.out 3).trans rfl; have hcz18_4 : w16.cell? ⟨gb147, 4, none⟩ = some (.int .i64 a0_4) := (blk_cell BK147.out 4).trans rfl; have hcz18_5 : w16.cell? ⟨gb147, 5, none⟩ = some (.int .i64 a0_5) := (blk_cell BK147.out 5).trans rfl; have hcz18_6 : w16.cell? ⟨gb147, 6, none⟩ = some (.int .i64 a0_6) := (blk_cell BK147.out 6).trans rfl; have hcz18_7 : w16.cell? ⟨gb147, 7, none⟩ = some (.int .i64 a0_7) := (blk_cell BK147.out 7).trans rfl; have hcz18_8 : w16.cell? ⟨gb147, 8, none⟩ = some (.int .i64 a0_8) := (blk_cell BK147.out 8).trans rfl; have hcz18_9 : w16.cell? ⟨gb147, 9, none⟩ = some (.int .i64 a0_9) := (blk_cell BK147.out 9).trans rfl; have hcz18_10 : w16.cell? ⟨gb147, 10, none⟩ = some (.int .i64 a0_10) := (blk_cell BK147.out 10).trans rfl; have hcz18_11 : w16.cell? ⟨gb147, 11, none⟩ = some (.bool a0_11) := (blk_cell BK147.out 11).trans rfl; have hcz18_12 : w16.cell? ⟨gb147, 12, none⟩ = some (.bool a0_12) := (blk_cell BK147.out 12).trans rfl; have hfz18_0 := blk_frozen BK147.out 0; have hfz18_1 := blk_frozen BK147.out 1; have hfz18_2 := blk_frozen BK147.out 2; have hfz18_3 := blk_frozen BK147.out 3; have hfz18_4 := blk_frozen BK147.out 4; have hfz18_5 := blk_frozen BK147.out 5; have hfz18_6 := blk_frozen BK147.out 6; have hfz18_7 := blk_frozen BK147.out 7; have hfz18_8 := blk_frozen BK147.out 8; have hfz18_9 := blk_frozen BK147.out 9; have hfz18_10 := blk_frozen BK147.out 10; have hfz18_11 := blk_frozen BK147.out 11; have hfz18_12 := blk_frozen BK147.out 12; have hcz19_0 : w16.cell? ⟨gb148, 0, none⟩ = some (.int .i64 a1_0) := (blk_cell BK148.out 0).trans rfl; have hcz19_1 : w16.cell? ⟨gb148, 1, none⟩ = some (.int .i64 a1_1) := (blk_cell BK148.out 1).trans rfl; have hcz19_2 : w16.cell? ⟨gb148, 2, none⟩ = some (.int .i64 a1_2) := (blk_cell BK148.out 2).trans rfl; have hcz19_3 : w16.cell? ⟨gb148, 3, none⟩ = some (.int .i64 a1_3) := (blk_cell BK148.out 3).trans rfl; have hcz19_4 : w16.cell? ⟨gb148, 4, none⟩ = some (.int .i64 a1_4) := (blk_cell BK148.out 4).trans rfl; have hcz19_5 : w16.cell? ⟨gb148, 5, none⟩ = some (.int .i64 a1_5) := (blk_cell BK148.out 5).trans rfl; have hcz19_6 : w16.cell? ⟨gb148, 6, none⟩ = some (.int .i64 a1_6) := (blk_cell BK148.out 6).trans rfl; have hcz19_7 : w16.cell? ⟨gb148, 7, none⟩ = some (.int .i64 a1_7) := (blk_cell BK148.out 7).trans rfl; have hcz19_8 : w16.cell? ⟨gb148, 8, none⟩ = some (.int .i64 a1_8) := (blk_cell BK148.out 8).trans rfl; have hcz19_9 : w16.cell? ⟨gb148, 9, none⟩ = some (.int .i64 a1_9) := (blk_cell BK148.out 9).trans rfl; have hcz19_10 : w16.cell? ⟨gb148, 10, none⟩ = some (.int .i64 a1_10) := (blk_cell BK148.out 10).trans rfl; have hcz19_11 : w16.cell? ⟨gb148, 11, none⟩ = some (.bool a1_11) := (blk_cell BK148.out 11).trans rfl; have hcz19_12 : w16.cell? ⟨gb148, 12, none⟩ = some (.bool a1_12) := (blk_cell BK148.out 12).trans rfl; have hfz19_0 := blk_frozen BK148.out 0; have hfz19_1 := blk_frozen BK148.out 1; have hfz19_2 := blk_frozen BK148.out 2; have hfz19_3 := blk_frozen BK148.out 3; have hfz19_4 := blk_frozen BK148.out 4; have hfz19_5 := blk_frozen BK148.out 5; have hfz19_6 := blk_frozen BK148.out 6; have hfz19_7 := blk_frozen BK148.out 7; have hfz19_8 := blk_frozen BK148.out 8; have hfz19_9 := blk_frozen BK148.out 9; have hfz19_10 := blk_frozen BK148.out 10; have hfz19_11 := blk_frozen BK148.out 11; have hfz19_12 := blk_frozen BK148.out 12))
    go_ret
    exact ⟨Z2_19, Z2_9⟩
  rw [if_pos c20] at H
  have c20b0 : (a0_12 != a1_12) = true := c20
  (try (have c20b1 : decide (a0_12 = a1_12) = false := by simpa using c20))
  (try (have c20b2 : (a0_12 == a1_12) = false := by simpa using c20))
  (try (have c20b3 : ¬ (a0_12 = a1_12) := by simpa using c20))
  clear c20
  obtain rfl := Option.some.inj H
  go_wp2_with (first | ((with_reducible refine gate_dst (N := 3) rfl ?_); refine box_event ?hg (N := 3) ?hd (cs := #[.int .i64 a1_0, .int .i64 a1_1, .int .i64 a1_2, .int .i64 a1_3, .int .i64 a1_4, .int .i64 a1_5, .int .i64 a1_6, .int .i64 a1_7, .int .i64 a1_8, .int .i64 a1_9, .int .i64 a1_10, .bool a1_11, .bool a1_12]) (t := 54) ?hr ?_; (case hd => rfl); (case hg => rfl); (case hr => first | (go_simp; done) | (go_simp; rfl)); intro gb148 hg w16 hbox hb; have n0_ := Aside0.mk Z2_3; have n1_ := Aside0.mk Z2_13; have n2_ := Aside0.mk (hbox); have n3_ := Aside0.mk Z2_6; have n4_ := Aside0.mk Z2_6; have n5_ := Aside0.mk Z2_1; have n6_ := Aside0.mk Z2_2; clear BK147; clear HB; have BK147 := n0_; have HB := n1_; have BK148 := n2_; have GW148 := n3_; have GE148 := n4_; have NB147_148 := n5_; have NB148_147 := n6_; clear n0_ n1_ n2_ n3_ n4_ n5_ n6_; clear hb hbox hg; have hnb17 := NB147_148.out; have hnc17 := NB148_147.out; have hcz18_0 : w16.cell? ⟨gb147, 0, none⟩ = some (.int .i64 a0_0) := (blk_cell BK147.out 0).trans rfl; have hcz18_1 : w16.cell? ⟨gb147, 1, none⟩ = some (.int .i64 a0_1) := (blk_cell BK147.out 1).trans rfl; have hcz18_2 : w16.cell? ⟨gb147, 2, none⟩ = some (.int .i64 a0_2) := (blk_cell BK147.out 2).trans rfl; have hcz18_3 : w16.cell? ⟨gb147, 3, none⟩ = some (.int .i64 a0_3) := (blk_cell BK147.out 3).trans rfl; have hcz18_4 : w16.cell? ⟨gb147, 4, none⟩ = some (.int .i64 a0_4) := (blk_cell BK147.out 4).trans rfl; have hcz18_5 : w16.cell? ⟨gb147, 5, none⟩ = some (.int .i64 a0_5) := (blk_cell BK147.out 5).trans rfl; have hcz18_6 : w16.cell? ⟨gb147, 6, none⟩ = some (.int .i64 a0_6) := (blk_cell BK147.out 6).trans rfl; have hcz18_7 : w16.cell? ⟨gb147, 7, none⟩ = some (.int .i64 a0_7) := (blk_cell BK147.out 7).trans rfl; have hcz18_8 : w16.cell? ⟨gb147, 8, none⟩ = some (.int .i64 a0_8) := (blk_cell BK147.out 8).trans rfl; have hcz18_9 : w16.cell? ⟨gb147, 9, none⟩ = some (.int .i64 a0_9) := (blk_cell BK147.out 9).trans rfl; have hcz18_10 : w16.cell? ⟨gb147, 10, none⟩ = some (.int .i64 a0_10) := (blk_cell BK147.out 10).trans rfl; have hcz18_11 : w16.cell? ⟨gb147, 11, none⟩ = some (.bool a0_11) := (blk_cell BK147.out 11).trans rfl; have hcz18_12 : w16.cell? ⟨gb147, 12, none⟩ = some (.bool a0_12) := (blk_cell BK147.out 12).trans rfl; have hfz18_0 := blk_frozen BK147.out 0; have hfz18_1 := blk_frozen BK147.out 1; have hfz18_2 := blk_frozen BK147.out 2; have hfz18_3 := blk_frozen BK147.out 3; have hfz18_4 := blk_frozen BK147.out 4; have hfz18_5 := blk_frozen BK147.out 5; have hfz18_6 := blk_frozen BK147.out 6; have hfz18_7 := blk_frozen BK147.out 7; have hfz18_8 := blk_frozen BK147.out 8; have hfz18_9 := blk_frozen BK147.out 9; have hfz18_10 := blk_frozen BK147.out 10; have hfz18_11 := blk_frozen BK147.out 11; have hfz18_12 := blk_frozen BK147.out 12; have hcz19_0 : w16.cell? ⟨gb148, 0, none⟩ = some (.int .i64 a1_0) := (blk_cell BK148.out 0).trans rfl; have hcz19_1 : w16.cell? ⟨gb148, 1, none⟩ = some (.int .i64 a1_1) := (blk_cell BK148.out 1).trans rfl; have hcz19_2 : w16.cell? ⟨gb148, 2, none⟩ = some (.int .i64 a1_2) := (blk_cell BK148.out 2).trans rfl; have hcz19_3 : w16.cell? ⟨gb148, 3, none⟩ = some (.int .i64 a1_3) := (blk_cell BK148.out 3).trans rfl; have hcz19_4 : w16.cell? ⟨gb148, 4, none⟩ = some (.int .i64 a1_4) := (blk_cell BK148.out 4).trans rfl; have hcz19_5 : w16.cell? ⟨gb148, 5, none⟩ = some (.int .i64 a1_5) := (blk_cell BK148.out 5).trans rfl; have hcz19_6 : w16.cell? ⟨gb148, 6, none⟩ = some (.int .i64 a1_6) := (blk_cell BK148.out 6).trans rfl; have hcz19_7 : w16.cell? ⟨gb148, 7, none⟩ = some (.int .i64 a1_7) := (blk_cell BK148.out 7).trans rfl; have hcz19_8 : w16.cell? ⟨gb148, 8, none⟩ = some (.int .i64 a1_8) := (blk_cell BK148.out 8).trans rfl; have hcz19_9 : w16.cell? ⟨gb148, 9, none⟩ = some (.int .i64 a1_9) := (blk_cell BK148.out 9).trans rfl; have hcz19_10 : w16.cell? ⟨gb148, 10, none⟩ = some (.int .i64 a1_10) := (blk_cell BK148.out 10).trans rfl; have hcz19_11 : w16.cell? ⟨gb148, 11, none⟩ = some (.bool a1_11) := (blk_cell BK148.out 11).trans rfl; have hcz19_12 : w16.cell? ⟨gb148, 12, none⟩ = some (.bool a1_12) := (blk_cell BK148.out 12).trans rfl; have hfz19_0 := blk_frozen BK148.out 0; have hfz19_1 := blk_frozen BK148.out 1; have hfz19_2 := blk_frozen BK148.out 2; have hfz19_3 := blk_frozen BK148.out 3; have hfz19_4 := blk_frozen BK148.out 4; have hfz19_5 := blk_frozen BK148.out 5; have hfz19_6 := blk_frozen BK148.out 6; have hfz19_7 := blk_frozen BK148.out 7; have hfz19_8 := blk_frozen BK148.out 8; have hfz19_9 := blk_frozen BK148.out 9; have hfz19_10 := blk_frozen BK148.out 10; have hfz19_11 := blk_frozen BK148.out 11; have hfz19_12 := blk_frozen BK148.out 12))
  go_ret
  exact ⟨Z2_19, Z2_9⟩

/-! ### laws_eqPieceS: function 127 -/
def laws_eqPieceS.l0 : Nat → List (S54) → List (S54) → Int → Option (Bool)
  | 0, _, _, _ => none
  | k + 1, x0, x1, x5 => if x5 < (x0.length : Int) then (if 0 ≤ x5 then (if x5 < (x1.length : Int) then ((laws_eqPiece.f ((rd_T54 x0 x5).f0) ((rd_T54 x0 x5).f1) ((rd_T54 x0 x5).f2) ((rd_T54 x0 x5).f3) ((rd_T54 x0 x5).f4) ((rd_T54 x0 x5).f5) ((rd_T54 x0 x5).f6) ((rd_T54 x0 x5).f7) ((rd_T54 x0 x5).f8) ((rd_T54 x0 x5).f9) ((rd_T54 x0 x5).f10) ((rd_T54 x0 x5).f11) ((rd_T54 x0 x5).f12) ((rd_T54 x1 x5).f0) ((rd_T54 x1 x5).f1) ((rd_T54 x1 x5).f2) ((rd_T54 x1 x5).f3) ((rd_T54 x1 x5).f4) ((rd_T54 x1 x5).f5) ((rd_T54 x1 x5).f6) ((rd_T54 x1 x5).f7) ((rd_T54 x1 x5).f8) ((rd_T54 x1 x5).f9) ((rd_T54 x1 x5).f10) ((rd_T54 x1 x5).f11) ((rd_T54 x1 x5).f12)).bind fun t151 => (if t151 = true then (laws_eqPieceS.l0 k x0 x1 (wrap64 (x5 + 1))) else (some false))) else (none)) else (none)) else (some true)
def laws_eqPieceS.f (k : Nat) (l0 : List (S54)) (l1 : List (S54)) : Option (Bool) := if (l0.length : Int) = (l1.length : Int) then (laws_eqPieceS.l0 k l0 l1 0) else (some false)
theorem laws_eqPieceS.mono_l : ∀ k, (∀ y0 y1 y2, LeO (laws_eqPieceS.l0 k y0 y1 y2) (laws_eqPieceS.l0 (k + 1) y0 y1 y2))
  | 0 => fun _ _ _ r h => by simp [laws_eqPieceS.l0] at h
  | k + 1 => by
    have ih0 := laws_eqPieceS.mono_l k
    · intro y0 y1 y2
      unfold laws_eqPieceS.l0
      repeat' first
      | (with_reducible exact ih0 _ _ _)
      | (with_reducible exact LeO.refl _)
      | (with_reducible exact LeO.none _)
      | (with_reducible refine LeO.ite ?_ ?_)
      | (with_reducible refine LeO.bind ?_ (fun _ => ?_))
      | exact ih0 _ _ _
      | exact LeO.none _
      | refine LeO.ite ?_ ?_
      | refine LeO.bind ?_ (fun _ => ?_)
theorem laws_eqPieceS.mono : ∀ a0 a1 k, LeO (laws_eqPieceS.f k a0 a1) (laws_eqPieceS.f (k + 1) a0 a1) := by
  intro a0 a1 k
  have ih0 := laws_eqPieceS.mono_l k
  unfold laws_eqPieceS.f
  repeat' first
      | (with_reducible exact ih0 _ _ _)
      | (with_reducible exact LeO.refl _)
      | (with_reducible exact LeO.none _)
      | (with_reducible refine LeO.ite ?_ ?_)
      | (with_reducible refine LeO.bind ?_ (fun _ => ?_))
      | exact ih0 _ _ _
      | exact LeO.none _
      | refine LeO.ite ?_ ?_
      | refine LeO.bind ?_ (fun _ => ?_)
def laws_eqPieceS.T6 : Bool × List (List Nat × List Nat) := (true, [([], []), ([], []), ([0, 1], [0, 1]), ([2], [2]), ([], []), ([], []), ([4, 5], [4, 5]), ([6], [6]), ([3, 7], [3, 7]), ([8], [8])])
def laws_eqPieceS.B6 : List Nat := [0, 0, 3, 7, 0, 0, 48, 112, 255, 511]
theorem laws_eqPieceS.tab6 : rtab .any (opsOf Try.f127 6) = laws_eqPieceS.T6 := by kernel_rfl
theorem laws_eqPieceS.bits6 : waitsOk laws_eqPieceS.T6.2 laws_eqPieceS.B6 = true := by kernel_rfl
set_option maxHeartbeats 8000000 in
set_option maxRecDepth 100000 in
theorem laws_eqPieceS.calls (k : Nat) (A0 : Option Addr) (c0 : Nat) (l0 : List (S54)) (A1 : Option Addr) (c1 : Nat) (l1 : List (S54)) (r : Bool) (w : World) (hr0 : Kd.C k54 w A0 l0.length l0) (hc0 : l0.length ≤ c0) (hr1 : Kd.C k54 w A1 l1.length l1) (hc1 : l1.length ≤ c1) (h : laws_eqPieceS.f k l0 l1 = some r) :
    Calls Try.prog 127 #[.slice A0 l0.length c0, .slice A1 l1.length c1] w fun e w' => e = .returned (.bool r) ∧ Below w.heap.size w w' := by
  have hu54 := Try.underlying54
  have HR0 := Aside0.mk hr0
  have HC0 := Aside0.mk hc0
  clear hr0 hc0
  have HR1 := Aside0.mk hr1
  have HC1 := Aside0.mk hc1
  clear hr1 hc1
  have HB := Aside0.mk (Below.refl w.heap.size w)
  have H : (if (l0.length : Int) = (l1.length : Int) then (laws_eqPieceS.l0 k l0 l1 0) else (some false)) = some r := h
  clear h
  by_cases c3 : (l0.length : Int) = (l1.length : Int)
  rotate_left
  · rw [if_neg c3] at H
    have c3b0 : ((l0.length : Int) == (l1.length : Int)) = false := beq_eq_false_iff_ne.mpr c3
    have c3b1 : ((l0.length : Int) != (l1.length : Int)) = true := bne_iff_ne.mpr c3
    have c3b2 : (l0.length == l1.length) = false := by first | simpa using c3 | (simp at c3 ⊢; omega)
    obtain rfl := Option.some.inj H
    go_enter Try.func127, Try.ntmps127
    go_wp2
    go_ret
    exact ⟨Z2_19, Z2_17⟩
  rw [if_pos c3] at H
  have c3b0 : ((l0.length : Int) == (l1.length : Int)) = true := beq_iff_eq.mpr c3
  have c3b1 : ((l0.length : Int) != (l1.length : Int)) = false := bne_eq_false_iff_eq.mpr c3
  have c3b2 : (l0.length == l1.length) = true := by first | simpa using c3 | (simp at c3 ⊢; omega)
  clear c3
  have H' := Aside0.mk H
  clear H
  go_enter Try.func127, Try.ntmps127
  go_wp2
  go_loopg [5] k (fun kq v5 w' => ∃ (x5_1 : Int), v5 = .int .i64 x5_1 ∧ Aside0 (laws_eqPieceS.l0 kq l0 l1 x5_1 = some r) ∧ Aside0 (kq ≤ k) ∧ Aside0 (Below w.heap.size w w'))
  case atStart => exact ⟨(0), (by first | rfl | (simp; done) | (simp [*]; done)), H', ⟨Nat.le_refl _⟩, ⟨Z2_17⟩⟩
  case round =>
    clear H'
    try clear c1
    try clear p2
    try clear c3
    try clear c3b0
    try clear c3b1
    try clear c3b2
    obtain ⟨x5_1, rfl, HA, HK1, HB⟩ := hrel
    cases gk with
    | zero => exact absurd HA.out (by simp [laws_eqPieceS.l0])
    | succ k1 =>
      have H := HA.out
      clear HA
      simp only [laws_eqPieceS.l0] at H
      by_cases c4 : x5_1 < (l0.length : Int)
      rotate_left
      · rw [if_neg c4] at H
        have c4b0 : decide (x5_1 < (l0.length : Int)) = false := decide_eq_false c4
        clear c4
        obtain rfl := Option.some.inj H
        go_wp2
        go_ret
        exact ⟨Z2_19, Z2_17⟩
      rw [if_pos c4] at H
      have c4b0 : decide (x5_1 < (l0.length : Int)) = true := decide_eq_true c4
      clear c4
      by_cases c5 : 0 ≤ x5_1
      rotate_left
      · rw [if_neg c5] at H
        exact absurd H (by simp)
      rw [if_pos c5] at H
      have c5b0 : decide (0 ≤ x5_1) = true := decide_eq_true c5
      clear c5
      by_cases c6 : x5_1 < (l1.length : Int)
      rotate_left
      · rw [if_neg c6] at H
        exact absurd H (by simp)
      rw [if_pos c6] at H
      have c6b0 : decide (x5_1 < (l1.length : Int)) = true := decide_eq_true c6
      clear c6
      replace H := Option.bind_eq_some_iff.mp H
      obtain ⟨t151, A70, H⟩ := H
      replace H : (if t151 = true then (laws_eqPieceS.l0 k1 l0 l1 (wrap64 (x5_1 + 1))) else (some false)) = some r := H
      have A7 := Aside0.mk A70
      clear A70
      by_cases c8 : t151 = true
      rotate_left
      · replace c8 := Bool.eq_false_iff.mpr c8
        subst c8
        have H1 : (some false) = some r := by rw [if_neg (show ¬ (false = true) by decide)] at H; exact H
        clear H
        have H := H1
        clear H1
        obtain rfl := Option.some.inj H
        try go_wp2
        have n0_ := Aside0.mk (below_drew1 HB.out)
        clear HB
        have HB := n0_
        clear n0_
        have p149 : 0 ≤ (x5_1 : Int) := of_decide_eq_true Z2_20
        have q149 : x5_1 < (l0.length : Int) := of_decide_eq_true Z2_20
        obtain ⟨ad149, e149, hx149_0, hx149_1, hx149_2, hx149_3, hx149_4, hx149_5, hx149_6, hx149_7, hx149_8, hx149_9, hx149_10, hx149_11, hx149_12⟩ := at_T54 HR0.out x5_1 p149 q149
        have hw149_12 := hx149_12
        have hw149_11 := hx149_11
        have hw149_10 := hx149_10
        have hw149_9 := hx149_9
        have hw149_8 := hx149_8
        have hw149_7 := hx149_7
        have hw149_6 := hx149_6
        have hw149_5 := hx149_5
        have hw149_4 := hx149_4
        have hw149_3 := hx149_3
        have hw149_2 := hx149_2
        have hw149_1 := hx149_1
        have hw149_0 := hx149_0
        cases e149
        replace hx149_0 := (HB.out.cell (World.block_lt_of_cell? w _ hx149_0)).trans hx149_0
        replace hx149_1 := (HB.out.cell (World.block_lt_of_cell? w _ hx149_1)).trans hx149_1
        replace hx149_2 := (HB.out.cell (World.block_lt_of_cell? w _ hx149_2)).trans hx149_2
        replace hx149_3 := (HB.out.cell (World.block_lt_of_cell? w _ hx149_3)).trans hx149_3
        replace hx149_4 := (HB.out.cell (World.block_lt_of_cell? w _ hx149_4)).trans hx149_4
        replace hx149_5 := (HB.out.cell (World.block_lt_of_cell? w _ hx149_5)).trans hx149_5
        replace hx149_6 := (HB.out.cell (World.block_lt_of_cell? w _ hx149_6)).trans hx149_6
        replace hx149_7 := (HB.out.cell (World.block_lt_of_cell? w _ hx149_7)).trans hx149_7
        replace hx149_8 := (HB.out.cell (World.block_lt_of_cell? w _ hx149_8)).trans hx149_8
        replace hx149_9 := (HB.out.cell (World.block_lt_of_cell? w _ hx149_9)).trans hx149_9
        replace hx149_10 := (HB.out.cell (World.block_lt_of_cell? w _ hx149_10)).trans hx149_10
        replace hx149_11 := (HB.out.cell (World.block_lt_of_cell? w _ hx149_11)).trans hx149_11
        replace hx149_12 := (HB.out.cell (World.block_lt_of_cell? w _ hx149_12)).trans hx149_12
        replace p149 := eq_true p149
        replace q149 := eq_true q149
        have p150 : 0 ≤ (x5_1 : Int) := of_decide_eq_true Z2_20
        have q150 : x5_1 < (l1.length : Int) := of_decide_eq_true Z2_20
        obtain ⟨ad150, e150, hx150_0, hx150_1, hx150_2, hx150_3, hx150_4, hx150_5, hx150_6, hx150_7, hx150_8, hx150_9, hx150_10, hx150_11, hx150_12⟩ := at_T54 HR1.out x5_1 p150 q150
        have hw150_12 := hx150_12
        have hw150_11 := hx150_11
        have hw150_10 := hx150_10
        have hw150_9 := hx150_9
        have hw150_8 := hx150_8
        have hw150_7 := hx150_7
        have hw150_6 := hx150_6
        have hw150_5 := hx150_5
        have hw150_4 := hx150_4
        have hw150_3 := hx150_3
        have hw150_2 := hx150_2
        have hw150_1 := hx150_1
        have hw150_0 := hx150_0
        cases e150
        replace hx150_0 := (HB.out.cell (World.block_lt_of_cell? w _ hx150_0)).trans hx150_0
        replace hx150_1 := (HB.out.cell (World.block_lt_of_cell? w _ hx150_1)).trans hx150_1
        replace hx150_2 := (HB.out.cell (World.block_lt_of_cell? w _ hx150_2)).trans hx150_2
        replace hx150_3 := (HB.out.cell (World.block_lt_of_cell? w _ hx150_3)).trans hx150_3
        replace hx150_4 := (HB.out.cell (World.block_lt_of_cell? w _ hx150_4)).trans hx150_4
        replace hx150_5 := (HB.out.cell (World.block_lt_of_cell? w _ hx150_5)).trans hx150_5
        replace hx150_6 := (HB.out.cell (World.block_lt_of_cell? w _ hx150_6)).trans hx150_6
        replace hx150_7 := (HB.out.cell (World.block_lt_of_cell? w _ hx150_7)).trans hx150_7
        replace hx150_8 := (HB.out.cell (World.block_lt_of_cell? w _ hx150_8)).trans hx150_8
        replace hx150_9 := (HB.out.cell (World.block_lt_of_cell? w _ hx150_9)).trans hx150_9
        replace hx150_10 := (HB.out.cell (World.block_lt_of_cell? w _ hx150_10)).trans hx150_10
        replace hx150_11 := (HB.out.cell (World.block_lt_of_cell? w _ hx150_11)).trans hx150_11
        replace hx150_12 := (HB.out.cell (World.block_lt_of_cell? w _ hx150_12)).trans hx150_12
        replace p150 := eq_true p150
        replace q150 := eq_true q150
        refine start_ (n := 10) (S := fun w' => w'.cell? (ad149.add ((x5_1).toNat * 13)) = some (.int .i64 ((rd_T54 l0 x5_1).f0)) ∧ w'.cell? ⟨(ad149.add ((x5_1).toNat * 13)).block, (ad149.add ((x5_1).toNat * 13)).off + 1, none⟩ = some (.int .i64 ((rd_T54 l0 x5_1).f1)) ∧ w'.cell? ⟨(ad149.add ((x5_1).toNat * 13)).block, (ad149.add ((x5_1).toNat * 13)).off + 2, none⟩ = some (.int .i64 ((rd_T54 l0 x5_1).f2)) ∧ w'.cell? ⟨(ad149.add ((x5_1).toNat * 13)).block, (ad149.add ((x5_1).toNat * 13)).off + 3, none⟩ = some (.int .i64 ((rd_T54 l0 x5_1).f3)) ∧ w'.cell? ⟨(ad149.add ((x5_1).toNat * 13)).block, (ad149.add ((x5_1).toNat * 13)).off + 4, none⟩ = some (.int .i64 ((rd_T54 l0 x5_1).f4)) ∧ w'.cell? ⟨(ad149.add ((x5_1).toNat * 13)).block, (ad149.add ((x5_1).toNat * 13)).off + 5, none⟩ = some (.int .i64 ((rd_T54 l0 x5_1).f5)) ∧ w'.cell? ⟨(ad149.add ((x5_1).toNat * 13)).block, (ad149.add ((x5_1).toNat * 13)).off + 6, none⟩ = some (.int .i64 ((rd_T54 l0 x5_1).f6)) ∧ w'.cell? ⟨(ad149.add ((x5_1).toNat * 13)).block, (ad149.add ((x5_1).toNat * 13)).off + 7, none⟩ = some (.int .i64 ((rd_T54 l0 x5_1).f7)) ∧ w'.cell? ⟨(ad149.add ((x5_1).toNat * 13)).block, (ad149.add ((x5_1).toNat * 13)).off + 8, none⟩ = some (.int .i64 ((rd_T54 l0 x5_1).f8)) ∧ w'.cell? ⟨(ad149.add ((x5_1).toNat * 13)).block, (ad149.add ((x5_1).toNat * 13)).off + 9, none⟩ = some (.int .i64 ((rd_T54 l0 x5_1).f9)) ∧ w'.cell? ⟨(ad149.add ((x5_1).toNat * 13)).block, (ad149.add ((x5_1).toNat * 13)).off + 10, none⟩ = some (.int .i64 ((rd_T54 l0 x5_1).f10)) ∧ w'.cell? ⟨(ad149.add ((x5_1).toNat * 13)).block, (ad149.add ((x5_1).toNat * 13)).off + 11, none⟩ = some (.bool ((rd_T54 l0 x5_1).f11)) ∧ w'.cell? ⟨(ad149.add ((x5_1).toNat * 13)).block, (ad149.add ((x5_1).toNat * 13)).off + 12, none⟩ = some (.bool ((rd_T54 l0 x5_1).f12)) ∧ w'.cell? (ad150.add ((x5_1).toNat * 13)) = some (.int .i64 ((rd_T54 l1 x5_1).f0)) ∧ w'.cell? ⟨(ad150.add ((x5_1).toNat * 13)).block, (ad150.add ((x5_1).toNat * 13)).off + 1, none⟩ = some (.int .i64 ((rd_T54 l1 x5_1).f1)) ∧ w'.cell? ⟨(ad150.add ((x5_1).toNat * 13)).block, (ad150.add ((x5_1).toNat * 13)).off + 2, none⟩ = some (.int .i64 ((rd_T54 l1 x5_1).f2)) ∧ w'.cell? ⟨(ad150.add ((x5_1).toNat * 13)).block, (ad150.add ((x5_1).toNat * 13)).off + 3, none⟩ = some (.int .i64 ((rd_T54 l1 x5_1).f3)) ∧ w'.cell? ⟨(ad150.add ((x5_1).toNat * 13)).block, (ad150.add ((x5_1).toNat * 13)).off + 4, none⟩ = some (.int .i64 ((rd_T54 l1 x5_1).f4)) ∧ w'.cell? ⟨(ad150.add ((x5_1).toNat * 13)).block, (ad150.add ((x5_1).toNat * 13)).off + 5, none⟩ = some (.int .i64 ((rd_T54 l1 x5_1).f5)) ∧ w'.cell? ⟨(ad150.add ((x5_1).toNat * 13)).block, (ad150.add ((x5_1).toNat * 13)).off + 6, none⟩ = some (.int .i64 ((rd_T54 l1 x5_1).f6)) ∧ w'.cell? ⟨(ad150.add ((x5_1).toNat * 13)).block, (ad150.add ((x5_1).toNat * 13)).off + 7, none⟩ = some (.int .i64 ((rd_T54 l1 x5_1).f7)) ∧ w'.cell? ⟨(ad150.add ((x5_1).toNat * 13)).block, (ad150.add ((x5_1).toNat * 13)).off + 8, none⟩ = some (.int .i64 ((rd_T54 l1 x5_1).f8)) ∧ w'.cell? ⟨(ad150.add ((x5_1).toNat * 13)).block, (ad150.add ((x5_1).toNat * 13)).off + 9, none⟩ = some (.int .i64 ((rd_T54 l1 x5_1).f9)) ∧ w'.cell? ⟨(ad150.add ((x5_1).toNat * 13)).block, (ad150.add ((x5_1).toNat * 13)).off + 10, none⟩ = some (.int .i64 ((rd_T54 l1 x5_1).f10)) ∧ w'.cell? ⟨(ad150.add ((x5_1).toNat * 13)).block, (ad150.add ((x5_1).toNat * 13)).off + 11, none⟩ = some (.bool ((rd_T54 l1 x5_1).f11)) ∧ w'.cell? ⟨(ad150.add ((x5_1).toNat * 13)).block, (ad150.add ((x5_1).toNat * 13)).off + 12, none⟩ = some (.bool ((rd_T54 l1 x5_1).f12))) (ds := []) #[false, false, false, false, false, false, false, false, false, false] (by kernel_rfl) rfl rfl ⟨((HB.out.cell (World.block_lt_of_cell? w _ hw149_0)).trans hw149_0), ((HB.out.cell (World.block_lt_of_cell? w _ hw149_1)).trans hw149_1), ((HB.out.cell (World.block_lt_of_cell? w _ hw149_2)).trans hw149_2), ((HB.out.cell (World.block_lt_of_cell? w _ hw149_3)).trans hw149_3), ((HB.out.cell (World.block_lt_of_cell? w _ hw149_4)).trans hw149_4), ((HB.out.cell (World.block_lt_of_cell? w _ hw149_5)).trans hw149_5), ((HB.out.cell (World.block_lt_of_cell? w _ hw149_6)).trans hw149_6), ((HB.out.cell (World.block_lt_of_cell? w _ hw149_7)).trans hw149_7), ((HB.out.cell (World.block_lt_of_cell? w _ hw149_8)).trans hw149_8), ((HB.out.cell (World.block_lt_of_cell? w _ hw149_9)).trans hw149_9), ((HB.out.cell (World.block_lt_of_cell? w _ hw149_10)).trans hw149_10), ((HB.out.cell (World.block_lt_of_cell? w _ hw149_11)).trans hw149_11), ((HB.out.cell (World.block_lt_of_cell? w _ hw149_12)).trans hw149_12), ((HB.out.cell (World.block_lt_of_cell? w _ hw150_0)).trans hw150_0), ((HB.out.cell (World.block_lt_of_cell? w _ hw150_1)).trans hw150_1), ((HB.out.cell (World.block_lt_of_cell? w _ hw150_2)).trans hw150_2), ((HB.out.cell (World.block_lt_of_cell? w _ hw150_3)).trans hw150_3), ((HB.out.cell (World.block_lt_of_cell? w _ hw150_4)).trans hw150_4), ((HB.out.cell (World.block_lt_of_cell? w _ hw150_5)).trans hw150_5), ((HB.out.cell (World.block_lt_of_cell? w _ hw150_6)).trans hw150_6), ((HB.out.cell (World.block_lt_of_cell? w _ hw150_7)).trans hw150_7), ((HB.out.cell (World.block_lt_of_cell? w _ hw150_8)).trans hw150_8), ((HB.out.cell (World.block_lt_of_cell? w _ hw150_9)).trans hw150_9), ((HB.out.cell (World.block_lt_of_cell? w _ hw150_10)).trans hw150_10), ((HB.out.cell (World.block_lt_of_cell? w _ hw150_11)).trans hw150_11), ((HB.out.cell (World.block_lt_of_cell? w _ hw150_12)).trans hw150_12)⟩ (fun hHeld => ?_); refine with_tabW laws_eqPieceS.tab6 laws_eqPieceS.bits6 (fun HT_ HW_ => ?_)
        generalize wr.drew = w11 at HB hx149_0 hx149_1 hx149_10 hx149_11 hx149_12 hx149_2 hx149_3 hx149_4 hx149_5 hx149_6 hx149_7 hx149_8 hx149_9 hx150_0 hx150_1 hx150_10 hx150_11 hx150_12 hx150_2 hx150_3 hx150_4 hx150_5 hx150_6 hx150_7 hx150_8 hx150_9 hHeld ⊢
        refine pure_ (i := 0) (N := some 17) (v := _) (a' := _) (M2_10 1) rfl rfl (any_of HT_.out (by kernel_rfl)) (fun _ _ _ h => h) (Or.inl ⟨(by rfl), (by intro w'; go_simp; with_reducible rfl)⟩) Z2_18 ?_
        refine pure_ (i := 1) (N := some 18) (v := _) (a' := _) (M2_10 3) rfl rfl (any_of HT_.out (by kernel_rfl)) (fun _ _ _ h => h) (Or.inl ⟨(by rfl), (by intro w'; go_simp; with_reducible rfl)⟩) Z2_18 ?_
        refine pure_ (i := 2) (N := some 19) (v := _) (a' := _) (M2_10 7) rfl rfl (any_of HT_.out (by kernel_rfl)) (fun _ _ _ h => h) (Or.inl ⟨(by rfl), (by intro w'; go_simp; with_reducible rfl)⟩) Z2_18 ?_
        refine pure_ (i := 4) (N := some 21) (v := _) (a' := _) (M2_10 23) rfl rfl (any_of HT_.out (by kernel_rfl)) (fun _ _ _ h => h) (Or.inl ⟨(by rfl), (by intro w'; go_simp; with_reducible rfl)⟩) Z2_18 ?_
        refine pure_ (i := 5) (N := some 22) (v := _) (a' := _) (M2_10 55) rfl rfl (any_of HT_.out (by kernel_rfl)) (fun _ _ _ h => h) (Or.inl ⟨(by rfl), (by intro w'; go_simp; with_reducible rfl)⟩) Z2_18 ?_
        refine pure_ (i := 6) (N := some 23) (v := _) (a' := _) (M2_10 119) rfl rfl (any_of HT_.out (by kernel_rfl)) (fun _ _ _ h => h) (Or.inl ⟨(by rfl), (by intro w'; go_simp; with_reducible rfl)⟩) Z2_18 ?_
        refine take_ (i := 3) (N := some 20) (v := ?_) (a' := ?_) (M2_10 127) rfl rfl (take_ofW HT_.out HW_.out (by kernel_rfl)) (fun _ _ _ h => h) (Or.inl ⟨(by rfl), ?_⟩) hHeld ?_ ?_
        rotate_left
        · rintro w' ⟨s0, s1, s2, s3, s4, s5, s6, s7, s8, s9, s10, s11, s12, s13, s14, s15, s16, s17, s18, s19, s20, s21, s22, s23, s24, s25⟩
          go_simp
          with_reducible rfl
        rotate_left
        · simp only [Act.put, List.setIfInBounds_toArray, List.set_cons_zero, List.set_cons_succ, i64_w, i32_w]
          rfl
        refine take_ (i := 7) (N := some 24) (v := ?_) (a' := ?_) (M2_10 255) rfl rfl (take_ofW HT_.out HW_.out (by kernel_rfl)) (fun _ _ _ h => h) (Or.inl ⟨(by rfl), ?_⟩) hHeld ?_ ?_
        rotate_left
        · rintro w' ⟨s0, s1, s2, s3, s4, s5, s6, s7, s8, s9, s10, s11, s12, s13, s14, s15, s16, s17, s18, s19, s20, s21, s22, s23, s24, s25⟩
          go_simp
          with_reducible rfl
        rotate_left
        · simp only [Act.put, List.setIfInBounds_toArray, List.set_cons_zero, List.set_cons_succ, i64_w, i32_w]
          rfl
        refine one_ (i := 8) (N := some 25) (M2_10 511) rfl rfl (one_of HT_.out (by kernel_rfl)) (by decide) (fun K hK => ?_)
        refine goes_ Try.func63 (by kernel_rfl) rfl #[.agg #[.int .i64 ((rd_T54 l0 x5_1).f0), .int .i64 ((rd_T54 l0 x5_1).f1), .int .i64 ((rd_T54 l0 x5_1).f2), .int .i64 ((rd_T54 l0 x5_1).f3), .int .i64 ((rd_T54 l0 x5_1).f4), .int .i64 ((rd_T54 l0 x5_1).f5), .int .i64 ((rd_T54 l0 x5_1).f6), .int .i64 ((rd_T54 l0 x5_1).f7), .int .i64 ((rd_T54 l0 x5_1).f8), .int .i64 ((rd_T54 l0 x5_1).f9), .int .i64 ((rd_T54 l0 x5_1).f10), .bool ((rd_T54 l0 x5_1).f11), .bool ((rd_T54 l0 x5_1).f12)], .agg #[.int .i64 ((rd_T54 l1 x5_1).f0), .int .i64 ((rd_T54 l1 x5_1).f1), .int .i64 ((rd_T54 l1 x5_1).f2), .int .i64 ((rd_T54 l1 x5_1).f3), .int .i64 ((rd_T54 l1 x5_1).f4), .int .i64 ((rd_T54 l1 x5_1).f5), .int .i64 ((rd_T54 l1 x5_1).f6), .int .i64 ((rd_T54 l1 x5_1).f7), .int .i64 ((rd_T54 l1 x5_1).f8), .int .i64 ((rd_T54 l1 x5_1).f9), .int .i64 ((rd_T54 l1 x5_1).f10), .bool ((rd_T54 l1 x5_1).f11), .bool ((rd_T54 l1 x5_1).f12)]] (by rfl) rfl rfl Z2_16 ?_
        with_reducible refine (laws_eqPiece.calls ((rd_T54 l0 x5_1).f0) ((rd_T54 l0 x5_1).f1) ((rd_T54 l0 x5_1).f2) ((rd_T54 l0 x5_1).f3) ((rd_T54 l0 x5_1).f4) ((rd_T54 l0 x5_1).f5) ((rd_T54 l0 x5_1).f6) ((rd_T54 l0 x5_1).f7) ((rd_T54 l0 x5_1).f8) ((rd_T54 l0 x5_1).f9) ((rd_T54 l0 x5_1).f10) ((rd_T54 l0 x5_1).f11) ((rd_T54 l0 x5_1).f12) ((rd_T54 l1 x5_1).f0) ((rd_T54 l1 x5_1).f1) ((rd_T54 l1 x5_1).f2) ((rd_T54 l1 x5_1).f3) ((rd_T54 l1 x5_1).f4) ((rd_T54 l1 x5_1).f5) ((rd_T54 l1 x5_1).f6) ((rd_T54 l1 x5_1).f7) ((rd_T54 l1 x5_1).f8) ((rd_T54 l1 x5_1).f9) ((rd_T54 l1 x5_1).f10) ((rd_T54 l1 x5_1).f11) ((rd_T54 l1 x5_1).f12) false _ A7.out).mono ?_
        rintro e w12 ⟨rfl, hb⟩
        refine ⟨_, rfl, ?_⟩
        have n0_ := Aside0.mk Z2_15
        clear HB
        have HB := n0_
        clear n0_
        (try clear hb)
        (try clear hb2)
        (try clear hk)
        (try clear hi)
        refine hK.out _ _ ⟨((HB.out.cell (World.block_lt_of_cell? w _ hw149_0)).trans hw149_0), ((HB.out.cell (World.block_lt_of_cell? w _ hw149_1)).trans hw149_1), ((HB.out.cell (World.block_lt_of_cell? w _ hw149_2)).trans hw149_2), ((HB.out.cell (World.block_lt_of_cell? w _ hw149_3)).trans hw149_3), ((HB.out.cell (World.block_lt_of_cell? w _ hw149_4)).trans hw149_4), ((HB.out.cell (World.block_lt_of_cell? w _ hw149_5)).trans hw149_5), ((HB.out.cell (World.block_lt_of_cell? w _ hw149_6)).trans hw149_6), ((HB.out.cell (World.block_lt_of_cell? w _ hw149_7)).trans hw149_7), ((HB.out.cell (World.block_lt_of_cell? w _ hw149_8)).trans hw149_8), ((HB.out.cell (World.block_lt_of_cell? w _ hw149_9)).trans hw149_9), ((HB.out.cell (World.block_lt_of_cell? w _ hw149_10)).trans hw149_10), ((HB.out.cell (World.block_lt_of_cell? w _ hw149_11)).trans hw149_11), ((HB.out.cell (World.block_lt_of_cell? w _ hw149_12)).trans hw149_12), ((HB.out.cell (World.block_lt_of_cell? w _ hw150_0)).trans hw150_0), ((HB.out.cell (World.block_lt_of_cell? w _ hw150_1)).trans hw150_1), ((HB.out.cell (World.block_lt_of_cell? w _ hw150_2)).trans hw150_2), ((HB.out.cell (World.block_lt_of_cell? w _ hw150_3)).trans hw150_3), ((HB.out.cell (World.block_lt_of_cell? w _ hw150_4)).trans hw150_4), ((HB.out.cell (World.block_lt_of_cell? w _ hw150_5)).trans hw150_5), ((HB.out.cell (World.block_lt_of_cell? w _ hw150_6)).trans hw150_6), ((HB.out.cell (World.block_lt_of_cell? w _ hw150_7)).trans hw150_7), ((HB.out.cell (World.block_lt_of_cell? w _ hw150_8)).trans hw150_8), ((HB.out.cell (World.block_lt_of_cell? w _ hw150_9)).trans hw150_9), ((HB.out.cell (World.block_lt_of_cell? w _ hw150_10)).trans hw150_10), ((HB.out.cell (World.block_lt_of_cell? w _ hw150_11)).trans hw150_11), ((HB.out.cell (World.block_lt_of_cell? w _ hw150_12)).trans hw150_12)⟩ (fun hHeld => ?_)
        clear hK K
        refine norm_ (a' := ?_) ?_ ?_
        rotate_left
        · show Act.put _ (some 25) _ = _
          simp only [Act.put, List.setIfInBounds_toArray, List.set_cons_zero, List.set_cons_succ, i64_w, i32_w]
          rfl
        refine pure_ (i := 9) (N := some 26) (v := _) (a' := _) (M2_10 1023) rfl rfl (any_of HT_.out (by kernel_rfl)) (fun _ _ _ h => h) (Or.inl ⟨(by rfl), (by intro w'; go_simp; with_reducible rfl)⟩) Z2_18 ?_
        refine done_ (done_of HT_.out (by kernel_rfl)) ?_
        try go_wp2
        go_ret
        exact ⟨Z2_19, Z2_17⟩
      subst c8
      have H1 : (laws_eqPieceS.l0 k1 l0 l1 (wrap64 (x5_1 + 1))) = some r := by rw [if_pos rfl] at H; exact H
      clear H
      have H := H1
      clear H1
      have H' := Aside0.mk H
      clear H
      try go_wp2
      have n0_ := Aside0.mk (below_drew1 HB.out)
      clear HB
      have HB := n0_
      clear n0_
      have p149 : 0 ≤ (x5_1 : Int) := of_decide_eq_true Z2_20
      have q149 : x5_1 < (l0.length : Int) := of_decide_eq_true Z2_20
      obtain ⟨ad149, e149, hx149_0, hx149_1, hx149_2, hx149_3, hx149_4, hx149_5, hx149_6, hx149_7, hx149_8, hx149_9, hx149_10, hx149_11, hx149_12⟩ := at_T54 HR0.out x5_1 p149 q149
      have hw149_12 := hx149_12
      have hw149_11 := hx149_11
      have hw149_10 := hx149_10
      have hw149_9 := hx149_9
      have hw149_8 := hx149_8
      have hw149_7 := hx149_7
      have hw149_6 := hx149_6
      have hw149_5 := hx149_5
      have hw149_4 := hx149_4
      have hw149_3 := hx149_3
      have hw149_2 := hx149_2
      have hw149_1 := hx149_1
      have hw149_0 := hx149_0
      cases e149
      replace hx149_0 := (HB.out.cell (World.block_lt_of_cell? w _ hx149_0)).trans hx149_0
      replace hx149_1 := (HB.out.cell (World.block_lt_of_cell? w _ hx149_1)).trans hx149_1
      replace hx149_2 := (HB.out.cell (World.block_lt_of_cell? w _ hx149_2)).trans hx149_2
      replace hx149_3 := (HB.out.cell (World.block_lt_of_cell? w _ hx149_3)).trans hx149_3
      replace hx149_4 := (HB.out.cell (World.block_lt_of_cell? w _ hx149_4)).trans hx149_4
      replace hx149_5 := (HB.out.cell (World.block_lt_of_cell? w _ hx149_5)).trans hx149_5
      replace hx149_6 := (HB.out.cell (World.block_lt_of_cell? w _ hx149_6)).trans hx149_6
      replace hx149_7 := (HB.out.cell (World.block_lt_of_cell? w _ hx149_7)).trans hx149_7
      replace hx149_8 := (HB.out.cell (World.block_lt_of_cell? w _ hx149_8)).trans hx149_8
      replace hx149_9 := (HB.out.cell (World.block_lt_of_cell? w _ hx149_9)).trans hx149_9
      replace hx149_10 := (HB.out.cell (World.block_lt_of_cell? w _ hx149_10)).trans hx149_10
      replace hx149_11 := (HB.out.cell (World.block_lt_of_cell? w _ hx149_11)).trans hx149_11
      replace hx149_12 := (HB.out.cell (World.block_lt_of_cell? w _ hx149_12)).trans hx149_12
      replace p149 := eq_true p149
      replace q149 := eq_true q149
      have p150 : 0 ≤ (x5_1 : Int) := of_decide_eq_true Z2_20
      have q150 : x5_1 < (l1.length : Int) := of_decide_eq_true Z2_20
      obtain ⟨ad150, e150, hx150_0, hx150_1, hx150_2, hx150_3, hx150_4, hx150_5, hx150_6, hx150_7, hx150_8, hx150_9, hx150_10, hx150_11, hx150_12⟩ := at_T54 HR1.out x5_1 p150 q150
      have hw150_12 := hx150_12
      have hw150_11 := hx150_11
      have hw150_10 := hx150_10
      have hw150_9 := hx150_9
      have hw150_8 := hx150_8
      have hw150_7 := hx150_7
      have hw150_6 := hx150_6
      have hw150_5 := hx150_5
      have hw150_4 := hx150_4
      have hw150_3 := hx150_3
      have hw150_2 := hx150_2
      have hw150_1 := hx150_1
      have hw150_0 := hx150_0
      cases e150
      replace hx150_0 := (HB.out.cell (World.block_lt_of_cell? w _ hx150_0)).trans hx150_0
      replace hx150_1 := (HB.out.cell (World.block_lt_of_cell? w _ hx150_1)).trans hx150_1
      replace hx150_2 := (HB.out.cell (World.block_lt_of_cell? w _ hx150_2)).trans hx150_2
      replace hx150_3 := (HB.out.cell (World.block_lt_of_cell? w _ hx150_3)).trans hx150_3
      replace hx150_4 := (HB.out.cell (World.block_lt_of_cell? w _ hx150_4)).trans hx150_4
      replace hx150_5 := (HB.out.cell (World.block_lt_of_cell? w _ hx150_5)).trans hx150_5
      replace hx150_6 := (HB.out.cell (World.block_lt_of_cell? w _ hx150_6)).trans hx150_6
      replace hx150_7 := (HB.out.cell (World.block_lt_of_cell? w _ hx150_7)).trans hx150_7
      replace hx150_8 := (HB.out.cell (World.block_lt_of_cell? w _ hx150_8)).trans hx150_8
      replace hx150_9 := (HB.out.cell (World.block_lt_of_cell? w _ hx150_9)).trans hx150_9
      replace hx150_10 := (HB.out.cell (World.block_lt_of_cell? w _ hx150_10)).trans hx150_10
      replace hx150_11 := (HB.out.cell (World.block_lt_of_cell? w _ hx150_11)).trans hx150_11
      replace hx150_12 := (HB.out.cell (World.block_lt_of_cell? w _ hx150_12)).trans hx150_12
      replace p150 := eq_true p150
      replace q150 := eq_true q150
      refine start_ (n := 10) (S := fun w' => w'.cell? (ad149.add ((x5_1).toNat * 13)) = some (.int .i64 ((rd_T54 l0 x5_1).f0)) ∧ w'.cell? ⟨(ad149.add ((x5_1).toNat * 13)).block, (ad149.add ((x5_1).toNat * 13)).off + 1, none⟩ = some (.int .i64 ((rd_T54 l0 x5_1).f1)) ∧ w'.cell? ⟨(ad149.add ((x5_1).toNat * 13)).block, (ad149.add ((x5_1).toNat * 13)).off + 2, none⟩ = some (.int .i64 ((rd_T54 l0 x5_1).f2)) ∧ w'.cell? ⟨(ad149.add ((x5_1).toNat * 13)).block, (ad149.add ((x5_1).toNat * 13)).off + 3, none⟩ = some (.int .i64 ((rd_T54 l0 x5_1).f3)) ∧ w'.cell? ⟨(ad149.add ((x5_1).toNat * 13)).block, (ad149.add ((x5_1).toNat * 13)).off + 4, none⟩ = some (.int .i64 ((rd_T54 l0 x5_1).f4)) ∧ w'.cell? ⟨(ad149.add ((x5_1).toNat * 13)).block, (ad149.add ((x5_1).toNat * 13)).off + 5, none⟩ = some (.int .i64 ((rd_T54 l0 x5_1).f5)) ∧ w'.cell? ⟨(ad149.add ((x5_1).toNat * 13)).block, (ad149.add ((x5_1).toNat * 13)).off + 6, none⟩ = some (.int .i64 ((rd_T54 l0 x5_1).f6)) ∧ w'.cell? ⟨(ad149.add ((x5_1).toNat * 13)).block, (ad149.add ((x5_1).toNat * 13)).off + 7, none⟩ = some (.int .i64 ((rd_T54 l0 x5_1).f7)) ∧ w'.cell? ⟨(ad149.add ((x5_1).toNat * 13)).block, (ad149.add ((x5_1).toNat * 13)).off + 8, none⟩ = some (.int .i64 ((rd_T54 l0 x5_1).f8)) ∧ w'.cell? ⟨(ad149.add ((x5_1).toNat * 13)).block, (ad149.add ((x5_1).toNat * 13)).off + 9, none⟩ = some (.int .i64 ((rd_T54 l0 x5_1).f9)) ∧ w'.cell? ⟨(ad149.add ((x5_1).toNat * 13)).block, (ad149.add ((x5_1).toNat * 13)).off + 10, none⟩ = some (.int .i64 ((rd_T54 l0 x5_1).f10)) ∧ w'.cell? ⟨(ad149.add ((x5_1).toNat * 13)).block, (ad149.add ((x5_1).toNat * 13)).off + 11, none⟩ = some (.bool ((rd_T54 l0 x5_1).f11)) ∧ w'.cell? ⟨(ad149.add ((x5_1).toNat * 13)).block, (ad149.add ((x5_1).toNat * 13)).off + 12, none⟩ = some (.bool ((rd_T54 l0 x5_1).f12)) ∧ w'.cell? (ad150.add ((x5_1).toNat * 13)) = some (.int .i64 ((rd_T54 l1 x5_1).f0)) ∧ w'.cell? ⟨(ad150.add ((x5_1).toNat * 13)).block, (ad150.add ((x5_1).toNat * 13)).off + 1, none⟩ = some (.int .i64 ((rd_T54 l1 x5_1).f1)) ∧ w'.cell? ⟨(ad150.add ((x5_1).toNat * 13)).block, (ad150.add ((x5_1).toNat * 13)).off + 2, none⟩ = some (.int .i64 ((rd_T54 l1 x5_1).f2)) ∧ w'.cell? ⟨(ad150.add ((x5_1).toNat * 13)).block, (ad150.add ((x5_1).toNat * 13)).off + 3, none⟩ = some (.int .i64 ((rd_T54 l1 x5_1).f3)) ∧ w'.cell? ⟨(ad150.add ((x5_1).toNat * 13)).block, (ad150.add ((x5_1).toNat * 13)).off + 4, none⟩ = some (.int .i64 ((rd_T54 l1 x5_1).f4)) ∧ w'.cell? ⟨(ad150.add ((x5_1).toNat * 13)).block, (ad150.add ((x5_1).toNat * 13)).off + 5, none⟩ = some (.int .i64 ((rd_T54 l1 x5_1).f5)) ∧ w'.cell? ⟨(ad150.add ((x5_1).toNat * 13)).block, (ad150.add ((x5_1).toNat * 13)).off + 6, none⟩ = some (.int .i64 ((rd_T54 l1 x5_1).f6)) ∧ w'.cell? ⟨(ad150.add ((x5_1).toNat * 13)).block, (ad150.add ((x5_1).toNat * 13)).off + 7, none⟩ = some (.int .i64 ((rd_T54 l1 x5_1).f7)) ∧ w'.cell? ⟨(ad150.add ((x5_1).toNat * 13)).block, (ad150.add ((x5_1).toNat * 13)).off + 8, none⟩ = some (.int .i64 ((rd_T54 l1 x5_1).f8)) ∧ w'.cell? ⟨(ad150.add ((x5_1).toNat * 13)).block, (ad150.add ((x5_1).toNat * 13)).off + 9, none⟩ = some (.int .i64 ((rd_T54 l1 x5_1).f9)) ∧ w'.cell? ⟨(ad150.add ((x5_1).toNat * 13)).block, (ad150.add ((x5_1).toNat * 13)).off + 10, none⟩ = some (.int .i64 ((rd_T54 l1 x5_1).f10)) ∧ w'.cell? ⟨(ad150.add ((x5_1).toNat * 13)).block, (ad150.add ((x5_1).toNat * 13)).off + 11, none⟩ = some (.bool ((rd_T54 l1 x5_1).f11)) ∧ w'.cell? ⟨(ad150.add ((x5_1).toNat * 13)).block, (ad150.add ((x5_1).toNat * 13)).off + 12, none⟩ = some (.bool ((rd_T54 l1 x5_1).f12))) (ds := []) #[false, false, false, false, false, false, false, false, false, false] (by kernel_rfl) rfl rfl ⟨((HB.out.cell (World.block_lt_of_cell? w _ hw149_0)).trans hw149_0), ((HB.out.cell (World.block_lt_of_cell? w _ hw149_1)).trans hw149_1), ((HB.out.cell (World.block_lt_of_cell? w _ hw149_2)).trans hw149_2), ((HB.out.cell (World.block_lt_of_cell? w _ hw149_3)).trans hw149_3), ((HB.out.cell (World.block_lt_of_cell? w _ hw149_4)).trans hw149_4), ((HB.out.cell (World.block_lt_of_cell? w _ hw149_5)).trans hw149_5), ((HB.out.cell (World.block_lt_of_cell? w _ hw149_6)).trans hw149_6), ((HB.out.cell (World.block_lt_of_cell? w _ hw149_7)).trans hw149_7), ((HB.out.cell (World.block_lt_of_cell? w _ hw149_8)).trans hw149_8), ((HB.out.cell (World.block_lt_of_cell? w _ hw149_9)).trans hw149_9), ((HB.out.cell (World.block_lt_of_cell? w _ hw149_10)).trans hw149_10), ((HB.out.cell (World.block_lt_of_cell? w _ hw149_11)).trans hw149_11), ((HB.out.cell (World.block_lt_of_cell? w _ hw149_12)).trans hw149_12), ((HB.out.cell (World.block_lt_of_cell? w _ hw150_0)).trans hw150_0), ((HB.out.cell (World.block_lt_of_cell? w _ hw150_1)).trans hw150_1), ((HB.out.cell (World.block_lt_of_cell? w _ hw150_2)).trans hw150_2), ((HB.out.cell (World.block_lt_of_cell? w _ hw150_3)).trans hw150_3), ((HB.out.cell (World.block_lt_of_cell? w _ hw150_4)).trans hw150_4), ((HB.out.cell (World.block_lt_of_cell? w _ hw150_5)).trans hw150_5), ((HB.out.cell (World.block_lt_of_cell? w _ hw150_6)).trans hw150_6), ((HB.out.cell (World.block_lt_of_cell? w _ hw150_7)).trans hw150_7), ((HB.out.cell (World.block_lt_of_cell? w _ hw150_8)).trans hw150_8), ((HB.out.cell (World.block_lt_of_cell? w _ hw150_9)).trans hw150_9), ((HB.out.cell (World.block_lt_of_cell? w _ hw150_10)).trans hw150_10), ((HB.out.cell (World.block_lt_of_cell? w _ hw150_11)).trans hw150_11), ((HB.out.cell (World.block_lt_of_cell? w _ hw150_12)).trans hw150_12)⟩ (fun hHeld => ?_); refine with_tabW laws_eqPieceS.tab6 laws_eqPieceS.bits6 (fun HT_ HW_ => ?_)
      generalize wr.drew = w9 at HB hx149_0 hx149_1 hx149_10 hx149_11 hx149_12 hx149_2 hx149_3 hx149_4 hx149_5 hx149_6 hx149_7 hx149_8 hx149_9 hx150_0 hx150_1 hx150_10 hx150_11 hx150_12 hx150_2 hx150_3 hx150_4 hx150_5 hx150_6 hx150_7 hx150_8 hx150_9 hHeld ⊢
      refine pure_ (i := 0) (N := some 17) (v := _) (a' := _) (M2_10 1) rfl rfl (any_of HT_.out (by kernel_rfl)) (fun _ _ _ h => h) (Or.inl ⟨(by rfl), (by intro w'; go_simp; with_reducible rfl)⟩) Z2_18 ?_
      refine pure_ (i := 1) (N := some 18) (v := _) (a' := _) (M2_10 3) rfl rfl (any_of HT_.out (by kernel_rfl)) (fun _ _ _ h => h) (Or.inl ⟨(by rfl), (by intro w'; go_simp; with_reducible rfl)⟩) Z2_18 ?_
      refine pure_ (i := 2) (N := some 19) (v := _) (a' := _) (M2_10 7) rfl rfl (any_of HT_.out (by kernel_rfl)) (fun _ _ _ h => h) (Or.inl ⟨(by rfl), (by intro w'; go_simp; with_reducible rfl)⟩) Z2_18 ?_
      refine pure_ (i := 4) (N := some 21) (v := _) (a' := _) (M2_10 23) rfl rfl (any_of HT_.out (by kernel_rfl)) (fun _ _ _ h => h) (Or.inl ⟨(by rfl), (by intro w'; go_simp; with_reducible rfl)⟩) Z2_18 ?_
      refine pure_ (i := 5) (N := some 22) (v := _) (a' := _) (M2_10 55) rfl rfl (any_of HT_.out (by kernel_rfl)) (fun _ _ _ h => h) (Or.inl ⟨(by rfl), (by intro w'; go_simp; with_reducible rfl)⟩) Z2_18 ?_
      refine pure_ (i := 6) (N := some 23) (v := _) (a' := _) (M2_10 119) rfl rfl (any_of HT_.out (by kernel_rfl)) (fun _ _ _ h => h) (Or.inl ⟨(by rfl), (by intro w'; go_simp; with_reducible rfl)⟩) Z2_18 ?_
      refine take_ (i := 3) (N := some 20) (v := ?_) (a' := ?_) (M2_10 127) rfl rfl (take_ofW HT_.out HW_.out (by kernel_rfl)) (fun _ _ _ h => h) (Or.inl ⟨(by rfl), ?_⟩) hHeld ?_ ?_
      rotate_left
      · rintro w' ⟨s0, s1, s2, s3, s4, s5, s6, s7, s8, s9, s10, s11, s12, s13, s14, s15, s16, s17, s18, s19, s20, s21, s22, s23, s24, s25⟩
        go_simp
        with_reducible rfl
      rotate_left
      · simp only [Act.put, List.setIfInBounds_toArray, List.set_cons_zero, List.set_cons_succ, i64_w, i32_w]
        rfl
      refine take_ (i := 7) (N := some 24) (v := ?_) (a' := ?_) (M2_10 255) rfl rfl (take_ofW HT_.out HW_.out (by kernel_rfl)) (fun _ _ _ h => h) (Or.inl ⟨(by rfl), ?_⟩) hHeld ?_ ?_
      rotate_left
      · rintro w' ⟨s0, s1, s2, s3, s4, s5, s6, s7, s8, s9, s10, s11, s12, s13, s14, s15, s16, s17, s18, s19, s20, s21, s22, s23, s24, s25⟩
        go_simp
        with_reducible rfl
      rotate_left
      · simp only [Act.put, List.setIfInBounds_toArray, List.set_cons_zero, List.set_cons_succ, i64_w, i32_w]
        rfl
      refine one_ (i := 8) (N := some 25) (M2_10 511) rfl rfl (one_of HT_.out (by kernel_rfl)) (by decide) (fun K hK => ?_)
      refine goes_ Try.func63 (by kernel_rfl) rfl #[.agg #[.int .i64 ((rd_T54 l0 x5_1).f0), .int .i64 ((rd_T54 l0 x5_1).f1), .int .i64 ((rd_T54 l0 x5_1).f2), .int .i64 ((rd_T54 l0 x5_1).f3), .int .i64 ((rd_T54 l0 x5_1).f4), .int .i64 ((rd_T54 l0 x5_1).f5), .int .i64 ((rd_T54 l0 x5_1).f6), .int .i64 ((rd_T54 l0 x5_1).f7), .int .i64 ((rd_T54 l0 x5_1).f8), .int .i64 ((rd_T54 l0 x5_1).f9), .int .i64 ((rd_T54 l0 x5_1).f10), .bool ((rd_T54 l0 x5_1).f11), .bool ((rd_T54 l0 x5_1).f12)], .agg #[.int .i64 ((rd_T54 l1 x5_1).f0), .int .i64 ((rd_T54 l1 x5_1).f1), .int .i64 ((rd_T54 l1 x5_1).f2), .int .i64 ((rd_T54 l1 x5_1).f3), .int .i64 ((rd_T54 l1 x5_1).f4), .int .i64 ((rd_T54 l1 x5_1).f5), .int .i64 ((rd_T54 l1 x5_1).f6), .int .i64 ((rd_T54 l1 x5_1).f7), .int .i64 ((rd_T54 l1 x5_1).f8), .int .i64 ((rd_T54 l1 x5_1).f9), .int .i64 ((rd_T54 l1 x5_1).f10), .bool ((rd_T54 l1 x5_1).f11), .bool ((rd_T54 l1 x5_1).f12)]] (by rfl) rfl rfl Z2_16 ?_
      with_reducible refine (laws_eqPiece.calls ((rd_T54 l0 x5_1).f0) ((rd_T54 l0 x5_1).f1) ((rd_T54 l0 x5_1).f2) ((rd_T54 l0 x5_1).f3) ((rd_T54 l0 x5_1).f4) ((rd_T54 l0 x5_1).f5) ((rd_T54 l0 x5_1).f6) ((rd_T54 l0 x5_1).f7) ((rd_T54 l0 x5_1).f8) ((rd_T54 l0 x5_1).f9) ((rd_T54 l0 x5_1).f10) ((rd_T54 l0 x5_1).f11) ((rd_T54 l0 x5_1).f12) ((rd_T54 l1 x5_1).f0) ((rd_T54 l1 x5_1).f1) ((rd_T54 l1 x5_1).f2) ((rd_T54 l1 x5_1).f3) ((rd_T54 l1 x5_1).f4) ((rd_T54 l1 x5_1).f5) ((rd_T54 l1 x5_1).f6) ((rd_T54 l1 x5_1).f7) ((rd_T54 l1 x5_1).f8) ((rd_T54 l1 x5_1).f9) ((rd_T54 l1 x5_1).f10) ((rd_T54 l1 x5_1).f11) ((rd_T54 l1 x5_1).f12) true _ A7.out).mono ?_
      rintro e w10 ⟨rfl, hb⟩
      refine ⟨_, rfl, ?_⟩
      have n0_ := Aside0.mk Z2_15
      clear HB
      have HB := n0_
      clear n0_
      (try clear hb)
      (try clear hb2)
      (try clear hk)
      (try clear hi)
      refine hK.out _ _ ⟨((HB.out.cell (World.block_lt_of_cell? w _ hw149_0)).trans hw149_0), ((HB.out.cell (World.block_lt_of_cell? w _ hw149_1)).trans hw149_1), ((HB.out.cell (World.block_lt_of_cell? w _ hw149_2)).trans hw149_2), ((HB.out.cell (World.block_lt_of_cell? w _ hw149_3)).trans hw149_3), ((HB.out.cell (World.block_lt_of_cell? w _ hw149_4)).trans hw149_4), ((HB.out.cell (World.block_lt_of_cell? w _ hw149_5)).trans hw149_5), ((HB.out.cell (World.block_lt_of_cell? w _ hw149_6)).trans hw149_6), ((HB.out.cell (World.block_lt_of_cell? w _ hw149_7)).trans hw149_7), ((HB.out.cell (World.block_lt_of_cell? w _ hw149_8)).trans hw149_8), ((HB.out.cell (World.block_lt_of_cell? w _ hw149_9)).trans hw149_9), ((HB.out.cell (World.block_lt_of_cell? w _ hw149_10)).trans hw149_10), ((HB.out.cell (World.block_lt_of_cell? w _ hw149_11)).trans hw149_11), ((HB.out.cell (World.block_lt_of_cell? w _ hw149_12)).trans hw149_12), ((HB.out.cell (World.block_lt_of_cell? w _ hw150_0)).trans hw150_0), ((HB.out.cell (World.block_lt_of_cell? w _ hw150_1)).trans hw150_1), ((HB.out.cell (World.block_lt_of_cell? w _ hw150_2)).trans hw150_2), ((HB.out.cell (World.block_lt_of_cell? w _ hw150_3)).trans hw150_3), ((HB.out.cell (World.block_lt_of_cell? w _ hw150_4)).trans hw150_4), ((HB.out.cell (World.block_lt_of_cell? w _ hw150_5)).trans hw150_5), ((HB.out.cell (World.block_lt_of_cell? w _ hw150_6)).trans hw150_6), ((HB.out.cell (World.block_lt_of_cell? w _ hw150_7)).trans hw150_7), ((HB.out.cell (World.block_lt_of_cell? w _ hw150_8)).trans hw150_8), ((HB.out.cell (World.block_lt_of_cell? w _ hw150_9)).trans hw150_9), ((HB.out.cell (World.block_lt_of_cell? w _ hw150_10)).trans hw150_10), ((HB.out.cell (World.block_lt_of_cell? w _ hw150_11)).trans hw150_11), ((HB.out.cell (World.block_lt_of_cell? w _ hw150_12)).trans hw150_12)⟩ (fun hHeld => ?_)
      clear hK K
      refine norm_ (a' := ?_) ?_ ?_
      rotate_left
      · show Act.put _ (some 25) _ = _
        simp only [Act.put, List.setIfInBounds_toArray, List.set_cons_zero, List.set_cons_succ, i64_w, i32_w]
        rfl
      refine pure_ (i := 9) (N := some 26) (v := _) (a' := _) (M2_10 1023) rfl rfl (any_of HT_.out (by kernel_rfl)) (fun _ _ _ h => h) (Or.inl ⟨(by rfl), (by intro w'; go_simp; with_reducible rfl)⟩) Z2_18 ?_
      refine done_ (done_of HT_.out (by kernel_rfl)) ?_
      try go_wp2
      go_roundg k1
      case measure => have := HK1.out; omega
      case rel => exact ⟨(wrap64 (x5_1 + 1)), (by first | rfl | (simp; done) | (simp [*]; done)), H', ⟨(by have := HK1.out; omega)⟩, ⟨Z2_17⟩⟩

/-! ### laws_eqSide: function 141 -/
def laws_eqSide.f (a0_0 : Int) (a0_1 : Int) (a0_2 : Bool) (a1_0 : Int) (a1_1 : Int) (a1_2 : Bool) : Option (Bool) := if a0_0 = a1_0 then (if a0_1 = a1_1 then (if (a0_2 != a1_2) = true then (some false) else (some true)) else (some false)) else (some false)
set_option maxHeartbeats 8000000 in
set_option maxRecDepth 100000 in
theorem laws_eqSide.calls (a0_0 : Int) (a0_1 : Int) (a0_2 : Bool) (a1_0 : Int) (a1_1 : Int) (a1_2 : Bool) (r : Bool) (w : World) (h : laws_eqSide.f a0_0 a0_1 a0_2 a1_0 a1_1 a1_2 = some r) :
    Calls Try.prog 141 #[.agg #[.int .i64 a0_0, .int .i64 a0_1, .bool a0_2], .agg #[.int .i64 a1_0, .int .i64 a1_1, .bool a1_2]] w fun e w' => e = .returned (.bool r) ∧ Below w.heap.size w w' := by
  have hu118 := Try.underlying118
  have HB := Aside0.mk (Below.refl w.heap.size w)
  have H : (if a0_0 = a1_0 then (if a0_1 = a1_1 then (if (a0_2 != a1_2) = true then (some false) else (some true)) else (some false)) else (some false)) = some r := h
  clear h
  go_enter Try.func141, Try.ntmps141
  repeat' (first | ((with_reducible refine gate_dst (N := 2) rfl ?_); refine box_event ?hg (N := 2) ?hd (cs := #[.int .i64 a0_0, .int .i64 a0_1, .bool a0_2]) (t := 118) ?hr ?_; (case hd => rfl); (case hg => rfl); (case hr => first | (go_simp; done) | (go_simp; rfl)); intro gb152 hg w6 hbox hb; have n0_ := Aside0.mk Z2_15; have n1_ := Aside0.mk (hbox); have n2_ := Aside0.mk Z2_12; have n3_ := Aside0.mk Z2_12; clear HB; have HB := n0_; have BK152 := n1_; have GW152 := n2_; have GE152 := n3_; clear n0_ n1_ n2_ n3_; clear hb hbox hg) | ((fail_if_success (with_reducible refine gate_dst (N := 3) rfl ?_)); (first | go_values | go_skip | go_guarded | go_step | go_upon | go_back | (simp only [Int.not_lt, Int.not_le] at *; go_simp) | (go_ite <;> go_prune <;> (try go_simp)) | (split <;> (first | (rename_i hx; exact (hx _ rfl).elim) | go_prune)))))
  by_cases c3 : a0_0 = a1_0
  rotate_left
  · rw [if_neg c3] at H
    have c3b0 : (a0_0 == a1_0) = false := beq_eq_false_iff_ne.mpr c3
    have c3b1 : (a0_0 != a1_0) = true := bne_iff_ne.mpr c3
    obtain rfl := Option.some.inj H
    go_wp2_with (first | ((with_reducible refine gate_dst (N := 3) rfl ?_); refine box_event ?hg (N := 3) ?hd (cs := #[.int .i64 a1_0, .int .i64 a1_1, .bool a1_2]) (t := 118) ?hr ?_; (case hd => rfl); (case hg => rfl); (case hr => first | (go_simp; done) | (go_simp; rfl)); intro gb153 hg w7 hbox hb; have n0_ := Aside0.mk Z2_8; have n1_ := Aside0.mk Z2_14; have n2_ := Aside0.mk (hbox); have n3_ := Aside0.mk Z2_7; have n4_ := Aside0.mk Z2_7; have n5_ := Aside0.mk Z2_4; have n6_ := Aside0.mk Z2_5; clear BK152; clear HB; have BK152 := n0_; have HB := n1_; have BK153 := n2_; have GW153 := n3_; have GE153 := n4_; have NB152_153 := n5_; have NB153_152 := n6_; clear n0_ n1_ n2_ n3_ n4_ n5_ n6_; clear hb hbox hg; have hnb8 := NB152_153.out; have hnc8 := NB153_152.out; have hcz9_0 : w7.cell? ⟨gb152, 0, none⟩ = some (.int .i64 a0_0) := (blk_cell BK152.out 0).trans rfl; have hcz9_1 : w7.cell? ⟨gb152, 1, none⟩ = some (.int .i64 a0_1) := (blk_cell BK152.out 1).trans rfl; have hcz9_2 : w7.cell? ⟨gb152, 2, none⟩ = some (.bool a0_2) := (blk_cell BK152.out 2).trans rfl; have hfz9_0 := blk_frozen BK152.out 0; have hfz9_1 := blk_frozen BK152.out 1; have hfz9_2 := blk_frozen BK152.out 2; have hcz10_0 : w7.cell? ⟨gb153, 0, none⟩ = some (.int .i64 a1_0) := (blk_cell BK153.out 0).trans rfl; have hcz10_1 : w7.cell? ⟨gb153, 1, none⟩ = some (.int .i64 a1_1) := (blk_cell BK153.out 1).trans rfl; have hcz10_2 : w7.cell? ⟨gb153, 2, none⟩ = some (.bool a1_2) := (blk_cell BK153.out 2).trans rfl; have hfz10_0 := blk_frozen BK153.out 0; have hfz10_1 := blk_frozen BK153.out 1; have hfz10_2 := blk_frozen BK153.out 2))
    go_ret
    exact ⟨Z2_19, Z2_10⟩
  rw [if_pos c3] at H
  have c3b0 : (a0_0 == a1_0) = true := beq_iff_eq.mpr c3
  have c3b1 : (a0_0 != a1_0) = false := bne_eq_false_iff_eq.mpr c3
  clear c3
  by_cases c4 : a0_1 = a1_1
  rotate_left
  · rw [if_neg c4] at H
    have c4b0 : (a0_1 == a1_1) = false := beq_eq_false_iff_ne.mpr c4
    have c4b1 : (a0_1 != a1_1) = true := bne_iff_ne.mpr c4
    obtain rfl := Option.some.inj H
    go_wp2_with (first | ((with_reducible refine gate_dst (N := 3) rfl ?_); refine box_event ?hg (N := 3) ?hd (cs := #[.int .i64 a1_0, .int .i64 a1_1, .bool a1_2]) (t := 118) ?hr ?_; (case hd => rfl); (case hg => rfl); (case hr => first | (go_simp; done) | (go_simp; rfl)); intro gb153 hg w7 hbox hb; have n0_ := Aside0.mk Z2_8; have n1_ := Aside0.mk Z2_14; have n2_ := Aside0.mk (hbox); have n3_ := Aside0.mk Z2_7; have n4_ := Aside0.mk Z2_7; have n5_ := Aside0.mk Z2_4; have n6_ := Aside0.mk Z2_5; clear BK152; clear HB; have BK152 := n0_; have HB := n1_; have BK153 := n2_; have GW153 := n3_; have GE153 := n4_; have NB152_153 := n5_; have NB153_152 := n6_; clear n0_ n1_ n2_ n3_ n4_ n5_ n6_; clear hb hbox hg; have hnb8 := NB152_153.out; have hnc8 := NB153_152.out; have hcz9_0 : w7.cell? ⟨gb152, 0, none⟩ = some (.int .i64 a0_0) := (blk_cell BK152.out 0).trans rfl; have hcz9_1 : w7.cell? ⟨gb152, 1, none⟩ = some (.int .i64 a0_1) := (blk_cell BK152.out 1).trans rfl; have hcz9_2 : w7.cell? ⟨gb152, 2, none⟩ = some (.bool a0_2) := (blk_cell BK152.out 2).trans rfl; have hfz9_0 := blk_frozen BK152.out 0; have hfz9_1 := blk_frozen BK152.out 1; have hfz9_2 := blk_frozen BK152.out 2; have hcz10_0 : w7.cell? ⟨gb153, 0, none⟩ = some (.int .i64 a1_0) := (blk_cell BK153.out 0).trans rfl; have hcz10_1 : w7.cell? ⟨gb153, 1, none⟩ = some (.int .i64 a1_1) := (blk_cell BK153.out 1).trans rfl; have hcz10_2 : w7.cell? ⟨gb153, 2, none⟩ = some (.bool a1_2) := (blk_cell BK153.out 2).trans rfl; have hfz10_0 := blk_frozen BK153.out 0; have hfz10_1 := blk_frozen BK153.out 1; have hfz10_2 := blk_frozen BK153.out 2))
    go_ret
    exact ⟨Z2_19, Z2_10⟩
  rw [if_pos c4] at H
  have c4b0 : (a0_1 == a1_1) = true := beq_iff_eq.mpr c4
  have c4b1 : (a0_1 != a1_1) = false := bne_eq_false_iff_eq.mpr c4
  clear c4
  by_cases c5 : (a0_2 != a1_2) = true
  rotate_left
  · rw [if_neg c5] at H
    have c5b0 : (a0_2 != a1_2) = false := by simpa using c5
    (try (have c5b1 : decide (a0_2 = a1_2) = true := by simpa using c5))
    (try (have c5b2 : (a0_2 == a1_2) = true := by simpa using c5))
    clear c5
    obtain rfl := Option.some.inj H
    go_wp2_with (first | ((with_reducible refine gate_dst (N := 3) rfl ?_); refine box_event ?hg (N := 3) ?hd (cs := #[.int .i64 a1_0, .int .i64 a1_1, .bool a1_2]) (t := 118) ?hr ?_; (case hd => rfl); (case hg => rfl); (case hr => first | (go_simp; done) | (go_simp; rfl)); intro gb153 hg w7 hbox hb; have n0_ := Aside0.mk Z2_8; have n1_ := Aside0.mk Z2_14; have n2_ := Aside0.mk (hbox); have n3_ := Aside0.mk Z2_7; have n4_ := Aside0.mk Z2_7; have n5_ := Aside0.mk Z2_4; have n6_ := Aside0.mk Z2_5; clear BK152; clear HB; have BK152 := n0_; have HB := n1_; have BK153 := n2_; have GW153 := n3_; have GE153 := n4_; have NB152_153 := n5_; have NB153_152 := n6_; clear n0_ n1_ n2_ n3_ n4_ n5_ n6_; clear hb hbox hg; have hnb8 := NB152_153.out; have hnc8 := NB153_152.out; have hcz9_0 : w7.cell? ⟨gb152, 0, none⟩ = some (.int .i64 a0_0) := (blk_cell BK152.out 0).trans rfl; have hcz9_1 : w7.cell? ⟨gb152, 1, none⟩ = some (.int .i64 a0_1) := (blk_cell BK152.out 1).trans rfl; have hcz9_2 : w7.cell? ⟨gb152, 2, none⟩ = some (.bool a0_2) := (blk_cell BK152.out 2).trans rfl; have hfz9_0 := blk_frozen BK152.out 0; have hfz9_1 := blk_frozen BK152.out 1; have hfz9_2 := blk_frozen BK152.out 2; have hcz10_0 : w7.cell? ⟨gb153, 0, none⟩ = some (.int .i64 a1_0) := (blk_cell BK153.out 0).trans rfl; have hcz10_1 : w7.cell? ⟨gb153, 1, none⟩ = some (.int .i64 a1_1) := (blk_cell BK153.out 1).trans rfl; have hcz10_2 : w7.cell? ⟨gb153, 2, none⟩ = some (.bool a1_2) := (blk_cell BK153.out 2).trans rfl; have hfz10_0 := blk_frozen BK153.out 0; have hfz10_1 := blk_frozen BK153.out 1; have hfz10_2 := blk_frozen BK153.out 2))
    go_ret
    exact ⟨Z2_19, Z2_10⟩
  rw [if_pos c5] at H
  have c5b0 : (a0_2 != a1_2) = true := c5
  (try (have c5b1 : decide (a0_2 = a1_2) = false := by simpa using c5))
  (try (have c5b2 : (a0_2 == a1_2) = false := by simpa using c5))
  (try (have c5b3 : ¬ (a0_2 = a1_2) := by simpa using c5))
  clear c5
  obtain rfl := Option.some.inj H
  go_wp2_with (first | ((with_reducible refine gate_dst (N := 3) rfl ?_); refine box_event ?hg (N := 3) ?hd (cs := #[.int .i64 a1_0, .int .i64 a1_1, .bool a1_2]) (t := 118) ?hr ?_; (case hd => rfl); (case hg => rfl); (case hr => first | (go_simp; done) | (go_simp; rfl)); intro gb153 hg w7 hbox hb; have n0_ := Aside0.mk Z2_8; have n1_ := Aside0.mk Z2_14; have n2_ := Aside0.mk (hbox); have n3_ := Aside0.mk Z2_7; have n4_ := Aside0.mk Z2_7; have n5_ := Aside0.mk Z2_4; have n6_ := Aside0.mk Z2_5; clear BK152; clear HB; have BK152 := n0_; have HB := n1_; have BK153 := n2_; have GW153 := n3_; have GE153 := n4_; have NB152_153 := n5_; have NB153_152 := n6_; clear n0_ n1_ n2_ n3_ n4_ n5_ n6_; clear hb hbox hg; have hnb8 := NB152_153.out; have hnc8 := NB153_152.out; have hcz9_0 : w7.cell? ⟨gb152, 0, none⟩ = some (.int .i64 a0_0) := (blk_cell BK152.out 0).trans rfl; have hcz9_1 : w7.cell? ⟨gb152, 1, none⟩ = some (.int .i64 a0_1) := (blk_cell BK152.out 1).trans rfl; have hcz9_2 : w7.cell? ⟨gb152, 2, none⟩ = some (.bool a0_2) := (blk_cell BK152.out 2).trans rfl; have hfz9_0 := blk_frozen BK152.out 0; have hfz9_1 := blk_frozen BK152.out 1; have hfz9_2 := blk_frozen BK152.out 2; have hcz10_0 : w7.cell? ⟨gb153, 0, none⟩ = some (.int .i64 a1_0) := (blk_cell BK153.out 0).trans rfl; have hcz10_1 : w7.cell? ⟨gb153, 1, none⟩ = some (.int .i64 a1_1) := (blk_cell BK153.out 1).trans rfl; have hcz10_2 : w7.cell? ⟨gb153, 2, none⟩ = some (.bool a1_2) := (blk_cell BK153.out 2).trans rfl; have hfz10_0 := blk_frozen BK153.out 0; have hfz10_1 := blk_frozen BK153.out 1; have hfz10_2 := blk_frozen BK153.out 2))
  go_ret
  exact ⟨Z2_19, Z2_10⟩

end Go.Proofs.Ytfpbbikhcnpceaa.QFnExactPieceAt
