-- Written by a program of this session (patch_print.py over the print).
import Derived.Test.YtfkidiagmekleaaQAllx0
import Derived.Test.YtfkidiagmekleaaREqSt
import Derived.Test.YtfkidiagmekleaaRHlS
import Derived.Test.YtfkidiagmekleaaRMkP
import Derived.Test.YtfkidiagmekleaaRSSp
import Derived.Test.YtfkidiagmekleaaRSetP
import Derived.Test.YtfkidiagmekleaaRTo
namespace Go.Proofs.Ytfkidiagmekleaa.QAll
open Go.RowKit Go.Proofs.YtfkidiagmekleaaW.PrintWords Go.Proofs.YtfkidiagmekleaaW.PrintLast Go.Proofs.YtfkidiagmekleaaW.PrintMore
attribute [local go_sem] max2_int min2_int max_two min_two max_three min_three max_four min_four   -- for this text's walks alone
set_option linter.unusedVariables false
set_option linter.unusedSimpArgs false

def M11_6 (k : Nat) : Array Bool := ((List.range 6).map fun j => k.testBit j).toArray
def M11_7 (k : Nat) : Array Bool := ((List.range 7).map fun j => k.testBit j).toArray
theorem C11_4 {W : World} {g : Nat} {T : TypeId} {v0 v1 v2 v3 : Value} (h : W.heap[g]? = some (.cells #[v0, v1, v2, v3] T (0, 0))) : (W.cell? ⟨g, 0, none⟩ = some v0 ∧ W.cell? ⟨g, 1, none⟩ = some v1 ∧ W.cell? ⟨g, 2, none⟩ = some v2 ∧ W.cell? ⟨g, 3, none⟩ = some v3) ∧ W.frozen? ⟨g, 0, none⟩ = false ∧ W.frozen? ⟨g, 1, none⟩ = false ∧ W.frozen? ⟨g, 2, none⟩ = false ∧ W.frozen? ⟨g, 3, none⟩ = false := ⟨⟨(blk_cell h 0).trans rfl, (blk_cell h 1).trans rfl, (blk_cell h 2).trans rfl, (blk_cell h 3).trans rfl⟩, blk_frozen h 0, blk_frozen h 1, blk_frozen h 2, blk_frozen h 3⟩
theorem D11_4 {W : World} {g : Nat} {T : TypeId} {v0 v1 v2 v3 : Value} (h : W.heap[g]? = some (.cells #[v0, v1, v2, v3] T (0, 0))) {R : Prop} (r : R) : W.cell? ⟨g, 0, none⟩ = some v0 ∧ W.cell? ⟨g, 1, none⟩ = some v1 ∧ W.cell? ⟨g, 2, none⟩ = some v2 ∧ W.cell? ⟨g, 3, none⟩ = some v3 ∧ R := ⟨(blk_cell h 0).trans rfl, (blk_cell h 1).trans rfl, (blk_cell h 2).trans rfl, (blk_cell h 3).trans rfl, r⟩
theorem E11_4 {W : World} {g : Nat} {T : TypeId} {v0 v1 v2 v3 o0 o1 o2 o3 : Value} (h : W.heap[g]? = some (.cells #[o0, o1, o2, o3] T (0, 0))) : ((((W.setCell ⟨g, 0, none⟩ v0).setCell ⟨g, 1, none⟩ v1).setCell ⟨g, 2, none⟩ v2).setCell ⟨g, 3, none⟩ v3).heap[g]? = some (.cells #[v0, v1, v2, v3] T (0, 0)) := (blk_put (cs := #[v0, v1, v2, o3]) (blk_put (cs := #[v0, v1, o2, o3]) (blk_put (cs := #[v0, o1, o2, o3]) (blk_put (cs := #[o0, o1, o2, o3]) h 0 _ rfl) 1 _ rfl) 2 _ rfl) 3 _ rfl)
theorem F11_4 {W : World} {g : Nat} {v0 v1 v2 v3 : Value} {a : Addr} (h : a.block ≠ g) : ((((W.setCell ⟨g, 0, none⟩ v0).setCell ⟨g, 1, none⟩ v1).setCell ⟨g, 2, none⟩ v2).setCell ⟨g, 3, none⟩ v3).cell? a = W.cell? a := by rw [cell_far (p := ⟨g, 3, none⟩) h, cell_far (p := ⟨g, 2, none⟩) h, cell_far (p := ⟨g, 1, none⟩) h, cell_far (p := ⟨g, 0, none⟩) h]
theorem C11_13 {W : World} {g : Nat} {T : TypeId} {v0 v1 v2 v3 v4 v5 v6 v7 v8 v9 v10 v11 v12 : Value} (h : W.heap[g]? = some (.cells #[v0, v1, v2, v3, v4, v5, v6, v7, v8, v9, v10, v11, v12] T (0, 0))) : (W.cell? ⟨g, 0, none⟩ = some v0 ∧ W.cell? ⟨g, 1, none⟩ = some v1 ∧ W.cell? ⟨g, 2, none⟩ = some v2 ∧ W.cell? ⟨g, 3, none⟩ = some v3 ∧ W.cell? ⟨g, 4, none⟩ = some v4 ∧ W.cell? ⟨g, 5, none⟩ = some v5 ∧ W.cell? ⟨g, 6, none⟩ = some v6 ∧ W.cell? ⟨g, 7, none⟩ = some v7 ∧ W.cell? ⟨g, 8, none⟩ = some v8 ∧ W.cell? ⟨g, 9, none⟩ = some v9 ∧ W.cell? ⟨g, 10, none⟩ = some v10 ∧ W.cell? ⟨g, 11, none⟩ = some v11 ∧ W.cell? ⟨g, 12, none⟩ = some v12) ∧ W.frozen? ⟨g, 0, none⟩ = false ∧ W.frozen? ⟨g, 1, none⟩ = false ∧ W.frozen? ⟨g, 2, none⟩ = false ∧ W.frozen? ⟨g, 3, none⟩ = false ∧ W.frozen? ⟨g, 4, none⟩ = false ∧ W.frozen? ⟨g, 5, none⟩ = false ∧ W.frozen? ⟨g, 6, none⟩ = false ∧ W.frozen? ⟨g, 7, none⟩ = false ∧ W.frozen? ⟨g, 8, none⟩ = false ∧ W.frozen? ⟨g, 9, none⟩ = false ∧ W.frozen? ⟨g, 10, none⟩ = false ∧ W.frozen? ⟨g, 11, none⟩ = false ∧ W.frozen? ⟨g, 12, none⟩ = false := ⟨⟨(blk_cell h 0).trans rfl, (blk_cell h 1).trans rfl, (blk_cell h 2).trans rfl, (blk_cell h 3).trans rfl, (blk_cell h 4).trans rfl, (blk_cell h 5).trans rfl, (blk_cell h 6).trans rfl, (blk_cell h 7).trans rfl, (blk_cell h 8).trans rfl, (blk_cell h 9).trans rfl, (blk_cell h 10).trans rfl, (blk_cell h 11).trans rfl, (blk_cell h 12).trans rfl⟩, blk_frozen h 0, blk_frozen h 1, blk_frozen h 2, blk_frozen h 3, blk_frozen h 4, blk_frozen h 5, blk_frozen h 6, blk_frozen h 7, blk_frozen h 8, blk_frozen h 9, blk_frozen h 10, blk_frozen h 11, blk_frozen h 12⟩
theorem D11_13 {W : World} {g : Nat} {T : TypeId} {v0 v1 v2 v3 v4 v5 v6 v7 v8 v9 v10 v11 v12 : Value} (h : W.heap[g]? = some (.cells #[v0, v1, v2, v3, v4, v5, v6, v7, v8, v9, v10, v11, v12] T (0, 0))) {R : Prop} (r : R) : W.cell? ⟨g, 0, none⟩ = some v0 ∧ W.cell? ⟨g, 1, none⟩ = some v1 ∧ W.cell? ⟨g, 2, none⟩ = some v2 ∧ W.cell? ⟨g, 3, none⟩ = some v3 ∧ W.cell? ⟨g, 4, none⟩ = some v4 ∧ W.cell? ⟨g, 5, none⟩ = some v5 ∧ W.cell? ⟨g, 6, none⟩ = some v6 ∧ W.cell? ⟨g, 7, none⟩ = some v7 ∧ W.cell? ⟨g, 8, none⟩ = some v8 ∧ W.cell? ⟨g, 9, none⟩ = some v9 ∧ W.cell? ⟨g, 10, none⟩ = some v10 ∧ W.cell? ⟨g, 11, none⟩ = some v11 ∧ W.cell? ⟨g, 12, none⟩ = some v12 ∧ R := ⟨(blk_cell h 0).trans rfl, (blk_cell h 1).trans rfl, (blk_cell h 2).trans rfl, (blk_cell h 3).trans rfl, (blk_cell h 4).trans rfl, (blk_cell h 5).trans rfl, (blk_cell h 6).trans rfl, (blk_cell h 7).trans rfl, (blk_cell h 8).trans rfl, (blk_cell h 9).trans rfl, (blk_cell h 10).trans rfl, (blk_cell h 11).trans rfl, (blk_cell h 12).trans rfl, r⟩
theorem E11_13 {W : World} {g : Nat} {T : TypeId} {v0 v1 v2 v3 v4 v5 v6 v7 v8 v9 v10 v11 v12 o0 o1 o2 o3 o4 o5 o6 o7 o8 o9 o10 o11 o12 : Value} (h : W.heap[g]? = some (.cells #[o0, o1, o2, o3, o4, o5, o6, o7, o8, o9, o10, o11, o12] T (0, 0))) : (((((((((((((W.setCell ⟨g, 0, none⟩ v0).setCell ⟨g, 1, none⟩ v1).setCell ⟨g, 2, none⟩ v2).setCell ⟨g, 3, none⟩ v3).setCell ⟨g, 4, none⟩ v4).setCell ⟨g, 5, none⟩ v5).setCell ⟨g, 6, none⟩ v6).setCell ⟨g, 7, none⟩ v7).setCell ⟨g, 8, none⟩ v8).setCell ⟨g, 9, none⟩ v9).setCell ⟨g, 10, none⟩ v10).setCell ⟨g, 11, none⟩ v11).setCell ⟨g, 12, none⟩ v12).heap[g]? = some (.cells #[v0, v1, v2, v3, v4, v5, v6, v7, v8, v9, v10, v11, v12] T (0, 0)) := (blk_put (cs := #[v0, v1, v2, v3, v4, v5, v6, v7, v8, v9, v10, v11, o12]) (blk_put (cs := #[v0, v1, v2, v3, v4, v5, v6, v7, v8, v9, v10, o11, o12]) (blk_put (cs := #[v0, v1, v2, v3, v4, v5, v6, v7, v8, v9, o10, o11, o12]) (blk_put (cs := #[v0, v1, v2, v3, v4, v5, v6, v7, v8, o9, o10, o11, o12]) (blk_put (cs := #[v0, v1, v2, v3, v4, v5, v6, v7, o8, o9, o10, o11, o12]) (blk_put (cs := #[v0, v1, v2, v3, v4, v5, v6, o7, o8, o9, o10, o11, o12]) (blk_put (cs := #[v0, v1, v2, v3, v4, v5, o6, o7, o8, o9, o10, o11, o12]) (blk_put (cs := #[v0, v1, v2, v3, v4, o5, o6, o7, o8, o9, o10, o11, o12]) (blk_put (cs := #[v0, v1, v2, v3, o4, o5, o6, o7, o8, o9, o10, o11, o12]) (blk_put (cs := #[v0, v1, v2, o3, o4, o5, o6, o7, o8, o9, o10, o11, o12]) (blk_put (cs := #[v0, v1, o2, o3, o4, o5, o6, o7, o8, o9, o10, o11, o12]) (blk_put (cs := #[v0, o1, o2, o3, o4, o5, o6, o7, o8, o9, o10, o11, o12]) (blk_put (cs := #[o0, o1, o2, o3, o4, o5, o6, o7, o8, o9, o10, o11, o12]) h 0 _ rfl) 1 _ rfl) 2 _ rfl) 3 _ rfl) 4 _ rfl) 5 _ rfl) 6 _ rfl) 7 _ rfl) 8 _ rfl) 9 _ rfl) 10 _ rfl) 11 _ rfl) 12 _ rfl)
theorem F11_13 {W : World} {g : Nat} {v0 v1 v2 v3 v4 v5 v6 v7 v8 v9 v10 v11 v12 : Value} {a : Addr} (h : a.block ≠ g) : (((((((((((((W.setCell ⟨g, 0, none⟩ v0).setCell ⟨g, 1, none⟩ v1).setCell ⟨g, 2, none⟩ v2).setCell ⟨g, 3, none⟩ v3).setCell ⟨g, 4, none⟩ v4).setCell ⟨g, 5, none⟩ v5).setCell ⟨g, 6, none⟩ v6).setCell ⟨g, 7, none⟩ v7).setCell ⟨g, 8, none⟩ v8).setCell ⟨g, 9, none⟩ v9).setCell ⟨g, 10, none⟩ v10).setCell ⟨g, 11, none⟩ v11).setCell ⟨g, 12, none⟩ v12).cell? a = W.cell? a := by rw [cell_far (p := ⟨g, 12, none⟩) h, cell_far (p := ⟨g, 11, none⟩) h, cell_far (p := ⟨g, 10, none⟩) h, cell_far (p := ⟨g, 9, none⟩) h, cell_far (p := ⟨g, 8, none⟩) h, cell_far (p := ⟨g, 7, none⟩) h, cell_far (p := ⟨g, 6, none⟩) h, cell_far (p := ⟨g, 5, none⟩) h, cell_far (p := ⟨g, 4, none⟩) h, cell_far (p := ⟨g, 3, none⟩) h, cell_far (p := ⟨g, 2, none⟩) h, cell_far (p := ⟨g, 1, none⟩) h, cell_far (p := ⟨g, 0, none⟩) h]
theorem Z11_148 {p : Prop} (h : p := by (with_reducible repeat (first | apply Kd.R_alloc | apply Kd.R_drewN | apply Kd.R_drew)); exact HO282.out) : p := h
theorem Z11_150 {p : Prop} (h : p := by (with_reducible repeat (first | apply Kd.R_alloc | apply Kd.R_drewN | apply Kd.R_drew)); exact HO303.out) : p := h
theorem Z11_152 {p : Prop} (h : p := by (with_reducible repeat (first | apply Kd.R_alloc | apply Kd.R_drewN | apply Kd.R_drew)); exact HO312.out) : p := h
theorem Z11_154 {p : Prop} (h : p := by (with_reducible repeat (first | apply Kd.R_alloc | apply Kd.R_drewN | apply Kd.R_drew)); exact HO334.out) : p := h
theorem Z11_156 {p : Prop} (h : p := by (with_reducible repeat (first | apply Kd.R_alloc | apply Kd.R_drewN | apply Kd.R_drew)); exact HO344.out) : p := h
theorem Z11_28 {p : Prop} (h : p := by repeat (first | (with_reducible first | exact HB.out | apply below_alloc | apply pw_below_drewN | apply below_drew1 | refine below_set ?_ GE277.out | refine below_set ?_ GE278.out | refine below_set ?_ GE309.out | refine below_set ?_ GE318.out | refine below_set ?_ GE340.out | refine below_set ?_ GE388.out) | exact HB.out)) : p := h
theorem Z11_1 {p : Prop} (h : p := by exact (Kd.R_lower (Kd.R_new' (Kd.R_new' (Kd.R_new' (Kd.R_new' (Kd.R_new' (Kd.R_new' ho0 (Kd.R_lt Z11_148)) (Kd.R_lt Z11_150)) (Kd.R_lt Z11_152)) (Kd.R_lt Z11_154)) (Kd.R_lt Z11_156)) (Kd.R_lt (by (with_reducible repeat (first | apply Kd.R_alloc | apply Kd.R_drewN | apply Kd.R_drew)); exact HO361.out))) (below_size Z11_28))) : p := h
theorem Z11_149 {p : Prop} (h : p := by (with_reducible repeat (first | apply Kd.R_alloc | apply Kd.R_drewN | apply Kd.R_drew)); exact HO285.out) : p := h
theorem Z11_151 {p : Prop} (h : p := by (with_reducible repeat (first | apply Kd.R_alloc | apply Kd.R_drewN | apply Kd.R_drew)); exact HO306.out) : p := h
theorem Z11_153 {p : Prop} (h : p := by (with_reducible repeat (first | apply Kd.R_alloc | apply Kd.R_drewN | apply Kd.R_drew)); exact HO315.out) : p := h
theorem Z11_155 {p : Prop} (h : p := by (with_reducible repeat (first | apply Kd.R_alloc | apply Kd.R_drewN | apply Kd.R_drew)); exact HO337.out) : p := h
theorem Z11_157 {p : Prop} (h : p := by (with_reducible repeat (first | apply Kd.R_alloc | apply Kd.R_drewN | apply Kd.R_drew)); exact HO347.out) : p := h
theorem Z11_2 {p : Prop} (h : p := by exact (Kd.R_lower (Kd.R_new' (Kd.R_new' (Kd.R_new' (Kd.R_new' (Kd.R_new' (Kd.R_new' ho1 (Kd.R_lt Z11_149)) (Kd.R_lt Z11_151)) (Kd.R_lt Z11_153)) (Kd.R_lt Z11_155)) (Kd.R_lt Z11_157)) (Kd.R_lt (by (with_reducible repeat (first | apply Kd.R_alloc | apply Kd.R_drewN | apply Kd.R_drew)); exact HO364.out))) (below_size Z11_28))) : p := h
theorem Z11_49 {p : Prop} (h : p := by repeat (first | (with_reducible first | exact HB.out | apply below_alloc | apply pw_below_drewN | apply below_drew1 | refine below_set ?_ GE277.out | refine below_set ?_ GE278.out | refine below_set ?_ GE309.out | refine below_set ?_ GE318.out | refine below_set ?_ GE340.out) | exact HB.out)) : p := h
theorem Z11_3 {p : Prop} (h : p := by exact (Kd.R_lower (Kd.R_new' (Kd.R_new' (Kd.R_new' ho0 (Kd.R_lt Z11_148)) (Kd.R_lt Z11_150)) (Kd.R_lt Z11_152)) (below_size Z11_49))) : p := h
theorem Z11_4 {p : Prop} (h : p := by exact (Kd.R_lower (Kd.R_new' (Kd.R_new' (Kd.R_new' ho1 (Kd.R_lt Z11_149)) (Kd.R_lt Z11_151)) (Kd.R_lt Z11_153)) (below_size Z11_49))) : p := h
theorem Z11_5 {p : Prop} (h : p := by (with_reducible repeat (first | apply Kd.R_alloc | apply Kd.R_drewN | apply Kd.R_drew)); exact (Kd.R_mono (Kd.R_far (p := ⟨gb388, 3, none⟩) (Kd.R_far (p := ⟨gb388, 2, none⟩) (Kd.R_far (p := ⟨gb388, 1, none⟩) (Kd.R_far (p := ⟨gb388, 0, none⟩) (Kd.R_types HO382.out BK388.out (by decide)) (fun _ hk => hk.2) (.slice Ao108 t380.length co108)) (fun _ hk => hk.2) (.slice Ao110 t383.length co110)) (fun _ hk => hk.2) (.int .i64 t386)) (fun _ hk => hk.2) (.int .i64 t387)) (fun _ h_ => h_.1))) : p := h
theorem Z11_6 {p : Prop} (h : p := by (with_reducible repeat (first | apply Kd.R_alloc | apply Kd.R_drewN | apply Kd.R_drew)); exact (Kd.R_mono (Kd.R_far (p := ⟨gb388, 3, none⟩) (Kd.R_far (p := ⟨gb388, 2, none⟩) (Kd.R_far (p := ⟨gb388, 1, none⟩) (Kd.R_far (p := ⟨gb388, 0, none⟩) (Kd.R_types HO385.out BK388.out (by decide)) (fun _ hk => hk.2) (.slice Ao108 t380.length co108)) (fun _ hk => hk.2) (.slice Ao110 t383.length co110)) (fun _ hk => hk.2) (.int .i64 t386)) (fun _ hk => hk.2) (.int .i64 t387)) (fun _ h_ => h_.1))) : p := h
theorem Z11_7 {p : Prop} (h : p := by (with_reducible repeat (first | apply Kd.R_alloc | apply Kd.R_drewN | apply Kd.R_drew)); exact (Kd.R_mono (Kd.R_far (p := ⟨gb388, 3, none⟩) (Kd.R_far (p := ⟨gb388, 2, none⟩) (Kd.R_far (p := ⟨gb388, 1, none⟩) (Kd.R_far (p := ⟨gb388, 0, none⟩) (Kd.R_types HO303.out BK388.out (by decide)) (fun _ hk => hk.2) (.slice Ao108 t380.length co108)) (fun _ hk => hk.2) (.slice Ao110 t383.length co110)) (fun _ hk => hk.2) (.int .i64 t386)) (fun _ hk => hk.2) (.int .i64 t387)) (fun _ h_ => h_.1))) : p := h
theorem Z11_8 {p : Prop} (h : p := by (with_reducible repeat (first | apply Kd.R_alloc | apply Kd.R_drewN | apply Kd.R_drew)); exact (Kd.R_mono (Kd.R_far (p := ⟨gb388, 3, none⟩) (Kd.R_far (p := ⟨gb388, 2, none⟩) (Kd.R_far (p := ⟨gb388, 1, none⟩) (Kd.R_far (p := ⟨gb388, 0, none⟩) (Kd.R_types HO306.out BK388.out (by decide)) (fun _ hk => hk.2) (.slice Ao108 t380.length co108)) (fun _ hk => hk.2) (.slice Ao110 t383.length co110)) (fun _ hk => hk.2) (.int .i64 t386)) (fun _ hk => hk.2) (.int .i64 t387)) (fun _ h_ => h_.1))) : p := h
theorem Z11_9 {p : Prop} (h : p := by (with_reducible repeat (first | apply Kd.R_alloc | apply Kd.R_drewN | apply Kd.R_drew)); exact (Kd.R_mono (Kd.R_far (p := ⟨gb309, 3, none⟩) (Kd.R_far (p := ⟨gb309, 2, none⟩) (Kd.R_far (p := ⟨gb309, 1, none⟩) (Kd.R_far (p := ⟨gb309, 0, none⟩) (Kd.R_types HO282.out BK309.out (by decide)) (fun _ hk => hk.2) (.slice Ao50 t301.length co50)) (fun _ hk => hk.2) (.slice Ao52 t304.length co52)) (fun _ hk => hk.2) (.int .i64 t307)) (fun _ hk => hk.2) (.int .i64 t308)) (fun _ h_ => h_.1))) : p := h
theorem Z11_10 {p : Prop} (h : p := by (with_reducible repeat (first | apply Kd.R_alloc | apply Kd.R_drewN | apply Kd.R_drew)); exact (Kd.R_mono (Kd.R_far (p := ⟨gb309, 3, none⟩) (Kd.R_far (p := ⟨gb309, 2, none⟩) (Kd.R_far (p := ⟨gb309, 1, none⟩) (Kd.R_far (p := ⟨gb309, 0, none⟩) (Kd.R_types HO285.out BK309.out (by decide)) (fun _ hk => hk.2) (.slice Ao50 t301.length co50)) (fun _ hk => hk.2) (.slice Ao52 t304.length co52)) (fun _ hk => hk.2) (.int .i64 t307)) (fun _ hk => hk.2) (.int .i64 t308)) (fun _ h_ => h_.1))) : p := h
theorem Z11_11 {p : Prop} (h : p := by (with_reducible repeat (first | apply Kd.R_alloc | apply Kd.R_drewN | apply Kd.R_drew)); exact (Kd.R_mono (Kd.R_far (p := ⟨gb309, 3, none⟩) (Kd.R_far (p := ⟨gb309, 2, none⟩) (Kd.R_far (p := ⟨gb309, 1, none⟩) (Kd.R_far (p := ⟨gb309, 0, none⟩) (Kd.R_types HO303.out BK309.out (by decide)) (fun _ hk => hk.2) (.slice Ao50 t301.length co50)) (fun _ hk => hk.2) (.slice Ao52 t304.length co52)) (fun _ hk => hk.2) (.int .i64 t307)) (fun _ hk => hk.2) (.int .i64 t308)) (fun _ h_ => h_.1))) : p := h
theorem Z11_12 {p : Prop} (h : p := by (with_reducible repeat (first | apply Kd.R_alloc | apply Kd.R_drewN | apply Kd.R_drew)); exact (Kd.R_mono (Kd.R_far (p := ⟨gb309, 3, none⟩) (Kd.R_far (p := ⟨gb309, 2, none⟩) (Kd.R_far (p := ⟨gb309, 1, none⟩) (Kd.R_far (p := ⟨gb309, 0, none⟩) (Kd.R_types HO306.out BK309.out (by decide)) (fun _ hk => hk.2) (.slice Ao50 t301.length co50)) (fun _ hk => hk.2) (.slice Ao52 t304.length co52)) (fun _ hk => hk.2) (.int .i64 t307)) (fun _ hk => hk.2) (.int .i64 t308)) (fun _ h_ => h_.1))) : p := h
theorem Z11_13 {p : Prop} (h : p := by (with_reducible repeat (first | apply Kd.R_alloc | apply Kd.R_drewN | apply Kd.R_drew)); exact (Kd.R_mono (Kd.R_far (p := ⟨gb340, 3, none⟩) (Kd.R_far (p := ⟨gb340, 2, none⟩) (Kd.R_far (p := ⟨gb340, 1, none⟩) (Kd.R_far (p := ⟨gb340, 0, none⟩) (Kd.R_types HO334.out BK340.out (by decide)) (fun _ hk => hk.2) (.slice Ao72 t332.length co72)) (fun _ hk => hk.2) (.slice Ao74 t335.length co74)) (fun _ hk => hk.2) (.int .i64 t338)) (fun _ hk => hk.2) (.int .i64 t339)) (fun _ h_ => h_.1))) : p := h
theorem Z11_14 {p : Prop} (h : p := by (with_reducible repeat (first | apply Kd.R_alloc | apply Kd.R_drewN | apply Kd.R_drew)); exact (Kd.R_mono (Kd.R_far (p := ⟨gb340, 3, none⟩) (Kd.R_far (p := ⟨gb340, 2, none⟩) (Kd.R_far (p := ⟨gb340, 1, none⟩) (Kd.R_far (p := ⟨gb340, 0, none⟩) (Kd.R_types HO337.out BK340.out (by decide)) (fun _ hk => hk.2) (.slice Ao72 t332.length co72)) (fun _ hk => hk.2) (.slice Ao74 t335.length co74)) (fun _ hk => hk.2) (.int .i64 t338)) (fun _ hk => hk.2) (.int .i64 t339)) (fun _ h_ => h_.1))) : p := h
theorem Z11_15 {p : Prop} (h : p := by (with_reducible repeat (first | apply Kd.R_alloc | apply Kd.R_drewN | apply Kd.R_drew)); exact (Kd.R_mono (Kd.R_far (p := ⟨gb340, 3, none⟩) (Kd.R_far (p := ⟨gb340, 2, none⟩) (Kd.R_far (p := ⟨gb340, 1, none⟩) (Kd.R_far (p := ⟨gb340, 0, none⟩) (Kd.R_types HO303.out BK340.out (by decide)) (fun _ hk => hk.2) (.slice Ao72 t332.length co72)) (fun _ hk => hk.2) (.slice Ao74 t335.length co74)) (fun _ hk => hk.2) (.int .i64 t338)) (fun _ hk => hk.2) (.int .i64 t339)) (fun _ h_ => h_.1))) : p := h
theorem Z11_16 {p : Prop} (h : p := by (with_reducible repeat (first | apply Kd.R_alloc | apply Kd.R_drewN | apply Kd.R_drew)); exact (Kd.R_mono (Kd.R_far (p := ⟨gb340, 3, none⟩) (Kd.R_far (p := ⟨gb340, 2, none⟩) (Kd.R_far (p := ⟨gb340, 1, none⟩) (Kd.R_far (p := ⟨gb340, 0, none⟩) (Kd.R_types HO306.out BK340.out (by decide)) (fun _ hk => hk.2) (.slice Ao72 t332.length co72)) (fun _ hk => hk.2) (.slice Ao74 t335.length co74)) (fun _ hk => hk.2) (.int .i64 t338)) (fun _ hk => hk.2) (.int .i64 t339)) (fun _ h_ => h_.1))) : p := h
theorem Z11_141 {p : Prop} (h : p := by (with_reducible repeat (first | refine blk_drewN ?_ _ | refine blk_drew ?_ | refine blk_alloc ?_ _)); exact BK278.out) : p := h
theorem Z11_17 {p : Prop} (h : p := by exact ((by rw [hg]; exact Nat.ne_of_lt (blk_lt (g := gb278) (o := .cells #[.int .i64 a1_0, .int .i64 a1_1, .int .i64 a1_2, .int .i64 a1_3, .int .i64 a1_4, .int .i64 a1_5, .int .i64 a1_6, .int .i64 a1_7, .int .i64 a1_8, .int .i64 a1_9, .int .i64 a1_10, .bool a1_11, .bool a1_12] 75 (0, 0)) Z11_141) : gb278 ≠ gb309))) : p := h
theorem Z11_18 {p : Prop} (h : p := by exact ((by rw [hg]; exact Nat.ne_of_gt (blk_lt (g := gb278) (o := .cells #[.int .i64 a1_0, .int .i64 a1_1, .int .i64 a1_2, .int .i64 a1_3, .int .i64 a1_4, .int .i64 a1_5, .int .i64 a1_6, .int .i64 a1_7, .int .i64 a1_8, .int .i64 a1_9, .int .i64 a1_10, .bool a1_11, .bool a1_12] 75 (0, 0)) Z11_141) : gb309 ≠ gb278))) : p := h
theorem Z11_19 {p : Prop} (h : p := by exact ((by rw [hg]; exact Nat.ne_of_lt (blk_lt (g := gb278) (o := .cells #[.int .i64 a1_0, .int .i64 a1_1, .int .i64 a1_2, .int .i64 a1_3, .int .i64 a1_4, .int .i64 a1_5, .int .i64 a1_6, .int .i64 a1_7, .int .i64 a1_8, .int .i64 a1_9, .int .i64 a1_10, .bool a1_11, .bool a1_12] 75 (0, 0)) Z11_141) : gb278 ≠ gb340))) : p := h
theorem Z11_20 {p : Prop} (h : p := by exact ((by rw [hg]; exact Nat.ne_of_gt (blk_lt (g := gb278) (o := .cells #[.int .i64 a1_0, .int .i64 a1_1, .int .i64 a1_2, .int .i64 a1_3, .int .i64 a1_4, .int .i64 a1_5, .int .i64 a1_6, .int .i64 a1_7, .int .i64 a1_8, .int .i64 a1_9, .int .i64 a1_10, .bool a1_11, .bool a1_12] 75 (0, 0)) Z11_141) : gb340 ≠ gb278))) : p := h
theorem Z11_21 {p : Prop} (h : p := by exact ((by rw [hg]; exact Nat.ne_of_lt (blk_lt (g := gb278) (o := .cells #[.int .i64 a1_0, .int .i64 a1_1, .int .i64 a1_2, .int .i64 a1_3, .int .i64 a1_4, .int .i64 a1_5, .int .i64 a1_6, .int .i64 a1_7, .int .i64 a1_8, .int .i64 a1_9, .int .i64 a1_10, .bool a1_11, .bool a1_12] 75 (0, 0)) Z11_141) : gb278 ≠ gb388))) : p := h
theorem Z11_22 {p : Prop} (h : p := by exact ((by rw [hg]; exact Nat.ne_of_gt (blk_lt (g := gb278) (o := .cells #[.int .i64 a1_0, .int .i64 a1_1, .int .i64 a1_2, .int .i64 a1_3, .int .i64 a1_4, .int .i64 a1_5, .int .i64 a1_6, .int .i64 a1_7, .int .i64 a1_8, .int .i64 a1_9, .int .i64 a1_10, .bool a1_11, .bool a1_12] 75 (0, 0)) Z11_141) : gb388 ≠ gb278))) : p := h
theorem Z11_74 {p : Prop} (h : p := by repeat (first | (with_reducible first | exact HB.out | apply below_alloc | apply pw_below_drewN | apply below_drew1 | refine below_set ?_ GE277.out | refine below_set ?_ GE278.out | refine below_set ?_ GE309.out) | exact HB.out)) : p := h
theorem Z11_23 {p : Prop} (h : p := by exact (Kd.R_lower (Kd.R_new' ho0 (Kd.R_lt Z11_148)) (below_size Z11_74))) : p := h
theorem Z11_24 {p : Prop} (h : p := by exact (Kd.R_lower (Kd.R_new' ho1 (Kd.R_lt Z11_149)) (below_size Z11_74))) : p := h
theorem Z11_25 {p : Prop} (h : p := by exact (blk_below (g := gb278) (o := .cells #[.int .i64 a1_0, .int .i64 a1_1, .int .i64 a1_2, .int .i64 a1_3, .int .i64 a1_4, .int .i64 a1_5, .int .i64 a1_6, .int .i64 a1_7, .int .i64 a1_8, .int .i64 a1_9, .int .i64 a1_10, .bool a1_11, .bool a1_12] 75 (0, 0)) Z11_141 hb)) : p := h
theorem Z11_26 {p : Prop} (h : p := by exact ((by rw [hg]; exact (below_size Z11_49) : w.heap.size ≤ gb388))) : p := h
theorem Z11_27 {p : Prop} (h : p := by exact (below_step Z11_28 hb)) : p := h
theorem Z11_61 {p : Prop} (h : p := by repeat (first | (with_reducible first | exact HB.out | apply below_alloc | apply pw_below_drewN | apply below_drew1 | refine below_set ?_ GE277.out | refine below_set ?_ GE278.out | refine below_set ?_ GE309.out | refine below_set ?_ GE318.out) | exact HB.out)) : p := h
theorem Z11_29 {p : Prop} (h : p := by exact ((by rw [hg]; exact (below_size Z11_61) : w.heap.size ≤ gb340))) : p := h
theorem Z11_140 {p : Prop} (h : p := by (with_reducible repeat (first | refine blk_drewN ?_ _ | refine blk_drew ?_ | refine blk_alloc ?_ _)); exact BK277.out) : p := h
theorem Z11_30 {p : Prop} (h : p := by exact ((by rw [hg]; exact Nat.ne_of_lt (blk_lt (g := gb277) (o := .cells #[.slice A0_0 l0_0.length c0_0, .slice A0_1 l0_1.length c0_1, .int .i64 a0_2, .int .i64 a0_3] 50 (0, 0)) Z11_140) : gb277 ≠ gb278))) : p := h
theorem Z11_31 {p : Prop} (h : p := by exact ((by rw [hg]; exact Nat.ne_of_gt (blk_lt (g := gb277) (o := .cells #[.slice A0_0 l0_0.length c0_0, .slice A0_1 l0_1.length c0_1, .int .i64 a0_2, .int .i64 a0_3] 50 (0, 0)) Z11_140) : gb278 ≠ gb277))) : p := h
theorem Z11_32 {p : Prop} (h : p := by exact ((by rw [hg]; exact Nat.ne_of_lt (blk_lt (g := gb277) (o := .cells #[.slice A0_0 l0_0.length c0_0, .slice A0_1 l0_1.length c0_1, .int .i64 a0_2, .int .i64 a0_3] 50 (0, 0)) Z11_140) : gb277 ≠ gb309))) : p := h
theorem Z11_33 {p : Prop} (h : p := by exact ((by rw [hg]; exact Nat.ne_of_gt (blk_lt (g := gb277) (o := .cells #[.slice A0_0 l0_0.length c0_0, .slice A0_1 l0_1.length c0_1, .int .i64 a0_2, .int .i64 a0_3] 50 (0, 0)) Z11_140) : gb309 ≠ gb277))) : p := h
theorem Z11_34 {p : Prop} (h : p := by exact ((by rw [hg]; exact Nat.ne_of_lt (blk_lt (g := gb277) (o := .cells #[.slice A0_0 l0_0.length c0_0, .slice A0_1 l0_1.length c0_1, .int .i64 a0_2, .int .i64 a0_3] 50 (0, 0)) Z11_140) : gb277 ≠ gb340))) : p := h
theorem Z11_35 {p : Prop} (h : p := by exact ((by rw [hg]; exact Nat.ne_of_gt (blk_lt (g := gb277) (o := .cells #[.slice A0_0 l0_0.length c0_0, .slice A0_1 l0_1.length c0_1, .int .i64 a0_2, .int .i64 a0_3] 50 (0, 0)) Z11_140) : gb340 ≠ gb277))) : p := h
theorem Z11_142 {p : Prop} (h : p := by (with_reducible repeat (first | refine blk_drewN ?_ _ | refine blk_drew ?_ | refine blk_alloc ?_ _)); exact BK309.out) : p := h
theorem Z11_36 {p : Prop} (h : p := by exact ((by rw [hg]; exact Nat.ne_of_lt (blk_lt (g := gb309) (o := .cells #[.slice Ao50 t301.length co50, .slice Ao52 t304.length co52, .int .i64 t307, .int .i64 t308] 56 (0, 0)) Z11_142) : gb309 ≠ gb340))) : p := h
theorem Z11_37 {p : Prop} (h : p := by exact ((by rw [hg]; exact Nat.ne_of_gt (blk_lt (g := gb309) (o := .cells #[.slice Ao50 t301.length co50, .slice Ao52 t304.length co52, .int .i64 t307, .int .i64 t308] 56 (0, 0)) Z11_142) : gb340 ≠ gb309))) : p := h
theorem Z11_143 {p : Prop} (h : p := by (with_reducible repeat (first | refine blk_drewN ?_ _ | refine blk_drew ?_ | refine blk_alloc ?_ _)); exact BK318.out) : p := h
theorem Z11_38 {p : Prop} (h : p := by exact ((by rw [hg]; exact Nat.ne_of_lt (blk_lt (g := gb318) (o := .cells #[.slice Ao60 t310.length co60, .slice Ao65 t313.length co65, .int .i64 t316, .int .i64 t317] 56 (0, 0)) Z11_143) : gb318 ≠ gb340))) : p := h
theorem Z11_39 {p : Prop} (h : p := by exact ((by rw [hg]; exact Nat.ne_of_gt (blk_lt (g := gb318) (o := .cells #[.slice Ao60 t310.length co60, .slice Ao65 t313.length co65, .int .i64 t316, .int .i64 t317] 56 (0, 0)) Z11_143) : gb340 ≠ gb318))) : p := h
theorem Z11_40 {p : Prop} (h : p := by exact (below_step Z11_49 hb)) : p := h
theorem Z11_41 {p : Prop} (h : p := by exact ((by rw [hg]; exact Nat.ne_of_lt (blk_lt (g := gb277) (o := .cells #[.slice A0_0 l0_0.length c0_0, .slice A0_1 l0_1.length c0_1, .int .i64 a0_2, .int .i64 a0_3] 50 (0, 0)) Z11_140) : gb277 ≠ gb388))) : p := h
theorem Z11_42 {p : Prop} (h : p := by exact ((by rw [hg]; exact Nat.ne_of_gt (blk_lt (g := gb277) (o := .cells #[.slice A0_0 l0_0.length c0_0, .slice A0_1 l0_1.length c0_1, .int .i64 a0_2, .int .i64 a0_3] 50 (0, 0)) Z11_140) : gb388 ≠ gb277))) : p := h
theorem Z11_43 {p : Prop} (h : p := by exact ((by rw [hg]; exact Nat.ne_of_lt (blk_lt (g := gb309) (o := .cells #[.slice Ao50 t301.length co50, .slice Ao52 t304.length co52, .int .i64 t307, .int .i64 t308] 56 (0, 0)) Z11_142) : gb309 ≠ gb388))) : p := h
theorem Z11_44 {p : Prop} (h : p := by exact ((by rw [hg]; exact Nat.ne_of_gt (blk_lt (g := gb309) (o := .cells #[.slice Ao50 t301.length co50, .slice Ao52 t304.length co52, .int .i64 t307, .int .i64 t308] 56 (0, 0)) Z11_142) : gb388 ≠ gb309))) : p := h
theorem Z11_45 {p : Prop} (h : p := by exact ((by rw [hg]; exact Nat.ne_of_lt (blk_lt (g := gb318) (o := .cells #[.slice Ao60 t310.length co60, .slice Ao65 t313.length co65, .int .i64 t316, .int .i64 t317] 56 (0, 0)) Z11_143) : gb318 ≠ gb388))) : p := h
theorem Z11_46 {p : Prop} (h : p := by exact ((by rw [hg]; exact Nat.ne_of_gt (blk_lt (g := gb318) (o := .cells #[.slice Ao60 t310.length co60, .slice Ao65 t313.length co65, .int .i64 t316, .int .i64 t317] 56 (0, 0)) Z11_143) : gb388 ≠ gb318))) : p := h
theorem Z11_144 {p : Prop} (h : p := by (with_reducible repeat (first | refine blk_drewN ?_ _ | refine blk_drew ?_ | refine blk_alloc ?_ _)); exact BK340.out) : p := h
theorem Z11_47 {p : Prop} (h : p := by exact ((by rw [hg]; exact Nat.ne_of_lt (blk_lt (g := gb340) (o := .cells #[.slice Ao72 t332.length co72, .slice Ao74 t335.length co74, .int .i64 t338, .int .i64 t339] 56 (0, 0)) Z11_144) : gb340 ≠ gb388))) : p := h
theorem Z11_48 {p : Prop} (h : p := by exact ((by rw [hg]; exact Nat.ne_of_gt (blk_lt (g := gb340) (o := .cells #[.slice Ao72 t332.length co72, .slice Ao74 t335.length co74, .int .i64 t338, .int .i64 t339] 56 (0, 0)) Z11_144) : gb388 ≠ gb340))) : p := h
theorem Z11_50 {p : Prop} (h : p := by (try simp only [List.map_toArray, List.map_cons, List.map_nil]); first | done | (rw [show t356.length = t332.length from (Kd.R_reads' HO334.out).1.symm, show t357.length = t335.length from (Kd.R_reads' HO337.out).1.symm] <;> rfl) | rfl | (simp only [List.length_drop, List.length_take]; rfl)) : p := h
theorem Z11_51 {p : Prop} (h : p := by exact ((by rw [hg]; exact (below_size Z11_74) : w.heap.size ≤ gb318))) : p := h
theorem Z11_52 {p : Prop} (h : p := by exact (below_step Z11_61 hb)) : p := h
theorem Z11_53 {p : Prop} (h : p := by first | exact hk_.1.1.2.1 e_ | exact hk_.2 e_ | exact hk_.1.2 e_ | exact hk_.1.1.2 e_ | exact hk_.1.1.1.2 e_ | exact hk_.1.1.1.1.2 e_ | exact hk_.1.1.1.1.1.2 e_ | exact hk_.1 e_ | exact hk_.1.1 e_ | exact hk_.1.1.1 e_ | exact hk_.1.1.1.1 e_ | exact hk_.1.1.1.1.1 e_) : p := h
theorem Z11_54 {p : Prop} (h : p := by first | exact hk_.1.1.2.2 e_ | exact hk_.2 e_ | exact hk_.1.2 e_ | exact hk_.1.1.2 e_ | exact hk_.1.1.1.2 e_ | exact hk_.1.1.1.1.2 e_ | exact hk_.1.1.1.1.1.2 e_ | exact hk_.1 e_ | exact hk_.1.1 e_ | exact hk_.1.1.1 e_ | exact hk_.1.1.1.1 e_ | exact hk_.1.1.1.1.1 e_) : p := h
theorem Z11_55 {p : Prop} (h : p := by first | exact hk_.1.2.2.1 e_ | exact hk_.2 e_ | exact hk_.1.2 e_ | exact hk_.1.1.2 e_ | exact hk_.1.1.1.2 e_ | exact hk_.1.1.1.1.2 e_ | exact hk_.1.1.1.1.1.2 e_ | exact hk_.1 e_ | exact hk_.1.1 e_ | exact hk_.1.1.1 e_ | exact hk_.1.1.1.1 e_ | exact hk_.1.1.1.1.1 e_) : p := h
theorem Z11_56 {p : Prop} (h : p := by first | exact hk_.1.2.2.2 e_ | exact hk_.2 e_ | exact hk_.1.2 e_ | exact hk_.1.1.2 e_ | exact hk_.1.1.1.2 e_ | exact hk_.1.1.1.1.2 e_ | exact hk_.1.1.1.1.1.2 e_ | exact hk_.1 e_ | exact hk_.1.1 e_ | exact hk_.1.1.1 e_ | exact hk_.1.1.1.1 e_ | exact hk_.1.1.1.1.1 e_) : p := h
theorem Z11_57 {p : Prop} (h : p := by exact (blk_below (g := gb277) (o := .cells #[.slice A0_0 l0_0.length c0_0, .slice A0_1 l0_1.length c0_1, .int .i64 a0_2, .int .i64 a0_3] 50 (0, 0)) Z11_140 hb)) : p := h
theorem Z11_58 {p : Prop} (h : p := by exact (blk_below (g := gb309) (o := .cells #[.slice Ao50 t301.length co50, .slice Ao52 t304.length co52, .int .i64 t307, .int .i64 t308] 56 (0, 0)) Z11_142 hb)) : p := h
theorem Z11_59 {p : Prop} (h : p := by exact (blk_below (g := gb318) (o := .cells #[.slice Ao60 t310.length co60, .slice Ao65 t313.length co65, .int .i64 t316, .int .i64 t317] 56 (0, 0)) Z11_143 hb)) : p := h
theorem Z11_60 {p : Prop} (h : p := by exact (blk_below (g := gb340) (o := .cells #[.slice Ao72 t332.length co72, .slice Ao74 t335.length co74, .int .i64 t338, .int .i64 t339] 56 (0, 0)) Z11_144 hb)) : p := h
theorem Z11_97 {p : Prop} (h : p := by repeat (first | (with_reducible first | exact HB.out | apply below_alloc | apply pw_below_drewN | apply below_drew1 | refine below_set ?_ GE277.out | refine below_set ?_ GE278.out) | exact HB.out)) : p := h
theorem Z11_62 {p : Prop} (h : p := by exact ((by rw [hg]; exact (below_size Z11_97) : w.heap.size ≤ gb309))) : p := h
theorem Z11_63 {p : Prop} (h : p := by exact (below_step Z11_74 hb)) : p := h
theorem Z11_64 {p : Prop} (h : p := by first | exact hk_.2 e_ | exact hk_.1.2 e_ | exact hk_.1.1.2 e_ | exact hk_.1.1.1.2 e_ | exact hk_.1.1.1.1.2 e_ | exact hk_.1.1.1.1.1.2 e_ | exact hk_.1 e_ | exact hk_.1.1 e_ | exact hk_.1.1.1 e_ | exact hk_.1.1.1.1 e_ | exact hk_.1.1.1.1.1 e_) : p := h
theorem Z11_65 {p : Prop} (h : p := by first | exact hk_.1.1.2 e_ | exact hk_.2 e_ | exact hk_.1.2 e_ | exact hk_.1.1.1.2 e_ | exact hk_.1.1.1.1.2 e_ | exact hk_.1.1.1.1.1.2 e_ | exact hk_.1 e_ | exact hk_.1.1 e_ | exact hk_.1.1.1 e_ | exact hk_.1.1.1.1 e_ | exact hk_.1.1.1.1.1 e_) : p := h
theorem Z11_66 {p : Prop} (h : p := by exact (blk_below (g := gb309) (o := .cells #[.slice none 0 0, .slice none 0 0, .int .i64 0, .int .i64 0] 56 (0, 0)) Z11_142 hb)) : p := h
theorem Z11_67 {p : Prop} (h : p := by exact (blk_below (g := gb340) (o := .cells #[.slice none 0 0, .slice none 0 0, .int .i64 0, .int .i64 0] 56 (0, 0)) Z11_144 hb)) : p := h
theorem Z11_68 {p : Prop} (h : p := by first | exact hk_.1.1.1.2.1 | exact hk_.2 | exact hk_.1.2 | exact hk_.1.1.2 | exact hk_.1.1.1.2 | exact hk_.1.1.1.1.2 | exact hk_.1.1.1.1.1.2 | exact hk_.1 | exact hk_.1.1 | exact hk_.1.1.1 | exact hk_.1.1.1.1 | exact hk_.1.1.1.1.1) : p := h
theorem Z11_69 {p : Prop} (h : p := by first | exact hk_.1.1.1.2.2 | exact hk_.2 | exact hk_.1.2 | exact hk_.1.1.2 | exact hk_.1.1.1.2 | exact hk_.1.1.1.1.2 | exact hk_.1.1.1.1.1.2 | exact hk_.1 | exact hk_.1.1 | exact hk_.1.1.1 | exact hk_.1.1.1.1 | exact hk_.1.1.1.1.1) : p := h
theorem Z11_70 {p : Prop} (h : p := by first | exact hk_.1.1.2.2.1 | exact hk_.2 | exact hk_.1.2 | exact hk_.1.1.2 | exact hk_.1.1.1.2 | exact hk_.1.1.1.1.2 | exact hk_.1.1.1.1.1.2 | exact hk_.1 | exact hk_.1.1 | exact hk_.1.1.1 | exact hk_.1.1.1.1 | exact hk_.1.1.1.1.1) : p := h
theorem Z11_71 {p : Prop} (h : p := by first | exact hk_.1.1.2.2.2 | exact hk_.2 | exact hk_.1.2 | exact hk_.1.1.2 | exact hk_.1.1.1.2 | exact hk_.1.1.1.1.2 | exact hk_.1.1.1.1.1.2 | exact hk_.1 | exact hk_.1.1 | exact hk_.1.1.1 | exact hk_.1.1.1.1 | exact hk_.1.1.1.1.1) : p := h
theorem Z11_145 {p : Prop} (h : p := by (with_reducible repeat (first | refine blk_drewN ?_ _ | refine blk_drew ?_ | refine blk_alloc ?_ _)); exact BK388.out) : p := h
theorem Z11_72 {p : Prop} (h : p := by exact (blk_below (g := gb388) (o := .cells #[.slice none 0 0, .slice none 0 0, .int .i64 0, .int .i64 0] 56 (0, 0)) Z11_145 hb)) : p := h
theorem Z11_73 {p : Prop} (h : p := by first | exact hk_.1.1.2.1 | exact hk_.2 | exact hk_.1.2 | exact hk_.1.1.2 | exact hk_.1.1.1.2 | exact hk_.1.1.1.1.2 | exact hk_.1.1.1.1.1.2 | exact hk_.1 | exact hk_.1.1 | exact hk_.1.1.1 | exact hk_.1.1.1.1 | exact hk_.1.1.1.1.1) : p := h
theorem Z11_75 {p : Prop} (h : p := by exact ((by rw [hg]; exact (below_size (by repeat (first | (with_reducible first | exact HB.out | apply below_alloc | apply pw_below_drewN | apply below_drew1 | refine below_set ?_ GE277.out) | exact HB.out))) : w.heap.size ≤ gb278))) : p := h
theorem Z11_76 {p : Prop} (h : p := by exact (below_step Z11_97 hb)) : p := h
theorem Z11_77 {p : Prop} (h : p := by first | exact hk_.1.1.1.1 | exact hk_.2 | exact hk_.1.2 | exact hk_.1.1.2 | exact hk_.1.1.1.2 | exact hk_.1.1.1.1.2 | exact hk_.1.1.1.1.1.2 | exact hk_.1 | exact hk_.1.1 | exact hk_.1.1.1 | exact hk_.1.1.1.1.1) : p := h
theorem Z11_78 {p : Prop} (h : p := by first | exact hk_.1.1.2 | exact hk_.2 | exact hk_.1.2 | exact hk_.1.1.1.2 | exact hk_.1.1.1.1.2 | exact hk_.1.1.1.1.1.2 | exact hk_.1 | exact hk_.1.1 | exact hk_.1.1.1 | exact hk_.1.1.1.1 | exact hk_.1.1.1.1.1) : p := h
theorem Z11_79 {p : Prop} (h : p := by first | exact hk_.1.1.1.1.1.2 | exact hk_.2 | exact hk_.1.2 | exact hk_.1.1.2 | exact hk_.1.1.1.2 | exact hk_.1.1.1.1.2 | exact hk_.1 | exact hk_.1.1 | exact hk_.1.1.1 | exact hk_.1.1.1.1 | exact hk_.1.1.1.1.1) : p := h
theorem Z11_80 {p : Prop} (h : p := by first | exact hk_.1.1.1.1.2 | exact hk_.2 | exact hk_.1.2 | exact hk_.1.1.2 | exact hk_.1.1.1.2 | exact hk_.1.1.1.1.1.2 | exact hk_.1 | exact hk_.1.1 | exact hk_.1.1.1 | exact hk_.1.1.1.1 | exact hk_.1.1.1.1.1) : p := h
theorem Z11_81 {p : Prop} (h : p := by first | exact hk_.1.1.1.2 | exact hk_.2 | exact hk_.1.2 | exact hk_.1.1.2 | exact hk_.1.1.1.1.2 | exact hk_.1.1.1.1.1.2 | exact hk_.1 | exact hk_.1.1 | exact hk_.1.1.1 | exact hk_.1.1.1.1 | exact hk_.1.1.1.1.1) : p := h
theorem Z11_82 {p : Prop} (h : p := by first | exact hk_.1.1.1 | exact hk_.2 | exact hk_.1.2 | exact hk_.1.1.2 | exact hk_.1.1.1.2 | exact hk_.1.1.1.1.2 | exact hk_.1.1.1.1.1.2 | exact hk_.1 | exact hk_.1.1 | exact hk_.1.1.1.1 | exact hk_.1.1.1.1.1) : p := h
theorem Z11_83 {p : Prop} (h : p := by (with_reducible repeat (first | apply Kd.R_alloc | apply Kd.R_drewN | apply Kd.R_drew)); exact Kd.R_mono HO361.out (fun _ hk => ⟨hk.1.1.1.1.1.2, ⟨hk.1.1.1.1.2, ⟨hk.1.1.1.2, ⟨hk.1.1.2, ⟨hk.1.2, hk.2⟩⟩⟩⟩⟩)) : p := h
theorem Z11_84 {p : Prop} (h : p := by (with_reducible repeat (first | apply Kd.R_alloc | apply Kd.R_drewN | apply Kd.R_drew)); exact Kd.R_mono HO364.out (fun _ hk => ⟨hk.1.1.1.1.1.2, ⟨hk.1.1.1.1.2, ⟨hk.1.1.1.2, ⟨hk.1.1.2, ⟨hk.1.2, hk.2⟩⟩⟩⟩⟩)) : p := h
theorem Z11_85 {p : Prop} (h : p := by (with_reducible repeat (first | apply Kd.R_alloc | apply Kd.R_drewN | apply Kd.R_drew)); exact Kd.R_mono HO382.out (fun _ hk => ⟨hk.1.1.1.1.1.2, ⟨hk.1.1.1.1.2, ⟨hk.1.1.1.2, ⟨hk.1.1.2, ⟨hk.1.2, hk.2⟩⟩⟩⟩⟩)) : p := h
theorem Z11_86 {p : Prop} (h : p := by (with_reducible repeat (first | apply Kd.R_alloc | apply Kd.R_drewN | apply Kd.R_drew)); exact Kd.R_mono HO385.out (fun _ hk => ⟨hk.1.1.1.1.1.2, ⟨hk.1.1.1.1.2, ⟨hk.1.1.1.2, ⟨hk.1.1.2, ⟨hk.1.2, hk.2⟩⟩⟩⟩⟩)) : p := h
theorem Z11_87 {p : Prop} (h : p := by (with_reducible repeat (first | apply Kd.R_alloc | apply Kd.R_drewN | apply Kd.R_drew)); exact Kd.R_mono HO282.out (fun _ hk => ⟨hk.1.1.1, ⟨hk.1.1.2.1, ⟨hk.1.1.2.2.1, ⟨hk.1.1.2.2.2, ⟨hk.1.2, hk.2⟩⟩⟩⟩⟩)) : p := h
theorem Z11_88 {p : Prop} (h : p := by (with_reducible repeat (first | apply Kd.R_alloc | apply Kd.R_drewN | apply Kd.R_drew)); exact Kd.R_mono HO285.out (fun _ hk => ⟨hk.1.1.1, ⟨hk.1.1.2.1, ⟨hk.1.1.2.2.1, ⟨hk.1.1.2.2.2, ⟨hk.1.2, hk.2⟩⟩⟩⟩⟩)) : p := h
theorem Z11_89 {p : Prop} (h : p := by (with_reducible repeat (first | apply Kd.R_alloc | apply Kd.R_drewN | apply Kd.R_drew)); exact Kd.R_mono HO303.out (fun _ hk => ⟨hk.1.1.1, ⟨hk.1.1.2.1, ⟨hk.1.1.2.2.1, ⟨hk.1.1.2.2.2, ⟨hk.1.2, hk.2⟩⟩⟩⟩⟩)) : p := h
theorem Z11_90 {p : Prop} (h : p := by (with_reducible repeat (first | apply Kd.R_alloc | apply Kd.R_drewN | apply Kd.R_drew)); exact Kd.R_mono HO306.out (fun _ hk => ⟨hk.1.1.1, ⟨hk.1.1.2.1, ⟨hk.1.1.2.2.1, ⟨hk.1.1.2.2.2, ⟨hk.1.2, hk.2⟩⟩⟩⟩⟩)) : p := h
theorem Z11_91 {p : Prop} (h : p := by (with_reducible repeat (first | apply Kd.R_alloc | apply Kd.R_drewN | apply Kd.R_drew)); exact Kd.R_mono HO312.out (fun _ hk => ⟨hk.1.1.1, ⟨hk.1.1.2.1, ⟨hk.1.1.2.2.1, ⟨hk.1.1.2.2.2, ⟨hk.1.2, hk.2⟩⟩⟩⟩⟩)) : p := h
theorem Z11_92 {p : Prop} (h : p := by (with_reducible repeat (first | apply Kd.R_alloc | apply Kd.R_drewN | apply Kd.R_drew)); exact Kd.R_mono HO315.out (fun _ hk => ⟨hk.1.1.1, ⟨hk.1.1.2.1, ⟨hk.1.1.2.2.1, ⟨hk.1.1.2.2.2, ⟨hk.1.2, hk.2⟩⟩⟩⟩⟩)) : p := h
theorem Z11_93 {p : Prop} (h : p := by (with_reducible repeat (first | apply Kd.R_alloc | apply Kd.R_drewN | apply Kd.R_drew)); exact Kd.R_mono HO334.out (fun _ hk => ⟨hk.1.1.1, ⟨hk.1.1.2.1, ⟨hk.1.1.2.2.1, ⟨hk.1.1.2.2.2, ⟨hk.1.2, hk.2⟩⟩⟩⟩⟩)) : p := h
theorem Z11_94 {p : Prop} (h : p := by (with_reducible repeat (first | apply Kd.R_alloc | apply Kd.R_drewN | apply Kd.R_drew)); exact Kd.R_mono HO337.out (fun _ hk => ⟨hk.1.1.1, ⟨hk.1.1.2.1, ⟨hk.1.1.2.2.1, ⟨hk.1.1.2.2.2, ⟨hk.1.2, hk.2⟩⟩⟩⟩⟩)) : p := h
theorem Z11_95 {p : Prop} (h : p := by (with_reducible repeat (first | apply Kd.R_alloc | apply Kd.R_drewN | apply Kd.R_drew)); exact Kd.R_mono HO344.out (fun _ hk => ⟨hk.1.1.1, ⟨hk.1.1.2.1, ⟨hk.1.1.2.2.1, ⟨hk.1.1.2.2.2, ⟨hk.1.2, hk.2⟩⟩⟩⟩⟩)) : p := h
theorem Z11_96 {p : Prop} (h : p := by (with_reducible repeat (first | apply Kd.R_alloc | apply Kd.R_drewN | apply Kd.R_drew)); exact Kd.R_mono HO347.out (fun _ hk => ⟨hk.1.1.1, ⟨hk.1.1.2.1, ⟨hk.1.1.2.2.1, ⟨hk.1.1.2.2.2, ⟨hk.1.2, hk.2⟩⟩⟩⟩⟩)) : p := h
theorem Z11_98 {p : Prop} (h : p := by exact ((by rw [hg]; exact (below_size (by repeat (first | (with_reducible first | exact HB.out | apply below_alloc | apply pw_below_drewN | apply below_drew1) | exact HB.out))) : w.heap.size ≤ gb277))) : p := h
theorem Z11_99 {p : Prop} (h : p := by exact (below_step (by repeat (first | (with_reducible first | exact HB.out | apply below_alloc | apply pw_below_drewN | apply below_drew1 | refine below_set ?_ GE277.out) | exact HB.out)) hb)) : p := h
theorem Z11_100 {p : Prop} (h : p := by (with_reducible repeat (first | apply Kd.R_alloc | apply Kd.R_drewN | apply Kd.R_drew)); exact Kd.R_mono HO334.out (fun _ hk => ⟨hk.1.1.2, ⟨hk.1.2, hk.2⟩⟩)) : p := h
theorem Z11_101 {p : Prop} (h : p := by (with_reducible repeat (first | apply Kd.R_alloc | apply Kd.R_drewN | apply Kd.R_drew)); exact Kd.R_mono HO337.out (fun _ hk => ⟨hk.1.1.2, ⟨hk.1.2, hk.2⟩⟩)) : p := h
theorem Z11_102 {p : Prop} (h : p := by (with_reducible repeat (first | apply Kd.R_alloc | apply Kd.R_drewN | apply Kd.R_drew)); exact Kd.R_mono HO282.out (fun _ hk => ⟨hk.1.1, ⟨hk.1.2, hk.2⟩⟩)) : p := h
theorem Z11_103 {p : Prop} (h : p := by (with_reducible repeat (first | apply Kd.R_alloc | apply Kd.R_drewN | apply Kd.R_drew)); exact Kd.R_mono HO285.out (fun _ hk => ⟨hk.1.1, ⟨hk.1.2, hk.2⟩⟩)) : p := h
theorem Z11_104 {p : Prop} (h : p := by (with_reducible repeat (first | apply Kd.R_alloc | apply Kd.R_drewN | apply Kd.R_drew)); exact Kd.R_mono HO303.out (fun _ hk => ⟨hk.1.1, ⟨hk.1.2, hk.2⟩⟩)) : p := h
theorem Z11_105 {p : Prop} (h : p := by (with_reducible repeat (first | apply Kd.R_alloc | apply Kd.R_drewN | apply Kd.R_drew)); exact Kd.R_mono HO306.out (fun _ hk => ⟨hk.1.1, ⟨hk.1.2, hk.2⟩⟩)) : p := h
theorem Z11_106 {p : Prop} (h : p := by (with_reducible repeat (first | apply Kd.R_alloc | apply Kd.R_drewN | apply Kd.R_drew)); exact Kd.R_mono HO312.out (fun _ hk => ⟨hk.1.1, ⟨hk.1.2, hk.2⟩⟩)) : p := h
theorem Z11_107 {p : Prop} (h : p := by (with_reducible repeat (first | apply Kd.R_alloc | apply Kd.R_drewN | apply Kd.R_drew)); exact Kd.R_mono HO315.out (fun _ hk => ⟨hk.1.1, ⟨hk.1.2, hk.2⟩⟩)) : p := h
theorem Z11_108 {p : Prop} (h : p := by exact (below_step (by repeat (first | (with_reducible first | exact HB.out | apply below_alloc | apply pw_below_drewN | apply below_drew1) | exact HB.out)) hb)) : p := h
theorem Z11_109 {p : Prop} (h : p := by (try simp only [List.map_toArray, List.map_cons, List.map_nil]); first | done | rfl | (simp only [List.length_drop, List.length_take]; rfl)) : p := h
theorem Z11_110 {p : Prop} (h : p := by exact (Kd.R_elder' Z11_148 (Kd.R_base ho0) hb)) : p := h
theorem Z11_111 {p : Prop} (h : p := by exact (Kd.R_elder' Z11_149 (Kd.R_base ho1) hb)) : p := h
theorem Z11_112 {p : Prop} (h : p := by exact (Kd.R_elder' Z11_150 (Kd.R_base ho0) hb)) : p := h
theorem Z11_113 {p : Prop} (h : p := by exact (Kd.R_elder' Z11_151 (Kd.R_base ho1) hb)) : p := h
theorem Z11_114 {p : Prop} (h : p := by exact (Kd.R_elder' Z11_152 (Kd.R_base ho0) hb)) : p := h
theorem Z11_115 {p : Prop} (h : p := by exact (Kd.R_elder' Z11_153 (Kd.R_base ho1) hb)) : p := h
theorem Z11_116 {p : Prop} (h : p := by exact (Kd.R_elder' Z11_154 (Kd.R_base ho0) hb)) : p := h
theorem Z11_117 {p : Prop} (h : p := by exact (Kd.R_elder' Z11_155 (Kd.R_base ho1) hb)) : p := h
theorem Z11_118 {p : Prop} (h : p := by exact (Kd.R_elder' Z11_156 (Kd.R_base ho0) hb)) : p := h
theorem Z11_119 {p : Prop} (h : p := by exact (Kd.R_elder' Z11_157 (Kd.R_base ho1) hb)) : p := h
theorem Z11_120 {p : Prop} (h : p := by exact (Kd.R_elder' (by (with_reducible repeat (first | apply Kd.R_alloc | apply Kd.R_drewN | apply Kd.R_drew)); exact HO361.out) (Kd.R_base ho0) hb)) : p := h
theorem Z11_121 {p : Prop} (h : p := by exact (Kd.R_elder' (by (with_reducible repeat (first | apply Kd.R_alloc | apply Kd.R_drewN | apply Kd.R_drew)); exact HO364.out) (Kd.R_base ho1) hb)) : p := h
theorem Z11_122 {p : Prop} (h : p := by (with_reducible repeat (first | apply Kd.R_alloc | apply Kd.R_drewN | apply Kd.R_drew)); exact Kd.R_mono HO282.out (fun _ hk => hk.2)) : p := h
theorem Z11_123 {p : Prop} (h : p := by (with_reducible repeat (first | apply Kd.R_alloc | apply Kd.R_drewN | apply Kd.R_drew)); exact Kd.R_mono HO285.out (fun _ hk => hk.2)) : p := h
theorem Z11_124 {p : Prop} (h : p := by (with_reducible repeat (first | apply Kd.R_alloc | apply Kd.R_drewN | apply Kd.R_drew)); exact Kd.R_mono HO303.out (fun _ hk => hk.2)) : p := h
theorem Z11_125 {p : Prop} (h : p := by (with_reducible repeat (first | apply Kd.R_alloc | apply Kd.R_drewN | apply Kd.R_drew)); exact Kd.R_mono HO306.out (fun _ hk => hk.2)) : p := h
theorem Z11_126 {p : Prop} (h : p := by exact (Kd.R_below Z11_148 hb)) : p := h
theorem Z11_127 {p : Prop} (h : p := by exact (Kd.R_below Z11_149 hb)) : p := h
theorem Z11_128 {p : Prop} (h : p := by exact (Kd.R_below Z11_150 hb)) : p := h
theorem Z11_129 {p : Prop} (h : p := by exact (Kd.R_below Z11_151 hb)) : p := h
theorem Z11_130 {p : Prop} (h : p := by exact (Kd.R_below Z11_152 hb)) : p := h
theorem Z11_131 {p : Prop} (h : p := by exact (Kd.R_below Z11_153 hb)) : p := h
theorem Z11_132 {p : Prop} (h : p := by exact (Kd.R_below Z11_154 hb)) : p := h
theorem Z11_133 {p : Prop} (h : p := by exact (Kd.R_below Z11_155 hb)) : p := h
theorem Z11_134 {p : Prop} (h : p := by exact (Kd.R_below Z11_156 hb)) : p := h
theorem Z11_135 {p : Prop} (h : p := by exact (Kd.R_below Z11_157 hb)) : p := h
theorem Z11_136 {p : Prop} (h : p := by exact (Kd.R_below (by (with_reducible repeat (first | apply Kd.R_alloc | apply Kd.R_drewN | apply Kd.R_drew)); exact HO361.out) hb)) : p := h
theorem Z11_137 {p : Prop} (h : p := by exact (Kd.R_below (by (with_reducible repeat (first | apply Kd.R_alloc | apply Kd.R_drewN | apply Kd.R_drew)); exact HO364.out) hb)) : p := h
theorem Z11_138 {p : Prop} (h : p := by exact (Kd.R_below (by (with_reducible repeat (first | apply Kd.R_alloc | apply Kd.R_drewN | apply Kd.R_drew)); exact HO382.out) hb)) : p := h
theorem Z11_139 {p : Prop} (h : p := by exact (Kd.R_below (by (with_reducible repeat (first | apply Kd.R_alloc | apply Kd.R_drewN | apply Kd.R_drew)); exact HO385.out) hb)) : p := h
theorem Z11_146 {p : Prop} (h : p := by rintro w' ⟨s0, s1, s2, s3, s4, s5, s6, s7, s8, s9, s10, s11, s12, s13, s14, s15, s16⟩; go_simp; with_reducible rfl) : p := h
theorem Z11_147 {p : Prop} (h : p := by simp only [Act.put, List.setIfInBounds_toArray, List.set_cons_zero, List.set_cons_succ, i64_w, i32_w]; rfl) : p := h
theorem Z11_158 {p : Prop} (h : p := by simp only [putAll, Act.put, List.setIfInBounds_toArray, List.set_cons_zero, List.set_cons_succ]) : p := h
/-! ### laws_FnExactSetPiece: function 8 -/
def laws_FnExactSetPiece.f (k : Nat) (l0_0 : List (S75)) (l0_1 : List (S124)) (a0_2 : Int) (a0_3 : Int) (a1_0 : Int) (a1_1 : Int) (a1_2 : Int) (a1_3 : Int) (a1_4 : Int) (a1_5 : Int) (a1_6 : Int) (a1_7 : Int) (a1_8 : Int) (a1_9 : Int) (a1_10 : Int) (a1_11 : Bool) (a1_12 : Bool) : Option (Bool) := (laws_szState.f l0_0 l0_1 a0_2 a0_3 1048576).bind fun t279 => (if t279 < 0 then (some true) else ((laws_toState.f k l0_0 l0_1 a0_2 a0_3).bind fun bt280 => ((laws_toPiece.f a1_0 a1_1 a1_2 a1_3 a1_4 a1_5 a1_6 a1_7 a1_8 a1_9 a1_10 a1_11 a1_12).bind fun bt288 => ((spec_SetPiece.f k bt280.1 bt280.2.1 bt280.2.2.1 bt280.2.2.2 bt288.1 bt288.2.1 bt288.2.2.1 bt288.2.2.2.1 bt288.2.2.2.2.1 bt288.2.2.2.2.2.1 bt288.2.2.2.2.2.2.1 bt288.2.2.2.2.2.2.2.1 bt288.2.2.2.2.2.2.2.2.1 bt288.2.2.2.2.2.2.2.2.2.1 bt288.2.2.2.2.2.2.2.2.2.2.1 bt288.2.2.2.2.2.2.2.2.2.2.2.1 bt288.2.2.2.2.2.2.2.2.2.2.2.2).bind fun bt301 => ((laws_toState.f k l0_0 l0_1 a0_2 a0_3).bind fun bt310 => ((laws_toPiece.f a1_0 a1_1 a1_2 a1_3 a1_4 a1_5 a1_6 a1_7 a1_8 a1_9 a1_10 a1_11 a1_12).bind fun bt319 => ((impl_SetPiece.f bt310.1 bt310.2.1 bt310.2.2.1 bt310.2.2.2 bt319.1 bt319.2.1 bt319.2.2.1 bt319.2.2.2.1 bt319.2.2.2.2.1 bt319.2.2.2.2.2.1 bt319.2.2.2.2.2.2.1 bt319.2.2.2.2.2.2.2.1 bt319.2.2.2.2.2.2.2.2.1 bt319.2.2.2.2.2.2.2.2.2.1 bt319.2.2.2.2.2.2.2.2.2.2.1 bt319.2.2.2.2.2.2.2.2.2.2.2.1 bt319.2.2.2.2.2.2.2.2.2.2.2.2).bind fun bt332 => ((laws_eqState.f k bt332.1 bt332.2.1 bt332.2.2.1 bt332.2.2.2 bt301.1 bt301.2.1 bt301.2.2.1 bt301.2.2.2).bind fun t341 => (if t341 = true then ((laws_toState.f k l0_0 l0_1 a0_2 a0_3).bind fun bt342 => ((laws_eqState.f k bt310.1 bt310.2.1 bt310.2.2.1 bt310.2.2.2 bt342.1 bt342.2.1 bt342.2.2.1 bt342.2.2.2).bind fun t350 => (if t350 = true then ((laws_markState.f k bt310.1 bt310.2.1 bt310.2.2.1 bt310.2.2.2 1).bind fun bt351 => (if bt351.1 < 0 then (some false) else ((laws_eqState.f k bt332.1 bt332.2.1 bt332.2.2.1 bt332.2.2.2 bt301.1 bt301.2.1 bt301.2.2.1 bt301.2.2.2).bind fun t354 => (if t354 = true then ((laws_markState.f k bt332.1 bt332.2.1 bt332.2.2.1 bt332.2.2.2 1).bind fun bt355 => ((laws_heldState.f k bt355.2.1 bt355.2.2 bt332.2.2.1 bt332.2.2.2 1).bind fun t358 => (if t358 < 0 then (some false) else (if t358 = bt355.1 then ((laws_toState.f k l0_0 l0_1 a0_2 a0_3).bind fun bt359 => ((laws_toPiece.f a1_0 a1_1 a1_2 a1_3 a1_4 a1_5 a1_6 a1_7 a1_8 a1_9 a1_10 a1_11 a1_12).bind fun bt367 => ((impl_SetPiece.f bt359.1 bt359.2.1 bt359.2.2.1 bt359.2.2.2 bt367.1 bt367.2.1 bt367.2.2.1 bt367.2.2.2.1 bt367.2.2.2.2.1 bt367.2.2.2.2.2.1 bt367.2.2.2.2.2.2.1 bt367.2.2.2.2.2.2.2.1 bt367.2.2.2.2.2.2.2.2.1 bt367.2.2.2.2.2.2.2.2.2.1 bt367.2.2.2.2.2.2.2.2.2.2.1 bt367.2.2.2.2.2.2.2.2.2.2.2.1 bt367.2.2.2.2.2.2.2.2.2.2.2.2).bind fun bt380 => ((laws_eqState.f k bt380.1 bt380.2.1 bt380.2.2.1 bt380.2.2.2 bt301.1 bt301.2.1 bt301.2.2.1 bt301.2.2.2).bind fun t389 => (if t389 = true then ((laws_heldState.f k bt355.2.1 bt355.2.2 bt332.2.2.1 bt332.2.2.2 1).bind fun t390 => (if t390 < 0 then (some false) else (if t390 = bt355.1 then (some true) else (some false)))) else (some false)))))) else (some false))))) else (some false))))) else (some false)))) else (some false))))))))))
theorem laws_FnExactSetPiece.mono : ∀ a0 a1 a2 a3 a4 a5 a6 a7 a8 a9 a10 a11 a12 a13 a14 a15 a16 k, LeO (laws_FnExactSetPiece.f k a0 a1 a2 a3 a4 a5 a6 a7 a8 a9 a10 a11 a12 a13 a14 a15 a16) (laws_FnExactSetPiece.f (k + 1) a0 a1 a2 a3 a4 a5 a6 a7 a8 a9 a10 a11 a12 a13 a14 a15 a16) := by
  intro a0 a1 a2 a3 a4 a5 a6 a7 a8 a9 a10 a11 a12 a13 a14 a15 a16 k
  unfold laws_FnExactSetPiece.f
  repeat' first
      | (with_reducible exact laws_eqState.mono _ _ _ _ _ _ _ _ _)
      | (with_reducible exact laws_heldState.mono _ _ _ _ _ _)
      | (with_reducible exact laws_markState.mono _ _ _ _ _ _)
      | (with_reducible exact laws_toState.mono _ _ _ _ _)
      | (with_reducible exact spec_SetPiece.mono _ _ _ _ _ _ _ _ _ _ _ _ _ _ _ _ _ _)
      | (with_reducible exact LeO.refl _)
      | (with_reducible exact LeO.none _)
      | (with_reducible refine LeO.ite ?_ ?_)
      | (with_reducible refine LeO.bind ?_ (fun _ => ?_))
      | exact laws_eqState.mono _ _ _ _ _ _ _ _ _
      | exact laws_heldState.mono _ _ _ _ _ _
      | exact laws_markState.mono _ _ _ _ _ _
      | exact laws_toState.mono _ _ _ _ _
      | exact spec_SetPiece.mono _ _ _ _ _ _ _ _ _ _ _ _ _ _ _ _ _ _
      | exact LeO.none _
      | refine LeO.ite ?_ ?_
      | refine LeO.bind ?_ (fun _ => ?_)
set_option maxHeartbeats 8000000 in
set_option maxRecDepth 100000 in
theorem laws_FnExactSetPiece.calls (k : Nat) (A0_0 : Option Addr) (c0_0 : Nat) (l0_0 : List (S75)) (A0_1 : Option Addr) (c0_1 : Nat) (l0_1 : List (S124)) (a0_2 : Int) (a0_3 : Int) (a1_0 : Int) (a1_1 : Int) (a1_2 : Int) (a1_3 : Int) (a1_4 : Int) (a1_5 : Int) (a1_6 : Int) (a1_7 : Int) (a1_8 : Int) (a1_9 : Int) (a1_10 : Int) (a1_11 : Bool) (a1_12 : Bool) (r : Bool) (w : World) (hr0_0 : Kd.C k75 w A0_0 l0_0.length l0_0) (hc0_0 : l0_0.length ≤ c0_0) (hr0_1 : Kd.C k124 w A0_1 l0_1.length l0_1) (hc0_1 : l0_1.length ≤ c0_1) (hrt : r = true) (h : laws_FnExactSetPiece.f k l0_0 l0_1 a0_2 a0_3 a1_0 a1_1 a1_2 a1_3 a1_4 a1_5 a1_6 a1_7 a1_8 a1_9 a1_10 a1_11 a1_12 = some r) :
    Calls Try.prog 8 #[.agg #[.slice A0_0 l0_0.length c0_0, .slice A0_1 l0_1.length c0_1, .int .i64 a0_2, .int .i64 a0_3], .agg #[.int .i64 a1_0, .int .i64 a1_1, .int .i64 a1_2, .int .i64 a1_3, .int .i64 a1_4, .int .i64 a1_5, .int .i64 a1_6, .int .i64 a1_7, .int .i64 a1_8, .int .i64 a1_9, .int .i64 a1_10, .bool a1_11, .bool a1_12]] w fun e w' => e = .returned (.bool r) ∧ Below w.heap.size w w' := by
  have hu50 := Try.underlying50
  have hu75 := Try.underlying75
  have hu56 := Try.underlying56
  have HRT := Aside0.mk hrt
  clear hrt
  have HR0_0 := Aside0.mk hr0_0
  have HC0_0 := Aside0.mk hc0_0
  clear hr0_0 hc0_0
  have HR0_1 := Aside0.mk hr0_1
  have HC0_1 := Aside0.mk hc0_1
  clear hr0_1 hc0_1
  have HB := Aside0.mk (Below.refl w.heap.size w)
  have H : ((laws_szState.f l0_0 l0_1 a0_2 a0_3 1048576).bind fun t279 => (if t279 < 0 then (some true) else ((laws_toState.f k l0_0 l0_1 a0_2 a0_3).bind fun bt280 => ((laws_toPiece.f a1_0 a1_1 a1_2 a1_3 a1_4 a1_5 a1_6 a1_7 a1_8 a1_9 a1_10 a1_11 a1_12).bind fun bt288 => ((spec_SetPiece.f k bt280.1 bt280.2.1 bt280.2.2.1 bt280.2.2.2 bt288.1 bt288.2.1 bt288.2.2.1 bt288.2.2.2.1 bt288.2.2.2.2.1 bt288.2.2.2.2.2.1 bt288.2.2.2.2.2.2.1 bt288.2.2.2.2.2.2.2.1 bt288.2.2.2.2.2.2.2.2.1 bt288.2.2.2.2.2.2.2.2.2.1 bt288.2.2.2.2.2.2.2.2.2.2.1 bt288.2.2.2.2.2.2.2.2.2.2.2.1 bt288.2.2.2.2.2.2.2.2.2.2.2.2).bind fun bt301 => ((laws_toState.f k l0_0 l0_1 a0_2 a0_3).bind fun bt310 => ((laws_toPiece.f a1_0 a1_1 a1_2 a1_3 a1_4 a1_5 a1_6 a1_7 a1_8 a1_9 a1_10 a1_11 a1_12).bind fun bt319 => ((impl_SetPiece.f bt310.1 bt310.2.1 bt310.2.2.1 bt310.2.2.2 bt319.1 bt319.2.1 bt319.2.2.1 bt319.2.2.2.1 bt319.2.2.2.2.1 bt319.2.2.2.2.2.1 bt319.2.2.2.2.2.2.1 bt319.2.2.2.2.2.2.2.1 bt319.2.2.2.2.2.2.2.2.1 bt319.2.2.2.2.2.2.2.2.2.1 bt319.2.2.2.2.2.2.2.2.2.2.1 bt319.2.2.2.2.2.2.2.2.2.2.2.1 bt319.2.2.2.2.2.2.2.2.2.2.2.2).bind fun bt332 => ((laws_eqState.f k bt332.1 bt332.2.1 bt332.2.2.1 bt332.2.2.2 bt301.1 bt301.2.1 bt301.2.2.1 bt301.2.2.2).bind fun t341 => (if t341 = true then ((laws_toState.f k l0_0 l0_1 a0_2 a0_3).bind fun bt342 => ((laws_eqState.f k bt310.1 bt310.2.1 bt310.2.2.1 bt310.2.2.2 bt342.1 bt342.2.1 bt342.2.2.1 bt342.2.2.2).bind fun t350 => (if t350 = true then ((laws_markState.f k bt310.1 bt310.2.1 bt310.2.2.1 bt310.2.2.2 1).bind fun bt351 => (if bt351.1 < 0 then (some false) else ((laws_eqState.f k bt332.1 bt332.2.1 bt332.2.2.1 bt332.2.2.2 bt301.1 bt301.2.1 bt301.2.2.1 bt301.2.2.2).bind fun t354 => (if t354 = true then ((laws_markState.f k bt332.1 bt332.2.1 bt332.2.2.1 bt332.2.2.2 1).bind fun bt355 => ((laws_heldState.f k bt355.2.1 bt355.2.2 bt332.2.2.1 bt332.2.2.2 1).bind fun t358 => (if t358 < 0 then (some false) else (if t358 = bt355.1 then ((laws_toState.f k l0_0 l0_1 a0_2 a0_3).bind fun bt359 => ((laws_toPiece.f a1_0 a1_1 a1_2 a1_3 a1_4 a1_5 a1_6 a1_7 a1_8 a1_9 a1_10 a1_11 a1_12).bind fun bt367 => ((impl_SetPiece.f bt359.1 bt359.2.1 bt359.2.2.1 bt359.2.2.2 bt367.1 bt367.2.1 bt367.2.2.1 bt367.2.2.2.1 bt367.2.2.2.2.1 bt367.2.2.2.2.2.1 bt367.2.2.2.2.2.2.1 bt367.2.2.2.2.2.2.2.1 bt367.2.2.2.2.2.2.2.2.1 bt367.2.2.2.2.2.2.2.2.2.1 bt367.2.2.2.2.2.2.2.2.2.2.1 bt367.2.2.2.2.2.2.2.2.2.2.2.1 bt367.2.2.2.2.2.2.2.2.2.2.2.2).bind fun bt380 => ((laws_eqState.f k bt380.1 bt380.2.1 bt380.2.2.1 bt380.2.2.2 bt301.1 bt301.2.1 bt301.2.2.1 bt301.2.2.2).bind fun t389 => (if t389 = true then ((laws_heldState.f k bt355.2.1 bt355.2.2 bt332.2.2.1 bt332.2.2.2 1).bind fun t390 => (if t390 < 0 then (some false) else (if t390 = bt355.1 then (some true) else (some false)))) else (some false)))))) else (some false))))) else (some false))))) else (some false)))) else (some false))))))))))) = some r := h
  clear h
  replace H := Option.bind_eq_some_iff.mp H
  obtain ⟨t279, A30, H⟩ := H
  (try dsimp only at H)
  have A3 := Aside0.mk A30
  clear A30
  by_cases c4 : t279 < 0
  · rw [if_pos c4] at H
    have c4b0 : decide (t279 < 0) = true := decide_eq_true c4
    clear c4
    obtain rfl := Option.some.inj H
    go_enter Try.func8, Try.ntmps8
    go_wp2_with (first | ((with_reducible refine gate_dst (N := 2) rfl ?_); refine box_event ?hg (N := 2) ?hd (cs := #[.slice A0_0 l0_0.length c0_0, .slice A0_1 l0_1.length c0_1, .int .i64 a0_2, .int .i64 a0_3]) (t := 50) ?hr ?_; (case hd => rfl); (case hg => rfl); (case hr => first | (go_simp; done) | (go_simp; rfl)); intro gb277 hg w5 hbox hb; have n0_ := Aside0.mk Z11_108; have n1_ := Aside0.mk (hbox); have n2_ := Aside0.mk Z11_98; have n3_ := Aside0.mk Z11_98; clear HB; have HB := n0_; have BK277 := n1_; have GW277 := n2_; have GE277 := n3_; clear n0_ n1_ n2_ n3_; clear hb hbox hg) | ((with_reducible refine gate_dst (N := 3) rfl ?_); refine box_event ?hg (N := 3) ?hd (cs := #[.int .i64 a1_0, .int .i64 a1_1, .int .i64 a1_2, .int .i64 a1_3, .int .i64 a1_4, .int .i64 a1_5, .int .i64 a1_6, .int .i64 a1_7, .int .i64 a1_8, .int .i64 a1_9, .int .i64 a1_10, .bool a1_11, .bool a1_12]) (t := 75) ?hr ?_; (case hd => rfl); (case hg => rfl); (case hr => first | (go_simp; done) | (go_simp; rfl)); intro gb278 hg w6 hbox hb; have n0_ := Aside0.mk Z11_57; have n1_ := Aside0.mk Z11_99; have n2_ := Aside0.mk (hbox); have n3_ := Aside0.mk Z11_75; have n4_ := Aside0.mk Z11_75; have n5_ := Aside0.mk Z11_30; have n6_ := Aside0.mk Z11_31; clear BK277; clear HB; have BK277 := n0_; have HB := n1_; have BK278 := n2_; have GW278 := n3_; have GE278 := n4_; have NB277_278 := n5_; have NB278_277 := n6_; clear n0_ n1_ n2_ n3_ n4_ n5_ n6_; clear hb hbox hg; have hnb7 := NB277_278.out; have hnc7 := NB278_277.out; obtain ⟨⟨hcz8_0, hcz8_1, hcz8_2, hcz8_3⟩, hfz8_0, hfz8_1, hfz8_2, hfz8_3⟩ := C11_4 BK277.out) | ((with_reducible refine gate_callee (f := 35) rfl ?_); refine goesL_ (some 15) rfl rfl Try.func35 (by kernel_rfl) rfl #[.agg #[.slice A0_0 l0_0.length c0_0, .slice A0_1 l0_1.length c0_1, .int .i64 a0_2, .int .i64 a0_3], .int .i64 1048576] rfl Z11_109 ?_; (with_reducible refine (laws_szState.calls _ _ l0_0 _ _ l0_1 a0_2 a0_3 1048576 t279 _ ?side1 ?side2 ?side3 ?side4 A3.out).mono ?_); (case side1 => repeat (first | exact (Kd.C_below HR0_0.out HB.out) | (with_reducible refine Kd.C_alloc ?_ _) | (with_reducible refine Kd.C_drewN ?_ _) | (with_reducible refine Kd.C_drew ?_))); (case side2 => exact HC0_0.out); (case side3 => repeat (first | exact (Kd.C_below HR0_1.out HB.out) | (with_reducible refine Kd.C_alloc ?_ _) | (with_reducible refine Kd.C_drewN ?_ _) | (with_reducible refine Kd.C_drew ?_))); (case side4 => exact HC0_1.out); rintro e w9 ⟨rfl, hb⟩; refine ⟨_, rfl, ?_⟩; have n0_ := Aside0.mk Z11_57; have n1_ := Aside0.mk Z11_25; have n2_ := Aside0.mk Z11_76; clear BK277; clear BK278; clear HB; have BK277 := n0_; have BK278 := n1_; have HB := n2_; clear n0_ n1_ n2_; (try clear hb); (try clear hb2); (try clear hk); (try clear hi)))
    go_ret
    exact ⟨(by first | rfl | (simp [errW_none, errW_some] <;> rfl) | (simp [*, errW_none, errW_some] <;> rfl)), Z11_97⟩
  rw [if_neg c4] at H
  have c4b0 : decide (t279 < 0) = false := decide_eq_false c4
  clear c4
  replace H := Option.bind_eq_some_iff.mp H
  obtain ⟨⟨t280, t283, t286, t287⟩, A100, H⟩ := H
  (try dsimp only at H)
  have A10 := Aside0.mk A100
  clear A100
  replace H := Option.bind_eq_some_iff.mp H
  obtain ⟨⟨t288, t289, t290, t291, t292, t293, t294, t295, t296, t297, t298, t299, t300⟩, A110, H⟩ := H
  (try dsimp only at H)
  have A11 := Aside0.mk A110
  clear A110
  replace H := Option.bind_eq_some_iff.mp H
  obtain ⟨⟨t301, t304, t307, t308⟩, A120, H⟩ := H
  (try dsimp only at H)
  have A12 := Aside0.mk A120
  clear A120
  replace H := Option.bind_eq_some_iff.mp H
  obtain ⟨⟨t310, t313, t316, t317⟩, A130, H⟩ := H
  (try dsimp only at H)
  have A13 := Aside0.mk A130
  clear A130
  replace H := Option.bind_eq_some_iff.mp H
  obtain ⟨⟨t319, t320, t321, t322, t323, t324, t325, t326, t327, t328, t329, t330, t331⟩, A140, H⟩ := H
  (try dsimp only at H)
  have A14 := Aside0.mk A140
  clear A140
  replace H := Option.bind_eq_some_iff.mp H
  obtain ⟨⟨t332, t335, t338, t339⟩, A150, H⟩ := H
  (try dsimp only at H)
  have A15 := Aside0.mk A150
  clear A150
  replace H := Option.bind_eq_some_iff.mp H
  obtain ⟨t341, A160, H⟩ := H
  (try dsimp only at H)
  have A16 := Aside0.mk A160
  clear A160
  by_cases c17 : t341 = true
  rotate_left
  · replace c17 := Bool.eq_false_iff.mpr c17
    subst c17
    have H1 : (some false) = some r := by rw [if_neg (show ¬ (false = true) by decide)] at H; exact H
    clear H
    have H := H1
    clear H1
    exact absurd (H.trans (congrArg some HRT.out)) (by simp)
  subst c17
  rw [if_pos rfl] at H
  replace H := Option.bind_eq_some_iff.mp H
  obtain ⟨⟨t342, t345, t348, t349⟩, A180, H⟩ := H
  (try dsimp only at H)
  have A18 := Aside0.mk A180
  clear A180
  replace H := Option.bind_eq_some_iff.mp H
  obtain ⟨t350, A190, H⟩ := H
  (try dsimp only at H)
  have A19 := Aside0.mk A190
  clear A190
  by_cases c20 : t350 = true
  rotate_left
  · replace c20 := Bool.eq_false_iff.mpr c20
    subst c20
    have H1 : (some false) = some r := by rw [if_neg (show ¬ (false = true) by decide)] at H; exact H
    clear H
    have H := H1
    clear H1
    exact absurd (H.trans (congrArg some HRT.out)) (by simp)
  subst c20
  rw [if_pos rfl] at H
  replace H := Option.bind_eq_some_iff.mp H
  obtain ⟨⟨t351, t352, t353⟩, A210, H⟩ := H
  (try dsimp only at H)
  have A21 := Aside0.mk A210
  clear A210
  by_cases c22 : t351 < 0
  · rw [if_pos c22] at H
    exact absurd (H.trans (congrArg some HRT.out)) (by simp)
  rw [if_neg c22] at H
  have c22b0 : decide (t351 < 0) = false := decide_eq_false c22
  clear c22
  replace H := Option.bind_eq_some_iff.mp H
  obtain ⟨t354, A230, H⟩ := H
  (try dsimp only at H)
  have A23 := Aside0.mk A230
  clear A230
  by_cases c24 : t354 = true
  rotate_left
  · replace c24 := Bool.eq_false_iff.mpr c24
    subst c24
    have H1 : (some false) = some r := by rw [if_neg (show ¬ (false = true) by decide)] at H; exact H
    clear H
    have H := H1
    clear H1
    exact absurd (H.trans (congrArg some HRT.out)) (by simp)
  subst c24
  rw [if_pos rfl] at H
  replace H := Option.bind_eq_some_iff.mp H
  obtain ⟨⟨t355, t356, t357⟩, A250, H⟩ := H
  (try dsimp only at H)
  have A25 := Aside0.mk A250
  clear A250
  replace H := Option.bind_eq_some_iff.mp H
  obtain ⟨t358, A260, H⟩ := H
  (try dsimp only at H)
  have A26 := Aside0.mk A260
  clear A260
  by_cases c27 : t358 < 0
  · rw [if_pos c27] at H
    exact absurd (H.trans (congrArg some HRT.out)) (by simp)
  rw [if_neg c27] at H
  have c27b0 : decide (t358 < 0) = false := decide_eq_false c27
  clear c27
  by_cases c28 : t358 = t355
  rotate_left
  · rw [if_neg c28] at H
    exact absurd (H.trans (congrArg some HRT.out)) (by simp)
  rw [if_pos c28] at H
  have c28b0 : (t358 == t355) = true := beq_iff_eq.mpr c28
  have c28b1 : (t358 != t355) = false := bne_eq_false_iff_eq.mpr c28
  clear c28
  replace H := Option.bind_eq_some_iff.mp H
  obtain ⟨⟨t359, t362, t365, t366⟩, A290, H⟩ := H
  (try dsimp only at H)
  have A29 := Aside0.mk A290
  clear A290
  replace H := Option.bind_eq_some_iff.mp H
  obtain ⟨⟨t367, t368, t369, t370, t371, t372, t373, t374, t375, t376, t377, t378, t379⟩, A300, H⟩ := H
  (try dsimp only at H)
  have A30 := Aside0.mk A300
  clear A300
  replace H := Option.bind_eq_some_iff.mp H
  obtain ⟨⟨t380, t383, t386, t387⟩, A310, H⟩ := H
  (try dsimp only at H)
  have A31 := Aside0.mk A310
  clear A310
  replace H := Option.bind_eq_some_iff.mp H
  obtain ⟨t389, A320, H⟩ := H
  (try dsimp only at H)
  have A32 := Aside0.mk A320
  clear A320
  by_cases c33 : t389 = true
  rotate_left
  · replace c33 := Bool.eq_false_iff.mpr c33
    subst c33
    have H1 : (some false) = some r := by rw [if_neg (show ¬ (false = true) by decide)] at H; exact H
    clear H
    have H := H1
    clear H1
    exact absurd (H.trans (congrArg some HRT.out)) (by simp)
  subst c33
  rw [if_pos rfl] at H
  replace H := Option.bind_eq_some_iff.mp H
  obtain ⟨t390, A340, H⟩ := H
  replace H : (if t390 < 0 then (some false) else (if t390 = t355 then (some true) else (some false))) = some r := H
  have A34 := Aside0.mk A340
  clear A340
  by_cases c35 : t390 < 0
  · rw [if_pos c35] at H
    exact absurd (H.trans (congrArg some HRT.out)) (by simp)
  rw [if_neg c35] at H
  have c35b0 : decide (t390 < 0) = false := decide_eq_false c35
  clear c35
  by_cases c36 : t390 = t355
  rotate_left
  · rw [if_neg c36] at H
    exact absurd (H.trans (congrArg some HRT.out)) (by simp)
  rw [if_pos c36] at H
  have c36b0 : (t390 == t355) = true := beq_iff_eq.mpr c36
  have c36b1 : (t390 != t355) = false := bne_eq_false_iff_eq.mpr c36
  clear c36
  obtain rfl := Option.some.inj H
  go_enter Try.func8, Try.ntmps8
  try go_wp2_with (first | ((with_reducible refine gate_dst (N := 2) rfl ?_); refine box_event ?hg (N := 2) ?hd (cs := #[.slice A0_0 l0_0.length c0_0, .slice A0_1 l0_1.length c0_1, .int .i64 a0_2, .int .i64 a0_3]) (t := 50) ?hr ?_; (case hd => rfl); (case hg => rfl); (case hr => first | (go_simp; done) | (go_simp; rfl)); intro gb277 hg w37 hbox hb; have n0_ := Aside0.mk Z11_108; have n1_ := Aside0.mk (hbox); have n2_ := Aside0.mk Z11_98; have n3_ := Aside0.mk Z11_98; clear HB; have HB := n0_; have BK277 := n1_; have GW277 := n2_; have GE277 := n3_; clear n0_ n1_ n2_ n3_; clear hb hbox hg) | ((with_reducible refine gate_dst (N := 3) rfl ?_); refine box_event ?hg (N := 3) ?hd (cs := #[.int .i64 a1_0, .int .i64 a1_1, .int .i64 a1_2, .int .i64 a1_3, .int .i64 a1_4, .int .i64 a1_5, .int .i64 a1_6, .int .i64 a1_7, .int .i64 a1_8, .int .i64 a1_9, .int .i64 a1_10, .bool a1_11, .bool a1_12]) (t := 75) ?hr ?_; (case hd => rfl); (case hg => rfl); (case hr => first | (go_simp; done) | (go_simp; rfl)); intro gb278 hg w38 hbox hb; have n0_ := Aside0.mk Z11_57; have n1_ := Aside0.mk Z11_99; have n2_ := Aside0.mk (hbox); have n3_ := Aside0.mk Z11_75; have n4_ := Aside0.mk Z11_75; have n5_ := Aside0.mk Z11_30; have n6_ := Aside0.mk Z11_31; clear BK277; clear HB; have BK277 := n0_; have HB := n1_; have BK278 := n2_; have GW278 := n3_; have GE278 := n4_; have NB277_278 := n5_; have NB278_277 := n6_; clear n0_ n1_ n2_ n3_ n4_ n5_ n6_; clear hb hbox hg; have hnb39 := NB277_278.out; have hnc39 := NB278_277.out; obtain ⟨⟨hcz40_0, hcz40_1, hcz40_2, hcz40_3⟩, hfz40_0, hfz40_1, hfz40_2, hfz40_3⟩ := C11_4 BK277.out) | ((with_reducible refine gate_callee (f := 35) rfl ?_); refine goesL_ (some 15) rfl rfl Try.func35 (by kernel_rfl) rfl #[.agg #[.slice A0_0 l0_0.length c0_0, .slice A0_1 l0_1.length c0_1, .int .i64 a0_2, .int .i64 a0_3], .int .i64 1048576] rfl Z11_109 ?_; (with_reducible refine (laws_szState.calls _ _ l0_0 _ _ l0_1 a0_2 a0_3 1048576 t279 _ ?side1 ?side2 ?side3 ?side4 A3.out).mono ?_); (case side1 => repeat (first | exact (Kd.C_below HR0_0.out HB.out) | (with_reducible refine Kd.C_alloc ?_ _) | (with_reducible refine Kd.C_drewN ?_ _) | (with_reducible refine Kd.C_drew ?_))); (case side2 => exact HC0_0.out); (case side3 => repeat (first | exact (Kd.C_below HR0_1.out HB.out) | (with_reducible refine Kd.C_alloc ?_ _) | (with_reducible refine Kd.C_drewN ?_ _) | (with_reducible refine Kd.C_drew ?_))); (case side4 => exact HC0_1.out); rintro e w41 ⟨rfl, hb⟩; refine ⟨_, rfl, ?_⟩; have n0_ := Aside0.mk Z11_57; have n1_ := Aside0.mk Z11_25; have n2_ := Aside0.mk Z11_76; clear BK277; clear BK278; clear HB; have BK277 := n0_; have BK278 := n1_; have HB := n2_; clear n0_ n1_ n2_; (try clear hb); (try clear hb2); (try clear hk); (try clear hi)))
  have n0_ := Aside0.mk (blk_drew BK277.out)
  have n1_ := Aside0.mk (blk_drew BK278.out)
  have n2_ := Aside0.mk (below_drew1 HB.out)
  clear BK277
  clear BK278
  clear HB
  have BK277 := n0_
  have BK278 := n1_
  have HB := n2_
  clear n0_ n1_ n2_
  refine start_ (n := 7) (S := fun w' => w'.cell? ⟨gb277, 0, none⟩ = some (.slice A0_0 l0_0.length c0_0) ∧ w'.cell? ⟨gb277, 1, none⟩ = some (.slice A0_1 l0_1.length c0_1) ∧ w'.cell? ⟨gb277, 2, none⟩ = some (.int .i64 a0_2) ∧ w'.cell? ⟨gb277, 3, none⟩ = some (.int .i64 a0_3) ∧ w'.cell? ⟨gb278, 0, none⟩ = some (.int .i64 a1_0) ∧ w'.cell? ⟨gb278, 1, none⟩ = some (.int .i64 a1_1) ∧ w'.cell? ⟨gb278, 2, none⟩ = some (.int .i64 a1_2) ∧ w'.cell? ⟨gb278, 3, none⟩ = some (.int .i64 a1_3) ∧ w'.cell? ⟨gb278, 4, none⟩ = some (.int .i64 a1_4) ∧ w'.cell? ⟨gb278, 5, none⟩ = some (.int .i64 a1_5) ∧ w'.cell? ⟨gb278, 6, none⟩ = some (.int .i64 a1_6) ∧ w'.cell? ⟨gb278, 7, none⟩ = some (.int .i64 a1_7) ∧ w'.cell? ⟨gb278, 8, none⟩ = some (.int .i64 a1_8) ∧ w'.cell? ⟨gb278, 9, none⟩ = some (.int .i64 a1_9) ∧ w'.cell? ⟨gb278, 10, none⟩ = some (.int .i64 a1_10) ∧ w'.cell? ⟨gb278, 11, none⟩ = some (.bool a1_11) ∧ w'.cell? ⟨gb278, 12, none⟩ = some (.bool a1_12)) (ds := []) #[false, false, false, false, false, false, false] (by kernel_rfl) rfl rfl ⟨(blk_cell BK277.out 0).trans rfl, (blk_cell BK277.out 1).trans rfl, (blk_cell BK277.out 2).trans rfl, (blk_cell BK277.out 3).trans rfl, (blk_cell BK278.out 0).trans rfl, (blk_cell BK278.out 1).trans rfl, (blk_cell BK278.out 2).trans rfl, (blk_cell BK278.out 3).trans rfl, (blk_cell BK278.out 4).trans rfl, (blk_cell BK278.out 5).trans rfl, (blk_cell BK278.out 6).trans rfl, (blk_cell BK278.out 7).trans rfl, (blk_cell BK278.out 8).trans rfl, (blk_cell BK278.out 9).trans rfl, (blk_cell BK278.out 10).trans rfl, (blk_cell BK278.out 11).trans rfl, (blk_cell BK278.out 12).trans rfl⟩ (fun hHeld => ?_)
  generalize w41.drew = w42 at BK277 BK278 HB hHeld ⊢
  refine take_ (i := 0) (N := some 18) (v := _) (a' := _) (M11_7 1) rfl rfl (by kernel_rfl) (fun _ _ _ h => h) (Or.inl ⟨(by rfl), Z11_146⟩) hHeld Z11_147 ?_
  refine take_ (i := 2) (N := some 20) (v := _) (a' := _) (M11_7 5) rfl rfl (by kernel_rfl) (fun _ _ _ h => h) (Or.inl ⟨(by rfl), Z11_146⟩) hHeld Z11_147 ?_
  refine join_ (σ := Value × Value × Value × Value × Nat) 1 (M11_7 63) (fun s_ => [(19, .agg #[s_.1, s_.2.1, .int .i64 t286, .int .i64 t287]), (21, .agg #[.int .i64 t288, .int .i64 t289, .int .i64 t290, .int .i64 t291, .int .i64 t292, .int .i64 t293, .int .i64 t294, .int .i64 t295, .int .i64 t296, .int .i64 t297, .int .i64 t298, .bool t299, .bool t300]), (22, .agg #[s_.2.2.1, s_.2.2.2.1, .int .i64 t307, .int .i64 t308]), (6, .pointer (some ⟨s_.2.2.2.2, 0, none⟩))]) (fun s_ w' => (w'.cell? ⟨gb277, 0, none⟩ = some (.slice A0_0 l0_0.length c0_0) ∧ w'.cell? ⟨gb277, 1, none⟩ = some (.slice A0_1 l0_1.length c0_1) ∧ w'.cell? ⟨gb277, 2, none⟩ = some (.int .i64 a0_2) ∧ w'.cell? ⟨gb277, 3, none⟩ = some (.int .i64 a0_3) ∧ w'.cell? ⟨gb278, 0, none⟩ = some (.int .i64 a1_0) ∧ w'.cell? ⟨gb278, 1, none⟩ = some (.int .i64 a1_1) ∧ w'.cell? ⟨gb278, 2, none⟩ = some (.int .i64 a1_2) ∧ w'.cell? ⟨gb278, 3, none⟩ = some (.int .i64 a1_3) ∧ w'.cell? ⟨gb278, 4, none⟩ = some (.int .i64 a1_4) ∧ w'.cell? ⟨gb278, 5, none⟩ = some (.int .i64 a1_5) ∧ w'.cell? ⟨gb278, 6, none⟩ = some (.int .i64 a1_6) ∧ w'.cell? ⟨gb278, 7, none⟩ = some (.int .i64 a1_7) ∧ w'.cell? ⟨gb278, 8, none⟩ = some (.int .i64 a1_8) ∧ w'.cell? ⟨gb278, 9, none⟩ = some (.int .i64 a1_9) ∧ w'.cell? ⟨gb278, 10, none⟩ = some (.int .i64 a1_10) ∧ w'.cell? ⟨gb278, 11, none⟩ = some (.bool a1_11) ∧ w'.cell? ⟨gb278, 12, none⟩ = some (.bool a1_12)) ∧ (Kd.R k25 25 w' w.heap.size (fun k_ => some k_ ≠ (s_.2.2.1 : Value).ownBlock) s_.1 t280) ∧ (Kd.R k71 71 w' w.heap.size (fun k_ => some k_ ≠ (s_.2.2.2.1 : Value).ownBlock) s_.2.1 t283) ∧ (Kd.R k25 25 w' w.heap.size (fun k_ => some k_ ≠ (s_.1 : Value).ownBlock) s_.2.2.1 t301) ∧ (Kd.R k71 71 w' w.heap.size (fun k_ => some k_ ≠ (s_.2.1 : Value).ownBlock) s_.2.2.2.1 t304) ∧ (w'.heap[gb277]? = some (.cells #[.slice A0_0 l0_0.length c0_0, .slice A0_1 l0_1.length c0_1, .int .i64 a0_2, .int .i64 a0_3] 50 (0, 0))) ∧ (w'.heap[gb278]? = some (.cells #[.int .i64 a1_0, .int .i64 a1_1, .int .i64 a1_2, .int .i64 a1_3, .int .i64 a1_4, .int .i64 a1_5, .int .i64 a1_6, .int .i64 a1_7, .int .i64 a1_8, .int .i64 a1_9, .int .i64 a1_10, .bool a1_11, .bool a1_12] 75 (0, 0))) ∧ (w'.heap[s_.2.2.2.2]? = some (.cells #[.slice none 0 0, .slice none 0 0, .int .i64 0, .int .i64 0] 56 (0, 0))) ∧ (w.heap.size ≤ s_.2.2.2.2) ∧ (w.heap.size ≤ s_.2.2.2.2) ∧ (gb277 ≠ s_.2.2.2.2) ∧ (s_.2.2.2.2 ≠ gb277) ∧ (gb278 ≠ s_.2.2.2.2) ∧ (s_.2.2.2.2 ≠ gb278) ∧ (Below w.heap.size w w')) ?_ ?_
  rotate_left
  · intro hCont
    refine two_ (i := 1) (j := 5) (Ni := some 19) (Nj := some 6) (M11_7 7) (M11_7 37) rfl rfl rfl rfl (by kernel_rfl) (by decide) (by decide) (fun K hK => ?_) (fun K hK => ?_)
    · skip
      refine goes_ Try.func37 (by kernel_rfl) rfl #[.agg #[.slice A0_0 l0_0.length c0_0, .slice A0_1 l0_1.length c0_1, .int .i64 a0_2, .int .i64 a0_3]] (by rfl) rfl rfl Z11_109 ?_
      with_reducible refine (laws_toState.calls k _ _ l0_0 _ _ l0_1 a0_2 a0_3 t280 t283 t286 t287 _ ?side1 ?side2 ?side3 ?side4 A10.out).mono ?_
      (case side1 => repeat (first | exact (Kd.C_below HR0_0.out HB.out) | (with_reducible refine Kd.C_alloc ?_ _) | (with_reducible refine Kd.C_drewN ?_ _) | (with_reducible refine Kd.C_drew ?_)))
      (case side2 => exact HC0_0.out)
      (case side3 => repeat (first | exact (Kd.C_below HR0_1.out HB.out) | (with_reducible refine Kd.C_alloc ?_ _) | (with_reducible refine Kd.C_drewN ?_ _) | (with_reducible refine Kd.C_drew ?_)))
      (case side4 => exact HC0_1.out)
      rintro e w43 ⟨v281, v284, rfl, ho0, ho1, hb⟩
      refine ⟨_, rfl, ?_⟩
      have n0_ := Aside0.mk (Kd.R_lower ho0 (below_size Z11_97))
      have n1_ := Aside0.mk (Kd.R_lower ho1 (below_size Z11_97))
      have n2_ := Aside0.mk Z11_57
      have n3_ := Aside0.mk Z11_25
      have n4_ := Aside0.mk Z11_76
      clear BK277
      clear BK278
      clear HB
      have HO282 := n0_
      have HO285 := n1_
      have BK277 := n2_
      have BK278 := n3_
      have HB := n4_
      clear n0_ n1_ n2_ n3_ n4_
      (try clear hb)
      (try clear hb2)
      (try clear hk)
      (try clear hi)
      (try clear ho0)
      (try clear ho1)
      refine hK.out _ _ (D11_4 BK277.out (C11_13 BK278.out).1) (fun hHeld => ?_)
      clear hK K
      refine norm_ (a' := ?_) ?_ ?_
      rotate_left
      · show Act.put _ (some 19) _ = _
        simp only [Act.put, List.setIfInBounds_toArray, List.set_cons_zero, List.set_cons_succ, i64_w, i32_w]
        rfl
      refine two_ (i := 3) (j := 5) (Ni := some 21) (Nj := some 6) (M11_7 15) (M11_7 39) rfl rfl rfl rfl (by kernel_rfl) (by decide) (by decide) (fun K hK => ?_) (fun K hK => ?_)
      · skip
        refine goes_ Try.func59 (by kernel_rfl) rfl #[.agg #[.int .i64 a1_0, .int .i64 a1_1, .int .i64 a1_2, .int .i64 a1_3, .int .i64 a1_4, .int .i64 a1_5, .int .i64 a1_6, .int .i64 a1_7, .int .i64 a1_8, .int .i64 a1_9, .int .i64 a1_10, .bool a1_11, .bool a1_12]] (by rfl) rfl rfl Z11_109 ?_
        with_reducible refine (laws_toPiece.calls a1_0 a1_1 a1_2 a1_3 a1_4 a1_5 a1_6 a1_7 a1_8 a1_9 a1_10 a1_11 a1_12 t288 t289 t290 t291 t292 t293 t294 t295 t296 t297 t298 t299 t300 _ A11.out).mono ?_
        rintro e w44 ⟨rfl, hb⟩
        refine ⟨_, rfl, ?_⟩
        have n0_ := Aside0.mk Z11_126
        have n1_ := Aside0.mk Z11_127
        have n2_ := Aside0.mk Z11_57
        have n3_ := Aside0.mk Z11_25
        have n4_ := Aside0.mk Z11_76
        clear HO282
        clear HO285
        clear BK277
        clear BK278
        clear HB
        have HO282 := n0_
        have HO285 := n1_
        have BK277 := n2_
        have BK278 := n3_
        have HB := n4_
        clear n0_ n1_ n2_ n3_ n4_
        (try clear hb)
        (try clear hb2)
        (try clear hk)
        (try clear hi)
        obtain ⟨Ao45, co45, eo45⟩ := Kd.R_slice HO282.out
        (first | subst eo45 | (injection eo45 with f1_ f2_ f3_; have f4_ := f1_.symm; have f5_ := f3_.symm; clear f1_ f2_ f3_; subst f4_; subst f5_))
        obtain ⟨Ao46, co46, eo46⟩ := Kd.R_slice HO285.out
        (first | subst eo46 | (injection eo46 with f1_ f2_ f3_; have f4_ := f1_.symm; have f5_ := f3_.symm; clear f1_ f2_ f3_; subst f4_; subst f5_))
        refine hK.out _ _ (D11_4 BK277.out (C11_13 BK278.out).1) (fun hHeld => ?_)
        clear hK K
        refine norm_ (a' := ?_) ?_ ?_
        rotate_left
        · show Act.put _ (some 21) _ = _
          simp only [Act.put, List.setIfInBounds_toArray, List.set_cons_zero, List.set_cons_succ, i64_w, i32_w]
          rfl
        refine two_ (i := 4) (j := 5) (Ni := some 22) (Nj := some 6) (M11_7 31) (M11_7 47) rfl rfl rfl rfl (by kernel_rfl) (by decide) (by decide) (fun K hK => ?_) (fun K hK => ?_)
        · skip
          refine goes_ Try.func58 (by kernel_rfl) rfl #[.agg #[.slice Ao45 t280.length co45, .slice Ao46 t283.length co46, .int .i64 t286, .int .i64 t287], .agg #[.int .i64 t288, .int .i64 t289, .int .i64 t290, .int .i64 t291, .int .i64 t292, .int .i64 t293, .int .i64 t294, .int .i64 t295, .int .i64 t296, .int .i64 t297, .int .i64 t298, .bool t299, .bool t300]] (by rfl) rfl rfl Z11_109 ?_
          with_reducible refine (spec_SetPiece.calls k _ _ t280 _ _ t283 t286 t287 t288 t289 t290 t291 t292 t293 t294 t295 t296 t297 t298 t299 t300 t301 t304 t307 t308 _ ?side1 ?side2 ?side3 ?side4 A12.out).mono ?_
          (case side1 => repeat (first | exact (Kd.R_reads' HO282.out).2.2 | (with_reducible refine Kd.C_alloc ?_ _) | (with_reducible refine Kd.C_drewN ?_ _) | (with_reducible refine Kd.C_drew ?_)))
          (case side2 => exact (Kd.R_reads' HO282.out).2.1)
          (case side3 => repeat (first | exact (Kd.R_reads' HO285.out).2.2 | (with_reducible refine Kd.C_alloc ?_ _) | (with_reducible refine Kd.C_drewN ?_ _) | (with_reducible refine Kd.C_drew ?_)))
          (case side4 => exact (Kd.R_reads' HO285.out).2.1)
          rintro e w47 ⟨v302, v305, rfl, ho0, ho1, hb⟩
          refine ⟨_, rfl, ?_⟩
          have n0_ := Aside0.mk Z11_110
          have n1_ := Aside0.mk Z11_111
          have n2_ := Aside0.mk (Kd.R_lower (Kd.R_new' ho0 (Kd.R_lt Z11_148)) (below_size Z11_97))
          have n3_ := Aside0.mk (Kd.R_lower (Kd.R_new' ho1 (Kd.R_lt Z11_149)) (below_size Z11_97))
          have n4_ := Aside0.mk Z11_57
          have n5_ := Aside0.mk Z11_25
          have n6_ := Aside0.mk Z11_76
          clear HO282
          clear HO285
          clear BK277
          clear BK278
          clear HB
          have HO282 := n0_
          have HO285 := n1_
          have HO303 := n2_
          have HO306 := n3_
          have BK277 := n4_
          have BK278 := n5_
          have HB := n6_
          clear n0_ n1_ n2_ n3_ n4_ n5_ n6_
          (try clear hb)
          (try clear hb2)
          (try clear hk)
          (try clear hi)
          (try clear ho0)
          (try clear ho1)
          refine hK.out _ _ (D11_4 BK277.out (C11_13 BK278.out).1) (fun hHeld => ?_)
          clear hK K
          refine norm_ (a' := ?_) ?_ ?_
          rotate_left
          · show Act.put _ (some 22) _ = _
            simp only [Act.put, List.setIfInBounds_toArray, List.set_cons_zero, List.set_cons_succ, i64_w, i32_w]
            rfl
          refine one_ (i := 5) (N := some 6) (M11_7 63) rfl rfl (by kernel_rfl) (by decide) (fun K hK => ?_)
          refine box_step ?hg (N := 6) ?hd (cs := #[.slice none 0 0, .slice none 0 0, .int .i64 0, .int .i64 0]) (t := 56) ?hr ?_; (case hd => rfl); (case hg => rfl); (case hr => first | (go_simp; done) | (go_simp; rfl))
          intro gb309 hg w48 hbox hb
          have n0_ := Aside0.mk Z11_126
          have n1_ := Aside0.mk Z11_127
          have n2_ := Aside0.mk Z11_128
          have n3_ := Aside0.mk Z11_129
          have n4_ := Aside0.mk Z11_57
          have n5_ := Aside0.mk Z11_25
          have n6_ := Aside0.mk Z11_76
          have n7_ := Aside0.mk (hbox)
          have n8_ := Aside0.mk Z11_62
          have n9_ := Aside0.mk Z11_62
          have n10_ := Aside0.mk Z11_32
          have n11_ := Aside0.mk Z11_33
          have n12_ := Aside0.mk Z11_17
          have n13_ := Aside0.mk Z11_18
          clear HO282
          clear HO285
          clear HO303
          clear HO306
          clear BK277
          clear BK278
          clear HB
          have HO282 := n0_
          have HO285 := n1_
          have HO303 := n2_
          have HO306 := n3_
          have BK277 := n4_
          have BK278 := n5_
          have HB := n6_
          have BK309 := n7_
          have GW309 := n8_
          have GE309 := n9_
          have NB277_309 := n10_
          have NB309_277 := n11_
          have NB278_309 := n12_
          have NB309_278 := n13_
          clear n0_ n1_ n2_ n3_ n4_ n5_ n6_ n7_ n8_ n9_ n10_ n11_ n12_ n13_
          clear hb hbox hg
          refine hK.out _ _ (D11_4 BK277.out (C11_13 BK278.out).1) (fun hHeld => ?_)
          clear hK K
          refine norm_ (a' := ?_) ?_ ?_
          rotate_left
          · show Act.put _ (some 6) _ = _
            simp only [Act.put, List.setIfInBounds_toArray, List.set_cons_zero, List.set_cons_succ, i64_w, i32_w]
            rfl
          exact norm_ Z11_158 (hCont (.slice Ao45 t280.length co45, .slice Ao46 t283.length co46, v302, v305, gb309) _ ⟨hHeld, Z11_122, Z11_123, Z11_124, Z11_125, Z11_140, Z11_141, Z11_142, GW309.out, GE309.out, NB277_309.out, NB309_277.out, NB278_309.out, NB309_278.out, Z11_74⟩)
        · skip
          refine box_step ?hg (N := 6) ?hd (cs := #[.slice none 0 0, .slice none 0 0, .int .i64 0, .int .i64 0]) (t := 56) ?hr ?_; (case hd => rfl); (case hg => rfl); (case hr => first | (go_simp; done) | (go_simp; rfl))
          intro gb309 hg w45 hbox hb
          have n0_ := Aside0.mk Z11_126
          have n1_ := Aside0.mk Z11_127
          have n2_ := Aside0.mk Z11_57
          have n3_ := Aside0.mk Z11_25
          have n4_ := Aside0.mk Z11_76
          have n5_ := Aside0.mk (hbox)
          have n6_ := Aside0.mk Z11_62
          have n7_ := Aside0.mk Z11_62
          have n8_ := Aside0.mk Z11_32
          have n9_ := Aside0.mk Z11_33
          have n10_ := Aside0.mk Z11_17
          have n11_ := Aside0.mk Z11_18
          clear HO282
          clear HO285
          clear BK277
          clear BK278
          clear HB
          have HO282 := n0_
          have HO285 := n1_
          have BK277 := n2_
          have BK278 := n3_
          have HB := n4_
          have BK309 := n5_
          have GW309 := n6_
          have GE309 := n7_
          have NB277_309 := n8_
          have NB309_277 := n9_
          have NB278_309 := n10_
          have NB309_278 := n11_
          clear n0_ n1_ n2_ n3_ n4_ n5_ n6_ n7_ n8_ n9_ n10_ n11_
          clear hb hbox hg
          obtain ⟨Ao46, co46, eo46⟩ := Kd.R_slice HO282.out
          (first | subst eo46 | (injection eo46 with f1_ f2_ f3_; have f4_ := f1_.symm; have f5_ := f3_.symm; clear f1_ f2_ f3_; subst f4_; subst f5_))
          obtain ⟨Ao47, co47, eo47⟩ := Kd.R_slice HO285.out
          (first | subst eo47 | (injection eo47 with f1_ f2_ f3_; have f4_ := f1_.symm; have f5_ := f3_.symm; clear f1_ f2_ f3_; subst f4_; subst f5_))
          refine hK.out _ _ (D11_4 BK277.out (C11_13 BK278.out).1) (fun hHeld => ?_)
          clear hK K
          refine norm_ (a' := ?_) ?_ ?_
          rotate_left
          · show Act.put _ (some 6) _ = _
            simp only [Act.put, List.setIfInBounds_toArray, List.set_cons_zero, List.set_cons_succ, i64_w, i32_w]
            rfl
          refine one_ (i := 4) (N := some 22) (M11_7 63) rfl rfl (by kernel_rfl) (by decide) (fun K hK => ?_)
          refine goes_ Try.func58 (by kernel_rfl) rfl #[.agg #[.slice Ao46 t280.length co46, .slice Ao47 t283.length co47, .int .i64 t286, .int .i64 t287], .agg #[.int .i64 t288, .int .i64 t289, .int .i64 t290, .int .i64 t291, .int .i64 t292, .int .i64 t293, .int .i64 t294, .int .i64 t295, .int .i64 t296, .int .i64 t297, .int .i64 t298, .bool t299, .bool t300]] (by rfl) rfl rfl Z11_109 ?_
          with_reducible refine (spec_SetPiece.calls k _ _ t280 _ _ t283 t286 t287 t288 t289 t290 t291 t292 t293 t294 t295 t296 t297 t298 t299 t300 t301 t304 t307 t308 _ ?side1 ?side2 ?side3 ?side4 A12.out).mono ?_
          (case side1 => repeat (first | exact (Kd.R_reads' HO282.out).2.2 | (with_reducible refine Kd.C_alloc ?_ _) | (with_reducible refine Kd.C_drewN ?_ _) | (with_reducible refine Kd.C_drew ?_)))
          (case side2 => exact (Kd.R_reads' HO282.out).2.1)
          (case side3 => repeat (first | exact (Kd.R_reads' HO285.out).2.2 | (with_reducible refine Kd.C_alloc ?_ _) | (with_reducible refine Kd.C_drewN ?_ _) | (with_reducible refine Kd.C_drew ?_)))
          (case side4 => exact (Kd.R_reads' HO285.out).2.1)
          rintro e w48 ⟨v302, v305, rfl, ho0, ho1, hb⟩
          refine ⟨_, rfl, ?_⟩
          have n0_ := Aside0.mk Z11_110
          have n1_ := Aside0.mk Z11_111
          have n2_ := Aside0.mk Z11_23
          have n3_ := Aside0.mk Z11_24
          have n4_ := Aside0.mk Z11_57
          have n5_ := Aside0.mk Z11_25
          have n6_ := Aside0.mk Z11_66
          have n7_ := Aside0.mk Z11_63
          clear HO282
          clear HO285
          clear BK277
          clear BK278
          clear BK309
          clear HB
          have HO282 := n0_
          have HO285 := n1_
          have HO303 := n2_
          have HO306 := n3_
          have BK277 := n4_
          have BK278 := n5_
          have BK309 := n6_
          have HB := n7_
          clear n0_ n1_ n2_ n3_ n4_ n5_ n6_ n7_
          (try clear hb)
          (try clear hb2)
          (try clear hk)
          (try clear hi)
          (try clear ho0)
          (try clear ho1)
          refine hK.out _ _ (D11_4 BK277.out (C11_13 BK278.out).1) (fun hHeld => ?_)
          clear hK K
          refine norm_ (a' := ?_) ?_ ?_
          rotate_left
          · show Act.put _ (some 22) _ = _
            simp only [Act.put, List.setIfInBounds_toArray, List.set_cons_zero, List.set_cons_succ, i64_w, i32_w]
            rfl
          exact norm_ Z11_158 (hCont (.slice Ao46 t280.length co46, .slice Ao47 t283.length co47, v302, v305, gb309) _ ⟨hHeld, Z11_122, Z11_123, Z11_124, Z11_125, Z11_140, Z11_141, Z11_142, GW309.out, GE309.out, NB277_309.out, NB309_277.out, NB278_309.out, NB309_278.out, Z11_74⟩)
      · skip
        refine box_step ?hg (N := 6) ?hd (cs := #[.slice none 0 0, .slice none 0 0, .int .i64 0, .int .i64 0]) (t := 56) ?hr ?_; (case hd => rfl); (case hg => rfl); (case hr => first | (go_simp; done) | (go_simp; rfl))
        intro gb309 hg w44 hbox hb
        have n0_ := Aside0.mk Z11_126
        have n1_ := Aside0.mk Z11_127
        have n2_ := Aside0.mk Z11_57
        have n3_ := Aside0.mk Z11_25
        have n4_ := Aside0.mk Z11_76
        have n5_ := Aside0.mk (hbox)
        have n6_ := Aside0.mk Z11_62
        have n7_ := Aside0.mk Z11_62
        have n8_ := Aside0.mk Z11_32
        have n9_ := Aside0.mk Z11_33
        have n10_ := Aside0.mk Z11_17
        have n11_ := Aside0.mk Z11_18
        clear HO282
        clear HO285
        clear BK277
        clear BK278
        clear HB
        have HO282 := n0_
        have HO285 := n1_
        have BK277 := n2_
        have BK278 := n3_
        have HB := n4_
        have BK309 := n5_
        have GW309 := n6_
        have GE309 := n7_
        have NB277_309 := n8_
        have NB309_277 := n9_
        have NB278_309 := n10_
        have NB309_278 := n11_
        clear n0_ n1_ n2_ n3_ n4_ n5_ n6_ n7_ n8_ n9_ n10_ n11_
        clear hb hbox hg
        refine hK.out _ _ (D11_4 BK277.out (C11_13 BK278.out).1) (fun hHeld => ?_)
        clear hK K
        refine norm_ (a' := ?_) ?_ ?_
        rotate_left
        · show Act.put _ (some 6) _ = _
          simp only [Act.put, List.setIfInBounds_toArray, List.set_cons_zero, List.set_cons_succ, i64_w, i32_w]
          rfl
        refine one_ (i := 3) (N := some 21) (M11_7 47) rfl rfl (by kernel_rfl) (by decide) (fun K hK => ?_)
        refine goes_ Try.func59 (by kernel_rfl) rfl #[.agg #[.int .i64 a1_0, .int .i64 a1_1, .int .i64 a1_2, .int .i64 a1_3, .int .i64 a1_4, .int .i64 a1_5, .int .i64 a1_6, .int .i64 a1_7, .int .i64 a1_8, .int .i64 a1_9, .int .i64 a1_10, .bool a1_11, .bool a1_12]] (by rfl) rfl rfl Z11_109 ?_
        with_reducible refine (laws_toPiece.calls a1_0 a1_1 a1_2 a1_3 a1_4 a1_5 a1_6 a1_7 a1_8 a1_9 a1_10 a1_11 a1_12 t288 t289 t290 t291 t292 t293 t294 t295 t296 t297 t298 t299 t300 _ A11.out).mono ?_
        rintro e w45 ⟨rfl, hb⟩
        refine ⟨_, rfl, ?_⟩
        have n0_ := Aside0.mk Z11_126
        have n1_ := Aside0.mk Z11_127
        have n2_ := Aside0.mk Z11_57
        have n3_ := Aside0.mk Z11_25
        have n4_ := Aside0.mk Z11_66
        have n5_ := Aside0.mk Z11_63
        clear HO282
        clear HO285
        clear BK277
        clear BK278
        clear BK309
        clear HB
        have HO282 := n0_
        have HO285 := n1_
        have BK277 := n2_
        have BK278 := n3_
        have BK309 := n4_
        have HB := n5_
        clear n0_ n1_ n2_ n3_ n4_ n5_
        (try clear hb)
        (try clear hb2)
        (try clear hk)
        (try clear hi)
        obtain ⟨Ao46, co46, eo46⟩ := Kd.R_slice HO282.out
        (first | subst eo46 | (injection eo46 with f1_ f2_ f3_; have f4_ := f1_.symm; have f5_ := f3_.symm; clear f1_ f2_ f3_; subst f4_; subst f5_))
        obtain ⟨Ao47, co47, eo47⟩ := Kd.R_slice HO285.out
        (first | subst eo47 | (injection eo47 with f1_ f2_ f3_; have f4_ := f1_.symm; have f5_ := f3_.symm; clear f1_ f2_ f3_; subst f4_; subst f5_))
        refine hK.out _ _ (D11_4 BK277.out (C11_13 BK278.out).1) (fun hHeld => ?_)
        clear hK K
        refine norm_ (a' := ?_) ?_ ?_
        rotate_left
        · show Act.put _ (some 21) _ = _
          simp only [Act.put, List.setIfInBounds_toArray, List.set_cons_zero, List.set_cons_succ, i64_w, i32_w]
          rfl
        refine one_ (i := 4) (N := some 22) (M11_7 63) rfl rfl (by kernel_rfl) (by decide) (fun K hK => ?_)
        refine goes_ Try.func58 (by kernel_rfl) rfl #[.agg #[.slice Ao46 t280.length co46, .slice Ao47 t283.length co47, .int .i64 t286, .int .i64 t287], .agg #[.int .i64 t288, .int .i64 t289, .int .i64 t290, .int .i64 t291, .int .i64 t292, .int .i64 t293, .int .i64 t294, .int .i64 t295, .int .i64 t296, .int .i64 t297, .int .i64 t298, .bool t299, .bool t300]] (by rfl) rfl rfl Z11_109 ?_
        with_reducible refine (spec_SetPiece.calls k _ _ t280 _ _ t283 t286 t287 t288 t289 t290 t291 t292 t293 t294 t295 t296 t297 t298 t299 t300 t301 t304 t307 t308 _ ?side1 ?side2 ?side3 ?side4 A12.out).mono ?_
        (case side1 => repeat (first | exact (Kd.R_reads' HO282.out).2.2 | (with_reducible refine Kd.C_alloc ?_ _) | (with_reducible refine Kd.C_drewN ?_ _) | (with_reducible refine Kd.C_drew ?_)))
        (case side2 => exact (Kd.R_reads' HO282.out).2.1)
        (case side3 => repeat (first | exact (Kd.R_reads' HO285.out).2.2 | (with_reducible refine Kd.C_alloc ?_ _) | (with_reducible refine Kd.C_drewN ?_ _) | (with_reducible refine Kd.C_drew ?_)))
        (case side4 => exact (Kd.R_reads' HO285.out).2.1)
        rintro e w48 ⟨v302, v305, rfl, ho0, ho1, hb⟩
        refine ⟨_, rfl, ?_⟩
        have n0_ := Aside0.mk Z11_110
        have n1_ := Aside0.mk Z11_111
        have n2_ := Aside0.mk Z11_23
        have n3_ := Aside0.mk Z11_24
        have n4_ := Aside0.mk Z11_57
        have n5_ := Aside0.mk Z11_25
        have n6_ := Aside0.mk Z11_66
        have n7_ := Aside0.mk Z11_63
        clear HO282
        clear HO285
        clear BK277
        clear BK278
        clear BK309
        clear HB
        have HO282 := n0_
        have HO285 := n1_
        have HO303 := n2_
        have HO306 := n3_
        have BK277 := n4_
        have BK278 := n5_
        have BK309 := n6_
        have HB := n7_
        clear n0_ n1_ n2_ n3_ n4_ n5_ n6_ n7_
        (try clear hb)
        (try clear hb2)
        (try clear hk)
        (try clear hi)
        (try clear ho0)
        (try clear ho1)
        refine hK.out _ _ (D11_4 BK277.out (C11_13 BK278.out).1) (fun hHeld => ?_)
        clear hK K
        refine norm_ (a' := ?_) ?_ ?_
        rotate_left
        · show Act.put _ (some 22) _ = _
          simp only [Act.put, List.setIfInBounds_toArray, List.set_cons_zero, List.set_cons_succ, i64_w, i32_w]
          rfl
        exact norm_ Z11_158 (hCont (.slice Ao46 t280.length co46, .slice Ao47 t283.length co47, v302, v305, gb309) _ ⟨hHeld, Z11_122, Z11_123, Z11_124, Z11_125, Z11_140, Z11_141, Z11_142, GW309.out, GE309.out, NB277_309.out, NB309_277.out, NB278_309.out, NB309_278.out, Z11_74⟩)
    · skip
      refine box_step ?hg (N := 6) ?hd (cs := #[.slice none 0 0, .slice none 0 0, .int .i64 0, .int .i64 0]) (t := 56) ?hr ?_; (case hd => rfl); (case hg => rfl); (case hr => first | (go_simp; done) | (go_simp; rfl))
      intro gb309 hg w43 hbox hb
      have n0_ := Aside0.mk Z11_57
      have n1_ := Aside0.mk Z11_25
      have n2_ := Aside0.mk Z11_76
      have n3_ := Aside0.mk (hbox)
      have n4_ := Aside0.mk Z11_62
      have n5_ := Aside0.mk Z11_62
      have n6_ := Aside0.mk Z11_32
      have n7_ := Aside0.mk Z11_33
      have n8_ := Aside0.mk Z11_17
      have n9_ := Aside0.mk Z11_18
      clear BK277
      clear BK278
      clear HB
      have BK277 := n0_
      have BK278 := n1_
      have HB := n2_
      have BK309 := n3_
      have GW309 := n4_
      have GE309 := n5_
      have NB277_309 := n6_
      have NB309_277 := n7_
      have NB278_309 := n8_
      have NB309_278 := n9_
      clear n0_ n1_ n2_ n3_ n4_ n5_ n6_ n7_ n8_ n9_
      clear hb hbox hg
      refine hK.out _ _ (D11_4 BK277.out (C11_13 BK278.out).1) (fun hHeld => ?_)
      clear hK K
      refine norm_ (a' := ?_) ?_ ?_
      rotate_left
      · show Act.put _ (some 6) _ = _
        simp only [Act.put, List.setIfInBounds_toArray, List.set_cons_zero, List.set_cons_succ, i64_w, i32_w]
        rfl
      refine one_ (i := 1) (N := some 19) (M11_7 39) rfl rfl (by kernel_rfl) (by decide) (fun K hK => ?_)
      refine goes_ Try.func37 (by kernel_rfl) rfl #[.agg #[.slice A0_0 l0_0.length c0_0, .slice A0_1 l0_1.length c0_1, .int .i64 a0_2, .int .i64 a0_3]] (by rfl) rfl rfl Z11_109 ?_
      with_reducible refine (laws_toState.calls k _ _ l0_0 _ _ l0_1 a0_2 a0_3 t280 t283 t286 t287 _ ?side1 ?side2 ?side3 ?side4 A10.out).mono ?_
      (case side1 => repeat (first | exact (Kd.C_below HR0_0.out HB.out) | (with_reducible refine Kd.C_alloc ?_ _) | (with_reducible refine Kd.C_drewN ?_ _) | (with_reducible refine Kd.C_drew ?_)))
      (case side2 => exact HC0_0.out)
      (case side3 => repeat (first | exact (Kd.C_below HR0_1.out HB.out) | (with_reducible refine Kd.C_alloc ?_ _) | (with_reducible refine Kd.C_drewN ?_ _) | (with_reducible refine Kd.C_drew ?_)))
      (case side4 => exact HC0_1.out)
      rintro e w44 ⟨v281, v284, rfl, ho0, ho1, hb⟩
      refine ⟨_, rfl, ?_⟩
      have n0_ := Aside0.mk (Kd.R_lower ho0 (below_size Z11_74))
      have n1_ := Aside0.mk (Kd.R_lower ho1 (below_size Z11_74))
      have n2_ := Aside0.mk Z11_57
      have n3_ := Aside0.mk Z11_25
      have n4_ := Aside0.mk Z11_66
      have n5_ := Aside0.mk Z11_63
      clear BK277
      clear BK278
      clear BK309
      clear HB
      have HO282 := n0_
      have HO285 := n1_
      have BK277 := n2_
      have BK278 := n3_
      have BK309 := n4_
      have HB := n5_
      clear n0_ n1_ n2_ n3_ n4_ n5_
      (try clear hb)
      (try clear hb2)
      (try clear hk)
      (try clear hi)
      (try clear ho0)
      (try clear ho1)
      refine hK.out _ _ (D11_4 BK277.out (C11_13 BK278.out).1) (fun hHeld => ?_)
      clear hK K
      refine norm_ (a' := ?_) ?_ ?_
      rotate_left
      · show Act.put _ (some 19) _ = _
        simp only [Act.put, List.setIfInBounds_toArray, List.set_cons_zero, List.set_cons_succ, i64_w, i32_w]
        rfl
      refine one_ (i := 3) (N := some 21) (M11_7 47) rfl rfl (by kernel_rfl) (by decide) (fun K hK => ?_)
      refine goes_ Try.func59 (by kernel_rfl) rfl #[.agg #[.int .i64 a1_0, .int .i64 a1_1, .int .i64 a1_2, .int .i64 a1_3, .int .i64 a1_4, .int .i64 a1_5, .int .i64 a1_6, .int .i64 a1_7, .int .i64 a1_8, .int .i64 a1_9, .int .i64 a1_10, .bool a1_11, .bool a1_12]] (by rfl) rfl rfl Z11_109 ?_
      with_reducible refine (laws_toPiece.calls a1_0 a1_1 a1_2 a1_3 a1_4 a1_5 a1_6 a1_7 a1_8 a1_9 a1_10 a1_11 a1_12 t288 t289 t290 t291 t292 t293 t294 t295 t296 t297 t298 t299 t300 _ A11.out).mono ?_
      rintro e w45 ⟨rfl, hb⟩
      refine ⟨_, rfl, ?_⟩
      have n0_ := Aside0.mk Z11_126
      have n1_ := Aside0.mk Z11_127
      have n2_ := Aside0.mk Z11_57
      have n3_ := Aside0.mk Z11_25
      have n4_ := Aside0.mk Z11_66
      have n5_ := Aside0.mk Z11_63
      clear HO282
      clear HO285
      clear BK277
      clear BK278
      clear BK309
      clear HB
      have HO282 := n0_
      have HO285 := n1_
      have BK277 := n2_
      have BK278 := n3_
      have BK309 := n4_
      have HB := n5_
      clear n0_ n1_ n2_ n3_ n4_ n5_
      (try clear hb)
      (try clear hb2)
      (try clear hk)
      (try clear hi)
      obtain ⟨Ao46, co46, eo46⟩ := Kd.R_slice HO282.out
      (first | subst eo46 | (injection eo46 with f1_ f2_ f3_; have f4_ := f1_.symm; have f5_ := f3_.symm; clear f1_ f2_ f3_; subst f4_; subst f5_))
      obtain ⟨Ao47, co47, eo47⟩ := Kd.R_slice HO285.out
      (first | subst eo47 | (injection eo47 with f1_ f2_ f3_; have f4_ := f1_.symm; have f5_ := f3_.symm; clear f1_ f2_ f3_; subst f4_; subst f5_))
      refine hK.out _ _ (D11_4 BK277.out (C11_13 BK278.out).1) (fun hHeld => ?_)
      clear hK K
      refine norm_ (a' := ?_) ?_ ?_
      rotate_left
      · show Act.put _ (some 21) _ = _
        simp only [Act.put, List.setIfInBounds_toArray, List.set_cons_zero, List.set_cons_succ, i64_w, i32_w]
        rfl
      refine one_ (i := 4) (N := some 22) (M11_7 63) rfl rfl (by kernel_rfl) (by decide) (fun K hK => ?_)
      refine goes_ Try.func58 (by kernel_rfl) rfl #[.agg #[.slice Ao46 t280.length co46, .slice Ao47 t283.length co47, .int .i64 t286, .int .i64 t287], .agg #[.int .i64 t288, .int .i64 t289, .int .i64 t290, .int .i64 t291, .int .i64 t292, .int .i64 t293, .int .i64 t294, .int .i64 t295, .int .i64 t296, .int .i64 t297, .int .i64 t298, .bool t299, .bool t300]] (by rfl) rfl rfl Z11_109 ?_
      with_reducible refine (spec_SetPiece.calls k _ _ t280 _ _ t283 t286 t287 t288 t289 t290 t291 t292 t293 t294 t295 t296 t297 t298 t299 t300 t301 t304 t307 t308 _ ?side1 ?side2 ?side3 ?side4 A12.out).mono ?_
      (case side1 => repeat (first | exact (Kd.R_reads' HO282.out).2.2 | (with_reducible refine Kd.C_alloc ?_ _) | (with_reducible refine Kd.C_drewN ?_ _) | (with_reducible refine Kd.C_drew ?_)))
      (case side2 => exact (Kd.R_reads' HO282.out).2.1)
      (case side3 => repeat (first | exact (Kd.R_reads' HO285.out).2.2 | (with_reducible refine Kd.C_alloc ?_ _) | (with_reducible refine Kd.C_drewN ?_ _) | (with_reducible refine Kd.C_drew ?_)))
      (case side4 => exact (Kd.R_reads' HO285.out).2.1)
      rintro e w48 ⟨v302, v305, rfl, ho0, ho1, hb⟩
      refine ⟨_, rfl, ?_⟩
      have n0_ := Aside0.mk Z11_110
      have n1_ := Aside0.mk Z11_111
      have n2_ := Aside0.mk Z11_23
      have n3_ := Aside0.mk Z11_24
      have n4_ := Aside0.mk Z11_57
      have n5_ := Aside0.mk Z11_25
      have n6_ := Aside0.mk Z11_66
      have n7_ := Aside0.mk Z11_63
      clear HO282
      clear HO285
      clear BK277
      clear BK278
      clear BK309
      clear HB
      have HO282 := n0_
      have HO285 := n1_
      have HO303 := n2_
      have HO306 := n3_
      have BK277 := n4_
      have BK278 := n5_
      have BK309 := n6_
      have HB := n7_
      clear n0_ n1_ n2_ n3_ n4_ n5_ n6_ n7_
      (try clear hb)
      (try clear hb2)
      (try clear hk)
      (try clear hi)
      (try clear ho0)
      (try clear ho1)
      refine hK.out _ _ (D11_4 BK277.out (C11_13 BK278.out).1) (fun hHeld => ?_)
      clear hK K
      refine norm_ (a' := ?_) ?_ ?_
      rotate_left
      · show Act.put _ (some 22) _ = _
        simp only [Act.put, List.setIfInBounds_toArray, List.set_cons_zero, List.set_cons_succ, i64_w, i32_w]
        rfl
      exact norm_ Z11_158 (hCont (.slice Ao46 t280.length co46, .slice Ao47 t283.length co47, v302, v305, gb309) _ ⟨hHeld, Z11_122, Z11_123, Z11_124, Z11_125, Z11_140, Z11_141, Z11_142, GW309.out, GE309.out, NB277_309.out, NB309_277.out, NB278_309.out, NB309_278.out, Z11_74⟩)
  rintro ⟨v281, v284, v302, v305, gb309⟩ w49 ⟨hS_, h0_, h1_, h2_, h3_, h4_, h5_, h6_, h7_, h8_, h9_, h10_, h11_, h12_, h13_⟩
  have n0_ : Aside0 (Kd.R k25 25 w49 w.heap.size (fun k_ => some k_ ≠ (v302 : Value).ownBlock) v281 t280) := ⟨h0_⟩
  have n1_ : Aside0 (Kd.R k71 71 w49 w.heap.size (fun k_ => some k_ ≠ (v305 : Value).ownBlock) v284 t283) := ⟨h1_⟩
  have n2_ : Aside0 (Kd.R k25 25 w49 w.heap.size (fun k_ => some k_ ≠ (v281 : Value).ownBlock) v302 t301) := ⟨h2_⟩
  have n3_ : Aside0 (Kd.R k71 71 w49 w.heap.size (fun k_ => some k_ ≠ (v284 : Value).ownBlock) v305 t304) := ⟨h3_⟩
  have n4_ : Aside0 (w49.heap[gb277]? = some (.cells #[.slice A0_0 l0_0.length c0_0, .slice A0_1 l0_1.length c0_1, .int .i64 a0_2, .int .i64 a0_3] 50 (0, 0))) := ⟨h4_⟩
  have n5_ : Aside0 (w49.heap[gb278]? = some (.cells #[.int .i64 a1_0, .int .i64 a1_1, .int .i64 a1_2, .int .i64 a1_3, .int .i64 a1_4, .int .i64 a1_5, .int .i64 a1_6, .int .i64 a1_7, .int .i64 a1_8, .int .i64 a1_9, .int .i64 a1_10, .bool a1_11, .bool a1_12] 75 (0, 0))) := ⟨h5_⟩
  have n6_ : Aside0 (w49.heap[gb309]? = some (.cells #[.slice none 0 0, .slice none 0 0, .int .i64 0, .int .i64 0] 56 (0, 0))) := ⟨h6_⟩
  have n7_ : Aside0 (w.heap.size ≤ gb309) := ⟨h7_⟩
  have n8_ : Aside0 (w.heap.size ≤ gb309) := ⟨h8_⟩
  have n9_ : Aside0 (gb277 ≠ gb309) := ⟨h9_⟩
  have n10_ : Aside0 (gb309 ≠ gb277) := ⟨h10_⟩
  have n11_ : Aside0 (gb278 ≠ gb309) := ⟨h11_⟩
  have n12_ : Aside0 (gb309 ≠ gb278) := ⟨h12_⟩
  have n13_ : Aside0 (Below w.heap.size w w49) := ⟨h13_⟩
  clear BK277
  clear BK278
  clear HB
  clear h0_ h1_ h2_ h3_ h4_ h5_ h6_ h7_ h8_ h9_ h10_ h11_ h12_ h13_
  have HO282 := n0_
  have HO285 := n1_
  have HO303 := n2_
  have HO306 := n3_
  have BK277 := n4_
  have BK278 := n5_
  have BK309 := n6_
  have GW309 := n7_
  have GE309 := n8_
  have NB277_309 := n9_
  have NB309_277 := n10_
  have NB278_309 := n11_
  have NB309_278 := n12_
  have HB := n13_
  clear n0_ n1_ n2_ n3_ n4_ n5_ n6_ n7_ n8_ n9_ n10_ n11_ n12_ n13_
  have hHeld : w49.cell? ⟨gb277, 0, none⟩ = some (.slice A0_0 l0_0.length c0_0) ∧ w49.cell? ⟨gb277, 1, none⟩ = some (.slice A0_1 l0_1.length c0_1) ∧ w49.cell? ⟨gb277, 2, none⟩ = some (.int .i64 a0_2) ∧ w49.cell? ⟨gb277, 3, none⟩ = some (.int .i64 a0_3) ∧ w49.cell? ⟨gb278, 0, none⟩ = some (.int .i64 a1_0) ∧ w49.cell? ⟨gb278, 1, none⟩ = some (.int .i64 a1_1) ∧ w49.cell? ⟨gb278, 2, none⟩ = some (.int .i64 a1_2) ∧ w49.cell? ⟨gb278, 3, none⟩ = some (.int .i64 a1_3) ∧ w49.cell? ⟨gb278, 4, none⟩ = some (.int .i64 a1_4) ∧ w49.cell? ⟨gb278, 5, none⟩ = some (.int .i64 a1_5) ∧ w49.cell? ⟨gb278, 6, none⟩ = some (.int .i64 a1_6) ∧ w49.cell? ⟨gb278, 7, none⟩ = some (.int .i64 a1_7) ∧ w49.cell? ⟨gb278, 8, none⟩ = some (.int .i64 a1_8) ∧ w49.cell? ⟨gb278, 9, none⟩ = some (.int .i64 a1_9) ∧ w49.cell? ⟨gb278, 10, none⟩ = some (.int .i64 a1_10) ∧ w49.cell? ⟨gb278, 11, none⟩ = some (.bool a1_11) ∧ w49.cell? ⟨gb278, 12, none⟩ = some (.bool a1_12) := hS_
  obtain ⟨Ao50, co50, eo50⟩ := Kd.R_slice HO303.out
  (first | subst eo50 | (injection eo50 with f1_ f2_ f3_; have f4_ := f1_.symm; have f5_ := f3_.symm; clear f1_ f2_ f3_; subst f4_; subst f5_))
  obtain ⟨Ao52, co52, eo52⟩ := Kd.R_slice HO306.out
  (first | subst eo52 | (injection eo52 with f1_ f2_ f3_; have f4_ := f1_.symm; have f5_ := f3_.symm; clear f1_ f2_ f3_; subst f4_; subst f5_))
  refine norm_ (a' := ?_) ?_ ?_
  rotate_left
  · simp only [putAll, Act.put, List.setIfInBounds_toArray, List.set_cons_zero, List.set_cons_succ]
    rfl
  refine one_ (i := 6) (N := none) (M11_7 127) rfl rfl (by kernel_rfl) (by decide) (fun K hK => ?_)
  obtain ⟨⟨hs51, hs53, hs54, hs55⟩, hfs51, hfs53, hfs54, hfs55⟩ := C11_4 BK309.out
  have hns51_0 := NB277_309.out
  have hns51_1 := NB278_309.out
  have hms51_0 := NB309_277.out
  have hms51_1 := NB309_278.out
  refine skip_ (w1 := ?_) (by rfl) rfl ?_ ?_
  rotate_left
  · go_simp
    rfl
  refine hK.out _ _ ?_ (fun hHeld => ?_)
  · exact ⟨((F11_4 (g := gb309) NB277_309.out).trans (hHeld.1)), ⟨((F11_4 (g := gb309) NB277_309.out).trans (hHeld.2.1)), ⟨((F11_4 (g := gb309) NB277_309.out).trans (hHeld.2.2.1)), ⟨((F11_4 (g := gb309) NB277_309.out).trans (hHeld.2.2.2.1)), ⟨((F11_4 (g := gb309) NB278_309.out).trans (hHeld.2.2.2.2.1)), ⟨((F11_4 (g := gb309) NB278_309.out).trans (hHeld.2.2.2.2.2.1)), ⟨((F11_4 (g := gb309) NB278_309.out).trans (hHeld.2.2.2.2.2.2.1)), ⟨((F11_4 (g := gb309) NB278_309.out).trans (hHeld.2.2.2.2.2.2.2.1)), ⟨((F11_4 (g := gb309) NB278_309.out).trans (hHeld.2.2.2.2.2.2.2.2.1)), ⟨((F11_4 (g := gb309) NB278_309.out).trans (hHeld.2.2.2.2.2.2.2.2.2.1)), ⟨((F11_4 (g := gb309) NB278_309.out).trans (hHeld.2.2.2.2.2.2.2.2.2.2.1)), ⟨((F11_4 (g := gb309) NB278_309.out).trans (hHeld.2.2.2.2.2.2.2.2.2.2.2.1)), ⟨((F11_4 (g := gb309) NB278_309.out).trans (hHeld.2.2.2.2.2.2.2.2.2.2.2.2.1)), ⟨((F11_4 (g := gb309) NB278_309.out).trans (hHeld.2.2.2.2.2.2.2.2.2.2.2.2.2.1)), ⟨((F11_4 (g := gb309) NB278_309.out).trans (hHeld.2.2.2.2.2.2.2.2.2.2.2.2.2.2.1)), ⟨((F11_4 (g := gb309) NB278_309.out).trans (hHeld.2.2.2.2.2.2.2.2.2.2.2.2.2.2.2.1)), (((F11_4 (g := gb309) NB278_309.out).trans (hHeld.2.2.2.2.2.2.2.2.2.2.2.2.2.2.2.2)))⟩⟩⟩⟩⟩⟩⟩⟩⟩⟩⟩⟩⟩⟩⟩⟩
  clear hK K
  refine done_ (by kernel_rfl) ?_
  have hnb56 := NB277_309.out
  have hnc56 := NB309_277.out
  obtain ⟨⟨hcz57_0, hcz57_1, hcz57_2, hcz57_3⟩, hfz57_0, hfz57_1, hfz57_2, hfz57_3⟩ := C11_4 BK277.out
  try go_wp2_with (first | ((with_reducible refine gate_callee (f := 37) rfl ?_); refine goesL_ (some 24) rfl rfl Try.func37 (by kernel_rfl) rfl #[.agg #[.slice A0_0 l0_0.length c0_0, .slice A0_1 l0_1.length c0_1, .int .i64 a0_2, .int .i64 a0_3]] rfl Z11_109 ?_; (with_reducible refine (laws_toState.calls k _ _ l0_0 _ _ l0_1 a0_2 a0_3 t310 t313 t316 t317 _ ?side1 ?side2 ?side3 ?side4 A13.out).mono ?_); (case side1 => exact Kd.C_below HR0_0.out Z11_74); (case side2 => exact HC0_0.out); (case side3 => exact Kd.C_below HR0_1.out Z11_74); (case side4 => exact HC0_1.out); rintro e w58 ⟨v311, v314, rfl, ho0, ho1, hb⟩; refine ⟨_, rfl, ?_⟩; have n0_ := Aside0.mk (Kd.R_elder' Z11_9 (Kd.R_base ho0) hb); have n1_ := Aside0.mk (Kd.R_elder' Z11_10 (Kd.R_base ho1) hb); have n2_ := Aside0.mk (Kd.R_elder' Z11_11 (Kd.R_base ho0) hb); have n3_ := Aside0.mk (Kd.R_elder' Z11_12 (Kd.R_base ho1) hb); have n4_ := Aside0.mk (Kd.R_lower (Kd.R_new' (Kd.R_new' ho0 (Kd.R_lt Z11_9)) (Kd.R_lt Z11_11)) (below_size Z11_74)); have n5_ := Aside0.mk (Kd.R_lower (Kd.R_new' (Kd.R_new' ho1 (Kd.R_lt Z11_10)) (Kd.R_lt Z11_12)) (below_size Z11_74)); have n6_ := Aside0.mk (blk_below (g := gb277) (o := .cells #[.slice A0_0 l0_0.length c0_0, .slice A0_1 l0_1.length c0_1, .int .i64 a0_2, .int .i64 a0_3] 50 (0, 0)) (by (with_reducible repeat (first | refine blk_drewN ?_ _ | refine blk_drew ?_ | refine blk_alloc ?_ _)); refine blk_far ?_ NB277_309.out _; (with_reducible repeat (first | refine blk_drewN ?_ _ | refine blk_drew ?_ | refine blk_alloc ?_ _)); refine blk_far ?_ NB277_309.out _; (with_reducible repeat (first | refine blk_drewN ?_ _ | refine blk_drew ?_ | refine blk_alloc ?_ _)); refine blk_far ?_ NB277_309.out _; (with_reducible repeat (first | refine blk_drewN ?_ _ | refine blk_drew ?_ | refine blk_alloc ?_ _)); refine blk_far ?_ NB277_309.out _; (with_reducible repeat (first | refine blk_drewN ?_ _ | refine blk_drew ?_ | refine blk_alloc ?_ _)); exact BK277.out) hb); have n7_ := Aside0.mk (blk_below (g := gb278) (o := .cells #[.int .i64 a1_0, .int .i64 a1_1, .int .i64 a1_2, .int .i64 a1_3, .int .i64 a1_4, .int .i64 a1_5, .int .i64 a1_6, .int .i64 a1_7, .int .i64 a1_8, .int .i64 a1_9, .int .i64 a1_10, .bool a1_11, .bool a1_12] 75 (0, 0)) (by (with_reducible repeat (first | refine blk_drewN ?_ _ | refine blk_drew ?_ | refine blk_alloc ?_ _)); refine blk_far ?_ NB278_309.out _; (with_reducible repeat (first | refine blk_drewN ?_ _ | refine blk_drew ?_ | refine blk_alloc ?_ _)); refine blk_far ?_ NB278_309.out _; (with_reducible repeat (first | refine blk_drewN ?_ _ | refine blk_drew ?_ | refine blk_alloc ?_ _)); refine blk_far ?_ NB278_309.out _; (with_reducible repeat (first | refine blk_drewN ?_ _ | refine blk_drew ?_ | refine blk_alloc ?_ _)); refine blk_far ?_ NB278_309.out _; (with_reducible repeat (first | refine blk_drewN ?_ _ | refine blk_drew ?_ | refine blk_alloc ?_ _)); exact BK278.out) hb); have n8_ := Aside0.mk (blk_below (g := gb309) (o := .cells #[.slice Ao50 t301.length co50, .slice Ao52 t304.length co52, .int .i64 t307, .int .i64 t308] 56 (0, 0)) (by (with_reducible repeat (first | refine blk_drewN ?_ _ | refine blk_drew ?_ | refine blk_alloc ?_ _)); apply E11_4; (with_reducible repeat (first | refine blk_drewN ?_ _ | refine blk_drew ?_ | refine blk_alloc ?_ _)); exact BK309.out) hb); have n9_ := Aside0.mk Z11_63; clear HO282; clear HO285; clear HO303; clear HO306; clear BK277; clear BK278; clear BK309; clear HB; have HO282 := n0_; have HO285 := n1_; have HO303 := n2_; have HO306 := n3_; have HO312 := n4_; have HO315 := n5_; have BK277 := n6_; have BK278 := n7_; have BK309 := n8_; have HB := n9_; clear n0_ n1_ n2_ n3_ n4_ n5_ n6_ n7_ n8_ n9_; (try clear hb); (try clear hb2); (try clear hk); (try clear hi); (try clear ho0); (try clear ho1)) | ((with_reducible refine gate_dst (N := 7) rfl ?_); refine box_event ?hg (N := 7) ?hd (cs := #[.slice none 0 0, .slice none 0 0, .int .i64 0, .int .i64 0]) (t := 56) ?hr ?_; (case hd => rfl); (case hg => rfl); (case hr => first | (go_simp; done) | (go_simp; rfl)); intro gb318 hg w59 hbox hb; have n0_ := Aside0.mk Z11_126; have n1_ := Aside0.mk Z11_127; have n2_ := Aside0.mk Z11_128; have n3_ := Aside0.mk Z11_129; have n4_ := Aside0.mk Z11_130; have n5_ := Aside0.mk Z11_131; have n6_ := Aside0.mk Z11_57; have n7_ := Aside0.mk Z11_25; have n8_ := Aside0.mk Z11_58; have n9_ := Aside0.mk Z11_63; have n10_ := Aside0.mk (hbox); have n11_ := Aside0.mk Z11_51; have n12_ := Aside0.mk Z11_51; have n13_ := Aside0.mk ((by rw [hg]; exact Nat.ne_of_lt (blk_lt (g := gb277) (o := .cells #[.slice A0_0 l0_0.length c0_0, .slice A0_1 l0_1.length c0_1, .int .i64 a0_2, .int .i64 a0_3] 50 (0, 0)) Z11_140) : gb277 ≠ gb318)); have n14_ := Aside0.mk ((by rw [hg]; exact Nat.ne_of_gt (blk_lt (g := gb277) (o := .cells #[.slice A0_0 l0_0.length c0_0, .slice A0_1 l0_1.length c0_1, .int .i64 a0_2, .int .i64 a0_3] 50 (0, 0)) Z11_140) : gb318 ≠ gb277)); have n15_ := Aside0.mk ((by rw [hg]; exact Nat.ne_of_lt (blk_lt (g := gb278) (o := .cells #[.int .i64 a1_0, .int .i64 a1_1, .int .i64 a1_2, .int .i64 a1_3, .int .i64 a1_4, .int .i64 a1_5, .int .i64 a1_6, .int .i64 a1_7, .int .i64 a1_8, .int .i64 a1_9, .int .i64 a1_10, .bool a1_11, .bool a1_12] 75 (0, 0)) Z11_141) : gb278 ≠ gb318)); have n16_ := Aside0.mk ((by rw [hg]; exact Nat.ne_of_gt (blk_lt (g := gb278) (o := .cells #[.int .i64 a1_0, .int .i64 a1_1, .int .i64 a1_2, .int .i64 a1_3, .int .i64 a1_4, .int .i64 a1_5, .int .i64 a1_6, .int .i64 a1_7, .int .i64 a1_8, .int .i64 a1_9, .int .i64 a1_10, .bool a1_11, .bool a1_12] 75 (0, 0)) Z11_141) : gb318 ≠ gb278)); have n17_ := Aside0.mk ((by rw [hg]; exact Nat.ne_of_lt (blk_lt (g := gb309) (o := .cells #[.slice Ao50 t301.length co50, .slice Ao52 t304.length co52, .int .i64 t307, .int .i64 t308] 56 (0, 0)) Z11_142) : gb309 ≠ gb318)); have n18_ := Aside0.mk ((by rw [hg]; exact Nat.ne_of_gt (blk_lt (g := gb309) (o := .cells #[.slice Ao50 t301.length co50, .slice Ao52 t304.length co52, .int .i64 t307, .int .i64 t308] 56 (0, 0)) Z11_142) : gb318 ≠ gb309)); clear HO282; clear HO285; clear HO303; clear HO306; clear HO312; clear HO315; clear BK277; clear BK278; clear BK309; clear HB; have HO282 := n0_; have HO285 := n1_; have HO303 := n2_; have HO306 := n3_; have HO312 := n4_; have HO315 := n5_; have BK277 := n6_; have BK278 := n7_; have BK309 := n8_; have HB := n9_; have BK318 := n10_; have GW318 := n11_; have GE318 := n12_; have NB277_318 := n13_; have NB318_277 := n14_; have NB278_318 := n15_; have NB318_278 := n16_; have NB309_318 := n17_; have NB318_309 := n18_; clear n0_ n1_ n2_ n3_ n4_ n5_ n6_ n7_ n8_ n9_ n10_ n11_ n12_ n13_ n14_ n15_ n16_ n17_ n18_; clear hb hbox hg; obtain ⟨Ao60, co60, eo60⟩ := Kd.R_slice HO312.out; subst eo60; have hnb61 := NB318_277.out; have hnc61 := NB277_318.out; have hnb62 := NB318_278.out; have hnc62 := NB278_318.out; have hnb63 := NB318_309.out; have hnc63 := NB309_318.out; obtain ⟨⟨hcz64_0, hcz64_1, hcz64_2, hcz64_3⟩, hfz64_0, hfz64_1, hfz64_2, hfz64_3⟩ := C11_4 BK318.out; obtain ⟨Ao65, co65, eo65⟩ := Kd.R_slice HO315.out; subst eo65))
  have n0_ : Aside0 (Kd.R k25 25 ((((w59.setCell ⟨gb318, 0, none⟩ (.slice Ao60 t310.length co60)).setCell ⟨gb318, 1, none⟩ (.slice Ao65 t313.length co65)).setCell ⟨gb318, 2, none⟩ (.int .i64 t316)).setCell ⟨gb318, 3, none⟩ (.int .i64 t317)) w.heap.size (fun k_ => some k_ ≠ (.slice Ao50 t301.length co50 : Value).ownBlock ∧ some k_ ≠ (.slice Ao60 t310.length co60 : Value).ownBlock) v281 t280) := ⟨(by (with_reducible repeat (first | apply Kd.R_alloc | apply Kd.R_drewN | apply Kd.R_drew)); exact Kd.R_mono (Kd.R_far (p := ⟨gb318, 3, none⟩) (Kd.R_far (p := ⟨gb318, 2, none⟩) (Kd.R_far (p := ⟨gb318, 1, none⟩) (Kd.R_far (p := ⟨gb318, 0, none⟩) (Kd.R_types HO282.out BK318.out (by decide)) (fun _ hk => hk.2) (.slice Ao60 t310.length co60)) (fun _ hk => hk.2) (.slice Ao65 t313.length co65)) (fun _ hk => hk.2) (.int .i64 t316)) (fun _ hk => hk.2) (.int .i64 t317)) (fun _ hk => ⟨hk.1.1, hk.1.2⟩))⟩
  have n1_ : Aside0 (Kd.R k71 71 ((((w59.setCell ⟨gb318, 0, none⟩ (.slice Ao60 t310.length co60)).setCell ⟨gb318, 1, none⟩ (.slice Ao65 t313.length co65)).setCell ⟨gb318, 2, none⟩ (.int .i64 t316)).setCell ⟨gb318, 3, none⟩ (.int .i64 t317)) w.heap.size (fun k_ => some k_ ≠ (.slice Ao52 t304.length co52 : Value).ownBlock ∧ some k_ ≠ (.slice Ao65 t313.length co65 : Value).ownBlock) v284 t283) := ⟨(by (with_reducible repeat (first | apply Kd.R_alloc | apply Kd.R_drewN | apply Kd.R_drew)); exact Kd.R_mono (Kd.R_far (p := ⟨gb318, 3, none⟩) (Kd.R_far (p := ⟨gb318, 2, none⟩) (Kd.R_far (p := ⟨gb318, 1, none⟩) (Kd.R_far (p := ⟨gb318, 0, none⟩) (Kd.R_types HO285.out BK318.out (by decide)) (fun _ hk => hk.2) (.slice Ao60 t310.length co60)) (fun _ hk => hk.2) (.slice Ao65 t313.length co65)) (fun _ hk => hk.2) (.int .i64 t316)) (fun _ hk => hk.2) (.int .i64 t317)) (fun _ hk => ⟨hk.1.1, hk.1.2⟩))⟩
  have n2_ : Aside0 (Kd.R k25 25 ((((w59.setCell ⟨gb318, 0, none⟩ (.slice Ao60 t310.length co60)).setCell ⟨gb318, 1, none⟩ (.slice Ao65 t313.length co65)).setCell ⟨gb318, 2, none⟩ (.int .i64 t316)).setCell ⟨gb318, 3, none⟩ (.int .i64 t317)) w.heap.size (fun k_ => some k_ ≠ (v281 : Value).ownBlock ∧ some k_ ≠ (.slice Ao60 t310.length co60 : Value).ownBlock) (.slice Ao50 t301.length co50) t301) := ⟨(by (with_reducible repeat (first | apply Kd.R_alloc | apply Kd.R_drewN | apply Kd.R_drew)); exact Kd.R_mono (Kd.R_far (p := ⟨gb318, 3, none⟩) (Kd.R_far (p := ⟨gb318, 2, none⟩) (Kd.R_far (p := ⟨gb318, 1, none⟩) (Kd.R_far (p := ⟨gb318, 0, none⟩) (Kd.R_types HO303.out BK318.out (by decide)) (fun _ hk => hk.2) (.slice Ao60 t310.length co60)) (fun _ hk => hk.2) (.slice Ao65 t313.length co65)) (fun _ hk => hk.2) (.int .i64 t316)) (fun _ hk => hk.2) (.int .i64 t317)) (fun _ hk => ⟨hk.1.1, hk.1.2⟩))⟩
  have n3_ : Aside0 (Kd.R k71 71 ((((w59.setCell ⟨gb318, 0, none⟩ (.slice Ao60 t310.length co60)).setCell ⟨gb318, 1, none⟩ (.slice Ao65 t313.length co65)).setCell ⟨gb318, 2, none⟩ (.int .i64 t316)).setCell ⟨gb318, 3, none⟩ (.int .i64 t317)) w.heap.size (fun k_ => some k_ ≠ (v284 : Value).ownBlock ∧ some k_ ≠ (.slice Ao65 t313.length co65 : Value).ownBlock) (.slice Ao52 t304.length co52) t304) := ⟨(by (with_reducible repeat (first | apply Kd.R_alloc | apply Kd.R_drewN | apply Kd.R_drew)); exact Kd.R_mono (Kd.R_far (p := ⟨gb318, 3, none⟩) (Kd.R_far (p := ⟨gb318, 2, none⟩) (Kd.R_far (p := ⟨gb318, 1, none⟩) (Kd.R_far (p := ⟨gb318, 0, none⟩) (Kd.R_types HO306.out BK318.out (by decide)) (fun _ hk => hk.2) (.slice Ao60 t310.length co60)) (fun _ hk => hk.2) (.slice Ao65 t313.length co65)) (fun _ hk => hk.2) (.int .i64 t316)) (fun _ hk => hk.2) (.int .i64 t317)) (fun _ hk => ⟨hk.1.1, hk.1.2⟩))⟩
  have n4_ : Aside0 (Kd.R k25 25 ((((w59.setCell ⟨gb318, 0, none⟩ (.slice Ao60 t310.length co60)).setCell ⟨gb318, 1, none⟩ (.slice Ao65 t313.length co65)).setCell ⟨gb318, 2, none⟩ (.int .i64 t316)).setCell ⟨gb318, 3, none⟩ (.int .i64 t317)) w.heap.size (fun k_ => some k_ ≠ (v281 : Value).ownBlock ∧ some k_ ≠ (.slice Ao50 t301.length co50 : Value).ownBlock) (.slice Ao60 t310.length co60) t310) := ⟨(by (with_reducible repeat (first | apply Kd.R_alloc | apply Kd.R_drewN | apply Kd.R_drew)); exact Kd.R_mono (Kd.R_far (p := ⟨gb318, 3, none⟩) (Kd.R_far (p := ⟨gb318, 2, none⟩) (Kd.R_far (p := ⟨gb318, 1, none⟩) (Kd.R_far (p := ⟨gb318, 0, none⟩) (Kd.R_types HO312.out BK318.out (by decide)) (fun _ hk => hk.2) (.slice Ao60 t310.length co60)) (fun _ hk => hk.2) (.slice Ao65 t313.length co65)) (fun _ hk => hk.2) (.int .i64 t316)) (fun _ hk => hk.2) (.int .i64 t317)) (fun _ hk => ⟨hk.1.1.2, hk.1.2⟩))⟩
  have n5_ : Aside0 (Kd.R k71 71 ((((w59.setCell ⟨gb318, 0, none⟩ (.slice Ao60 t310.length co60)).setCell ⟨gb318, 1, none⟩ (.slice Ao65 t313.length co65)).setCell ⟨gb318, 2, none⟩ (.int .i64 t316)).setCell ⟨gb318, 3, none⟩ (.int .i64 t317)) w.heap.size (fun k_ => some k_ ≠ (v284 : Value).ownBlock ∧ some k_ ≠ (.slice Ao52 t304.length co52 : Value).ownBlock) (.slice Ao65 t313.length co65) t313) := ⟨(by (with_reducible repeat (first | apply Kd.R_alloc | apply Kd.R_drewN | apply Kd.R_drew)); exact Kd.R_mono (Kd.R_far (p := ⟨gb318, 3, none⟩) (Kd.R_far (p := ⟨gb318, 2, none⟩) (Kd.R_far (p := ⟨gb318, 1, none⟩) (Kd.R_far (p := ⟨gb318, 0, none⟩) (Kd.R_types HO315.out BK318.out (by decide)) (fun _ hk => hk.2) (.slice Ao60 t310.length co60)) (fun _ hk => hk.2) (.slice Ao65 t313.length co65)) (fun _ hk => hk.2) (.int .i64 t316)) (fun _ hk => hk.2) (.int .i64 t317)) (fun _ hk => ⟨hk.1.1.2, hk.1.2⟩))⟩
  have n6_ : Aside0 (((((w59.setCell ⟨gb318, 0, none⟩ (.slice Ao60 t310.length co60)).setCell ⟨gb318, 1, none⟩ (.slice Ao65 t313.length co65)).setCell ⟨gb318, 2, none⟩ (.int .i64 t316)).setCell ⟨gb318, 3, none⟩ (.int .i64 t317)).heap[gb277]? = some (.cells #[.slice A0_0 l0_0.length c0_0, .slice A0_1 l0_1.length c0_1, .int .i64 a0_2, .int .i64 a0_3] 50 (0, 0))) := ⟨(by (with_reducible repeat (first | refine blk_drewN ?_ _ | refine blk_drew ?_ | refine blk_alloc ?_ _)); refine blk_far ?_ NB277_318.out _; (with_reducible repeat (first | refine blk_drewN ?_ _ | refine blk_drew ?_ | refine blk_alloc ?_ _)); refine blk_far ?_ NB277_318.out _; (with_reducible repeat (first | refine blk_drewN ?_ _ | refine blk_drew ?_ | refine blk_alloc ?_ _)); refine blk_far ?_ NB277_318.out _; (with_reducible repeat (first | refine blk_drewN ?_ _ | refine blk_drew ?_ | refine blk_alloc ?_ _)); refine blk_far ?_ NB277_318.out _; (with_reducible repeat (first | refine blk_drewN ?_ _ | refine blk_drew ?_ | refine blk_alloc ?_ _)); exact BK277.out)⟩
  have n7_ : Aside0 (((((w59.setCell ⟨gb318, 0, none⟩ (.slice Ao60 t310.length co60)).setCell ⟨gb318, 1, none⟩ (.slice Ao65 t313.length co65)).setCell ⟨gb318, 2, none⟩ (.int .i64 t316)).setCell ⟨gb318, 3, none⟩ (.int .i64 t317)).heap[gb278]? = some (.cells #[.int .i64 a1_0, .int .i64 a1_1, .int .i64 a1_2, .int .i64 a1_3, .int .i64 a1_4, .int .i64 a1_5, .int .i64 a1_6, .int .i64 a1_7, .int .i64 a1_8, .int .i64 a1_9, .int .i64 a1_10, .bool a1_11, .bool a1_12] 75 (0, 0))) := ⟨(by (with_reducible repeat (first | refine blk_drewN ?_ _ | refine blk_drew ?_ | refine blk_alloc ?_ _)); refine blk_far ?_ NB278_318.out _; (with_reducible repeat (first | refine blk_drewN ?_ _ | refine blk_drew ?_ | refine blk_alloc ?_ _)); refine blk_far ?_ NB278_318.out _; (with_reducible repeat (first | refine blk_drewN ?_ _ | refine blk_drew ?_ | refine blk_alloc ?_ _)); refine blk_far ?_ NB278_318.out _; (with_reducible repeat (first | refine blk_drewN ?_ _ | refine blk_drew ?_ | refine blk_alloc ?_ _)); refine blk_far ?_ NB278_318.out _; (with_reducible repeat (first | refine blk_drewN ?_ _ | refine blk_drew ?_ | refine blk_alloc ?_ _)); exact BK278.out)⟩
  have n8_ : Aside0 (((((w59.setCell ⟨gb318, 0, none⟩ (.slice Ao60 t310.length co60)).setCell ⟨gb318, 1, none⟩ (.slice Ao65 t313.length co65)).setCell ⟨gb318, 2, none⟩ (.int .i64 t316)).setCell ⟨gb318, 3, none⟩ (.int .i64 t317)).heap[gb309]? = some (.cells #[.slice Ao50 t301.length co50, .slice Ao52 t304.length co52, .int .i64 t307, .int .i64 t308] 56 (0, 0))) := ⟨(by (with_reducible repeat (first | refine blk_drewN ?_ _ | refine blk_drew ?_ | refine blk_alloc ?_ _)); refine blk_far ?_ NB309_318.out _; (with_reducible repeat (first | refine blk_drewN ?_ _ | refine blk_drew ?_ | refine blk_alloc ?_ _)); refine blk_far ?_ NB309_318.out _; (with_reducible repeat (first | refine blk_drewN ?_ _ | refine blk_drew ?_ | refine blk_alloc ?_ _)); refine blk_far ?_ NB309_318.out _; (with_reducible repeat (first | refine blk_drewN ?_ _ | refine blk_drew ?_ | refine blk_alloc ?_ _)); refine blk_far ?_ NB309_318.out _; (with_reducible repeat (first | refine blk_drewN ?_ _ | refine blk_drew ?_ | refine blk_alloc ?_ _)); exact BK309.out)⟩
  have n9_ : Aside0 (((((w59.setCell ⟨gb318, 0, none⟩ (.slice Ao60 t310.length co60)).setCell ⟨gb318, 1, none⟩ (.slice Ao65 t313.length co65)).setCell ⟨gb318, 2, none⟩ (.int .i64 t316)).setCell ⟨gb318, 3, none⟩ (.int .i64 t317)).heap[gb318]? = some (.cells #[.slice Ao60 t310.length co60, .slice Ao65 t313.length co65, .int .i64 t316, .int .i64 t317] 56 (0, 0))) := ⟨(by (with_reducible repeat (first | refine blk_drewN ?_ _ | refine blk_drew ?_ | refine blk_alloc ?_ _)); apply E11_4; (with_reducible repeat (first | refine blk_drewN ?_ _ | refine blk_drew ?_ | refine blk_alloc ?_ _)); exact BK318.out)⟩
  have n10_ : Aside0 (Below w.heap.size w ((((w59.setCell ⟨gb318, 0, none⟩ (.slice Ao60 t310.length co60)).setCell ⟨gb318, 1, none⟩ (.slice Ao65 t313.length co65)).setCell ⟨gb318, 2, none⟩ (.int .i64 t316)).setCell ⟨gb318, 3, none⟩ (.int .i64 t317))) := ⟨Z11_61⟩
  (try clear HO282)
  (try clear HO285)
  (try clear HO303)
  (try clear HO306)
  (try clear HO312)
  (try clear HO315)
  (try clear BK277)
  (try clear BK278)
  (try clear BK309)
  (try clear BK318)
  (try clear HB)
  generalize ((((w59.setCell ⟨gb318, 0, none⟩ (.slice Ao60 t310.length co60)).setCell ⟨gb318, 1, none⟩ (.slice Ao65 t313.length co65)).setCell ⟨gb318, 2, none⟩ (.int .i64 t316)).setCell ⟨gb318, 3, none⟩ (.int .i64 t317)) = w66 at n0_ n1_ n2_ n3_ n4_ n5_ n6_ n7_ n8_ n9_ n10_ ⊢
  have HO282 := n0_
  have HO285 := n1_
  have HO303 := n2_
  have HO306 := n3_
  have HO312 := n4_
  have HO315 := n5_
  have BK277 := n6_
  have BK278 := n7_
  have BK309 := n8_
  have BK318 := n9_
  have HB := n10_
  clear n0_ n1_ n2_ n3_ n4_ n5_ n6_ n7_ n8_ n9_ n10_
  have n0_ := Aside0.mk (Kd.R_drew HO282.out)
  have n1_ := Aside0.mk (Kd.R_drew HO285.out)
  have n2_ := Aside0.mk (Kd.R_drew HO303.out)
  have n3_ := Aside0.mk (Kd.R_drew HO306.out)
  have n4_ := Aside0.mk (Kd.R_drew HO312.out)
  have n5_ := Aside0.mk (Kd.R_drew HO315.out)
  have n6_ := Aside0.mk (blk_drew BK277.out)
  have n7_ := Aside0.mk (blk_drew BK278.out)
  have n8_ := Aside0.mk (blk_drew BK309.out)
  have n9_ := Aside0.mk (blk_drew BK318.out)
  have n10_ := Aside0.mk (below_drew1 HB.out)
  clear HO282
  clear HO285
  clear HO303
  clear HO306
  clear HO312
  clear HO315
  clear BK277
  clear BK278
  clear BK309
  clear BK318
  clear HB
  have HO282 := n0_
  have HO285 := n1_
  have HO303 := n2_
  have HO306 := n3_
  have HO312 := n4_
  have HO315 := n5_
  have BK277 := n6_
  have BK278 := n7_
  have BK309 := n8_
  have BK318 := n9_
  have HB := n10_
  clear n0_ n1_ n2_ n3_ n4_ n5_ n6_ n7_ n8_ n9_ n10_
  refine start_ (n := 6) (S := fun w' => w'.cell? ⟨gb318, 0, none⟩ = some (.slice Ao60 t310.length co60) ∧ w'.cell? ⟨gb318, 1, none⟩ = some (.slice Ao65 t313.length co65) ∧ w'.cell? ⟨gb318, 2, none⟩ = some (.int .i64 t316) ∧ w'.cell? ⟨gb318, 3, none⟩ = some (.int .i64 t317) ∧ w'.cell? ⟨gb278, 0, none⟩ = some (.int .i64 a1_0) ∧ w'.cell? ⟨gb278, 1, none⟩ = some (.int .i64 a1_1) ∧ w'.cell? ⟨gb278, 2, none⟩ = some (.int .i64 a1_2) ∧ w'.cell? ⟨gb278, 3, none⟩ = some (.int .i64 a1_3) ∧ w'.cell? ⟨gb278, 4, none⟩ = some (.int .i64 a1_4) ∧ w'.cell? ⟨gb278, 5, none⟩ = some (.int .i64 a1_5) ∧ w'.cell? ⟨gb278, 6, none⟩ = some (.int .i64 a1_6) ∧ w'.cell? ⟨gb278, 7, none⟩ = some (.int .i64 a1_7) ∧ w'.cell? ⟨gb278, 8, none⟩ = some (.int .i64 a1_8) ∧ w'.cell? ⟨gb278, 9, none⟩ = some (.int .i64 a1_9) ∧ w'.cell? ⟨gb278, 10, none⟩ = some (.int .i64 a1_10) ∧ w'.cell? ⟨gb278, 11, none⟩ = some (.bool a1_11) ∧ w'.cell? ⟨gb278, 12, none⟩ = some (.bool a1_12)) (ds := []) #[false, false, false, false, false, false] (by kernel_rfl) rfl rfl ⟨(blk_cell BK318.out 0).trans rfl, (blk_cell BK318.out 1).trans rfl, (blk_cell BK318.out 2).trans rfl, (blk_cell BK318.out 3).trans rfl, (blk_cell BK278.out 0).trans rfl, (blk_cell BK278.out 1).trans rfl, (blk_cell BK278.out 2).trans rfl, (blk_cell BK278.out 3).trans rfl, (blk_cell BK278.out 4).trans rfl, (blk_cell BK278.out 5).trans rfl, (blk_cell BK278.out 6).trans rfl, (blk_cell BK278.out 7).trans rfl, (blk_cell BK278.out 8).trans rfl, (blk_cell BK278.out 9).trans rfl, (blk_cell BK278.out 10).trans rfl, (blk_cell BK278.out 11).trans rfl, (blk_cell BK278.out 12).trans rfl⟩ (fun hHeld => ?_)
  generalize w66.drew = w67 at HO282 HO285 HO303 HO306 HO312 HO315 BK277 BK278 BK309 BK318 HB hHeld ⊢
  refine take_ (i := 0) (N := some 25) (v := _) (a' := _) (M11_6 1) rfl rfl (by kernel_rfl) (fun _ _ _ h => h) (Or.inl ⟨(by rfl), Z11_146⟩) hHeld Z11_147 ?_
  refine take_ (i := 1) (N := some 26) (v := _) (a' := _) (M11_6 3) rfl rfl (by kernel_rfl) (fun _ _ _ h => h) (Or.inl ⟨(by rfl), Z11_146⟩) hHeld Z11_147 ?_
  refine join_ (σ := Value × Value × Nat) 1 (M11_6 31) (fun s_ => [(27, .agg #[.int .i64 t319, .int .i64 t320, .int .i64 t321, .int .i64 t322, .int .i64 t323, .int .i64 t324, .int .i64 t325, .int .i64 t326, .int .i64 t327, .int .i64 t328, .int .i64 t329, .bool t330, .bool t331]), (28, .agg #[s_.1, s_.2.1, .int .i64 t338, .int .i64 t339]), (8, .pointer (some ⟨s_.2.2, 0, none⟩))]) (fun s_ w' => (w'.cell? ⟨gb318, 0, none⟩ = some (.slice Ao60 t310.length co60) ∧ w'.cell? ⟨gb318, 1, none⟩ = some (.slice Ao65 t313.length co65) ∧ w'.cell? ⟨gb318, 2, none⟩ = some (.int .i64 t316) ∧ w'.cell? ⟨gb318, 3, none⟩ = some (.int .i64 t317) ∧ w'.cell? ⟨gb278, 0, none⟩ = some (.int .i64 a1_0) ∧ w'.cell? ⟨gb278, 1, none⟩ = some (.int .i64 a1_1) ∧ w'.cell? ⟨gb278, 2, none⟩ = some (.int .i64 a1_2) ∧ w'.cell? ⟨gb278, 3, none⟩ = some (.int .i64 a1_3) ∧ w'.cell? ⟨gb278, 4, none⟩ = some (.int .i64 a1_4) ∧ w'.cell? ⟨gb278, 5, none⟩ = some (.int .i64 a1_5) ∧ w'.cell? ⟨gb278, 6, none⟩ = some (.int .i64 a1_6) ∧ w'.cell? ⟨gb278, 7, none⟩ = some (.int .i64 a1_7) ∧ w'.cell? ⟨gb278, 8, none⟩ = some (.int .i64 a1_8) ∧ w'.cell? ⟨gb278, 9, none⟩ = some (.int .i64 a1_9) ∧ w'.cell? ⟨gb278, 10, none⟩ = some (.int .i64 a1_10) ∧ w'.cell? ⟨gb278, 11, none⟩ = some (.bool a1_11) ∧ w'.cell? ⟨gb278, 12, none⟩ = some (.bool a1_12)) ∧ (Kd.R k25 25 w' w.heap.size (fun k_ => some k_ ≠ (.slice Ao50 t301.length co50 : Value).ownBlock ∧ some k_ ≠ (.slice Ao60 t310.length co60 : Value).ownBlock ∧ some k_ ≠ (s_.1 : Value).ownBlock) v281 t280) ∧ (Kd.R k71 71 w' w.heap.size (fun k_ => some k_ ≠ (.slice Ao52 t304.length co52 : Value).ownBlock ∧ some k_ ≠ (.slice Ao65 t313.length co65 : Value).ownBlock ∧ some k_ ≠ (s_.2.1 : Value).ownBlock) v284 t283) ∧ (Kd.R k25 25 w' w.heap.size (fun k_ => some k_ ≠ (v281 : Value).ownBlock ∧ some k_ ≠ (.slice Ao60 t310.length co60 : Value).ownBlock ∧ some k_ ≠ (s_.1 : Value).ownBlock) (.slice Ao50 t301.length co50) t301) ∧ (Kd.R k71 71 w' w.heap.size (fun k_ => some k_ ≠ (v284 : Value).ownBlock ∧ some k_ ≠ (.slice Ao65 t313.length co65 : Value).ownBlock ∧ some k_ ≠ (s_.2.1 : Value).ownBlock) (.slice Ao52 t304.length co52) t304) ∧ (Kd.R k25 25 w' w.heap.size (fun k_ => some k_ ≠ (v281 : Value).ownBlock ∧ some k_ ≠ (.slice Ao50 t301.length co50 : Value).ownBlock ∧ some k_ ≠ (s_.1 : Value).ownBlock) (.slice Ao60 t310.length co60) t310) ∧ (Kd.R k71 71 w' w.heap.size (fun k_ => some k_ ≠ (v284 : Value).ownBlock ∧ some k_ ≠ (.slice Ao52 t304.length co52 : Value).ownBlock ∧ some k_ ≠ (s_.2.1 : Value).ownBlock) (.slice Ao65 t313.length co65) t313) ∧ (Kd.R k25 25 w' w.heap.size (fun k_ => some k_ ≠ (v281 : Value).ownBlock ∧ some k_ ≠ (.slice Ao50 t301.length co50 : Value).ownBlock ∧ some k_ ≠ (.slice Ao60 t310.length co60 : Value).ownBlock) s_.1 t332) ∧ (Kd.R k71 71 w' w.heap.size (fun k_ => some k_ ≠ (v284 : Value).ownBlock ∧ some k_ ≠ (.slice Ao52 t304.length co52 : Value).ownBlock ∧ some k_ ≠ (.slice Ao65 t313.length co65 : Value).ownBlock) s_.2.1 t335) ∧ (w'.heap[gb277]? = some (.cells #[.slice A0_0 l0_0.length c0_0, .slice A0_1 l0_1.length c0_1, .int .i64 a0_2, .int .i64 a0_3] 50 (0, 0))) ∧ (w'.heap[gb278]? = some (.cells #[.int .i64 a1_0, .int .i64 a1_1, .int .i64 a1_2, .int .i64 a1_3, .int .i64 a1_4, .int .i64 a1_5, .int .i64 a1_6, .int .i64 a1_7, .int .i64 a1_8, .int .i64 a1_9, .int .i64 a1_10, .bool a1_11, .bool a1_12] 75 (0, 0))) ∧ (w'.heap[gb309]? = some (.cells #[.slice Ao50 t301.length co50, .slice Ao52 t304.length co52, .int .i64 t307, .int .i64 t308] 56 (0, 0))) ∧ (w'.heap[gb318]? = some (.cells #[.slice Ao60 t310.length co60, .slice Ao65 t313.length co65, .int .i64 t316, .int .i64 t317] 56 (0, 0))) ∧ (w'.heap[s_.2.2]? = some (.cells #[.slice none 0 0, .slice none 0 0, .int .i64 0, .int .i64 0] 56 (0, 0))) ∧ (w.heap.size ≤ s_.2.2) ∧ (w.heap.size ≤ s_.2.2) ∧ (gb277 ≠ s_.2.2) ∧ (s_.2.2 ≠ gb277) ∧ (gb278 ≠ s_.2.2) ∧ (s_.2.2 ≠ gb278) ∧ (gb309 ≠ s_.2.2) ∧ (s_.2.2 ≠ gb309) ∧ (gb318 ≠ s_.2.2) ∧ (s_.2.2 ≠ gb318) ∧ (Below w.heap.size w w')) ?_ ?_
  rotate_left
  · intro hCont
    refine two_ (i := 2) (j := 4) (Ni := some 27) (Nj := some 8) (M11_6 7) (M11_6 19) rfl rfl rfl rfl (by kernel_rfl) (by decide) (by decide) (fun K hK => ?_) (fun K hK => ?_)
    · skip
      refine goes_ Try.func59 (by kernel_rfl) rfl #[.agg #[.int .i64 a1_0, .int .i64 a1_1, .int .i64 a1_2, .int .i64 a1_3, .int .i64 a1_4, .int .i64 a1_5, .int .i64 a1_6, .int .i64 a1_7, .int .i64 a1_8, .int .i64 a1_9, .int .i64 a1_10, .bool a1_11, .bool a1_12]] (by rfl) rfl rfl Z11_109 ?_
      with_reducible refine (laws_toPiece.calls a1_0 a1_1 a1_2 a1_3 a1_4 a1_5 a1_6 a1_7 a1_8 a1_9 a1_10 a1_11 a1_12 t319 t320 t321 t322 t323 t324 t325 t326 t327 t328 t329 t330 t331 _ A14.out).mono ?_
      rintro e w68 ⟨rfl, hb⟩
      refine ⟨_, rfl, ?_⟩
      have n0_ := Aside0.mk Z11_126
      have n1_ := Aside0.mk Z11_127
      have n2_ := Aside0.mk Z11_128
      have n3_ := Aside0.mk Z11_129
      have n4_ := Aside0.mk Z11_130
      have n5_ := Aside0.mk Z11_131
      have n6_ := Aside0.mk Z11_57
      have n7_ := Aside0.mk Z11_25
      have n8_ := Aside0.mk Z11_58
      have n9_ := Aside0.mk Z11_59
      have n10_ := Aside0.mk Z11_52
      clear HO282
      clear HO285
      clear HO303
      clear HO306
      clear HO312
      clear HO315
      clear BK277
      clear BK278
      clear BK309
      clear BK318
      clear HB
      have HO282 := n0_
      have HO285 := n1_
      have HO303 := n2_
      have HO306 := n3_
      have HO312 := n4_
      have HO315 := n5_
      have BK277 := n6_
      have BK278 := n7_
      have BK309 := n8_
      have BK318 := n9_
      have HB := n10_
      clear n0_ n1_ n2_ n3_ n4_ n5_ n6_ n7_ n8_ n9_ n10_
      (try clear hb)
      (try clear hb2)
      (try clear hk)
      (try clear hi)
      refine hK.out _ _ (D11_4 BK318.out (C11_13 BK278.out).1) (fun hHeld => ?_)
      clear hK K
      refine norm_ (a' := ?_) ?_ ?_
      rotate_left
      · show Act.put _ (some 27) _ = _
        simp only [Act.put, List.setIfInBounds_toArray, List.set_cons_zero, List.set_cons_succ, i64_w, i32_w]
        rfl
      refine two_ (i := 3) (j := 4) (Ni := some 28) (Nj := some 8) (M11_6 15) (M11_6 23) rfl rfl rfl rfl (by kernel_rfl) (by decide) (by decide) (fun K hK => ?_) (fun K hK => ?_)
      · skip
        refine goes_ Try.func60 (by kernel_rfl) rfl #[.agg #[.slice Ao60 t310.length co60, .slice Ao65 t313.length co65, .int .i64 t316, .int .i64 t317], .agg #[.int .i64 t319, .int .i64 t320, .int .i64 t321, .int .i64 t322, .int .i64 t323, .int .i64 t324, .int .i64 t325, .int .i64 t326, .int .i64 t327, .int .i64 t328, .int .i64 t329, .bool t330, .bool t331]] (by rfl) rfl rfl Z11_109 ?_
        with_reducible refine (impl_SetPiece.calls _ _ t310 _ _ t313 t316 t317 t319 t320 t321 t322 t323 t324 t325 t326 t327 t328 t329 t330 t331 t332 t335 t338 t339 _ ?side1 ?side2 ?side3 ?side4 A15.out).mono ?_
        (case side1 => repeat (first | exact (Kd.R_reads' HO312.out).2.2 | (with_reducible refine Kd.C_alloc ?_ _) | (with_reducible refine Kd.C_drewN ?_ _) | (with_reducible refine Kd.C_drew ?_)))
        (case side2 => exact (Kd.R_reads' HO312.out).2.1)
        (case side3 => repeat (first | exact (Kd.R_reads' HO315.out).2.2 | (with_reducible refine Kd.C_alloc ?_ _) | (with_reducible refine Kd.C_drewN ?_ _) | (with_reducible refine Kd.C_drew ?_)))
        (case side4 => exact (Kd.R_reads' HO315.out).2.1)
        rintro e w69 ⟨v333, v336, rfl, ho0, ho1, hb⟩
        refine ⟨_, rfl, ?_⟩
        have n0_ := Aside0.mk Z11_110
        have n1_ := Aside0.mk Z11_111
        have n2_ := Aside0.mk Z11_112
        have n3_ := Aside0.mk Z11_113
        have n4_ := Aside0.mk Z11_114
        have n5_ := Aside0.mk Z11_115
        have n6_ := Aside0.mk (Kd.R_lower (Kd.R_new' (Kd.R_new' (Kd.R_new' ho0 (Kd.R_lt Z11_148)) (Kd.R_lt Z11_150)) (Kd.R_lt Z11_152)) (below_size Z11_61))
        have n7_ := Aside0.mk (Kd.R_lower (Kd.R_new' (Kd.R_new' (Kd.R_new' ho1 (Kd.R_lt Z11_149)) (Kd.R_lt Z11_151)) (Kd.R_lt Z11_153)) (below_size Z11_61))
        have n8_ := Aside0.mk Z11_57
        have n9_ := Aside0.mk Z11_25
        have n10_ := Aside0.mk Z11_58
        have n11_ := Aside0.mk Z11_59
        have n12_ := Aside0.mk Z11_52
        clear HO282
        clear HO285
        clear HO303
        clear HO306
        clear HO312
        clear HO315
        clear BK277
        clear BK278
        clear BK309
        clear BK318
        clear HB
        have HO282 := n0_
        have HO285 := n1_
        have HO303 := n2_
        have HO306 := n3_
        have HO312 := n4_
        have HO315 := n5_
        have HO334 := n6_
        have HO337 := n7_
        have BK277 := n8_
        have BK278 := n9_
        have BK309 := n10_
        have BK318 := n11_
        have HB := n12_
        clear n0_ n1_ n2_ n3_ n4_ n5_ n6_ n7_ n8_ n9_ n10_ n11_ n12_
        (try clear hb)
        (try clear hb2)
        (try clear hk)
        (try clear hi)
        (try clear ho0)
        (try clear ho1)
        refine hK.out _ _ (D11_4 BK318.out (C11_13 BK278.out).1) (fun hHeld => ?_)
        clear hK K
        refine norm_ (a' := ?_) ?_ ?_
        rotate_left
        · show Act.put _ (some 28) _ = _
          simp only [Act.put, List.setIfInBounds_toArray, List.set_cons_zero, List.set_cons_succ, i64_w, i32_w]
          rfl
        refine one_ (i := 4) (N := some 8) (M11_6 31) rfl rfl (by kernel_rfl) (by decide) (fun K hK => ?_)
        refine box_step ?hg (N := 8) ?hd (cs := #[.slice none 0 0, .slice none 0 0, .int .i64 0, .int .i64 0]) (t := 56) ?hr ?_; (case hd => rfl); (case hg => rfl); (case hr => first | (go_simp; done) | (go_simp; rfl))
        intro gb340 hg w70 hbox hb
        have n0_ := Aside0.mk Z11_126
        have n1_ := Aside0.mk Z11_127
        have n2_ := Aside0.mk Z11_128
        have n3_ := Aside0.mk Z11_129
        have n4_ := Aside0.mk Z11_130
        have n5_ := Aside0.mk Z11_131
        have n6_ := Aside0.mk Z11_132
        have n7_ := Aside0.mk Z11_133
        have n8_ := Aside0.mk Z11_57
        have n9_ := Aside0.mk Z11_25
        have n10_ := Aside0.mk Z11_58
        have n11_ := Aside0.mk Z11_59
        have n12_ := Aside0.mk Z11_52
        have n13_ := Aside0.mk (hbox)
        have n14_ := Aside0.mk Z11_29
        have n15_ := Aside0.mk Z11_29
        have n16_ := Aside0.mk Z11_34
        have n17_ := Aside0.mk Z11_35
        have n18_ := Aside0.mk Z11_19
        have n19_ := Aside0.mk Z11_20
        have n20_ := Aside0.mk Z11_36
        have n21_ := Aside0.mk Z11_37
        have n22_ := Aside0.mk Z11_38
        have n23_ := Aside0.mk Z11_39
        clear HO282
        clear HO285
        clear HO303
        clear HO306
        clear HO312
        clear HO315
        clear HO334
        clear HO337
        clear BK277
        clear BK278
        clear BK309
        clear BK318
        clear HB
        have HO282 := n0_
        have HO285 := n1_
        have HO303 := n2_
        have HO306 := n3_
        have HO312 := n4_
        have HO315 := n5_
        have HO334 := n6_
        have HO337 := n7_
        have BK277 := n8_
        have BK278 := n9_
        have BK309 := n10_
        have BK318 := n11_
        have HB := n12_
        have BK340 := n13_
        have GW340 := n14_
        have GE340 := n15_
        have NB277_340 := n16_
        have NB340_277 := n17_
        have NB278_340 := n18_
        have NB340_278 := n19_
        have NB309_340 := n20_
        have NB340_309 := n21_
        have NB318_340 := n22_
        have NB340_318 := n23_
        clear n0_ n1_ n2_ n3_ n4_ n5_ n6_ n7_ n8_ n9_ n10_ n11_ n12_ n13_ n14_ n15_ n16_ n17_ n18_ n19_ n20_ n21_ n22_ n23_
        clear hb hbox hg
        refine hK.out _ _ (D11_4 BK318.out (C11_13 BK278.out).1) (fun hHeld => ?_)
        clear hK K
        refine norm_ (a' := ?_) ?_ ?_
        rotate_left
        · show Act.put _ (some 8) _ = _
          simp only [Act.put, List.setIfInBounds_toArray, List.set_cons_zero, List.set_cons_succ, i64_w, i32_w]
          rfl
        exact norm_ Z11_158 (hCont (v333, v336, gb340) _ ⟨hHeld, Z11_102, Z11_103, Z11_104, Z11_105, Z11_106, Z11_107, Z11_100, Z11_101, Z11_140, Z11_141, Z11_142, Z11_143, Z11_144, GW340.out, GE340.out, NB277_340.out, NB340_277.out, NB278_340.out, NB340_278.out, NB309_340.out, NB340_309.out, NB318_340.out, NB340_318.out, Z11_49⟩)
      · skip
        refine box_step ?hg (N := 8) ?hd (cs := #[.slice none 0 0, .slice none 0 0, .int .i64 0, .int .i64 0]) (t := 56) ?hr ?_; (case hd => rfl); (case hg => rfl); (case hr => first | (go_simp; done) | (go_simp; rfl))
        intro gb340 hg w69 hbox hb
        have n0_ := Aside0.mk Z11_126
        have n1_ := Aside0.mk Z11_127
        have n2_ := Aside0.mk Z11_128
        have n3_ := Aside0.mk Z11_129
        have n4_ := Aside0.mk Z11_130
        have n5_ := Aside0.mk Z11_131
        have n6_ := Aside0.mk Z11_57
        have n7_ := Aside0.mk Z11_25
        have n8_ := Aside0.mk Z11_58
        have n9_ := Aside0.mk Z11_59
        have n10_ := Aside0.mk Z11_52
        have n11_ := Aside0.mk (hbox)
        have n12_ := Aside0.mk Z11_29
        have n13_ := Aside0.mk Z11_29
        have n14_ := Aside0.mk Z11_34
        have n15_ := Aside0.mk Z11_35
        have n16_ := Aside0.mk Z11_19
        have n17_ := Aside0.mk Z11_20
        have n18_ := Aside0.mk Z11_36
        have n19_ := Aside0.mk Z11_37
        have n20_ := Aside0.mk Z11_38
        have n21_ := Aside0.mk Z11_39
        clear HO282
        clear HO285
        clear HO303
        clear HO306
        clear HO312
        clear HO315
        clear BK277
        clear BK278
        clear BK309
        clear BK318
        clear HB
        have HO282 := n0_
        have HO285 := n1_
        have HO303 := n2_
        have HO306 := n3_
        have HO312 := n4_
        have HO315 := n5_
        have BK277 := n6_
        have BK278 := n7_
        have BK309 := n8_
        have BK318 := n9_
        have HB := n10_
        have BK340 := n11_
        have GW340 := n12_
        have GE340 := n13_
        have NB277_340 := n14_
        have NB340_277 := n15_
        have NB278_340 := n16_
        have NB340_278 := n17_
        have NB309_340 := n18_
        have NB340_309 := n19_
        have NB318_340 := n20_
        have NB340_318 := n21_
        clear n0_ n1_ n2_ n3_ n4_ n5_ n6_ n7_ n8_ n9_ n10_ n11_ n12_ n13_ n14_ n15_ n16_ n17_ n18_ n19_ n20_ n21_
        clear hb hbox hg
        refine hK.out _ _ (D11_4 BK318.out (C11_13 BK278.out).1) (fun hHeld => ?_)
        clear hK K
        refine norm_ (a' := ?_) ?_ ?_
        rotate_left
        · show Act.put _ (some 8) _ = _
          simp only [Act.put, List.setIfInBounds_toArray, List.set_cons_zero, List.set_cons_succ, i64_w, i32_w]
          rfl
        refine one_ (i := 3) (N := some 28) (M11_6 31) rfl rfl (by kernel_rfl) (by decide) (fun K hK => ?_)
        refine goes_ Try.func60 (by kernel_rfl) rfl #[.agg #[.slice Ao60 t310.length co60, .slice Ao65 t313.length co65, .int .i64 t316, .int .i64 t317], .agg #[.int .i64 t319, .int .i64 t320, .int .i64 t321, .int .i64 t322, .int .i64 t323, .int .i64 t324, .int .i64 t325, .int .i64 t326, .int .i64 t327, .int .i64 t328, .int .i64 t329, .bool t330, .bool t331]] (by rfl) rfl rfl Z11_109 ?_
        with_reducible refine (impl_SetPiece.calls _ _ t310 _ _ t313 t316 t317 t319 t320 t321 t322 t323 t324 t325 t326 t327 t328 t329 t330 t331 t332 t335 t338 t339 _ ?side1 ?side2 ?side3 ?side4 A15.out).mono ?_
        (case side1 => repeat (first | exact (Kd.R_reads' HO312.out).2.2 | (with_reducible refine Kd.C_alloc ?_ _) | (with_reducible refine Kd.C_drewN ?_ _) | (with_reducible refine Kd.C_drew ?_)))
        (case side2 => exact (Kd.R_reads' HO312.out).2.1)
        (case side3 => repeat (first | exact (Kd.R_reads' HO315.out).2.2 | (with_reducible refine Kd.C_alloc ?_ _) | (with_reducible refine Kd.C_drewN ?_ _) | (with_reducible refine Kd.C_drew ?_)))
        (case side4 => exact (Kd.R_reads' HO315.out).2.1)
        rintro e w70 ⟨v333, v336, rfl, ho0, ho1, hb⟩
        refine ⟨_, rfl, ?_⟩
        have n0_ := Aside0.mk Z11_110
        have n1_ := Aside0.mk Z11_111
        have n2_ := Aside0.mk Z11_112
        have n3_ := Aside0.mk Z11_113
        have n4_ := Aside0.mk Z11_114
        have n5_ := Aside0.mk Z11_115
        have n6_ := Aside0.mk Z11_3
        have n7_ := Aside0.mk Z11_4
        have n8_ := Aside0.mk Z11_57
        have n9_ := Aside0.mk Z11_25
        have n10_ := Aside0.mk Z11_58
        have n11_ := Aside0.mk Z11_59
        have n12_ := Aside0.mk Z11_67
        have n13_ := Aside0.mk Z11_40
        clear HO282
        clear HO285
        clear HO303
        clear HO306
        clear HO312
        clear HO315
        clear BK277
        clear BK278
        clear BK309
        clear BK318
        clear BK340
        clear HB
        have HO282 := n0_
        have HO285 := n1_
        have HO303 := n2_
        have HO306 := n3_
        have HO312 := n4_
        have HO315 := n5_
        have HO334 := n6_
        have HO337 := n7_
        have BK277 := n8_
        have BK278 := n9_
        have BK309 := n10_
        have BK318 := n11_
        have BK340 := n12_
        have HB := n13_
        clear n0_ n1_ n2_ n3_ n4_ n5_ n6_ n7_ n8_ n9_ n10_ n11_ n12_ n13_
        (try clear hb)
        (try clear hb2)
        (try clear hk)
        (try clear hi)
        (try clear ho0)
        (try clear ho1)
        refine hK.out _ _ (D11_4 BK318.out (C11_13 BK278.out).1) (fun hHeld => ?_)
        clear hK K
        refine norm_ (a' := ?_) ?_ ?_
        rotate_left
        · show Act.put _ (some 28) _ = _
          simp only [Act.put, List.setIfInBounds_toArray, List.set_cons_zero, List.set_cons_succ, i64_w, i32_w]
          rfl
        exact norm_ Z11_158 (hCont (v333, v336, gb340) _ ⟨hHeld, Z11_102, Z11_103, Z11_104, Z11_105, Z11_106, Z11_107, Z11_100, Z11_101, Z11_140, Z11_141, Z11_142, Z11_143, Z11_144, GW340.out, GE340.out, NB277_340.out, NB340_277.out, NB278_340.out, NB340_278.out, NB309_340.out, NB340_309.out, NB318_340.out, NB340_318.out, Z11_49⟩)
    · skip
      refine box_step ?hg (N := 8) ?hd (cs := #[.slice none 0 0, .slice none 0 0, .int .i64 0, .int .i64 0]) (t := 56) ?hr ?_; (case hd => rfl); (case hg => rfl); (case hr => first | (go_simp; done) | (go_simp; rfl))
      intro gb340 hg w68 hbox hb
      have n0_ := Aside0.mk Z11_126
      have n1_ := Aside0.mk Z11_127
      have n2_ := Aside0.mk Z11_128
      have n3_ := Aside0.mk Z11_129
      have n4_ := Aside0.mk Z11_130
      have n5_ := Aside0.mk Z11_131
      have n6_ := Aside0.mk Z11_57
      have n7_ := Aside0.mk Z11_25
      have n8_ := Aside0.mk Z11_58
      have n9_ := Aside0.mk Z11_59
      have n10_ := Aside0.mk Z11_52
      have n11_ := Aside0.mk (hbox)
      have n12_ := Aside0.mk Z11_29
      have n13_ := Aside0.mk Z11_29
      have n14_ := Aside0.mk Z11_34
      have n15_ := Aside0.mk Z11_35
      have n16_ := Aside0.mk Z11_19
      have n17_ := Aside0.mk Z11_20
      have n18_ := Aside0.mk Z11_36
      have n19_ := Aside0.mk Z11_37
      have n20_ := Aside0.mk Z11_38
      have n21_ := Aside0.mk Z11_39
      clear HO282
      clear HO285
      clear HO303
      clear HO306
      clear HO312
      clear HO315
      clear BK277
      clear BK278
      clear BK309
      clear BK318
      clear HB
      have HO282 := n0_
      have HO285 := n1_
      have HO303 := n2_
      have HO306 := n3_
      have HO312 := n4_
      have HO315 := n5_
      have BK277 := n6_
      have BK278 := n7_
      have BK309 := n8_
      have BK318 := n9_
      have HB := n10_
      have BK340 := n11_
      have GW340 := n12_
      have GE340 := n13_
      have NB277_340 := n14_
      have NB340_277 := n15_
      have NB278_340 := n16_
      have NB340_278 := n17_
      have NB309_340 := n18_
      have NB340_309 := n19_
      have NB318_340 := n20_
      have NB340_318 := n21_
      clear n0_ n1_ n2_ n3_ n4_ n5_ n6_ n7_ n8_ n9_ n10_ n11_ n12_ n13_ n14_ n15_ n16_ n17_ n18_ n19_ n20_ n21_
      clear hb hbox hg
      refine hK.out _ _ (D11_4 BK318.out (C11_13 BK278.out).1) (fun hHeld => ?_)
      clear hK K
      refine norm_ (a' := ?_) ?_ ?_
      rotate_left
      · show Act.put _ (some 8) _ = _
        simp only [Act.put, List.setIfInBounds_toArray, List.set_cons_zero, List.set_cons_succ, i64_w, i32_w]
        rfl
      refine one_ (i := 2) (N := some 27) (M11_6 23) rfl rfl (by kernel_rfl) (by decide) (fun K hK => ?_)
      refine goes_ Try.func59 (by kernel_rfl) rfl #[.agg #[.int .i64 a1_0, .int .i64 a1_1, .int .i64 a1_2, .int .i64 a1_3, .int .i64 a1_4, .int .i64 a1_5, .int .i64 a1_6, .int .i64 a1_7, .int .i64 a1_8, .int .i64 a1_9, .int .i64 a1_10, .bool a1_11, .bool a1_12]] (by rfl) rfl rfl Z11_109 ?_
      with_reducible refine (laws_toPiece.calls a1_0 a1_1 a1_2 a1_3 a1_4 a1_5 a1_6 a1_7 a1_8 a1_9 a1_10 a1_11 a1_12 t319 t320 t321 t322 t323 t324 t325 t326 t327 t328 t329 t330 t331 _ A14.out).mono ?_
      rintro e w69 ⟨rfl, hb⟩
      refine ⟨_, rfl, ?_⟩
      have n0_ := Aside0.mk Z11_126
      have n1_ := Aside0.mk Z11_127
      have n2_ := Aside0.mk Z11_128
      have n3_ := Aside0.mk Z11_129
      have n4_ := Aside0.mk Z11_130
      have n5_ := Aside0.mk Z11_131
      have n6_ := Aside0.mk Z11_57
      have n7_ := Aside0.mk Z11_25
      have n8_ := Aside0.mk Z11_58
      have n9_ := Aside0.mk Z11_59
      have n10_ := Aside0.mk Z11_67
      have n11_ := Aside0.mk Z11_40
      clear HO282
      clear HO285
      clear HO303
      clear HO306
      clear HO312
      clear HO315
      clear BK277
      clear BK278
      clear BK309
      clear BK318
      clear BK340
      clear HB
      have HO282 := n0_
      have HO285 := n1_
      have HO303 := n2_
      have HO306 := n3_
      have HO312 := n4_
      have HO315 := n5_
      have BK277 := n6_
      have BK278 := n7_
      have BK309 := n8_
      have BK318 := n9_
      have BK340 := n10_
      have HB := n11_
      clear n0_ n1_ n2_ n3_ n4_ n5_ n6_ n7_ n8_ n9_ n10_ n11_
      (try clear hb)
      (try clear hb2)
      (try clear hk)
      (try clear hi)
      refine hK.out _ _ (D11_4 BK318.out (C11_13 BK278.out).1) (fun hHeld => ?_)
      clear hK K
      refine norm_ (a' := ?_) ?_ ?_
      rotate_left
      · show Act.put _ (some 27) _ = _
        simp only [Act.put, List.setIfInBounds_toArray, List.set_cons_zero, List.set_cons_succ, i64_w, i32_w]
        rfl
      refine one_ (i := 3) (N := some 28) (M11_6 31) rfl rfl (by kernel_rfl) (by decide) (fun K hK => ?_)
      refine goes_ Try.func60 (by kernel_rfl) rfl #[.agg #[.slice Ao60 t310.length co60, .slice Ao65 t313.length co65, .int .i64 t316, .int .i64 t317], .agg #[.int .i64 t319, .int .i64 t320, .int .i64 t321, .int .i64 t322, .int .i64 t323, .int .i64 t324, .int .i64 t325, .int .i64 t326, .int .i64 t327, .int .i64 t328, .int .i64 t329, .bool t330, .bool t331]] (by rfl) rfl rfl Z11_109 ?_
      with_reducible refine (impl_SetPiece.calls _ _ t310 _ _ t313 t316 t317 t319 t320 t321 t322 t323 t324 t325 t326 t327 t328 t329 t330 t331 t332 t335 t338 t339 _ ?side1 ?side2 ?side3 ?side4 A15.out).mono ?_
      (case side1 => repeat (first | exact (Kd.R_reads' HO312.out).2.2 | (with_reducible refine Kd.C_alloc ?_ _) | (with_reducible refine Kd.C_drewN ?_ _) | (with_reducible refine Kd.C_drew ?_)))
      (case side2 => exact (Kd.R_reads' HO312.out).2.1)
      (case side3 => repeat (first | exact (Kd.R_reads' HO315.out).2.2 | (with_reducible refine Kd.C_alloc ?_ _) | (with_reducible refine Kd.C_drewN ?_ _) | (with_reducible refine Kd.C_drew ?_)))
      (case side4 => exact (Kd.R_reads' HO315.out).2.1)
      rintro e w70 ⟨v333, v336, rfl, ho0, ho1, hb⟩
      refine ⟨_, rfl, ?_⟩
      have n0_ := Aside0.mk Z11_110
      have n1_ := Aside0.mk Z11_111
      have n2_ := Aside0.mk Z11_112
      have n3_ := Aside0.mk Z11_113
      have n4_ := Aside0.mk Z11_114
      have n5_ := Aside0.mk Z11_115
      have n6_ := Aside0.mk Z11_3
      have n7_ := Aside0.mk Z11_4
      have n8_ := Aside0.mk Z11_57
      have n9_ := Aside0.mk Z11_25
      have n10_ := Aside0.mk Z11_58
      have n11_ := Aside0.mk Z11_59
      have n12_ := Aside0.mk Z11_67
      have n13_ := Aside0.mk Z11_40
      clear HO282
      clear HO285
      clear HO303
      clear HO306
      clear HO312
      clear HO315
      clear BK277
      clear BK278
      clear BK309
      clear BK318
      clear BK340
      clear HB
      have HO282 := n0_
      have HO285 := n1_
      have HO303 := n2_
      have HO306 := n3_
      have HO312 := n4_
      have HO315 := n5_
      have HO334 := n6_
      have HO337 := n7_
      have BK277 := n8_
      have BK278 := n9_
      have BK309 := n10_
      have BK318 := n11_
      have BK340 := n12_
      have HB := n13_
      clear n0_ n1_ n2_ n3_ n4_ n5_ n6_ n7_ n8_ n9_ n10_ n11_ n12_ n13_
      (try clear hb)
      (try clear hb2)
      (try clear hk)
      (try clear hi)
      (try clear ho0)
      (try clear ho1)
      refine hK.out _ _ (D11_4 BK318.out (C11_13 BK278.out).1) (fun hHeld => ?_)
      clear hK K
      refine norm_ (a' := ?_) ?_ ?_
      rotate_left
      · show Act.put _ (some 28) _ = _
        simp only [Act.put, List.setIfInBounds_toArray, List.set_cons_zero, List.set_cons_succ, i64_w, i32_w]
        rfl
      exact norm_ Z11_158 (hCont (v333, v336, gb340) _ ⟨hHeld, Z11_102, Z11_103, Z11_104, Z11_105, Z11_106, Z11_107, Z11_100, Z11_101, Z11_140, Z11_141, Z11_142, Z11_143, Z11_144, GW340.out, GE340.out, NB277_340.out, NB340_277.out, NB278_340.out, NB340_278.out, NB309_340.out, NB340_309.out, NB318_340.out, NB340_318.out, Z11_49⟩)
  rintro ⟨v333, v336, gb340⟩ w71 ⟨hS_, h0_, h1_, h2_, h3_, h4_, h5_, h6_, h7_, h8_, h9_, h10_, h11_, h12_, h13_, h14_, h15_, h16_, h17_, h18_, h19_, h20_, h21_, h22_, h23_⟩
  have n0_ : Aside0 (Kd.R k25 25 w71 w.heap.size (fun k_ => some k_ ≠ (.slice Ao50 t301.length co50 : Value).ownBlock ∧ some k_ ≠ (.slice Ao60 t310.length co60 : Value).ownBlock ∧ some k_ ≠ (v333 : Value).ownBlock) v281 t280) := ⟨h0_⟩
  have n1_ : Aside0 (Kd.R k71 71 w71 w.heap.size (fun k_ => some k_ ≠ (.slice Ao52 t304.length co52 : Value).ownBlock ∧ some k_ ≠ (.slice Ao65 t313.length co65 : Value).ownBlock ∧ some k_ ≠ (v336 : Value).ownBlock) v284 t283) := ⟨h1_⟩
  have n2_ : Aside0 (Kd.R k25 25 w71 w.heap.size (fun k_ => some k_ ≠ (v281 : Value).ownBlock ∧ some k_ ≠ (.slice Ao60 t310.length co60 : Value).ownBlock ∧ some k_ ≠ (v333 : Value).ownBlock) (.slice Ao50 t301.length co50) t301) := ⟨h2_⟩
  have n3_ : Aside0 (Kd.R k71 71 w71 w.heap.size (fun k_ => some k_ ≠ (v284 : Value).ownBlock ∧ some k_ ≠ (.slice Ao65 t313.length co65 : Value).ownBlock ∧ some k_ ≠ (v336 : Value).ownBlock) (.slice Ao52 t304.length co52) t304) := ⟨h3_⟩
  have n4_ : Aside0 (Kd.R k25 25 w71 w.heap.size (fun k_ => some k_ ≠ (v281 : Value).ownBlock ∧ some k_ ≠ (.slice Ao50 t301.length co50 : Value).ownBlock ∧ some k_ ≠ (v333 : Value).ownBlock) (.slice Ao60 t310.length co60) t310) := ⟨h4_⟩
  have n5_ : Aside0 (Kd.R k71 71 w71 w.heap.size (fun k_ => some k_ ≠ (v284 : Value).ownBlock ∧ some k_ ≠ (.slice Ao52 t304.length co52 : Value).ownBlock ∧ some k_ ≠ (v336 : Value).ownBlock) (.slice Ao65 t313.length co65) t313) := ⟨h5_⟩
  have n6_ : Aside0 (Kd.R k25 25 w71 w.heap.size (fun k_ => some k_ ≠ (v281 : Value).ownBlock ∧ some k_ ≠ (.slice Ao50 t301.length co50 : Value).ownBlock ∧ some k_ ≠ (.slice Ao60 t310.length co60 : Value).ownBlock) v333 t332) := ⟨h6_⟩
  have n7_ : Aside0 (Kd.R k71 71 w71 w.heap.size (fun k_ => some k_ ≠ (v284 : Value).ownBlock ∧ some k_ ≠ (.slice Ao52 t304.length co52 : Value).ownBlock ∧ some k_ ≠ (.slice Ao65 t313.length co65 : Value).ownBlock) v336 t335) := ⟨h7_⟩
  have n8_ : Aside0 (w71.heap[gb277]? = some (.cells #[.slice A0_0 l0_0.length c0_0, .slice A0_1 l0_1.length c0_1, .int .i64 a0_2, .int .i64 a0_3] 50 (0, 0))) := ⟨h8_⟩
  have n9_ : Aside0 (w71.heap[gb278]? = some (.cells #[.int .i64 a1_0, .int .i64 a1_1, .int .i64 a1_2, .int .i64 a1_3, .int .i64 a1_4, .int .i64 a1_5, .int .i64 a1_6, .int .i64 a1_7, .int .i64 a1_8, .int .i64 a1_9, .int .i64 a1_10, .bool a1_11, .bool a1_12] 75 (0, 0))) := ⟨h9_⟩
  have n10_ : Aside0 (w71.heap[gb309]? = some (.cells #[.slice Ao50 t301.length co50, .slice Ao52 t304.length co52, .int .i64 t307, .int .i64 t308] 56 (0, 0))) := ⟨h10_⟩
  have n11_ : Aside0 (w71.heap[gb318]? = some (.cells #[.slice Ao60 t310.length co60, .slice Ao65 t313.length co65, .int .i64 t316, .int .i64 t317] 56 (0, 0))) := ⟨h11_⟩
  have n12_ : Aside0 (w71.heap[gb340]? = some (.cells #[.slice none 0 0, .slice none 0 0, .int .i64 0, .int .i64 0] 56 (0, 0))) := ⟨h12_⟩
  have n13_ : Aside0 (w.heap.size ≤ gb340) := ⟨h13_⟩
  have n14_ : Aside0 (w.heap.size ≤ gb340) := ⟨h14_⟩
  have n15_ : Aside0 (gb277 ≠ gb340) := ⟨h15_⟩
  have n16_ : Aside0 (gb340 ≠ gb277) := ⟨h16_⟩
  have n17_ : Aside0 (gb278 ≠ gb340) := ⟨h17_⟩
  have n18_ : Aside0 (gb340 ≠ gb278) := ⟨h18_⟩
  have n19_ : Aside0 (gb309 ≠ gb340) := ⟨h19_⟩
  have n20_ : Aside0 (gb340 ≠ gb309) := ⟨h20_⟩
  have n21_ : Aside0 (gb318 ≠ gb340) := ⟨h21_⟩
  have n22_ : Aside0 (gb340 ≠ gb318) := ⟨h22_⟩
  have n23_ : Aside0 (Below w.heap.size w w71) := ⟨h23_⟩
  clear HO282
  clear HO285
  clear HO303
  clear HO306
  clear HO312
  clear HO315
  clear BK277
  clear BK278
  clear BK309
  clear BK318
  clear HB
  clear h0_ h1_ h2_ h3_ h4_ h5_ h6_ h7_ h8_ h9_ h10_ h11_ h12_ h13_ h14_ h15_ h16_ h17_ h18_ h19_ h20_ h21_ h22_ h23_
  have HO282 := n0_
  have HO285 := n1_
  have HO303 := n2_
  have HO306 := n3_
  have HO312 := n4_
  have HO315 := n5_
  have HO334 := n6_
  have HO337 := n7_
  have BK277 := n8_
  have BK278 := n9_
  have BK309 := n10_
  have BK318 := n11_
  have BK340 := n12_
  have GW340 := n13_
  have GE340 := n14_
  have NB277_340 := n15_
  have NB340_277 := n16_
  have NB278_340 := n17_
  have NB340_278 := n18_
  have NB309_340 := n19_
  have NB340_309 := n20_
  have NB318_340 := n21_
  have NB340_318 := n22_
  have HB := n23_
  clear n0_ n1_ n2_ n3_ n4_ n5_ n6_ n7_ n8_ n9_ n10_ n11_ n12_ n13_ n14_ n15_ n16_ n17_ n18_ n19_ n20_ n21_ n22_ n23_
  have hHeld : w71.cell? ⟨gb318, 0, none⟩ = some (.slice Ao60 t310.length co60) ∧ w71.cell? ⟨gb318, 1, none⟩ = some (.slice Ao65 t313.length co65) ∧ w71.cell? ⟨gb318, 2, none⟩ = some (.int .i64 t316) ∧ w71.cell? ⟨gb318, 3, none⟩ = some (.int .i64 t317) ∧ w71.cell? ⟨gb278, 0, none⟩ = some (.int .i64 a1_0) ∧ w71.cell? ⟨gb278, 1, none⟩ = some (.int .i64 a1_1) ∧ w71.cell? ⟨gb278, 2, none⟩ = some (.int .i64 a1_2) ∧ w71.cell? ⟨gb278, 3, none⟩ = some (.int .i64 a1_3) ∧ w71.cell? ⟨gb278, 4, none⟩ = some (.int .i64 a1_4) ∧ w71.cell? ⟨gb278, 5, none⟩ = some (.int .i64 a1_5) ∧ w71.cell? ⟨gb278, 6, none⟩ = some (.int .i64 a1_6) ∧ w71.cell? ⟨gb278, 7, none⟩ = some (.int .i64 a1_7) ∧ w71.cell? ⟨gb278, 8, none⟩ = some (.int .i64 a1_8) ∧ w71.cell? ⟨gb278, 9, none⟩ = some (.int .i64 a1_9) ∧ w71.cell? ⟨gb278, 10, none⟩ = some (.int .i64 a1_10) ∧ w71.cell? ⟨gb278, 11, none⟩ = some (.bool a1_11) ∧ w71.cell? ⟨gb278, 12, none⟩ = some (.bool a1_12) := hS_
  obtain ⟨Ao72, co72, eo72⟩ := Kd.R_slice HO334.out
  (first | subst eo72 | (injection eo72 with f1_ f2_ f3_; have f4_ := f1_.symm; have f5_ := f3_.symm; clear f1_ f2_ f3_; subst f4_; subst f5_))
  obtain ⟨Ao74, co74, eo74⟩ := Kd.R_slice HO337.out
  (first | subst eo74 | (injection eo74 with f1_ f2_ f3_; have f4_ := f1_.symm; have f5_ := f3_.symm; clear f1_ f2_ f3_; subst f4_; subst f5_))
  refine norm_ (a' := ?_) ?_ ?_
  rotate_left
  · simp only [putAll, Act.put, List.setIfInBounds_toArray, List.set_cons_zero, List.set_cons_succ]
    rfl
  refine one_ (i := 5) (N := none) (M11_6 63) rfl rfl (by kernel_rfl) (by decide) (fun K hK => ?_)
  obtain ⟨⟨hs73, hs75, hs76, hs77⟩, hfs73, hfs75, hfs76, hfs77⟩ := C11_4 BK340.out
  have hns73_0 := NB277_340.out
  have hns73_1 := NB278_340.out
  have hns73_2 := NB309_340.out
  have hns73_3 := NB318_340.out
  have hms73_0 := NB340_277.out
  have hms73_1 := NB340_278.out
  have hms73_2 := NB340_309.out
  have hms73_3 := NB340_318.out
  refine skip_ (w1 := ?_) (by rfl) rfl ?_ ?_
  rotate_left
  · go_simp
    rfl
  refine hK.out _ _ ?_ (fun hHeld => ?_)
  · exact ⟨((F11_4 (g := gb340) NB318_340.out).trans (hHeld.1)), ⟨((F11_4 (g := gb340) NB318_340.out).trans (hHeld.2.1)), ⟨((F11_4 (g := gb340) NB318_340.out).trans (hHeld.2.2.1)), ⟨((F11_4 (g := gb340) NB318_340.out).trans (hHeld.2.2.2.1)), ⟨((F11_4 (g := gb340) NB278_340.out).trans (hHeld.2.2.2.2.1)), ⟨((F11_4 (g := gb340) NB278_340.out).trans (hHeld.2.2.2.2.2.1)), ⟨((F11_4 (g := gb340) NB278_340.out).trans (hHeld.2.2.2.2.2.2.1)), ⟨((F11_4 (g := gb340) NB278_340.out).trans (hHeld.2.2.2.2.2.2.2.1)), ⟨((F11_4 (g := gb340) NB278_340.out).trans (hHeld.2.2.2.2.2.2.2.2.1)), ⟨((F11_4 (g := gb340) NB278_340.out).trans (hHeld.2.2.2.2.2.2.2.2.2.1)), ⟨((F11_4 (g := gb340) NB278_340.out).trans (hHeld.2.2.2.2.2.2.2.2.2.2.1)), ⟨((F11_4 (g := gb340) NB278_340.out).trans (hHeld.2.2.2.2.2.2.2.2.2.2.2.1)), ⟨((F11_4 (g := gb340) NB278_340.out).trans (hHeld.2.2.2.2.2.2.2.2.2.2.2.2.1)), ⟨((F11_4 (g := gb340) NB278_340.out).trans (hHeld.2.2.2.2.2.2.2.2.2.2.2.2.2.1)), ⟨((F11_4 (g := gb340) NB278_340.out).trans (hHeld.2.2.2.2.2.2.2.2.2.2.2.2.2.2.1)), ⟨((F11_4 (g := gb340) NB278_340.out).trans (hHeld.2.2.2.2.2.2.2.2.2.2.2.2.2.2.2.1)), (((F11_4 (g := gb340) NB278_340.out).trans (hHeld.2.2.2.2.2.2.2.2.2.2.2.2.2.2.2.2)))⟩⟩⟩⟩⟩⟩⟩⟩⟩⟩⟩⟩⟩⟩⟩⟩
  clear hK K
  refine done_ (by kernel_rfl) ?_
  have hnb78 := NB340_277.out
  have hnc78 := NB277_340.out
  have hnb79 := NB340_278.out
  have hnc79 := NB278_340.out
  have hnb80 := NB340_309.out
  have hnc80 := NB309_340.out
  have hnb81 := NB340_318.out
  have hnc81 := NB318_340.out
  obtain ⟨⟨hcz82_0, hcz82_1, hcz82_2, hcz82_3⟩, hfz82_0, hfz82_1, hfz82_2, hfz82_3⟩ := C11_4 BK340.out
  have hnb83 := NB309_278.out
  have hnc83 := NB278_309.out
  obtain ⟨⟨hcz84_0, hcz84_1, hcz84_2, hcz84_3⟩, hfz84_0, hfz84_1, hfz84_2, hfz84_3⟩ := C11_4 BK309.out
  try go_wp2_with (first | ((with_reducible refine gate_callee (f := 39) rfl ?_); refine goesL_ (some 31) rfl rfl Try.func39 (by kernel_rfl) rfl #[.agg #[.slice Ao72 t332.length co72, .slice Ao74 t335.length co74, .int .i64 t338, .int .i64 t339], .agg #[.slice Ao50 t301.length co50, .slice Ao52 t304.length co52, .int .i64 t307, .int .i64 t308]] rfl Z11_109 ?_; (with_reducible refine (laws_eqState.calls k _ _ t332 _ _ t335 t338 t339 _ _ t301 _ _ t304 t307 t308 true _ ?side1 ?side2 ?side3 ?side4 ?side5 ?side6 ?side7 ?side8 A16.out).mono ?_); (case side1 => refine (Kd.R_reads' (e := 25) (base := w.heap.size) (ok := fun k_ => (some k_ ≠ (v281 : Value).ownBlock ∧ (some k_ ≠ (.slice Ao50 t301.length co50 : Value).ownBlock ∧ some k_ ≠ (.slice Ao60 t310.length co60 : Value).ownBlock))) (n := t332.length) (c := co72) ?_).2.2; exact Z11_13); (case side2 => exact (Kd.R_reads' HO334.out).2.1); (case side3 => refine (Kd.R_reads' (e := 71) (base := w.heap.size) (ok := fun k_ => (some k_ ≠ (v284 : Value).ownBlock ∧ (some k_ ≠ (.slice Ao52 t304.length co52 : Value).ownBlock ∧ some k_ ≠ (.slice Ao65 t313.length co65 : Value).ownBlock))) (n := t335.length) (c := co74) ?_).2.2; exact Z11_14); (case side4 => exact (Kd.R_reads' HO337.out).2.1); (case side5 => refine (Kd.R_reads' (e := 25) (base := w.heap.size) (ok := fun k_ => (some k_ ≠ (v281 : Value).ownBlock ∧ (some k_ ≠ (.slice Ao60 t310.length co60 : Value).ownBlock ∧ some k_ ≠ (.slice Ao72 t332.length co72 : Value).ownBlock))) (n := t301.length) (c := co50) ?_).2.2; exact Z11_15); (case side6 => exact (Kd.R_reads' HO303.out).2.1); (case side7 => refine (Kd.R_reads' (e := 71) (base := w.heap.size) (ok := fun k_ => (some k_ ≠ (v284 : Value).ownBlock ∧ (some k_ ≠ (.slice Ao65 t313.length co65 : Value).ownBlock ∧ some k_ ≠ (.slice Ao74 t335.length co74 : Value).ownBlock))) (n := t304.length) (c := co52) ?_).2.2; exact Z11_16); (case side8 => exact (Kd.R_reads' HO306.out).2.1); rintro e w85 ⟨rfl, hb⟩; refine ⟨_, rfl, ?_⟩; have n0_ := Aside0.mk (Kd.R_below (by (with_reducible repeat (first | apply Kd.R_alloc | apply Kd.R_drewN | apply Kd.R_drew)); exact (Kd.R_mono (Kd.R_far (p := ⟨gb340, 3, none⟩) (Kd.R_far (p := ⟨gb340, 2, none⟩) (Kd.R_far (p := ⟨gb340, 1, none⟩) (Kd.R_far (p := ⟨gb340, 0, none⟩) (Kd.R_types HO282.out BK340.out (by decide)) (fun _ hk => hk.2) (.slice Ao72 t332.length co72)) (fun _ hk => hk.2) (.slice Ao74 t335.length co74)) (fun _ hk => hk.2) (.int .i64 t338)) (fun _ hk => hk.2) (.int .i64 t339)) (fun _ h_ => h_.1))) hb); have n1_ := Aside0.mk (Kd.R_below (by (with_reducible repeat (first | apply Kd.R_alloc | apply Kd.R_drewN | apply Kd.R_drew)); exact (Kd.R_mono (Kd.R_far (p := ⟨gb340, 3, none⟩) (Kd.R_far (p := ⟨gb340, 2, none⟩) (Kd.R_far (p := ⟨gb340, 1, none⟩) (Kd.R_far (p := ⟨gb340, 0, none⟩) (Kd.R_types HO285.out BK340.out (by decide)) (fun _ hk => hk.2) (.slice Ao72 t332.length co72)) (fun _ hk => hk.2) (.slice Ao74 t335.length co74)) (fun _ hk => hk.2) (.int .i64 t338)) (fun _ hk => hk.2) (.int .i64 t339)) (fun _ h_ => h_.1))) hb); have n2_ := Aside0.mk (Kd.R_below Z11_15 hb); have n3_ := Aside0.mk (Kd.R_below Z11_16 hb); have n4_ := Aside0.mk (Kd.R_below (by (with_reducible repeat (first | apply Kd.R_alloc | apply Kd.R_drewN | apply Kd.R_drew)); exact (Kd.R_mono (Kd.R_far (p := ⟨gb340, 3, none⟩) (Kd.R_far (p := ⟨gb340, 2, none⟩) (Kd.R_far (p := ⟨gb340, 1, none⟩) (Kd.R_far (p := ⟨gb340, 0, none⟩) (Kd.R_types HO312.out BK340.out (by decide)) (fun _ hk => hk.2) (.slice Ao72 t332.length co72)) (fun _ hk => hk.2) (.slice Ao74 t335.length co74)) (fun _ hk => hk.2) (.int .i64 t338)) (fun _ hk => hk.2) (.int .i64 t339)) (fun _ h_ => h_.1))) hb); have n5_ := Aside0.mk (Kd.R_below (by (with_reducible repeat (first | apply Kd.R_alloc | apply Kd.R_drewN | apply Kd.R_drew)); exact (Kd.R_mono (Kd.R_far (p := ⟨gb340, 3, none⟩) (Kd.R_far (p := ⟨gb340, 2, none⟩) (Kd.R_far (p := ⟨gb340, 1, none⟩) (Kd.R_far (p := ⟨gb340, 0, none⟩) (Kd.R_types HO315.out BK340.out (by decide)) (fun _ hk => hk.2) (.slice Ao72 t332.length co72)) (fun _ hk => hk.2) (.slice Ao74 t335.length co74)) (fun _ hk => hk.2) (.int .i64 t338)) (fun _ hk => hk.2) (.int .i64 t339)) (fun _ h_ => h_.1))) hb); have n6_ := Aside0.mk (Kd.R_below Z11_13 hb); have n7_ := Aside0.mk (Kd.R_below Z11_14 hb); have n8_ := Aside0.mk (blk_below (g := gb277) (o := .cells #[.slice A0_0 l0_0.length c0_0, .slice A0_1 l0_1.length c0_1, .int .i64 a0_2, .int .i64 a0_3] 50 (0, 0)) (by (with_reducible repeat (first | refine blk_drewN ?_ _ | refine blk_drew ?_ | refine blk_alloc ?_ _)); refine blk_far ?_ NB277_340.out _; (with_reducible repeat (first | refine blk_drewN ?_ _ | refine blk_drew ?_ | refine blk_alloc ?_ _)); refine blk_far ?_ NB277_340.out _; (with_reducible repeat (first | refine blk_drewN ?_ _ | refine blk_drew ?_ | refine blk_alloc ?_ _)); refine blk_far ?_ NB277_340.out _; (with_reducible repeat (first | refine blk_drewN ?_ _ | refine blk_drew ?_ | refine blk_alloc ?_ _)); refine blk_far ?_ NB277_340.out _; (with_reducible repeat (first | refine blk_drewN ?_ _ | refine blk_drew ?_ | refine blk_alloc ?_ _)); exact BK277.out) hb); have n9_ := Aside0.mk (blk_below (g := gb278) (o := .cells #[.int .i64 a1_0, .int .i64 a1_1, .int .i64 a1_2, .int .i64 a1_3, .int .i64 a1_4, .int .i64 a1_5, .int .i64 a1_6, .int .i64 a1_7, .int .i64 a1_8, .int .i64 a1_9, .int .i64 a1_10, .bool a1_11, .bool a1_12] 75 (0, 0)) (by (with_reducible repeat (first | refine blk_drewN ?_ _ | refine blk_drew ?_ | refine blk_alloc ?_ _)); refine blk_far ?_ NB278_340.out _; (with_reducible repeat (first | refine blk_drewN ?_ _ | refine blk_drew ?_ | refine blk_alloc ?_ _)); refine blk_far ?_ NB278_340.out _; (with_reducible repeat (first | refine blk_drewN ?_ _ | refine blk_drew ?_ | refine blk_alloc ?_ _)); refine blk_far ?_ NB278_340.out _; (with_reducible repeat (first | refine blk_drewN ?_ _ | refine blk_drew ?_ | refine blk_alloc ?_ _)); refine blk_far ?_ NB278_340.out _; (with_reducible repeat (first | refine blk_drewN ?_ _ | refine blk_drew ?_ | refine blk_alloc ?_ _)); exact BK278.out) hb); have n10_ := Aside0.mk (blk_below (g := gb309) (o := .cells #[.slice Ao50 t301.length co50, .slice Ao52 t304.length co52, .int .i64 t307, .int .i64 t308] 56 (0, 0)) (by (with_reducible repeat (first | refine blk_drewN ?_ _ | refine blk_drew ?_ | refine blk_alloc ?_ _)); refine blk_far ?_ NB309_340.out _; (with_reducible repeat (first | refine blk_drewN ?_ _ | refine blk_drew ?_ | refine blk_alloc ?_ _)); refine blk_far ?_ NB309_340.out _; (with_reducible repeat (first | refine blk_drewN ?_ _ | refine blk_drew ?_ | refine blk_alloc ?_ _)); refine blk_far ?_ NB309_340.out _; (with_reducible repeat (first | refine blk_drewN ?_ _ | refine blk_drew ?_ | refine blk_alloc ?_ _)); refine blk_far ?_ NB309_340.out _; (with_reducible repeat (first | refine blk_drewN ?_ _ | refine blk_drew ?_ | refine blk_alloc ?_ _)); exact BK309.out) hb); have n11_ := Aside0.mk (blk_below (g := gb318) (o := .cells #[.slice Ao60 t310.length co60, .slice Ao65 t313.length co65, .int .i64 t316, .int .i64 t317] 56 (0, 0)) (by (with_reducible repeat (first | refine blk_drewN ?_ _ | refine blk_drew ?_ | refine blk_alloc ?_ _)); refine blk_far ?_ NB318_340.out _; (with_reducible repeat (first | refine blk_drewN ?_ _ | refine blk_drew ?_ | refine blk_alloc ?_ _)); refine blk_far ?_ NB318_340.out _; (with_reducible repeat (first | refine blk_drewN ?_ _ | refine blk_drew ?_ | refine blk_alloc ?_ _)); refine blk_far ?_ NB318_340.out _; (with_reducible repeat (first | refine blk_drewN ?_ _ | refine blk_drew ?_ | refine blk_alloc ?_ _)); refine blk_far ?_ NB318_340.out _; (with_reducible repeat (first | refine blk_drewN ?_ _ | refine blk_drew ?_ | refine blk_alloc ?_ _)); exact BK318.out) hb); have n12_ := Aside0.mk (blk_below (g := gb340) (o := .cells #[.slice Ao72 t332.length co72, .slice Ao74 t335.length co74, .int .i64 t338, .int .i64 t339] 56 (0, 0)) (by (with_reducible repeat (first | refine blk_drewN ?_ _ | refine blk_drew ?_ | refine blk_alloc ?_ _)); apply E11_4; (with_reducible repeat (first | refine blk_drewN ?_ _ | refine blk_drew ?_ | refine blk_alloc ?_ _)); exact BK340.out) hb); have n13_ := Aside0.mk Z11_40; clear HO282; clear HO285; clear HO303; clear HO306; clear HO312; clear HO315; clear HO334; clear HO337; clear BK277; clear BK278; clear BK309; clear BK318; clear BK340; clear HB; have HO282 := n0_; have HO285 := n1_; have HO303 := n2_; have HO306 := n3_; have HO312 := n4_; have HO315 := n5_; have HO334 := n6_; have HO337 := n7_; have BK277 := n8_; have BK278 := n9_; have BK309 := n10_; have BK318 := n11_; have BK340 := n12_; have HB := n13_; clear n0_ n1_ n2_ n3_ n4_ n5_ n6_ n7_ n8_ n9_ n10_ n11_ n12_ n13_; (try clear hb); (try clear hb2); (try clear hk); (try clear hi)))
  have n0_ := Aside0.mk (Kd.R_drew HO282.out)
  have n1_ := Aside0.mk (Kd.R_drew HO285.out)
  have n2_ := Aside0.mk (Kd.R_drew HO303.out)
  have n3_ := Aside0.mk (Kd.R_drew HO306.out)
  have n4_ := Aside0.mk (Kd.R_drew HO312.out)
  have n5_ := Aside0.mk (Kd.R_drew HO315.out)
  have n6_ := Aside0.mk (Kd.R_drew HO334.out)
  have n7_ := Aside0.mk (Kd.R_drew HO337.out)
  have n8_ := Aside0.mk (blk_drew BK277.out)
  have n9_ := Aside0.mk (blk_drew BK278.out)
  have n10_ := Aside0.mk (blk_drew BK309.out)
  have n11_ := Aside0.mk (blk_drew BK318.out)
  have n12_ := Aside0.mk (blk_drew BK340.out)
  have n13_ := Aside0.mk (below_drew1 HB.out)
  clear HO282
  clear HO285
  clear HO303
  clear HO306
  clear HO312
  clear HO315
  clear HO334
  clear HO337
  clear BK277
  clear BK278
  clear BK309
  clear BK318
  clear BK340
  clear HB
  have HO282 := n0_
  have HO285 := n1_
  have HO303 := n2_
  have HO306 := n3_
  have HO312 := n4_
  have HO315 := n5_
  have HO334 := n6_
  have HO337 := n7_
  have BK277 := n8_
  have BK278 := n9_
  have BK309 := n10_
  have BK318 := n11_
  have BK340 := n12_
  have HB := n13_
  clear n0_ n1_ n2_ n3_ n4_ n5_ n6_ n7_ n8_ n9_ n10_ n11_ n12_ n13_
  refine start_ (n := 5) (S := fun w' => w'.cell? ⟨gb318, 0, none⟩ = some (.slice Ao60 t310.length co60) ∧ w'.cell? ⟨gb318, 1, none⟩ = some (.slice Ao65 t313.length co65) ∧ w'.cell? ⟨gb318, 2, none⟩ = some (.int .i64 t316) ∧ w'.cell? ⟨gb318, 3, none⟩ = some (.int .i64 t317) ∧ w'.cell? ⟨gb277, 0, none⟩ = some (.slice A0_0 l0_0.length c0_0) ∧ w'.cell? ⟨gb277, 1, none⟩ = some (.slice A0_1 l0_1.length c0_1) ∧ w'.cell? ⟨gb277, 2, none⟩ = some (.int .i64 a0_2) ∧ w'.cell? ⟨gb277, 3, none⟩ = some (.int .i64 a0_3)) (ds := []) #[false, false, false, false, false] (by kernel_rfl) rfl rfl ⟨(blk_cell BK318.out 0).trans rfl, (blk_cell BK318.out 1).trans rfl, (blk_cell BK318.out 2).trans rfl, (blk_cell BK318.out 3).trans rfl, (blk_cell BK277.out 0).trans rfl, (blk_cell BK277.out 1).trans rfl, (blk_cell BK277.out 2).trans rfl, (blk_cell BK277.out 3).trans rfl⟩ (fun hHeld => ?_)
  generalize w85.drew = w86 at HO282 HO285 HO303 HO306 HO312 HO315 HO334 HO337 BK277 BK278 BK309 BK318 BK340 HB hHeld ⊢
  refine take_ (i := 0) (N := some 33) (v := _) (a' := _) #[true, false, false, false, false] rfl rfl (by kernel_rfl) (fun _ _ _ h => h) (Or.inl ⟨(by rfl), (by rintro w' ⟨s0, s1, s2, s3, s4, s5, s6, s7⟩; go_simp; with_reducible rfl)⟩) hHeld Z11_147 ?_
  refine take_ (i := 1) (N := some 34) (v := _) (a' := _) #[true, true, false, false, false] rfl rfl (by kernel_rfl) (fun _ _ _ h => h) (Or.inl ⟨(by rfl), (by rintro w' ⟨s0, s1, s2, s3, s4, s5, s6, s7⟩; go_simp; with_reducible rfl)⟩) hHeld Z11_147 ?_
  refine one_ (i := 2) (N := some 35) #[true, true, true, false, false] rfl rfl (by kernel_rfl) (by decide) (fun K hK => ?_)
  refine goes_ Try.func37 (by kernel_rfl) rfl #[.agg #[.slice A0_0 l0_0.length c0_0, .slice A0_1 l0_1.length c0_1, .int .i64 a0_2, .int .i64 a0_3]] (by rfl) rfl rfl Z11_109 ?_
  with_reducible refine (laws_toState.calls k _ _ l0_0 _ _ l0_1 a0_2 a0_3 t342 t345 t348 t349 _ ?side1 ?side2 ?side3 ?side4 A18.out).mono ?_
  (case side1 => repeat (first | exact (Kd.C_below HR0_0.out HB.out) | (with_reducible refine Kd.C_alloc ?_ _) | (with_reducible refine Kd.C_drewN ?_ _) | (with_reducible refine Kd.C_drew ?_)))
  (case side2 => exact HC0_0.out)
  (case side3 => repeat (first | exact (Kd.C_below HR0_1.out HB.out) | (with_reducible refine Kd.C_alloc ?_ _) | (with_reducible refine Kd.C_drewN ?_ _) | (with_reducible refine Kd.C_drew ?_)))
  (case side4 => exact HC0_1.out)
  rintro e w87 ⟨v343, v346, rfl, ho0, ho1, hb⟩
  refine ⟨_, rfl, ?_⟩
  have n0_ := Aside0.mk Z11_110
  have n1_ := Aside0.mk Z11_111
  have n2_ := Aside0.mk Z11_112
  have n3_ := Aside0.mk Z11_113
  have n4_ := Aside0.mk Z11_114
  have n5_ := Aside0.mk Z11_115
  have n6_ := Aside0.mk Z11_116
  have n7_ := Aside0.mk Z11_117
  have n8_ := Aside0.mk (Kd.R_lower (Kd.R_new' (Kd.R_new' (Kd.R_new' (Kd.R_new' ho0 (Kd.R_lt Z11_148)) (Kd.R_lt Z11_150)) (Kd.R_lt Z11_152)) (Kd.R_lt Z11_154)) (below_size Z11_49))
  have n9_ := Aside0.mk (Kd.R_lower (Kd.R_new' (Kd.R_new' (Kd.R_new' (Kd.R_new' ho1 (Kd.R_lt Z11_149)) (Kd.R_lt Z11_151)) (Kd.R_lt Z11_153)) (Kd.R_lt Z11_155)) (below_size Z11_49))
  have n10_ := Aside0.mk Z11_57
  have n11_ := Aside0.mk Z11_25
  have n12_ := Aside0.mk Z11_58
  have n13_ := Aside0.mk Z11_59
  have n14_ := Aside0.mk Z11_60
  have n15_ := Aside0.mk Z11_40
  clear HO282
  clear HO285
  clear HO303
  clear HO306
  clear HO312
  clear HO315
  clear HO334
  clear HO337
  clear BK277
  clear BK278
  clear BK309
  clear BK318
  clear BK340
  clear HB
  have HO282 := n0_
  have HO285 := n1_
  have HO303 := n2_
  have HO306 := n3_
  have HO312 := n4_
  have HO315 := n5_
  have HO334 := n6_
  have HO337 := n7_
  have HO344 := n8_
  have HO347 := n9_
  have BK277 := n10_
  have BK278 := n11_
  have BK309 := n12_
  have BK318 := n13_
  have BK340 := n14_
  have HB := n15_
  clear n0_ n1_ n2_ n3_ n4_ n5_ n6_ n7_ n8_ n9_ n10_ n11_ n12_ n13_ n14_ n15_
  (try clear hb)
  (try clear hb2)
  (try clear hk)
  (try clear hi)
  (try clear ho0)
  (try clear ho1)
  obtain ⟨Ao88, co88, eo88⟩ := Kd.R_slice HO344.out
  (first | subst eo88 | (injection eo88 with f1_ f2_ f3_; have f4_ := f1_.symm; have f5_ := f3_.symm; clear f1_ f2_ f3_; subst f4_; subst f5_))
  obtain ⟨Ao89, co89, eo89⟩ := Kd.R_slice HO347.out
  (first | subst eo89 | (injection eo89 with f1_ f2_ f3_; have f4_ := f1_.symm; have f5_ := f3_.symm; clear f1_ f2_ f3_; subst f4_; subst f5_))
  refine hK.out _ _ (D11_4 BK318.out (C11_4 BK277.out).1) (fun hHeld => ?_)
  clear hK K
  refine norm_ (a' := ?_) ?_ ?_
  rotate_left
  · show Act.put _ (some 35) _ = _
    simp only [Act.put, List.setIfInBounds_toArray, List.set_cons_zero, List.set_cons_succ, i64_w, i32_w]
    rfl
  refine one_ (i := 3) (N := some 36) #[true, true, true, true, false] rfl rfl (by kernel_rfl) (by decide) (fun K hK => ?_)
  refine goes_ Try.func39 (by kernel_rfl) rfl #[.agg #[.slice Ao60 t310.length co60, .slice Ao65 t313.length co65, .int .i64 t316, .int .i64 t317], .agg #[.slice Ao88 t342.length co88, .slice Ao89 t345.length co89, .int .i64 t348, .int .i64 t349]] (by rfl) rfl rfl Z11_109 ?_
  with_reducible refine (laws_eqState.calls k _ _ t310 _ _ t313 t316 t317 _ _ t342 _ _ t345 t348 t349 true _ ?side1 ?side2 ?side3 ?side4 ?side5 ?side6 ?side7 ?side8 A19.out).mono ?_
  (case side1 => repeat (first | exact (Kd.R_reads' HO312.out).2.2 | (with_reducible refine Kd.C_alloc ?_ _) | (with_reducible refine Kd.C_drewN ?_ _) | (with_reducible refine Kd.C_drew ?_)))
  (case side2 => exact (Kd.R_reads' HO312.out).2.1)
  (case side3 => repeat (first | exact (Kd.R_reads' HO315.out).2.2 | (with_reducible refine Kd.C_alloc ?_ _) | (with_reducible refine Kd.C_drewN ?_ _) | (with_reducible refine Kd.C_drew ?_)))
  (case side4 => exact (Kd.R_reads' HO315.out).2.1)
  (case side5 => repeat (first | exact (Kd.R_reads' HO344.out).2.2 | (with_reducible refine Kd.C_alloc ?_ _) | (with_reducible refine Kd.C_drewN ?_ _) | (with_reducible refine Kd.C_drew ?_)))
  (case side6 => exact (Kd.R_reads' HO344.out).2.1)
  (case side7 => repeat (first | exact (Kd.R_reads' HO347.out).2.2 | (with_reducible refine Kd.C_alloc ?_ _) | (with_reducible refine Kd.C_drewN ?_ _) | (with_reducible refine Kd.C_drew ?_)))
  (case side8 => exact (Kd.R_reads' HO347.out).2.1)
  rintro e w90 ⟨rfl, hb⟩
  refine ⟨_, rfl, ?_⟩
  have n0_ := Aside0.mk Z11_126
  have n1_ := Aside0.mk Z11_127
  have n2_ := Aside0.mk Z11_128
  have n3_ := Aside0.mk Z11_129
  have n4_ := Aside0.mk Z11_130
  have n5_ := Aside0.mk Z11_131
  have n6_ := Aside0.mk Z11_132
  have n7_ := Aside0.mk Z11_133
  have n8_ := Aside0.mk Z11_134
  have n9_ := Aside0.mk Z11_135
  have n10_ := Aside0.mk Z11_57
  have n11_ := Aside0.mk Z11_25
  have n12_ := Aside0.mk Z11_58
  have n13_ := Aside0.mk Z11_59
  have n14_ := Aside0.mk Z11_60
  have n15_ := Aside0.mk Z11_40
  clear HO282
  clear HO285
  clear HO303
  clear HO306
  clear HO312
  clear HO315
  clear HO334
  clear HO337
  clear HO344
  clear HO347
  clear BK277
  clear BK278
  clear BK309
  clear BK318
  clear BK340
  clear HB
  have HO282 := n0_
  have HO285 := n1_
  have HO303 := n2_
  have HO306 := n3_
  have HO312 := n4_
  have HO315 := n5_
  have HO334 := n6_
  have HO337 := n7_
  have HO344 := n8_
  have HO347 := n9_
  have BK277 := n10_
  have BK278 := n11_
  have BK309 := n12_
  have BK318 := n13_
  have BK340 := n14_
  have HB := n15_
  clear n0_ n1_ n2_ n3_ n4_ n5_ n6_ n7_ n8_ n9_ n10_ n11_ n12_ n13_ n14_ n15_
  (try clear hb)
  (try clear hb2)
  (try clear hk)
  (try clear hi)
  refine hK.out _ _ (D11_4 BK318.out (C11_4 BK277.out).1) (fun hHeld => ?_)
  clear hK K
  refine norm_ (a' := ?_) ?_ ?_
  rotate_left
  · show Act.put _ (some 36) _ = _
    simp only [Act.put, List.setIfInBounds_toArray, List.set_cons_zero, List.set_cons_succ, i64_w, i32_w]
    rfl
  refine pure_ (i := 4) (N := some 37) (v := _) (a' := _) #[true, true, true, true, true] rfl rfl (by kernel_rfl) (fun _ _ _ h => h) (Or.inl ⟨(by rfl), (by intro w'; go_simp; with_reducible rfl)⟩) Z11_147 ?_
  refine done_ (by kernel_rfl) ?_
  obtain ⟨⟨hcz91_0, hcz91_1, hcz91_2, hcz91_3⟩, hfz91_0, hfz91_1, hfz91_2, hfz91_3⟩ := C11_4 BK318.out
  try go_wp2_with (first | ((with_reducible refine gate_callee (f := 55) rfl ?_); refine goesL_ (some 40) rfl rfl Try.func55 (by kernel_rfl) rfl #[.agg #[.slice Ao60 t310.length co60, .slice Ao65 t313.length co65, .int .i64 t316, .int .i64 t317], .int .i64 1] rfl Z11_109 ?_; (with_reducible refine (laws_markState.calls k (fun k_ => some k_ = (.slice Ao60 t310.length co60 : Value).ownBlock) (.slice Ao60 t310.length co60) t310 (fun k_ => some k_ = (.slice Ao65 t313.length co65 : Value).ownBlock) (.slice Ao65 t313.length co65) t313 t316 t317 1 t351 t352 t353 w _ ?side1 ?side2 ?side3 A21.out).mono ?_); (case side1 => repeat (first | (with_reducible first | exact HB.out | apply below_alloc | apply pw_below_drewN | apply below_drew1 | refine below_set ?_ GE277.out | refine below_set ?_ GE278.out | refine below_set ?_ GE309.out | refine below_set ?_ GE318.out | refine below_set ?_ GE340.out) | exact HB.out)); (case side2 => exact Kd.R_tight rfl HO312.out); (case side3 => exact Kd.R_tight rfl HO315.out); rintro e w92 ⟨rfl, hy0, hy1, hb, hkp⟩; refine ⟨_, rfl, ?_⟩; have n0_ := Aside0.mk (blk_kept Z11_140 hkp (fun hs_ => Or.elim hs_ (fun e_ => (fun e_ => (Kd.R_ne HO312.out BK277.out (by decide)) e_) e_) (fun e_ => (fun e_ => (Kd.R_ne HO315.out BK277.out (by decide)) e_) e_))); have n1_ := Aside0.mk (blk_kept Z11_141 hkp (fun hs_ => Or.elim hs_ (fun e_ => (fun e_ => (Kd.R_ne HO312.out BK278.out (by decide)) e_) e_) (fun e_ => (fun e_ => (Kd.R_ne HO315.out BK278.out (by decide)) e_) e_))); have n2_ := Aside0.mk (Kd.R_mono (ok' := fun k_ => some k_ ≠ (.slice Ao50 t301.length co50 : Value).ownBlock ∧ some k_ ≠ (.slice Ao60 t310.length co60 : Value).ownBlock ∧ some k_ ≠ (.slice Ao72 t332.length co72 : Value).ownBlock ∧ some k_ ≠ (.slice Ao88 t342.length co88 : Value).ownBlock) (Kd.R_keptB ((Kd.R_apart' HO282.out (Kd.R_typed HO315.out) (by decide))) hkp (fun k_ hk_ hs_ => Or.elim hs_ (fun e_ => Z11_53) (fun e_ => Z11_64))) (fun k_ hk_ => ⟨Z11_77, Z11_68, Z11_69, Z11_78⟩)); have n3_ := Aside0.mk (Kd.R_mono (ok' := fun k_ => some k_ ≠ (.slice Ao52 t304.length co52 : Value).ownBlock ∧ some k_ ≠ (.slice Ao65 t313.length co65 : Value).ownBlock ∧ some k_ ≠ (.slice Ao74 t335.length co74 : Value).ownBlock ∧ some k_ ≠ (.slice Ao89 t345.length co89 : Value).ownBlock) (Kd.R_keptB ((Kd.R_apart' HO285.out (Kd.R_typed HO312.out) (by decide))) hkp (fun k_ hk_ hs_ => Or.elim hs_ (fun e_ => Z11_64) (fun e_ => Z11_53))) (fun k_ hk_ => ⟨Z11_77, Z11_68, Z11_69, Z11_78⟩)); have n4_ := Aside0.mk (Kd.R_mono (ok' := fun k_ => some k_ ≠ (v281 : Value).ownBlock ∧ some k_ ≠ (.slice Ao60 t310.length co60 : Value).ownBlock ∧ some k_ ≠ (.slice Ao72 t332.length co72 : Value).ownBlock ∧ some k_ ≠ (.slice Ao88 t342.length co88 : Value).ownBlock) (Kd.R_keptB ((Kd.R_apart' HO303.out (Kd.R_typed HO315.out) (by decide))) hkp (fun k_ hk_ hs_ => Or.elim hs_ (fun e_ => Z11_53) (fun e_ => Z11_64))) (fun k_ hk_ => ⟨Z11_77, Z11_68, Z11_69, Z11_78⟩)); have n5_ := Aside0.mk (Kd.R_mono (ok' := fun k_ => some k_ ≠ (v284 : Value).ownBlock ∧ some k_ ≠ (.slice Ao65 t313.length co65 : Value).ownBlock ∧ some k_ ≠ (.slice Ao74 t335.length co74 : Value).ownBlock ∧ some k_ ≠ (.slice Ao89 t345.length co89 : Value).ownBlock) (Kd.R_keptB ((Kd.R_apart' HO306.out (Kd.R_typed HO312.out) (by decide))) hkp (fun k_ hk_ hs_ => Or.elim hs_ (fun e_ => Z11_64) (fun e_ => Z11_53))) (fun k_ hk_ => ⟨Z11_77, Z11_68, Z11_69, Z11_78⟩)); have n6_ := Aside0.mk (blk_kept Z11_142 hkp (fun hs_ => Or.elim hs_ (fun e_ => (fun e_ => (Kd.R_ne HO312.out BK309.out (by decide)) e_) e_) (fun e_ => (fun e_ => (Kd.R_ne HO315.out BK309.out (by decide)) e_) e_))); have n7_ := Aside0.mk (Kd.R_reok rfl hy0 (fun k_ e_ => HO312.out.1 k_ e_)); have n8_ := Aside0.mk (Kd.R_reok rfl hy1 (fun k_ e_ => HO315.out.1 k_ e_)); have n9_ := Aside0.mk (blk_kept Z11_143 hkp (fun hs_ => Or.elim hs_ (fun e_ => (fun e_ => (Kd.R_ne HO312.out BK318.out (by decide)) e_) e_) (fun e_ => (fun e_ => (Kd.R_ne HO315.out BK318.out (by decide)) e_) e_))); have n10_ := Aside0.mk (Kd.R_mono (ok' := fun k_ => some k_ ≠ (v281 : Value).ownBlock ∧ some k_ ≠ (.slice Ao50 t301.length co50 : Value).ownBlock ∧ some k_ ≠ (.slice Ao60 t310.length co60 : Value).ownBlock ∧ some k_ ≠ (.slice Ao88 t342.length co88 : Value).ownBlock) (Kd.R_keptB ((Kd.R_apart' HO334.out (Kd.R_typed HO315.out) (by decide))) hkp (fun k_ hk_ hs_ => Or.elim hs_ (fun e_ => Z11_54) (fun e_ => Z11_64))) (fun k_ hk_ => ⟨Z11_77, Z11_68, Z11_69, Z11_78⟩)); have n11_ := Aside0.mk (Kd.R_mono (ok' := fun k_ => some k_ ≠ (v284 : Value).ownBlock ∧ some k_ ≠ (.slice Ao52 t304.length co52 : Value).ownBlock ∧ some k_ ≠ (.slice Ao65 t313.length co65 : Value).ownBlock ∧ some k_ ≠ (.slice Ao89 t345.length co89 : Value).ownBlock) (Kd.R_keptB ((Kd.R_apart' HO337.out (Kd.R_typed HO312.out) (by decide))) hkp (fun k_ hk_ hs_ => Or.elim hs_ (fun e_ => Z11_64) (fun e_ => Z11_54))) (fun k_ hk_ => ⟨Z11_77, Z11_68, Z11_69, Z11_78⟩)); have n12_ := Aside0.mk (blk_kept Z11_144 hkp (fun hs_ => Or.elim hs_ (fun e_ => (fun e_ => (Kd.R_ne HO312.out BK340.out (by decide)) e_) e_) (fun e_ => (fun e_ => (Kd.R_ne HO315.out BK340.out (by decide)) e_) e_))); have n13_ := Aside0.mk (Kd.R_mono (ok' := fun k_ => some k_ ≠ (v281 : Value).ownBlock ∧ some k_ ≠ (.slice Ao50 t301.length co50 : Value).ownBlock ∧ some k_ ≠ (.slice Ao60 t310.length co60 : Value).ownBlock ∧ some k_ ≠ (.slice Ao72 t332.length co72 : Value).ownBlock) (Kd.R_keptB ((Kd.R_apart' HO344.out (Kd.R_typed HO315.out) (by decide))) hkp (fun k_ hk_ hs_ => Or.elim hs_ (fun e_ => Z11_65) (fun e_ => Z11_64))) (fun k_ hk_ => ⟨Z11_79, Z11_80, Z11_81, Z11_78⟩)); have n14_ := Aside0.mk (Kd.R_mono (ok' := fun k_ => some k_ ≠ (v284 : Value).ownBlock ∧ some k_ ≠ (.slice Ao52 t304.length co52 : Value).ownBlock ∧ some k_ ≠ (.slice Ao65 t313.length co65 : Value).ownBlock ∧ some k_ ≠ (.slice Ao74 t335.length co74 : Value).ownBlock) (Kd.R_keptB ((Kd.R_apart' HO347.out (Kd.R_typed HO312.out) (by decide))) hkp (fun k_ hk_ hs_ => Or.elim hs_ (fun e_ => Z11_64) (fun e_ => Z11_65))) (fun k_ hk_ => ⟨Z11_79, Z11_80, Z11_81, Z11_78⟩)); have n15_ := Aside0.mk (hb); clear BK277; clear BK278; clear HO282; clear HO285; clear HO303; clear HO306; clear BK309; clear HO312; clear HO315; clear BK318; clear HO334; clear HO337; clear BK340; clear HO344; clear HO347; clear HB; have BK277 := n0_; have BK278 := n1_; have HO282 := n2_; have HO285 := n3_; have HO303 := n4_; have HO306 := n5_; have BK309 := n6_; have HO312 := n7_; have HO315 := n8_; have BK318 := n9_; have HO334 := n10_; have HO337 := n11_; have BK340 := n12_; have HO344 := n13_; have HO347 := n14_; have HB := n15_; clear n0_ n1_ n2_ n3_ n4_ n5_ n6_ n7_ n8_ n9_ n10_ n11_ n12_ n13_ n14_ n15_; (try clear hb); (try clear hkp); (try clear hy0); (try clear hy1); obtain ⟨⟨hcz93_0, hcz93_1, hcz93_2, hcz93_3⟩, hfz93_0, hfz93_1, hfz93_2, hfz93_3⟩ := C11_4 BK340.out; obtain ⟨⟨hcz94_0, hcz94_1, hcz94_2, hcz94_3⟩, hfz94_0, hfz94_1, hfz94_2, hfz94_3⟩ := C11_4 BK309.out; clear A21) | (go_at_call 39; (with_reducible refine (laws_eqState.calls k _ _ t332 _ _ t335 t338 t339 _ _ t301 _ _ t304 t307 t308 true _ ?side1 ?side2 ?side3 ?side4 ?side5 ?side6 ?side7 ?side8 A23.out).mono ?_); (case side1 => repeat (first | exact (Kd.R_reads' HO334.out).2.2 | (with_reducible refine Kd.C_alloc ?_ _) | (with_reducible refine Kd.C_drewN ?_ _) | (with_reducible refine Kd.C_drew ?_))); (case side2 => exact (Kd.R_reads' HO334.out).2.1); (case side3 => repeat (first | exact (Kd.R_reads' HO337.out).2.2 | (with_reducible refine Kd.C_alloc ?_ _) | (with_reducible refine Kd.C_drewN ?_ _) | (with_reducible refine Kd.C_drew ?_))); (case side4 => exact (Kd.R_reads' HO337.out).2.1); (case side5 => repeat (first | exact (Kd.R_reads' HO303.out).2.2 | (with_reducible refine Kd.C_alloc ?_ _) | (with_reducible refine Kd.C_drewN ?_ _) | (with_reducible refine Kd.C_drew ?_))); (case side6 => exact (Kd.R_reads' HO303.out).2.1); (case side7 => repeat (first | exact (Kd.R_reads' HO306.out).2.2 | (with_reducible refine Kd.C_alloc ?_ _) | (with_reducible refine Kd.C_drewN ?_ _) | (with_reducible refine Kd.C_drew ?_))); (case side8 => exact (Kd.R_reads' HO306.out).2.1); rintro e w95 ⟨rfl, hb⟩; have n0_ := Aside0.mk Z11_126; have n1_ := Aside0.mk Z11_127; have n2_ := Aside0.mk Z11_128; have n3_ := Aside0.mk Z11_129; have n4_ := Aside0.mk Z11_130; have n5_ := Aside0.mk Z11_131; have n6_ := Aside0.mk Z11_132; have n7_ := Aside0.mk Z11_133; have n8_ := Aside0.mk Z11_134; have n9_ := Aside0.mk Z11_135; have n10_ := Aside0.mk Z11_57; have n11_ := Aside0.mk Z11_25; have n12_ := Aside0.mk Z11_58; have n13_ := Aside0.mk Z11_59; have n14_ := Aside0.mk Z11_60; have n15_ := Aside0.mk Z11_40; clear HO282; clear HO285; clear HO303; clear HO306; clear HO312; clear HO315; clear HO334; clear HO337; clear HO344; clear HO347; clear BK277; clear BK278; clear BK309; clear BK318; clear BK340; clear HB; have HO282 := n0_; have HO285 := n1_; have HO303 := n2_; have HO306 := n3_; have HO312 := n4_; have HO315 := n5_; have HO334 := n6_; have HO337 := n7_; have HO344 := n8_; have HO347 := n9_; have BK277 := n10_; have BK278 := n11_; have BK309 := n12_; have BK318 := n13_; have BK340 := n14_; have HB := n15_; clear n0_ n1_ n2_ n3_ n4_ n5_ n6_ n7_ n8_ n9_ n10_ n11_ n12_ n13_ n14_ n15_; (try clear hb); (try clear hb2); (try clear hk); (try clear hi); obtain ⟨⟨hcz96_0, hcz96_1, hcz96_2, hcz96_3⟩, hfz96_0, hfz96_1, hfz96_2, hfz96_3⟩ := C11_4 BK340.out) | ((with_reducible refine gate_callee (f := 55) rfl ?_); refine goesL_ (some 51) rfl rfl Try.func55 (by kernel_rfl) rfl #[.agg #[.slice Ao72 t332.length co72, .slice Ao74 t335.length co74, .int .i64 t338, .int .i64 t339], .int .i64 1] rfl Z11_109 ?_; (with_reducible refine (laws_markState.calls k (fun k_ => some k_ = (.slice Ao72 t332.length co72 : Value).ownBlock) (.slice Ao72 t332.length co72) t332 (fun k_ => some k_ = (.slice Ao74 t335.length co74 : Value).ownBlock) (.slice Ao74 t335.length co74) t335 t338 t339 1 t355 t356 t357 w _ ?side1 ?side2 ?side3 A25.out).mono ?_); (case side1 => repeat (first | (with_reducible first | exact HB.out | apply below_alloc | apply pw_below_drewN | apply below_drew1 | refine below_set ?_ GE277.out | refine below_set ?_ GE278.out | refine below_set ?_ GE309.out | refine below_set ?_ GE318.out | refine below_set ?_ GE340.out) | exact HB.out)); (case side2 => exact Kd.R_tight rfl HO334.out); (case side3 => exact Kd.R_tight rfl HO337.out); rintro e w97 ⟨rfl, hy0, hy1, hb, hkp⟩; refine ⟨_, rfl, ?_⟩; have n0_ := Aside0.mk (blk_kept Z11_140 hkp (fun hs_ => Or.elim hs_ (fun e_ => (fun e_ => (Kd.R_ne HO334.out BK277.out (by decide)) e_) e_) (fun e_ => (fun e_ => (Kd.R_ne HO337.out BK277.out (by decide)) e_) e_))); have n1_ := Aside0.mk (blk_kept Z11_141 hkp (fun hs_ => Or.elim hs_ (fun e_ => (fun e_ => (Kd.R_ne HO334.out BK278.out (by decide)) e_) e_) (fun e_ => (fun e_ => (Kd.R_ne HO337.out BK278.out (by decide)) e_) e_))); have n2_ := Aside0.mk (Kd.R_mono (ok' := fun k_ => some k_ ≠ (.slice Ao50 t301.length co50 : Value).ownBlock ∧ some k_ ≠ (.slice Ao60 t310.length co60 : Value).ownBlock ∧ some k_ ≠ (.slice Ao72 t332.length co72 : Value).ownBlock ∧ some k_ ≠ (.slice Ao88 t342.length co88 : Value).ownBlock) (Kd.R_keptB ((Kd.R_apart' HO282.out (Kd.R_typed HO337.out) (by decide))) hkp (fun k_ hk_ hs_ => Or.elim hs_ (fun e_ => Z11_55) (fun e_ => Z11_64))) (fun k_ hk_ => ⟨Z11_82, Z11_73, Z11_70, Z11_71⟩)); have n3_ := Aside0.mk (Kd.R_mono (ok' := fun k_ => some k_ ≠ (.slice Ao52 t304.length co52 : Value).ownBlock ∧ some k_ ≠ (.slice Ao65 t313.length co65 : Value).ownBlock ∧ some k_ ≠ (.slice Ao74 t335.length co74 : Value).ownBlock ∧ some k_ ≠ (.slice Ao89 t345.length co89 : Value).ownBlock) (Kd.R_keptB ((Kd.R_apart' HO285.out (Kd.R_typed HO334.out) (by decide))) hkp (fun k_ hk_ hs_ => Or.elim hs_ (fun e_ => Z11_64) (fun e_ => Z11_55))) (fun k_ hk_ => ⟨Z11_82, Z11_73, Z11_70, Z11_71⟩)); have n4_ := Aside0.mk (Kd.R_mono (ok' := fun k_ => some k_ ≠ (v281 : Value).ownBlock ∧ some k_ ≠ (.slice Ao60 t310.length co60 : Value).ownBlock ∧ some k_ ≠ (.slice Ao72 t332.length co72 : Value).ownBlock ∧ some k_ ≠ (.slice Ao88 t342.length co88 : Value).ownBlock) (Kd.R_keptB ((Kd.R_apart' HO303.out (Kd.R_typed HO337.out) (by decide))) hkp (fun k_ hk_ hs_ => Or.elim hs_ (fun e_ => Z11_55) (fun e_ => Z11_64))) (fun k_ hk_ => ⟨Z11_82, Z11_73, Z11_70, Z11_71⟩)); have n5_ := Aside0.mk (Kd.R_mono (ok' := fun k_ => some k_ ≠ (v284 : Value).ownBlock ∧ some k_ ≠ (.slice Ao65 t313.length co65 : Value).ownBlock ∧ some k_ ≠ (.slice Ao74 t335.length co74 : Value).ownBlock ∧ some k_ ≠ (.slice Ao89 t345.length co89 : Value).ownBlock) (Kd.R_keptB ((Kd.R_apart' HO306.out (Kd.R_typed HO334.out) (by decide))) hkp (fun k_ hk_ hs_ => Or.elim hs_ (fun e_ => Z11_64) (fun e_ => Z11_55))) (fun k_ hk_ => ⟨Z11_82, Z11_73, Z11_70, Z11_71⟩)); have n6_ := Aside0.mk (blk_kept Z11_142 hkp (fun hs_ => Or.elim hs_ (fun e_ => (fun e_ => (Kd.R_ne HO334.out BK309.out (by decide)) e_) e_) (fun e_ => (fun e_ => (Kd.R_ne HO337.out BK309.out (by decide)) e_) e_))); have n7_ := Aside0.mk (Kd.R_mono (ok' := fun k_ => some k_ ≠ (v281 : Value).ownBlock ∧ some k_ ≠ (.slice Ao50 t301.length co50 : Value).ownBlock ∧ some k_ ≠ (.slice Ao72 t332.length co72 : Value).ownBlock ∧ some k_ ≠ (.slice Ao88 t342.length co88 : Value).ownBlock) (Kd.R_keptB ((Kd.R_apart' HO312.out (Kd.R_typed HO337.out) (by decide))) hkp (fun k_ hk_ hs_ => Or.elim hs_ (fun e_ => Z11_54) (fun e_ => Z11_64))) (fun k_ hk_ => ⟨Z11_77, Z11_68, Z11_69, Z11_78⟩)); have n8_ := Aside0.mk (Kd.R_mono (ok' := fun k_ => some k_ ≠ (v284 : Value).ownBlock ∧ some k_ ≠ (.slice Ao52 t304.length co52 : Value).ownBlock ∧ some k_ ≠ (.slice Ao74 t335.length co74 : Value).ownBlock ∧ some k_ ≠ (.slice Ao89 t345.length co89 : Value).ownBlock) (Kd.R_keptB ((Kd.R_apart' HO315.out (Kd.R_typed HO334.out) (by decide))) hkp (fun k_ hk_ hs_ => Or.elim hs_ (fun e_ => Z11_64) (fun e_ => Z11_54))) (fun k_ hk_ => ⟨Z11_77, Z11_68, Z11_69, Z11_78⟩)); have n9_ := Aside0.mk (blk_kept Z11_143 hkp (fun hs_ => Or.elim hs_ (fun e_ => (fun e_ => (Kd.R_ne HO334.out BK318.out (by decide)) e_) e_) (fun e_ => (fun e_ => (Kd.R_ne HO337.out BK318.out (by decide)) e_) e_))); have n10_ := Aside0.mk (Kd.R_reok rfl hy0 (fun k_ e_ => HO334.out.1 k_ e_)); have n11_ := Aside0.mk (Kd.R_reok rfl hy1 (fun k_ e_ => HO337.out.1 k_ e_)); have n12_ := Aside0.mk (blk_kept Z11_144 hkp (fun hs_ => Or.elim hs_ (fun e_ => (fun e_ => (Kd.R_ne HO334.out BK340.out (by decide)) e_) e_) (fun e_ => (fun e_ => (Kd.R_ne HO337.out BK340.out (by decide)) e_) e_))); have n13_ := Aside0.mk (Kd.R_mono (ok' := fun k_ => some k_ ≠ (v281 : Value).ownBlock ∧ some k_ ≠ (.slice Ao50 t301.length co50 : Value).ownBlock ∧ some k_ ≠ (.slice Ao60 t310.length co60 : Value).ownBlock ∧ some k_ ≠ (.slice Ao72 t332.length co72 : Value).ownBlock) (Kd.R_keptB ((Kd.R_apart' HO344.out (Kd.R_typed HO337.out) (by decide))) hkp (fun k_ hk_ hs_ => Or.elim hs_ (fun e_ => Z11_56) (fun e_ => Z11_64))) (fun k_ hk_ => ⟨Z11_82, Z11_73, Z11_70, Z11_71⟩)); have n14_ := Aside0.mk (Kd.R_mono (ok' := fun k_ => some k_ ≠ (v284 : Value).ownBlock ∧ some k_ ≠ (.slice Ao52 t304.length co52 : Value).ownBlock ∧ some k_ ≠ (.slice Ao65 t313.length co65 : Value).ownBlock ∧ some k_ ≠ (.slice Ao74 t335.length co74 : Value).ownBlock) (Kd.R_keptB ((Kd.R_apart' HO347.out (Kd.R_typed HO334.out) (by decide))) hkp (fun k_ hk_ hs_ => Or.elim hs_ (fun e_ => Z11_64) (fun e_ => Z11_56))) (fun k_ hk_ => ⟨Z11_82, Z11_73, Z11_70, Z11_71⟩)); have n15_ := Aside0.mk (hb); clear BK277; clear BK278; clear HO282; clear HO285; clear HO303; clear HO306; clear BK309; clear HO312; clear HO315; clear BK318; clear HO334; clear HO337; clear BK340; clear HO344; clear HO347; clear HB; have BK277 := n0_; have BK278 := n1_; have HO282 := n2_; have HO285 := n3_; have HO303 := n4_; have HO306 := n5_; have BK309 := n6_; have HO312 := n7_; have HO315 := n8_; have BK318 := n9_; have HO334 := n10_; have HO337 := n11_; have BK340 := n12_; have HO344 := n13_; have HO347 := n14_; have HB := n15_; clear n0_ n1_ n2_ n3_ n4_ n5_ n6_ n7_ n8_ n9_ n10_ n11_ n12_ n13_ n14_ n15_; (try clear hb); (try clear hkp); (try clear hy0); (try clear hy1); obtain ⟨⟨hcz98_0, hcz98_1, hcz98_2, hcz98_3⟩, hfz98_0, hfz98_1, hfz98_2, hfz98_3⟩ := C11_4 BK340.out; clear A25) | ((with_reducible refine gate_callee (f := 61) rfl ?_); refine goesL_ (some 54) rfl rfl Try.func61 (by kernel_rfl) rfl #[.agg #[.slice Ao72 t356.length co72, .slice Ao74 t357.length co74, .int .i64 t338, .int .i64 t339], .int .i64 1] rfl Z11_50 ?_; (with_reducible refine (laws_heldState.calls k _ _ t356 _ _ t357 t338 t339 1 t358 _ ?side1 ?side2 ?side3 ?side4 A26.out).mono ?_); (case side1 => repeat (first | exact (Kd.R_reads' HO334.out).2.2 | (with_reducible refine Kd.C_alloc ?_ _) | (with_reducible refine Kd.C_drewN ?_ _) | (with_reducible refine Kd.C_drew ?_))); (case side2 => rw [show t356.length = t332.length from (Kd.R_reads' HO334.out).1.symm]; exact (Kd.R_reads' HO334.out).2.1); (case side3 => repeat (first | exact (Kd.R_reads' HO337.out).2.2 | (with_reducible refine Kd.C_alloc ?_ _) | (with_reducible refine Kd.C_drewN ?_ _) | (with_reducible refine Kd.C_drew ?_))); (case side4 => rw [show t357.length = t335.length from (Kd.R_reads' HO337.out).1.symm]; exact (Kd.R_reads' HO337.out).2.1); rintro e w99 ⟨rfl, hb⟩; refine ⟨_, rfl, ?_⟩; have n0_ := Aside0.mk Z11_126; have n1_ := Aside0.mk Z11_127; have n2_ := Aside0.mk Z11_128; have n3_ := Aside0.mk Z11_129; have n4_ := Aside0.mk Z11_130; have n5_ := Aside0.mk Z11_131; have n6_ := Aside0.mk Z11_132; have n7_ := Aside0.mk Z11_133; have n8_ := Aside0.mk Z11_134; have n9_ := Aside0.mk Z11_135; have n10_ := Aside0.mk Z11_57; have n11_ := Aside0.mk Z11_25; have n12_ := Aside0.mk Z11_58; have n13_ := Aside0.mk Z11_59; have n14_ := Aside0.mk Z11_60; have n15_ := Aside0.mk Z11_40; clear HO282; clear HO285; clear HO303; clear HO306; clear HO312; clear HO315; clear HO334; clear HO337; clear HO344; clear HO347; clear BK277; clear BK278; clear BK309; clear BK318; clear BK340; clear HB; have HO282 := n0_; have HO285 := n1_; have HO303 := n2_; have HO306 := n3_; have HO312 := n4_; have HO315 := n5_; have HO334 := n6_; have HO337 := n7_; have HO344 := n8_; have HO347 := n9_; have BK277 := n10_; have BK278 := n11_; have BK309 := n12_; have BK318 := n13_; have BK340 := n14_; have HB := n15_; clear n0_ n1_ n2_ n3_ n4_ n5_ n6_ n7_ n8_ n9_ n10_ n11_ n12_ n13_ n14_ n15_; (try clear hb); (try clear hb2); (try clear hk); (try clear hi)))
  have n0_ := Aside0.mk (Kd.R_drew HO282.out)
  have n1_ := Aside0.mk (Kd.R_drew HO285.out)
  have n2_ := Aside0.mk (Kd.R_drew HO303.out)
  have n3_ := Aside0.mk (Kd.R_drew HO306.out)
  have n4_ := Aside0.mk (Kd.R_drew HO312.out)
  have n5_ := Aside0.mk (Kd.R_drew HO315.out)
  have n6_ := Aside0.mk (Kd.R_drew HO334.out)
  have n7_ := Aside0.mk (Kd.R_drew HO337.out)
  have n8_ := Aside0.mk (Kd.R_drew HO344.out)
  have n9_ := Aside0.mk (Kd.R_drew HO347.out)
  have n10_ := Aside0.mk (blk_drew BK277.out)
  have n11_ := Aside0.mk (blk_drew BK278.out)
  have n12_ := Aside0.mk (blk_drew BK309.out)
  have n13_ := Aside0.mk (blk_drew BK318.out)
  have n14_ := Aside0.mk (blk_drew BK340.out)
  have n15_ := Aside0.mk (below_drew1 HB.out)
  clear HO282
  clear HO285
  clear HO303
  clear HO306
  clear HO312
  clear HO315
  clear HO334
  clear HO337
  clear HO344
  clear HO347
  clear BK277
  clear BK278
  clear BK309
  clear BK318
  clear BK340
  clear HB
  have HO282 := n0_
  have HO285 := n1_
  have HO303 := n2_
  have HO306 := n3_
  have HO312 := n4_
  have HO315 := n5_
  have HO334 := n6_
  have HO337 := n7_
  have HO344 := n8_
  have HO347 := n9_
  have BK277 := n10_
  have BK278 := n11_
  have BK309 := n12_
  have BK318 := n13_
  have BK340 := n14_
  have HB := n15_
  clear n0_ n1_ n2_ n3_ n4_ n5_ n6_ n7_ n8_ n9_ n10_ n11_ n12_ n13_ n14_ n15_
  refine start_ (n := 7) (S := fun w' => w'.cell? ⟨gb277, 0, none⟩ = some (.slice A0_0 l0_0.length c0_0) ∧ w'.cell? ⟨gb277, 1, none⟩ = some (.slice A0_1 l0_1.length c0_1) ∧ w'.cell? ⟨gb277, 2, none⟩ = some (.int .i64 a0_2) ∧ w'.cell? ⟨gb277, 3, none⟩ = some (.int .i64 a0_3) ∧ w'.cell? ⟨gb278, 0, none⟩ = some (.int .i64 a1_0) ∧ w'.cell? ⟨gb278, 1, none⟩ = some (.int .i64 a1_1) ∧ w'.cell? ⟨gb278, 2, none⟩ = some (.int .i64 a1_2) ∧ w'.cell? ⟨gb278, 3, none⟩ = some (.int .i64 a1_3) ∧ w'.cell? ⟨gb278, 4, none⟩ = some (.int .i64 a1_4) ∧ w'.cell? ⟨gb278, 5, none⟩ = some (.int .i64 a1_5) ∧ w'.cell? ⟨gb278, 6, none⟩ = some (.int .i64 a1_6) ∧ w'.cell? ⟨gb278, 7, none⟩ = some (.int .i64 a1_7) ∧ w'.cell? ⟨gb278, 8, none⟩ = some (.int .i64 a1_8) ∧ w'.cell? ⟨gb278, 9, none⟩ = some (.int .i64 a1_9) ∧ w'.cell? ⟨gb278, 10, none⟩ = some (.int .i64 a1_10) ∧ w'.cell? ⟨gb278, 11, none⟩ = some (.bool a1_11) ∧ w'.cell? ⟨gb278, 12, none⟩ = some (.bool a1_12)) (ds := []) #[false, false, false, false, false, false, false] (by kernel_rfl) rfl rfl ⟨(blk_cell BK277.out 0).trans rfl, (blk_cell BK277.out 1).trans rfl, (blk_cell BK277.out 2).trans rfl, (blk_cell BK277.out 3).trans rfl, (blk_cell BK278.out 0).trans rfl, (blk_cell BK278.out 1).trans rfl, (blk_cell BK278.out 2).trans rfl, (blk_cell BK278.out 3).trans rfl, (blk_cell BK278.out 4).trans rfl, (blk_cell BK278.out 5).trans rfl, (blk_cell BK278.out 6).trans rfl, (blk_cell BK278.out 7).trans rfl, (blk_cell BK278.out 8).trans rfl, (blk_cell BK278.out 9).trans rfl, (blk_cell BK278.out 10).trans rfl, (blk_cell BK278.out 11).trans rfl, (blk_cell BK278.out 12).trans rfl⟩ (fun hHeld => ?_)
  generalize w99.drew = w100 at HO282 HO285 HO303 HO306 HO312 HO315 HO334 HO337 HO344 HO347 BK277 BK278 BK309 BK318 BK340 HB hHeld ⊢
  refine take_ (i := 0) (N := some 60) (v := _) (a' := _) (M11_7 1) rfl rfl (by kernel_rfl) (fun _ _ _ h => h) (Or.inl ⟨(by rfl), Z11_146⟩) hHeld Z11_147 ?_
  refine take_ (i := 2) (N := some 62) (v := _) (a' := _) (M11_7 5) rfl rfl (by kernel_rfl) (fun _ _ _ h => h) (Or.inl ⟨(by rfl), Z11_146⟩) hHeld Z11_147 ?_
  refine join_ (σ := Value × Value × Value × Value × Nat) 1 (M11_7 63) (fun s_ => [(61, .agg #[s_.1, s_.2.1, .int .i64 t365, .int .i64 t366]), (63, .agg #[.int .i64 t367, .int .i64 t368, .int .i64 t369, .int .i64 t370, .int .i64 t371, .int .i64 t372, .int .i64 t373, .int .i64 t374, .int .i64 t375, .int .i64 t376, .int .i64 t377, .bool t378, .bool t379]), (64, .agg #[s_.2.2.1, s_.2.2.2.1, .int .i64 t386, .int .i64 t387]), (12, .pointer (some ⟨s_.2.2.2.2, 0, none⟩))]) (fun s_ w' => (w'.cell? ⟨gb277, 0, none⟩ = some (.slice A0_0 l0_0.length c0_0) ∧ w'.cell? ⟨gb277, 1, none⟩ = some (.slice A0_1 l0_1.length c0_1) ∧ w'.cell? ⟨gb277, 2, none⟩ = some (.int .i64 a0_2) ∧ w'.cell? ⟨gb277, 3, none⟩ = some (.int .i64 a0_3) ∧ w'.cell? ⟨gb278, 0, none⟩ = some (.int .i64 a1_0) ∧ w'.cell? ⟨gb278, 1, none⟩ = some (.int .i64 a1_1) ∧ w'.cell? ⟨gb278, 2, none⟩ = some (.int .i64 a1_2) ∧ w'.cell? ⟨gb278, 3, none⟩ = some (.int .i64 a1_3) ∧ w'.cell? ⟨gb278, 4, none⟩ = some (.int .i64 a1_4) ∧ w'.cell? ⟨gb278, 5, none⟩ = some (.int .i64 a1_5) ∧ w'.cell? ⟨gb278, 6, none⟩ = some (.int .i64 a1_6) ∧ w'.cell? ⟨gb278, 7, none⟩ = some (.int .i64 a1_7) ∧ w'.cell? ⟨gb278, 8, none⟩ = some (.int .i64 a1_8) ∧ w'.cell? ⟨gb278, 9, none⟩ = some (.int .i64 a1_9) ∧ w'.cell? ⟨gb278, 10, none⟩ = some (.int .i64 a1_10) ∧ w'.cell? ⟨gb278, 11, none⟩ = some (.bool a1_11) ∧ w'.cell? ⟨gb278, 12, none⟩ = some (.bool a1_12)) ∧ (Kd.R k25 25 w' w.heap.size (fun k_ => some k_ ≠ (.slice Ao50 t301.length co50 : Value).ownBlock ∧ some k_ ≠ (.slice Ao60 t310.length co60 : Value).ownBlock ∧ some k_ ≠ (.slice Ao72 t332.length co72 : Value).ownBlock ∧ some k_ ≠ (.slice Ao88 t342.length co88 : Value).ownBlock ∧ some k_ ≠ (s_.1 : Value).ownBlock ∧ some k_ ≠ (s_.2.2.1 : Value).ownBlock) v281 t280) ∧ (Kd.R k71 71 w' w.heap.size (fun k_ => some k_ ≠ (.slice Ao52 t304.length co52 : Value).ownBlock ∧ some k_ ≠ (.slice Ao65 t313.length co65 : Value).ownBlock ∧ some k_ ≠ (.slice Ao74 t335.length co74 : Value).ownBlock ∧ some k_ ≠ (.slice Ao89 t345.length co89 : Value).ownBlock ∧ some k_ ≠ (s_.2.1 : Value).ownBlock ∧ some k_ ≠ (s_.2.2.2.1 : Value).ownBlock) v284 t283) ∧ (Kd.R k25 25 w' w.heap.size (fun k_ => some k_ ≠ (v281 : Value).ownBlock ∧ some k_ ≠ (.slice Ao60 t310.length co60 : Value).ownBlock ∧ some k_ ≠ (.slice Ao72 t332.length co72 : Value).ownBlock ∧ some k_ ≠ (.slice Ao88 t342.length co88 : Value).ownBlock ∧ some k_ ≠ (s_.1 : Value).ownBlock ∧ some k_ ≠ (s_.2.2.1 : Value).ownBlock) (.slice Ao50 t301.length co50) t301) ∧ (Kd.R k71 71 w' w.heap.size (fun k_ => some k_ ≠ (v284 : Value).ownBlock ∧ some k_ ≠ (.slice Ao65 t313.length co65 : Value).ownBlock ∧ some k_ ≠ (.slice Ao74 t335.length co74 : Value).ownBlock ∧ some k_ ≠ (.slice Ao89 t345.length co89 : Value).ownBlock ∧ some k_ ≠ (s_.2.1 : Value).ownBlock ∧ some k_ ≠ (s_.2.2.2.1 : Value).ownBlock) (.slice Ao52 t304.length co52) t304) ∧ (Kd.R k25 25 w' w.heap.size (fun k_ => some k_ ≠ (v281 : Value).ownBlock ∧ some k_ ≠ (.slice Ao50 t301.length co50 : Value).ownBlock ∧ some k_ ≠ (.slice Ao72 t332.length co72 : Value).ownBlock ∧ some k_ ≠ (.slice Ao88 t342.length co88 : Value).ownBlock ∧ some k_ ≠ (s_.1 : Value).ownBlock ∧ some k_ ≠ (s_.2.2.1 : Value).ownBlock) (.slice Ao60 t310.length co60) t352) ∧ (Kd.R k71 71 w' w.heap.size (fun k_ => some k_ ≠ (v284 : Value).ownBlock ∧ some k_ ≠ (.slice Ao52 t304.length co52 : Value).ownBlock ∧ some k_ ≠ (.slice Ao74 t335.length co74 : Value).ownBlock ∧ some k_ ≠ (.slice Ao89 t345.length co89 : Value).ownBlock ∧ some k_ ≠ (s_.2.1 : Value).ownBlock ∧ some k_ ≠ (s_.2.2.2.1 : Value).ownBlock) (.slice Ao65 t313.length co65) t353) ∧ (Kd.R k25 25 w' w.heap.size (fun k_ => some k_ ≠ (v281 : Value).ownBlock ∧ some k_ ≠ (.slice Ao50 t301.length co50 : Value).ownBlock ∧ some k_ ≠ (.slice Ao60 t310.length co60 : Value).ownBlock ∧ some k_ ≠ (.slice Ao88 t342.length co88 : Value).ownBlock ∧ some k_ ≠ (s_.1 : Value).ownBlock ∧ some k_ ≠ (s_.2.2.1 : Value).ownBlock) (.slice Ao72 t332.length co72) t356) ∧ (Kd.R k71 71 w' w.heap.size (fun k_ => some k_ ≠ (v284 : Value).ownBlock ∧ some k_ ≠ (.slice Ao52 t304.length co52 : Value).ownBlock ∧ some k_ ≠ (.slice Ao65 t313.length co65 : Value).ownBlock ∧ some k_ ≠ (.slice Ao89 t345.length co89 : Value).ownBlock ∧ some k_ ≠ (s_.2.1 : Value).ownBlock ∧ some k_ ≠ (s_.2.2.2.1 : Value).ownBlock) (.slice Ao74 t335.length co74) t357) ∧ (Kd.R k25 25 w' w.heap.size (fun k_ => some k_ ≠ (v281 : Value).ownBlock ∧ some k_ ≠ (.slice Ao50 t301.length co50 : Value).ownBlock ∧ some k_ ≠ (.slice Ao60 t310.length co60 : Value).ownBlock ∧ some k_ ≠ (.slice Ao72 t332.length co72 : Value).ownBlock ∧ some k_ ≠ (s_.1 : Value).ownBlock ∧ some k_ ≠ (s_.2.2.1 : Value).ownBlock) (.slice Ao88 t342.length co88) t342) ∧ (Kd.R k71 71 w' w.heap.size (fun k_ => some k_ ≠ (v284 : Value).ownBlock ∧ some k_ ≠ (.slice Ao52 t304.length co52 : Value).ownBlock ∧ some k_ ≠ (.slice Ao65 t313.length co65 : Value).ownBlock ∧ some k_ ≠ (.slice Ao74 t335.length co74 : Value).ownBlock ∧ some k_ ≠ (s_.2.1 : Value).ownBlock ∧ some k_ ≠ (s_.2.2.2.1 : Value).ownBlock) (.slice Ao89 t345.length co89) t345) ∧ (Kd.R k25 25 w' w.heap.size (fun k_ => some k_ ≠ (v281 : Value).ownBlock ∧ some k_ ≠ (.slice Ao50 t301.length co50 : Value).ownBlock ∧ some k_ ≠ (.slice Ao60 t310.length co60 : Value).ownBlock ∧ some k_ ≠ (.slice Ao72 t332.length co72 : Value).ownBlock ∧ some k_ ≠ (.slice Ao88 t342.length co88 : Value).ownBlock ∧ some k_ ≠ (s_.2.2.1 : Value).ownBlock) s_.1 t359) ∧ (Kd.R k71 71 w' w.heap.size (fun k_ => some k_ ≠ (v284 : Value).ownBlock ∧ some k_ ≠ (.slice Ao52 t304.length co52 : Value).ownBlock ∧ some k_ ≠ (.slice Ao65 t313.length co65 : Value).ownBlock ∧ some k_ ≠ (.slice Ao74 t335.length co74 : Value).ownBlock ∧ some k_ ≠ (.slice Ao89 t345.length co89 : Value).ownBlock ∧ some k_ ≠ (s_.2.2.2.1 : Value).ownBlock) s_.2.1 t362) ∧ (Kd.R k25 25 w' w.heap.size (fun k_ => some k_ ≠ (v281 : Value).ownBlock ∧ some k_ ≠ (.slice Ao50 t301.length co50 : Value).ownBlock ∧ some k_ ≠ (.slice Ao60 t310.length co60 : Value).ownBlock ∧ some k_ ≠ (.slice Ao72 t332.length co72 : Value).ownBlock ∧ some k_ ≠ (.slice Ao88 t342.length co88 : Value).ownBlock ∧ some k_ ≠ (s_.1 : Value).ownBlock) s_.2.2.1 t380) ∧ (Kd.R k71 71 w' w.heap.size (fun k_ => some k_ ≠ (v284 : Value).ownBlock ∧ some k_ ≠ (.slice Ao52 t304.length co52 : Value).ownBlock ∧ some k_ ≠ (.slice Ao65 t313.length co65 : Value).ownBlock ∧ some k_ ≠ (.slice Ao74 t335.length co74 : Value).ownBlock ∧ some k_ ≠ (.slice Ao89 t345.length co89 : Value).ownBlock ∧ some k_ ≠ (s_.2.1 : Value).ownBlock) s_.2.2.2.1 t383) ∧ (w'.heap[gb277]? = some (.cells #[.slice A0_0 l0_0.length c0_0, .slice A0_1 l0_1.length c0_1, .int .i64 a0_2, .int .i64 a0_3] 50 (0, 0))) ∧ (w'.heap[gb278]? = some (.cells #[.int .i64 a1_0, .int .i64 a1_1, .int .i64 a1_2, .int .i64 a1_3, .int .i64 a1_4, .int .i64 a1_5, .int .i64 a1_6, .int .i64 a1_7, .int .i64 a1_8, .int .i64 a1_9, .int .i64 a1_10, .bool a1_11, .bool a1_12] 75 (0, 0))) ∧ (w'.heap[gb309]? = some (.cells #[.slice Ao50 t301.length co50, .slice Ao52 t304.length co52, .int .i64 t307, .int .i64 t308] 56 (0, 0))) ∧ (w'.heap[gb318]? = some (.cells #[.slice Ao60 t310.length co60, .slice Ao65 t313.length co65, .int .i64 t316, .int .i64 t317] 56 (0, 0))) ∧ (w'.heap[gb340]? = some (.cells #[.slice Ao72 t332.length co72, .slice Ao74 t335.length co74, .int .i64 t338, .int .i64 t339] 56 (0, 0))) ∧ (w'.heap[s_.2.2.2.2]? = some (.cells #[.slice none 0 0, .slice none 0 0, .int .i64 0, .int .i64 0] 56 (0, 0))) ∧ (w.heap.size ≤ s_.2.2.2.2) ∧ (w.heap.size ≤ s_.2.2.2.2) ∧ (gb277 ≠ s_.2.2.2.2) ∧ (s_.2.2.2.2 ≠ gb277) ∧ (gb278 ≠ s_.2.2.2.2) ∧ (s_.2.2.2.2 ≠ gb278) ∧ (gb309 ≠ s_.2.2.2.2) ∧ (s_.2.2.2.2 ≠ gb309) ∧ (gb318 ≠ s_.2.2.2.2) ∧ (s_.2.2.2.2 ≠ gb318) ∧ (gb340 ≠ s_.2.2.2.2) ∧ (s_.2.2.2.2 ≠ gb340) ∧ (Below w.heap.size w w')) ?_ ?_
  rotate_left
  · intro hCont
    refine two_ (i := 1) (j := 5) (Ni := some 61) (Nj := some 12) (M11_7 7) (M11_7 37) rfl rfl rfl rfl (by kernel_rfl) (by decide) (by decide) (fun K hK => ?_) (fun K hK => ?_)
    · skip
      refine goes_ Try.func37 (by kernel_rfl) rfl #[.agg #[.slice A0_0 l0_0.length c0_0, .slice A0_1 l0_1.length c0_1, .int .i64 a0_2, .int .i64 a0_3]] (by rfl) rfl rfl Z11_109 ?_
      with_reducible refine (laws_toState.calls k _ _ l0_0 _ _ l0_1 a0_2 a0_3 t359 t362 t365 t366 _ ?side1 ?side2 ?side3 ?side4 A29.out).mono ?_
      (case side1 => repeat (first | exact (Kd.C_below HR0_0.out HB.out) | (with_reducible refine Kd.C_alloc ?_ _) | (with_reducible refine Kd.C_drewN ?_ _) | (with_reducible refine Kd.C_drew ?_)))
      (case side2 => exact HC0_0.out)
      (case side3 => repeat (first | exact (Kd.C_below HR0_1.out HB.out) | (with_reducible refine Kd.C_alloc ?_ _) | (with_reducible refine Kd.C_drewN ?_ _) | (with_reducible refine Kd.C_drew ?_)))
      (case side4 => exact HC0_1.out)
      rintro e w101 ⟨v360, v363, rfl, ho0, ho1, hb⟩
      refine ⟨_, rfl, ?_⟩
      have n0_ := Aside0.mk Z11_110
      have n1_ := Aside0.mk Z11_111
      have n2_ := Aside0.mk Z11_112
      have n3_ := Aside0.mk Z11_113
      have n4_ := Aside0.mk Z11_114
      have n5_ := Aside0.mk Z11_115
      have n6_ := Aside0.mk Z11_116
      have n7_ := Aside0.mk Z11_117
      have n8_ := Aside0.mk Z11_118
      have n9_ := Aside0.mk Z11_119
      have n10_ := Aside0.mk (Kd.R_lower (Kd.R_new' (Kd.R_new' (Kd.R_new' (Kd.R_new' (Kd.R_new' ho0 (Kd.R_lt Z11_148)) (Kd.R_lt Z11_150)) (Kd.R_lt Z11_152)) (Kd.R_lt Z11_154)) (Kd.R_lt Z11_156)) (below_size Z11_49))
      have n11_ := Aside0.mk (Kd.R_lower (Kd.R_new' (Kd.R_new' (Kd.R_new' (Kd.R_new' (Kd.R_new' ho1 (Kd.R_lt Z11_149)) (Kd.R_lt Z11_151)) (Kd.R_lt Z11_153)) (Kd.R_lt Z11_155)) (Kd.R_lt Z11_157)) (below_size Z11_49))
      have n12_ := Aside0.mk Z11_57
      have n13_ := Aside0.mk Z11_25
      have n14_ := Aside0.mk Z11_58
      have n15_ := Aside0.mk Z11_59
      have n16_ := Aside0.mk Z11_60
      have n17_ := Aside0.mk Z11_40
      clear HO282
      clear HO285
      clear HO303
      clear HO306
      clear HO312
      clear HO315
      clear HO334
      clear HO337
      clear HO344
      clear HO347
      clear BK277
      clear BK278
      clear BK309
      clear BK318
      clear BK340
      clear HB
      have HO282 := n0_
      have HO285 := n1_
      have HO303 := n2_
      have HO306 := n3_
      have HO312 := n4_
      have HO315 := n5_
      have HO334 := n6_
      have HO337 := n7_
      have HO344 := n8_
      have HO347 := n9_
      have HO361 := n10_
      have HO364 := n11_
      have BK277 := n12_
      have BK278 := n13_
      have BK309 := n14_
      have BK318 := n15_
      have BK340 := n16_
      have HB := n17_
      clear n0_ n1_ n2_ n3_ n4_ n5_ n6_ n7_ n8_ n9_ n10_ n11_ n12_ n13_ n14_ n15_ n16_ n17_
      (try clear hb)
      (try clear hb2)
      (try clear hk)
      (try clear hi)
      (try clear ho0)
      (try clear ho1)
      refine hK.out _ _ (D11_4 BK277.out (C11_13 BK278.out).1) (fun hHeld => ?_)
      clear hK K
      refine norm_ (a' := ?_) ?_ ?_
      rotate_left
      · show Act.put _ (some 61) _ = _
        simp only [Act.put, List.setIfInBounds_toArray, List.set_cons_zero, List.set_cons_succ, i64_w, i32_w]
        rfl
      refine two_ (i := 3) (j := 5) (Ni := some 63) (Nj := some 12) (M11_7 15) (M11_7 39) rfl rfl rfl rfl (by kernel_rfl) (by decide) (by decide) (fun K hK => ?_) (fun K hK => ?_)
      · skip
        refine goes_ Try.func59 (by kernel_rfl) rfl #[.agg #[.int .i64 a1_0, .int .i64 a1_1, .int .i64 a1_2, .int .i64 a1_3, .int .i64 a1_4, .int .i64 a1_5, .int .i64 a1_6, .int .i64 a1_7, .int .i64 a1_8, .int .i64 a1_9, .int .i64 a1_10, .bool a1_11, .bool a1_12]] (by rfl) rfl rfl Z11_109 ?_
        with_reducible refine (laws_toPiece.calls a1_0 a1_1 a1_2 a1_3 a1_4 a1_5 a1_6 a1_7 a1_8 a1_9 a1_10 a1_11 a1_12 t367 t368 t369 t370 t371 t372 t373 t374 t375 t376 t377 t378 t379 _ A30.out).mono ?_
        rintro e w102 ⟨rfl, hb⟩
        refine ⟨_, rfl, ?_⟩
        have n0_ := Aside0.mk Z11_126
        have n1_ := Aside0.mk Z11_127
        have n2_ := Aside0.mk Z11_128
        have n3_ := Aside0.mk Z11_129
        have n4_ := Aside0.mk Z11_130
        have n5_ := Aside0.mk Z11_131
        have n6_ := Aside0.mk Z11_132
        have n7_ := Aside0.mk Z11_133
        have n8_ := Aside0.mk Z11_134
        have n9_ := Aside0.mk Z11_135
        have n10_ := Aside0.mk Z11_136
        have n11_ := Aside0.mk Z11_137
        have n12_ := Aside0.mk Z11_57
        have n13_ := Aside0.mk Z11_25
        have n14_ := Aside0.mk Z11_58
        have n15_ := Aside0.mk Z11_59
        have n16_ := Aside0.mk Z11_60
        have n17_ := Aside0.mk Z11_40
        clear HO282
        clear HO285
        clear HO303
        clear HO306
        clear HO312
        clear HO315
        clear HO334
        clear HO337
        clear HO344
        clear HO347
        clear HO361
        clear HO364
        clear BK277
        clear BK278
        clear BK309
        clear BK318
        clear BK340
        clear HB
        have HO282 := n0_
        have HO285 := n1_
        have HO303 := n2_
        have HO306 := n3_
        have HO312 := n4_
        have HO315 := n5_
        have HO334 := n6_
        have HO337 := n7_
        have HO344 := n8_
        have HO347 := n9_
        have HO361 := n10_
        have HO364 := n11_
        have BK277 := n12_
        have BK278 := n13_
        have BK309 := n14_
        have BK318 := n15_
        have BK340 := n16_
        have HB := n17_
        clear n0_ n1_ n2_ n3_ n4_ n5_ n6_ n7_ n8_ n9_ n10_ n11_ n12_ n13_ n14_ n15_ n16_ n17_
        (try clear hb)
        (try clear hb2)
        (try clear hk)
        (try clear hi)
        obtain ⟨Ao103, co103, eo103⟩ := Kd.R_slice HO361.out
        (first | subst eo103 | (injection eo103 with f1_ f2_ f3_; have f4_ := f1_.symm; have f5_ := f3_.symm; clear f1_ f2_ f3_; subst f4_; subst f5_))
        obtain ⟨Ao104, co104, eo104⟩ := Kd.R_slice HO364.out
        (first | subst eo104 | (injection eo104 with f1_ f2_ f3_; have f4_ := f1_.symm; have f5_ := f3_.symm; clear f1_ f2_ f3_; subst f4_; subst f5_))
        refine hK.out _ _ (D11_4 BK277.out (C11_13 BK278.out).1) (fun hHeld => ?_)
        clear hK K
        refine norm_ (a' := ?_) ?_ ?_
        rotate_left
        · show Act.put _ (some 63) _ = _
          simp only [Act.put, List.setIfInBounds_toArray, List.set_cons_zero, List.set_cons_succ, i64_w, i32_w]
          rfl
        refine two_ (i := 4) (j := 5) (Ni := some 64) (Nj := some 12) (M11_7 31) (M11_7 47) rfl rfl rfl rfl (by kernel_rfl) (by decide) (by decide) (fun K hK => ?_) (fun K hK => ?_)
        · skip
          refine goes_ Try.func60 (by kernel_rfl) rfl #[.agg #[.slice Ao103 t359.length co103, .slice Ao104 t362.length co104, .int .i64 t365, .int .i64 t366], .agg #[.int .i64 t367, .int .i64 t368, .int .i64 t369, .int .i64 t370, .int .i64 t371, .int .i64 t372, .int .i64 t373, .int .i64 t374, .int .i64 t375, .int .i64 t376, .int .i64 t377, .bool t378, .bool t379]] (by rfl) rfl rfl Z11_109 ?_
          with_reducible refine (impl_SetPiece.calls _ _ t359 _ _ t362 t365 t366 t367 t368 t369 t370 t371 t372 t373 t374 t375 t376 t377 t378 t379 t380 t383 t386 t387 _ ?side1 ?side2 ?side3 ?side4 A31.out).mono ?_
          (case side1 => repeat (first | exact (Kd.R_reads' HO361.out).2.2 | (with_reducible refine Kd.C_alloc ?_ _) | (with_reducible refine Kd.C_drewN ?_ _) | (with_reducible refine Kd.C_drew ?_)))
          (case side2 => exact (Kd.R_reads' HO361.out).2.1)
          (case side3 => repeat (first | exact (Kd.R_reads' HO364.out).2.2 | (with_reducible refine Kd.C_alloc ?_ _) | (with_reducible refine Kd.C_drewN ?_ _) | (with_reducible refine Kd.C_drew ?_)))
          (case side4 => exact (Kd.R_reads' HO364.out).2.1)
          rintro e w105 ⟨v381, v384, rfl, ho0, ho1, hb⟩
          refine ⟨_, rfl, ?_⟩
          have n0_ := Aside0.mk Z11_110
          have n1_ := Aside0.mk Z11_111
          have n2_ := Aside0.mk Z11_112
          have n3_ := Aside0.mk Z11_113
          have n4_ := Aside0.mk Z11_114
          have n5_ := Aside0.mk Z11_115
          have n6_ := Aside0.mk Z11_116
          have n7_ := Aside0.mk Z11_117
          have n8_ := Aside0.mk Z11_118
          have n9_ := Aside0.mk Z11_119
          have n10_ := Aside0.mk Z11_120
          have n11_ := Aside0.mk Z11_121
          have n12_ := Aside0.mk (Kd.R_lower (Kd.R_new' (Kd.R_new' (Kd.R_new' (Kd.R_new' (Kd.R_new' (Kd.R_new' ho0 (Kd.R_lt Z11_148)) (Kd.R_lt Z11_150)) (Kd.R_lt Z11_152)) (Kd.R_lt Z11_154)) (Kd.R_lt Z11_156)) (Kd.R_lt (by (with_reducible repeat (first | apply Kd.R_alloc | apply Kd.R_drewN | apply Kd.R_drew)); exact HO361.out))) (below_size Z11_49))
          have n13_ := Aside0.mk (Kd.R_lower (Kd.R_new' (Kd.R_new' (Kd.R_new' (Kd.R_new' (Kd.R_new' (Kd.R_new' ho1 (Kd.R_lt Z11_149)) (Kd.R_lt Z11_151)) (Kd.R_lt Z11_153)) (Kd.R_lt Z11_155)) (Kd.R_lt Z11_157)) (Kd.R_lt (by (with_reducible repeat (first | apply Kd.R_alloc | apply Kd.R_drewN | apply Kd.R_drew)); exact HO364.out))) (below_size Z11_49))
          have n14_ := Aside0.mk Z11_57
          have n15_ := Aside0.mk Z11_25
          have n16_ := Aside0.mk Z11_58
          have n17_ := Aside0.mk Z11_59
          have n18_ := Aside0.mk Z11_60
          have n19_ := Aside0.mk Z11_40
          clear HO282
          clear HO285
          clear HO303
          clear HO306
          clear HO312
          clear HO315
          clear HO334
          clear HO337
          clear HO344
          clear HO347
          clear HO361
          clear HO364
          clear BK277
          clear BK278
          clear BK309
          clear BK318
          clear BK340
          clear HB
          have HO282 := n0_
          have HO285 := n1_
          have HO303 := n2_
          have HO306 := n3_
          have HO312 := n4_
          have HO315 := n5_
          have HO334 := n6_
          have HO337 := n7_
          have HO344 := n8_
          have HO347 := n9_
          have HO361 := n10_
          have HO364 := n11_
          have HO382 := n12_
          have HO385 := n13_
          have BK277 := n14_
          have BK278 := n15_
          have BK309 := n16_
          have BK318 := n17_
          have BK340 := n18_
          have HB := n19_
          clear n0_ n1_ n2_ n3_ n4_ n5_ n6_ n7_ n8_ n9_ n10_ n11_ n12_ n13_ n14_ n15_ n16_ n17_ n18_ n19_
          (try clear hb)
          (try clear hb2)
          (try clear hk)
          (try clear hi)
          (try clear ho0)
          (try clear ho1)
          refine hK.out _ _ (D11_4 BK277.out (C11_13 BK278.out).1) (fun hHeld => ?_)
          clear hK K
          refine norm_ (a' := ?_) ?_ ?_
          rotate_left
          · show Act.put _ (some 64) _ = _
            simp only [Act.put, List.setIfInBounds_toArray, List.set_cons_zero, List.set_cons_succ, i64_w, i32_w]
            rfl
          refine one_ (i := 5) (N := some 12) (M11_7 63) rfl rfl (by kernel_rfl) (by decide) (fun K hK => ?_)
          refine box_step ?hg (N := 12) ?hd (cs := #[.slice none 0 0, .slice none 0 0, .int .i64 0, .int .i64 0]) (t := 56) ?hr ?_; (case hd => rfl); (case hg => rfl); (case hr => first | (go_simp; done) | (go_simp; rfl))
          intro gb388 hg w106 hbox hb
          have n0_ := Aside0.mk Z11_126
          have n1_ := Aside0.mk Z11_127
          have n2_ := Aside0.mk Z11_128
          have n3_ := Aside0.mk Z11_129
          have n4_ := Aside0.mk Z11_130
          have n5_ := Aside0.mk Z11_131
          have n6_ := Aside0.mk Z11_132
          have n7_ := Aside0.mk Z11_133
          have n8_ := Aside0.mk Z11_134
          have n9_ := Aside0.mk Z11_135
          have n10_ := Aside0.mk Z11_136
          have n11_ := Aside0.mk Z11_137
          have n12_ := Aside0.mk Z11_138
          have n13_ := Aside0.mk Z11_139
          have n14_ := Aside0.mk Z11_57
          have n15_ := Aside0.mk Z11_25
          have n16_ := Aside0.mk Z11_58
          have n17_ := Aside0.mk Z11_59
          have n18_ := Aside0.mk Z11_60
          have n19_ := Aside0.mk Z11_40
          have n20_ := Aside0.mk (hbox)
          have n21_ := Aside0.mk Z11_26
          have n22_ := Aside0.mk Z11_26
          have n23_ := Aside0.mk Z11_41
          have n24_ := Aside0.mk Z11_42
          have n25_ := Aside0.mk Z11_21
          have n26_ := Aside0.mk Z11_22
          have n27_ := Aside0.mk Z11_43
          have n28_ := Aside0.mk Z11_44
          have n29_ := Aside0.mk Z11_45
          have n30_ := Aside0.mk Z11_46
          have n31_ := Aside0.mk Z11_47
          have n32_ := Aside0.mk Z11_48
          clear HO282
          clear HO285
          clear HO303
          clear HO306
          clear HO312
          clear HO315
          clear HO334
          clear HO337
          clear HO344
          clear HO347
          clear HO361
          clear HO364
          clear HO382
          clear HO385
          clear BK277
          clear BK278
          clear BK309
          clear BK318
          clear BK340
          clear HB
          have HO282 := n0_
          have HO285 := n1_
          have HO303 := n2_
          have HO306 := n3_
          have HO312 := n4_
          have HO315 := n5_
          have HO334 := n6_
          have HO337 := n7_
          have HO344 := n8_
          have HO347 := n9_
          have HO361 := n10_
          have HO364 := n11_
          have HO382 := n12_
          have HO385 := n13_
          have BK277 := n14_
          have BK278 := n15_
          have BK309 := n16_
          have BK318 := n17_
          have BK340 := n18_
          have HB := n19_
          have BK388 := n20_
          have GW388 := n21_
          have GE388 := n22_
          have NB277_388 := n23_
          have NB388_277 := n24_
          have NB278_388 := n25_
          have NB388_278 := n26_
          have NB309_388 := n27_
          have NB388_309 := n28_
          have NB318_388 := n29_
          have NB388_318 := n30_
          have NB340_388 := n31_
          have NB388_340 := n32_
          clear n0_ n1_ n2_ n3_ n4_ n5_ n6_ n7_ n8_ n9_ n10_ n11_ n12_ n13_ n14_ n15_ n16_ n17_ n18_ n19_ n20_ n21_ n22_ n23_ n24_ n25_ n26_ n27_ n28_ n29_ n30_ n31_ n32_
          clear hb hbox hg
          refine hK.out _ _ (D11_4 BK277.out (C11_13 BK278.out).1) (fun hHeld => ?_)
          clear hK K
          refine norm_ (a' := ?_) ?_ ?_
          rotate_left
          · show Act.put _ (some 12) _ = _
            simp only [Act.put, List.setIfInBounds_toArray, List.set_cons_zero, List.set_cons_succ, i64_w, i32_w]
            rfl
          exact norm_ Z11_158 (hCont (.slice Ao103 t359.length co103, .slice Ao104 t362.length co104, v381, v384, gb388) _ ⟨hHeld, Z11_87, Z11_88, Z11_89, Z11_90, Z11_91, Z11_92, Z11_93, Z11_94, Z11_95, Z11_96, Z11_83, Z11_84, Z11_85, Z11_86, Z11_140, Z11_141, Z11_142, Z11_143, Z11_144, Z11_145, GW388.out, GE388.out, NB277_388.out, NB388_277.out, NB278_388.out, NB388_278.out, NB309_388.out, NB388_309.out, NB318_388.out, NB388_318.out, NB340_388.out, NB388_340.out, Z11_28⟩)
        · skip
          refine box_step ?hg (N := 12) ?hd (cs := #[.slice none 0 0, .slice none 0 0, .int .i64 0, .int .i64 0]) (t := 56) ?hr ?_; (case hd => rfl); (case hg => rfl); (case hr => first | (go_simp; done) | (go_simp; rfl))
          intro gb388 hg w103 hbox hb
          have n0_ := Aside0.mk Z11_126
          have n1_ := Aside0.mk Z11_127
          have n2_ := Aside0.mk Z11_128
          have n3_ := Aside0.mk Z11_129
          have n4_ := Aside0.mk Z11_130
          have n5_ := Aside0.mk Z11_131
          have n6_ := Aside0.mk Z11_132
          have n7_ := Aside0.mk Z11_133
          have n8_ := Aside0.mk Z11_134
          have n9_ := Aside0.mk Z11_135
          have n10_ := Aside0.mk Z11_136
          have n11_ := Aside0.mk Z11_137
          have n12_ := Aside0.mk Z11_57
          have n13_ := Aside0.mk Z11_25
          have n14_ := Aside0.mk Z11_58
          have n15_ := Aside0.mk Z11_59
          have n16_ := Aside0.mk Z11_60
          have n17_ := Aside0.mk Z11_40
          have n18_ := Aside0.mk (hbox)
          have n19_ := Aside0.mk Z11_26
          have n20_ := Aside0.mk Z11_26
          have n21_ := Aside0.mk Z11_41
          have n22_ := Aside0.mk Z11_42
          have n23_ := Aside0.mk Z11_21
          have n24_ := Aside0.mk Z11_22
          have n25_ := Aside0.mk Z11_43
          have n26_ := Aside0.mk Z11_44
          have n27_ := Aside0.mk Z11_45
          have n28_ := Aside0.mk Z11_46
          have n29_ := Aside0.mk Z11_47
          have n30_ := Aside0.mk Z11_48
          clear HO282
          clear HO285
          clear HO303
          clear HO306
          clear HO312
          clear HO315
          clear HO334
          clear HO337
          clear HO344
          clear HO347
          clear HO361
          clear HO364
          clear BK277
          clear BK278
          clear BK309
          clear BK318
          clear BK340
          clear HB
          have HO282 := n0_
          have HO285 := n1_
          have HO303 := n2_
          have HO306 := n3_
          have HO312 := n4_
          have HO315 := n5_
          have HO334 := n6_
          have HO337 := n7_
          have HO344 := n8_
          have HO347 := n9_
          have HO361 := n10_
          have HO364 := n11_
          have BK277 := n12_
          have BK278 := n13_
          have BK309 := n14_
          have BK318 := n15_
          have BK340 := n16_
          have HB := n17_
          have BK388 := n18_
          have GW388 := n19_
          have GE388 := n20_
          have NB277_388 := n21_
          have NB388_277 := n22_
          have NB278_388 := n23_
          have NB388_278 := n24_
          have NB309_388 := n25_
          have NB388_309 := n26_
          have NB318_388 := n27_
          have NB388_318 := n28_
          have NB340_388 := n29_
          have NB388_340 := n30_
          clear n0_ n1_ n2_ n3_ n4_ n5_ n6_ n7_ n8_ n9_ n10_ n11_ n12_ n13_ n14_ n15_ n16_ n17_ n18_ n19_ n20_ n21_ n22_ n23_ n24_ n25_ n26_ n27_ n28_ n29_ n30_
          clear hb hbox hg
          obtain ⟨Ao104, co104, eo104⟩ := Kd.R_slice HO361.out
          (first | subst eo104 | (injection eo104 with f1_ f2_ f3_; have f4_ := f1_.symm; have f5_ := f3_.symm; clear f1_ f2_ f3_; subst f4_; subst f5_))
          obtain ⟨Ao105, co105, eo105⟩ := Kd.R_slice HO364.out
          (first | subst eo105 | (injection eo105 with f1_ f2_ f3_; have f4_ := f1_.symm; have f5_ := f3_.symm; clear f1_ f2_ f3_; subst f4_; subst f5_))
          refine hK.out _ _ (D11_4 BK277.out (C11_13 BK278.out).1) (fun hHeld => ?_)
          clear hK K
          refine norm_ (a' := ?_) ?_ ?_
          rotate_left
          · show Act.put _ (some 12) _ = _
            simp only [Act.put, List.setIfInBounds_toArray, List.set_cons_zero, List.set_cons_succ, i64_w, i32_w]
            rfl
          refine one_ (i := 4) (N := some 64) (M11_7 63) rfl rfl (by kernel_rfl) (by decide) (fun K hK => ?_)
          refine goes_ Try.func60 (by kernel_rfl) rfl #[.agg #[.slice Ao104 t359.length co104, .slice Ao105 t362.length co105, .int .i64 t365, .int .i64 t366], .agg #[.int .i64 t367, .int .i64 t368, .int .i64 t369, .int .i64 t370, .int .i64 t371, .int .i64 t372, .int .i64 t373, .int .i64 t374, .int .i64 t375, .int .i64 t376, .int .i64 t377, .bool t378, .bool t379]] (by rfl) rfl rfl Z11_109 ?_
          with_reducible refine (impl_SetPiece.calls _ _ t359 _ _ t362 t365 t366 t367 t368 t369 t370 t371 t372 t373 t374 t375 t376 t377 t378 t379 t380 t383 t386 t387 _ ?side1 ?side2 ?side3 ?side4 A31.out).mono ?_
          (case side1 => repeat (first | exact (Kd.R_reads' HO361.out).2.2 | (with_reducible refine Kd.C_alloc ?_ _) | (with_reducible refine Kd.C_drewN ?_ _) | (with_reducible refine Kd.C_drew ?_)))
          (case side2 => exact (Kd.R_reads' HO361.out).2.1)
          (case side3 => repeat (first | exact (Kd.R_reads' HO364.out).2.2 | (with_reducible refine Kd.C_alloc ?_ _) | (with_reducible refine Kd.C_drewN ?_ _) | (with_reducible refine Kd.C_drew ?_)))
          (case side4 => exact (Kd.R_reads' HO364.out).2.1)
          rintro e w106 ⟨v381, v384, rfl, ho0, ho1, hb⟩
          refine ⟨_, rfl, ?_⟩
          have n0_ := Aside0.mk Z11_110
          have n1_ := Aside0.mk Z11_111
          have n2_ := Aside0.mk Z11_112
          have n3_ := Aside0.mk Z11_113
          have n4_ := Aside0.mk Z11_114
          have n5_ := Aside0.mk Z11_115
          have n6_ := Aside0.mk Z11_116
          have n7_ := Aside0.mk Z11_117
          have n8_ := Aside0.mk Z11_118
          have n9_ := Aside0.mk Z11_119
          have n10_ := Aside0.mk Z11_120
          have n11_ := Aside0.mk Z11_121
          have n12_ := Aside0.mk Z11_1
          have n13_ := Aside0.mk Z11_2
          have n14_ := Aside0.mk Z11_57
          have n15_ := Aside0.mk Z11_25
          have n16_ := Aside0.mk Z11_58
          have n17_ := Aside0.mk Z11_59
          have n18_ := Aside0.mk Z11_60
          have n19_ := Aside0.mk Z11_72
          have n20_ := Aside0.mk Z11_27
          clear HO282
          clear HO285
          clear HO303
          clear HO306
          clear HO312
          clear HO315
          clear HO334
          clear HO337
          clear HO344
          clear HO347
          clear HO361
          clear HO364
          clear BK277
          clear BK278
          clear BK309
          clear BK318
          clear BK340
          clear BK388
          clear HB
          have HO282 := n0_
          have HO285 := n1_
          have HO303 := n2_
          have HO306 := n3_
          have HO312 := n4_
          have HO315 := n5_
          have HO334 := n6_
          have HO337 := n7_
          have HO344 := n8_
          have HO347 := n9_
          have HO361 := n10_
          have HO364 := n11_
          have HO382 := n12_
          have HO385 := n13_
          have BK277 := n14_
          have BK278 := n15_
          have BK309 := n16_
          have BK318 := n17_
          have BK340 := n18_
          have BK388 := n19_
          have HB := n20_
          clear n0_ n1_ n2_ n3_ n4_ n5_ n6_ n7_ n8_ n9_ n10_ n11_ n12_ n13_ n14_ n15_ n16_ n17_ n18_ n19_ n20_
          (try clear hb)
          (try clear hb2)
          (try clear hk)
          (try clear hi)
          (try clear ho0)
          (try clear ho1)
          refine hK.out _ _ (D11_4 BK277.out (C11_13 BK278.out).1) (fun hHeld => ?_)
          clear hK K
          refine norm_ (a' := ?_) ?_ ?_
          rotate_left
          · show Act.put _ (some 64) _ = _
            simp only [Act.put, List.setIfInBounds_toArray, List.set_cons_zero, List.set_cons_succ, i64_w, i32_w]
            rfl
          exact norm_ Z11_158 (hCont (.slice Ao104 t359.length co104, .slice Ao105 t362.length co105, v381, v384, gb388) _ ⟨hHeld, Z11_87, Z11_88, Z11_89, Z11_90, Z11_91, Z11_92, Z11_93, Z11_94, Z11_95, Z11_96, Z11_83, Z11_84, Z11_85, Z11_86, Z11_140, Z11_141, Z11_142, Z11_143, Z11_144, Z11_145, GW388.out, GE388.out, NB277_388.out, NB388_277.out, NB278_388.out, NB388_278.out, NB309_388.out, NB388_309.out, NB318_388.out, NB388_318.out, NB340_388.out, NB388_340.out, Z11_28⟩)
      · skip
        refine box_step ?hg (N := 12) ?hd (cs := #[.slice none 0 0, .slice none 0 0, .int .i64 0, .int .i64 0]) (t := 56) ?hr ?_; (case hd => rfl); (case hg => rfl); (case hr => first | (go_simp; done) | (go_simp; rfl))
        intro gb388 hg w102 hbox hb
        have n0_ := Aside0.mk Z11_126
        have n1_ := Aside0.mk Z11_127
        have n2_ := Aside0.mk Z11_128
        have n3_ := Aside0.mk Z11_129
        have n4_ := Aside0.mk Z11_130
        have n5_ := Aside0.mk Z11_131
        have n6_ := Aside0.mk Z11_132
        have n7_ := Aside0.mk Z11_133
        have n8_ := Aside0.mk Z11_134
        have n9_ := Aside0.mk Z11_135
        have n10_ := Aside0.mk Z11_136
        have n11_ := Aside0.mk Z11_137
        have n12_ := Aside0.mk Z11_57
        have n13_ := Aside0.mk Z11_25
        have n14_ := Aside0.mk Z11_58
        have n15_ := Aside0.mk Z11_59
        have n16_ := Aside0.mk Z11_60
        have n17_ := Aside0.mk Z11_40
        have n18_ := Aside0.mk (hbox)
        have n19_ := Aside0.mk Z11_26
        have n20_ := Aside0.mk Z11_26
        have n21_ := Aside0.mk Z11_41
        have n22_ := Aside0.mk Z11_42
        have n23_ := Aside0.mk Z11_21
        have n24_ := Aside0.mk Z11_22
        have n25_ := Aside0.mk Z11_43
        have n26_ := Aside0.mk Z11_44
        have n27_ := Aside0.mk Z11_45
        have n28_ := Aside0.mk Z11_46
        have n29_ := Aside0.mk Z11_47
        have n30_ := Aside0.mk Z11_48
        clear HO282
        clear HO285
        clear HO303
        clear HO306
        clear HO312
        clear HO315
        clear HO334
        clear HO337
        clear HO344
        clear HO347
        clear HO361
        clear HO364
        clear BK277
        clear BK278
        clear BK309
        clear BK318
        clear BK340
        clear HB
        have HO282 := n0_
        have HO285 := n1_
        have HO303 := n2_
        have HO306 := n3_
        have HO312 := n4_
        have HO315 := n5_
        have HO334 := n6_
        have HO337 := n7_
        have HO344 := n8_
        have HO347 := n9_
        have HO361 := n10_
        have HO364 := n11_
        have BK277 := n12_
        have BK278 := n13_
        have BK309 := n14_
        have BK318 := n15_
        have BK340 := n16_
        have HB := n17_
        have BK388 := n18_
        have GW388 := n19_
        have GE388 := n20_
        have NB277_388 := n21_
        have NB388_277 := n22_
        have NB278_388 := n23_
        have NB388_278 := n24_
        have NB309_388 := n25_
        have NB388_309 := n26_
        have NB318_388 := n27_
        have NB388_318 := n28_
        have NB340_388 := n29_
        have NB388_340 := n30_
        clear n0_ n1_ n2_ n3_ n4_ n5_ n6_ n7_ n8_ n9_ n10_ n11_ n12_ n13_ n14_ n15_ n16_ n17_ n18_ n19_ n20_ n21_ n22_ n23_ n24_ n25_ n26_ n27_ n28_ n29_ n30_
        clear hb hbox hg
        refine hK.out _ _ (D11_4 BK277.out (C11_13 BK278.out).1) (fun hHeld => ?_)
        clear hK K
        refine norm_ (a' := ?_) ?_ ?_
        rotate_left
        · show Act.put _ (some 12) _ = _
          simp only [Act.put, List.setIfInBounds_toArray, List.set_cons_zero, List.set_cons_succ, i64_w, i32_w]
          rfl
        refine one_ (i := 3) (N := some 63) (M11_7 47) rfl rfl (by kernel_rfl) (by decide) (fun K hK => ?_)
        refine goes_ Try.func59 (by kernel_rfl) rfl #[.agg #[.int .i64 a1_0, .int .i64 a1_1, .int .i64 a1_2, .int .i64 a1_3, .int .i64 a1_4, .int .i64 a1_5, .int .i64 a1_6, .int .i64 a1_7, .int .i64 a1_8, .int .i64 a1_9, .int .i64 a1_10, .bool a1_11, .bool a1_12]] (by rfl) rfl rfl Z11_109 ?_
        with_reducible refine (laws_toPiece.calls a1_0 a1_1 a1_2 a1_3 a1_4 a1_5 a1_6 a1_7 a1_8 a1_9 a1_10 a1_11 a1_12 t367 t368 t369 t370 t371 t372 t373 t374 t375 t376 t377 t378 t379 _ A30.out).mono ?_
        rintro e w103 ⟨rfl, hb⟩
        refine ⟨_, rfl, ?_⟩
        have n0_ := Aside0.mk Z11_126
        have n1_ := Aside0.mk Z11_127
        have n2_ := Aside0.mk Z11_128
        have n3_ := Aside0.mk Z11_129
        have n4_ := Aside0.mk Z11_130
        have n5_ := Aside0.mk Z11_131
        have n6_ := Aside0.mk Z11_132
        have n7_ := Aside0.mk Z11_133
        have n8_ := Aside0.mk Z11_134
        have n9_ := Aside0.mk Z11_135
        have n10_ := Aside0.mk Z11_136
        have n11_ := Aside0.mk Z11_137
        have n12_ := Aside0.mk Z11_57
        have n13_ := Aside0.mk Z11_25
        have n14_ := Aside0.mk Z11_58
        have n15_ := Aside0.mk Z11_59
        have n16_ := Aside0.mk Z11_60
        have n17_ := Aside0.mk Z11_72
        have n18_ := Aside0.mk Z11_27
        clear HO282
        clear HO285
        clear HO303
        clear HO306
        clear HO312
        clear HO315
        clear HO334
        clear HO337
        clear HO344
        clear HO347
        clear HO361
        clear HO364
        clear BK277
        clear BK278
        clear BK309
        clear BK318
        clear BK340
        clear BK388
        clear HB
        have HO282 := n0_
        have HO285 := n1_
        have HO303 := n2_
        have HO306 := n3_
        have HO312 := n4_
        have HO315 := n5_
        have HO334 := n6_
        have HO337 := n7_
        have HO344 := n8_
        have HO347 := n9_
        have HO361 := n10_
        have HO364 := n11_
        have BK277 := n12_
        have BK278 := n13_
        have BK309 := n14_
        have BK318 := n15_
        have BK340 := n16_
        have BK388 := n17_
        have HB := n18_
        clear n0_ n1_ n2_ n3_ n4_ n5_ n6_ n7_ n8_ n9_ n10_ n11_ n12_ n13_ n14_ n15_ n16_ n17_ n18_
        (try clear hb)
        (try clear hb2)
        (try clear hk)
        (try clear hi)
        obtain ⟨Ao104, co104, eo104⟩ := Kd.R_slice HO361.out
        (first | subst eo104 | (injection eo104 with f1_ f2_ f3_; have f4_ := f1_.symm; have f5_ := f3_.symm; clear f1_ f2_ f3_; subst f4_; subst f5_))
        obtain ⟨Ao105, co105, eo105⟩ := Kd.R_slice HO364.out
        (first | subst eo105 | (injection eo105 with f1_ f2_ f3_; have f4_ := f1_.symm; have f5_ := f3_.symm; clear f1_ f2_ f3_; subst f4_; subst f5_))
        refine hK.out _ _ (D11_4 BK277.out (C11_13 BK278.out).1) (fun hHeld => ?_)
        clear hK K
        refine norm_ (a' := ?_) ?_ ?_
        rotate_left
        · show Act.put _ (some 63) _ = _
          simp only [Act.put, List.setIfInBounds_toArray, List.set_cons_zero, List.set_cons_succ, i64_w, i32_w]
          rfl
        refine one_ (i := 4) (N := some 64) (M11_7 63) rfl rfl (by kernel_rfl) (by decide) (fun K hK => ?_)
        refine goes_ Try.func60 (by kernel_rfl) rfl #[.agg #[.slice Ao104 t359.length co104, .slice Ao105 t362.length co105, .int .i64 t365, .int .i64 t366], .agg #[.int .i64 t367, .int .i64 t368, .int .i64 t369, .int .i64 t370, .int .i64 t371, .int .i64 t372, .int .i64 t373, .int .i64 t374, .int .i64 t375, .int .i64 t376, .int .i64 t377, .bool t378, .bool t379]] (by rfl) rfl rfl Z11_109 ?_
        with_reducible refine (impl_SetPiece.calls _ _ t359 _ _ t362 t365 t366 t367 t368 t369 t370 t371 t372 t373 t374 t375 t376 t377 t378 t379 t380 t383 t386 t387 _ ?side1 ?side2 ?side3 ?side4 A31.out).mono ?_
        (case side1 => repeat (first | exact (Kd.R_reads' HO361.out).2.2 | (with_reducible refine Kd.C_alloc ?_ _) | (with_reducible refine Kd.C_drewN ?_ _) | (with_reducible refine Kd.C_drew ?_)))
        (case side2 => exact (Kd.R_reads' HO361.out).2.1)
        (case side3 => repeat (first | exact (Kd.R_reads' HO364.out).2.2 | (with_reducible refine Kd.C_alloc ?_ _) | (with_reducible refine Kd.C_drewN ?_ _) | (with_reducible refine Kd.C_drew ?_)))
        (case side4 => exact (Kd.R_reads' HO364.out).2.1)
        rintro e w106 ⟨v381, v384, rfl, ho0, ho1, hb⟩
        refine ⟨_, rfl, ?_⟩
        have n0_ := Aside0.mk Z11_110
        have n1_ := Aside0.mk Z11_111
        have n2_ := Aside0.mk Z11_112
        have n3_ := Aside0.mk Z11_113
        have n4_ := Aside0.mk Z11_114
        have n5_ := Aside0.mk Z11_115
        have n6_ := Aside0.mk Z11_116
        have n7_ := Aside0.mk Z11_117
        have n8_ := Aside0.mk Z11_118
        have n9_ := Aside0.mk Z11_119
        have n10_ := Aside0.mk Z11_120
        have n11_ := Aside0.mk Z11_121
        have n12_ := Aside0.mk Z11_1
        have n13_ := Aside0.mk Z11_2
        have n14_ := Aside0.mk Z11_57
        have n15_ := Aside0.mk Z11_25
        have n16_ := Aside0.mk Z11_58
        have n17_ := Aside0.mk Z11_59
        have n18_ := Aside0.mk Z11_60
        have n19_ := Aside0.mk Z11_72
        have n20_ := Aside0.mk Z11_27
        clear HO282
        clear HO285
        clear HO303
        clear HO306
        clear HO312
        clear HO315
        clear HO334
        clear HO337
        clear HO344
        clear HO347
        clear HO361
        clear HO364
        clear BK277
        clear BK278
        clear BK309
        clear BK318
        clear BK340
        clear BK388
        clear HB
        have HO282 := n0_
        have HO285 := n1_
        have HO303 := n2_
        have HO306 := n3_
        have HO312 := n4_
        have HO315 := n5_
        have HO334 := n6_
        have HO337 := n7_
        have HO344 := n8_
        have HO347 := n9_
        have HO361 := n10_
        have HO364 := n11_
        have HO382 := n12_
        have HO385 := n13_
        have BK277 := n14_
        have BK278 := n15_
        have BK309 := n16_
        have BK318 := n17_
        have BK340 := n18_
        have BK388 := n19_
        have HB := n20_
        clear n0_ n1_ n2_ n3_ n4_ n5_ n6_ n7_ n8_ n9_ n10_ n11_ n12_ n13_ n14_ n15_ n16_ n17_ n18_ n19_ n20_
        (try clear hb)
        (try clear hb2)
        (try clear hk)
        (try clear hi)
        (try clear ho0)
        (try clear ho1)
        refine hK.out _ _ (D11_4 BK277.out (C11_13 BK278.out).1) (fun hHeld => ?_)
        clear hK K
        refine norm_ (a' := ?_) ?_ ?_
        rotate_left
        · show Act.put _ (some 64) _ = _
          simp only [Act.put, List.setIfInBounds_toArray, List.set_cons_zero, List.set_cons_succ, i64_w, i32_w]
          rfl
        exact norm_ Z11_158 (hCont (.slice Ao104 t359.length co104, .slice Ao105 t362.length co105, v381, v384, gb388) _ ⟨hHeld, Z11_87, Z11_88, Z11_89, Z11_90, Z11_91, Z11_92, Z11_93, Z11_94, Z11_95, Z11_96, Z11_83, Z11_84, Z11_85, Z11_86, Z11_140, Z11_141, Z11_142, Z11_143, Z11_144, Z11_145, GW388.out, GE388.out, NB277_388.out, NB388_277.out, NB278_388.out, NB388_278.out, NB309_388.out, NB388_309.out, NB318_388.out, NB388_318.out, NB340_388.out, NB388_340.out, Z11_28⟩)
    · skip
      refine box_step ?hg (N := 12) ?hd (cs := #[.slice none 0 0, .slice none 0 0, .int .i64 0, .int .i64 0]) (t := 56) ?hr ?_; (case hd => rfl); (case hg => rfl); (case hr => first | (go_simp; done) | (go_simp; rfl))
      intro gb388 hg w101 hbox hb
      have n0_ := Aside0.mk Z11_126
      have n1_ := Aside0.mk Z11_127
      have n2_ := Aside0.mk Z11_128
      have n3_ := Aside0.mk Z11_129
      have n4_ := Aside0.mk Z11_130
      have n5_ := Aside0.mk Z11_131
      have n6_ := Aside0.mk Z11_132
      have n7_ := Aside0.mk Z11_133
      have n8_ := Aside0.mk Z11_134
      have n9_ := Aside0.mk Z11_135
      have n10_ := Aside0.mk Z11_57
      have n11_ := Aside0.mk Z11_25
      have n12_ := Aside0.mk Z11_58
      have n13_ := Aside0.mk Z11_59
      have n14_ := Aside0.mk Z11_60
      have n15_ := Aside0.mk Z11_40
      have n16_ := Aside0.mk (hbox)
      have n17_ := Aside0.mk Z11_26
      have n18_ := Aside0.mk Z11_26
      have n19_ := Aside0.mk Z11_41
      have n20_ := Aside0.mk Z11_42
      have n21_ := Aside0.mk Z11_21
      have n22_ := Aside0.mk Z11_22
      have n23_ := Aside0.mk Z11_43
      have n24_ := Aside0.mk Z11_44
      have n25_ := Aside0.mk Z11_45
      have n26_ := Aside0.mk Z11_46
      have n27_ := Aside0.mk Z11_47
      have n28_ := Aside0.mk Z11_48
      clear HO282
      clear HO285
      clear HO303
      clear HO306
      clear HO312
      clear HO315
      clear HO334
      clear HO337
      clear HO344
      clear HO347
      clear BK277
      clear BK278
      clear BK309
      clear BK318
      clear BK340
      clear HB
      have HO282 := n0_
      have HO285 := n1_
      have HO303 := n2_
      have HO306 := n3_
      have HO312 := n4_
      have HO315 := n5_
      have HO334 := n6_
      have HO337 := n7_
      have HO344 := n8_
      have HO347 := n9_
      have BK277 := n10_
      have BK278 := n11_
      have BK309 := n12_
      have BK318 := n13_
      have BK340 := n14_
      have HB := n15_
      have BK388 := n16_
      have GW388 := n17_
      have GE388 := n18_
      have NB277_388 := n19_
      have NB388_277 := n20_
      have NB278_388 := n21_
      have NB388_278 := n22_
      have NB309_388 := n23_
      have NB388_309 := n24_
      have NB318_388 := n25_
      have NB388_318 := n26_
      have NB340_388 := n27_
      have NB388_340 := n28_
      clear n0_ n1_ n2_ n3_ n4_ n5_ n6_ n7_ n8_ n9_ n10_ n11_ n12_ n13_ n14_ n15_ n16_ n17_ n18_ n19_ n20_ n21_ n22_ n23_ n24_ n25_ n26_ n27_ n28_
      clear hb hbox hg
      refine hK.out _ _ (D11_4 BK277.out (C11_13 BK278.out).1) (fun hHeld => ?_)
      clear hK K
      refine norm_ (a' := ?_) ?_ ?_
      rotate_left
      · show Act.put _ (some 12) _ = _
        simp only [Act.put, List.setIfInBounds_toArray, List.set_cons_zero, List.set_cons_succ, i64_w, i32_w]
        rfl
      refine one_ (i := 1) (N := some 61) (M11_7 39) rfl rfl (by kernel_rfl) (by decide) (fun K hK => ?_)
      refine goes_ Try.func37 (by kernel_rfl) rfl #[.agg #[.slice A0_0 l0_0.length c0_0, .slice A0_1 l0_1.length c0_1, .int .i64 a0_2, .int .i64 a0_3]] (by rfl) rfl rfl Z11_109 ?_
      with_reducible refine (laws_toState.calls k _ _ l0_0 _ _ l0_1 a0_2 a0_3 t359 t362 t365 t366 _ ?side1 ?side2 ?side3 ?side4 A29.out).mono ?_
      (case side1 => repeat (first | exact (Kd.C_below HR0_0.out HB.out) | (with_reducible refine Kd.C_alloc ?_ _) | (with_reducible refine Kd.C_drewN ?_ _) | (with_reducible refine Kd.C_drew ?_)))
      (case side2 => exact HC0_0.out)
      (case side3 => repeat (first | exact (Kd.C_below HR0_1.out HB.out) | (with_reducible refine Kd.C_alloc ?_ _) | (with_reducible refine Kd.C_drewN ?_ _) | (with_reducible refine Kd.C_drew ?_)))
      (case side4 => exact HC0_1.out)
      rintro e w102 ⟨v360, v363, rfl, ho0, ho1, hb⟩
      refine ⟨_, rfl, ?_⟩
      have n0_ := Aside0.mk Z11_110
      have n1_ := Aside0.mk Z11_111
      have n2_ := Aside0.mk Z11_112
      have n3_ := Aside0.mk Z11_113
      have n4_ := Aside0.mk Z11_114
      have n5_ := Aside0.mk Z11_115
      have n6_ := Aside0.mk Z11_116
      have n7_ := Aside0.mk Z11_117
      have n8_ := Aside0.mk Z11_118
      have n9_ := Aside0.mk Z11_119
      have n10_ := Aside0.mk (Kd.R_lower (Kd.R_new' (Kd.R_new' (Kd.R_new' (Kd.R_new' (Kd.R_new' ho0 (Kd.R_lt Z11_148)) (Kd.R_lt Z11_150)) (Kd.R_lt Z11_152)) (Kd.R_lt Z11_154)) (Kd.R_lt Z11_156)) (below_size Z11_28))
      have n11_ := Aside0.mk (Kd.R_lower (Kd.R_new' (Kd.R_new' (Kd.R_new' (Kd.R_new' (Kd.R_new' ho1 (Kd.R_lt Z11_149)) (Kd.R_lt Z11_151)) (Kd.R_lt Z11_153)) (Kd.R_lt Z11_155)) (Kd.R_lt Z11_157)) (below_size Z11_28))
      have n12_ := Aside0.mk Z11_57
      have n13_ := Aside0.mk Z11_25
      have n14_ := Aside0.mk Z11_58
      have n15_ := Aside0.mk Z11_59
      have n16_ := Aside0.mk Z11_60
      have n17_ := Aside0.mk Z11_72
      have n18_ := Aside0.mk Z11_27
      clear HO282
      clear HO285
      clear HO303
      clear HO306
      clear HO312
      clear HO315
      clear HO334
      clear HO337
      clear HO344
      clear HO347
      clear BK277
      clear BK278
      clear BK309
      clear BK318
      clear BK340
      clear BK388
      clear HB
      have HO282 := n0_
      have HO285 := n1_
      have HO303 := n2_
      have HO306 := n3_
      have HO312 := n4_
      have HO315 := n5_
      have HO334 := n6_
      have HO337 := n7_
      have HO344 := n8_
      have HO347 := n9_
      have HO361 := n10_
      have HO364 := n11_
      have BK277 := n12_
      have BK278 := n13_
      have BK309 := n14_
      have BK318 := n15_
      have BK340 := n16_
      have BK388 := n17_
      have HB := n18_
      clear n0_ n1_ n2_ n3_ n4_ n5_ n6_ n7_ n8_ n9_ n10_ n11_ n12_ n13_ n14_ n15_ n16_ n17_ n18_
      (try clear hb)
      (try clear hb2)
      (try clear hk)
      (try clear hi)
      (try clear ho0)
      (try clear ho1)
      refine hK.out _ _ (D11_4 BK277.out (C11_13 BK278.out).1) (fun hHeld => ?_)
      clear hK K
      refine norm_ (a' := ?_) ?_ ?_
      rotate_left
      · show Act.put _ (some 61) _ = _
        simp only [Act.put, List.setIfInBounds_toArray, List.set_cons_zero, List.set_cons_succ, i64_w, i32_w]
        rfl
      refine one_ (i := 3) (N := some 63) (M11_7 47) rfl rfl (by kernel_rfl) (by decide) (fun K hK => ?_)
      refine goes_ Try.func59 (by kernel_rfl) rfl #[.agg #[.int .i64 a1_0, .int .i64 a1_1, .int .i64 a1_2, .int .i64 a1_3, .int .i64 a1_4, .int .i64 a1_5, .int .i64 a1_6, .int .i64 a1_7, .int .i64 a1_8, .int .i64 a1_9, .int .i64 a1_10, .bool a1_11, .bool a1_12]] (by rfl) rfl rfl Z11_109 ?_
      with_reducible refine (laws_toPiece.calls a1_0 a1_1 a1_2 a1_3 a1_4 a1_5 a1_6 a1_7 a1_8 a1_9 a1_10 a1_11 a1_12 t367 t368 t369 t370 t371 t372 t373 t374 t375 t376 t377 t378 t379 _ A30.out).mono ?_
      rintro e w103 ⟨rfl, hb⟩
      refine ⟨_, rfl, ?_⟩
      have n0_ := Aside0.mk Z11_126
      have n1_ := Aside0.mk Z11_127
      have n2_ := Aside0.mk Z11_128
      have n3_ := Aside0.mk Z11_129
      have n4_ := Aside0.mk Z11_130
      have n5_ := Aside0.mk Z11_131
      have n6_ := Aside0.mk Z11_132
      have n7_ := Aside0.mk Z11_133
      have n8_ := Aside0.mk Z11_134
      have n9_ := Aside0.mk Z11_135
      have n10_ := Aside0.mk Z11_136
      have n11_ := Aside0.mk Z11_137
      have n12_ := Aside0.mk Z11_57
      have n13_ := Aside0.mk Z11_25
      have n14_ := Aside0.mk Z11_58
      have n15_ := Aside0.mk Z11_59
      have n16_ := Aside0.mk Z11_60
      have n17_ := Aside0.mk Z11_72
      have n18_ := Aside0.mk Z11_27
      clear HO282
      clear HO285
      clear HO303
      clear HO306
      clear HO312
      clear HO315
      clear HO334
      clear HO337
      clear HO344
      clear HO347
      clear HO361
      clear HO364
      clear BK277
      clear BK278
      clear BK309
      clear BK318
      clear BK340
      clear BK388
      clear HB
      have HO282 := n0_
      have HO285 := n1_
      have HO303 := n2_
      have HO306 := n3_
      have HO312 := n4_
      have HO315 := n5_
      have HO334 := n6_
      have HO337 := n7_
      have HO344 := n8_
      have HO347 := n9_
      have HO361 := n10_
      have HO364 := n11_
      have BK277 := n12_
      have BK278 := n13_
      have BK309 := n14_
      have BK318 := n15_
      have BK340 := n16_
      have BK388 := n17_
      have HB := n18_
      clear n0_ n1_ n2_ n3_ n4_ n5_ n6_ n7_ n8_ n9_ n10_ n11_ n12_ n13_ n14_ n15_ n16_ n17_ n18_
      (try clear hb)
      (try clear hb2)
      (try clear hk)
      (try clear hi)
      obtain ⟨Ao104, co104, eo104⟩ := Kd.R_slice HO361.out
      (first | subst eo104 | (injection eo104 with f1_ f2_ f3_; have f4_ := f1_.symm; have f5_ := f3_.symm; clear f1_ f2_ f3_; subst f4_; subst f5_))
      obtain ⟨Ao105, co105, eo105⟩ := Kd.R_slice HO364.out
      (first | subst eo105 | (injection eo105 with f1_ f2_ f3_; have f4_ := f1_.symm; have f5_ := f3_.symm; clear f1_ f2_ f3_; subst f4_; subst f5_))
      refine hK.out _ _ (D11_4 BK277.out (C11_13 BK278.out).1) (fun hHeld => ?_)
      clear hK K
      refine norm_ (a' := ?_) ?_ ?_
      rotate_left
      · show Act.put _ (some 63) _ = _
        simp only [Act.put, List.setIfInBounds_toArray, List.set_cons_zero, List.set_cons_succ, i64_w, i32_w]
        rfl
      refine one_ (i := 4) (N := some 64) (M11_7 63) rfl rfl (by kernel_rfl) (by decide) (fun K hK => ?_)
      refine goes_ Try.func60 (by kernel_rfl) rfl #[.agg #[.slice Ao104 t359.length co104, .slice Ao105 t362.length co105, .int .i64 t365, .int .i64 t366], .agg #[.int .i64 t367, .int .i64 t368, .int .i64 t369, .int .i64 t370, .int .i64 t371, .int .i64 t372, .int .i64 t373, .int .i64 t374, .int .i64 t375, .int .i64 t376, .int .i64 t377, .bool t378, .bool t379]] (by rfl) rfl rfl Z11_109 ?_
      with_reducible refine (impl_SetPiece.calls _ _ t359 _ _ t362 t365 t366 t367 t368 t369 t370 t371 t372 t373 t374 t375 t376 t377 t378 t379 t380 t383 t386 t387 _ ?side1 ?side2 ?side3 ?side4 A31.out).mono ?_
      (case side1 => repeat (first | exact (Kd.R_reads' HO361.out).2.2 | (with_reducible refine Kd.C_alloc ?_ _) | (with_reducible refine Kd.C_drewN ?_ _) | (with_reducible refine Kd.C_drew ?_)))
      (case side2 => exact (Kd.R_reads' HO361.out).2.1)
      (case side3 => repeat (first | exact (Kd.R_reads' HO364.out).2.2 | (with_reducible refine Kd.C_alloc ?_ _) | (with_reducible refine Kd.C_drewN ?_ _) | (with_reducible refine Kd.C_drew ?_)))
      (case side4 => exact (Kd.R_reads' HO364.out).2.1)
      rintro e w106 ⟨v381, v384, rfl, ho0, ho1, hb⟩
      refine ⟨_, rfl, ?_⟩
      have n0_ := Aside0.mk Z11_110
      have n1_ := Aside0.mk Z11_111
      have n2_ := Aside0.mk Z11_112
      have n3_ := Aside0.mk Z11_113
      have n4_ := Aside0.mk Z11_114
      have n5_ := Aside0.mk Z11_115
      have n6_ := Aside0.mk Z11_116
      have n7_ := Aside0.mk Z11_117
      have n8_ := Aside0.mk Z11_118
      have n9_ := Aside0.mk Z11_119
      have n10_ := Aside0.mk Z11_120
      have n11_ := Aside0.mk Z11_121
      have n12_ := Aside0.mk Z11_1
      have n13_ := Aside0.mk Z11_2
      have n14_ := Aside0.mk Z11_57
      have n15_ := Aside0.mk Z11_25
      have n16_ := Aside0.mk Z11_58
      have n17_ := Aside0.mk Z11_59
      have n18_ := Aside0.mk Z11_60
      have n19_ := Aside0.mk Z11_72
      have n20_ := Aside0.mk Z11_27
      clear HO282
      clear HO285
      clear HO303
      clear HO306
      clear HO312
      clear HO315
      clear HO334
      clear HO337
      clear HO344
      clear HO347
      clear HO361
      clear HO364
      clear BK277
      clear BK278
      clear BK309
      clear BK318
      clear BK340
      clear BK388
      clear HB
      have HO282 := n0_
      have HO285 := n1_
      have HO303 := n2_
      have HO306 := n3_
      have HO312 := n4_
      have HO315 := n5_
      have HO334 := n6_
      have HO337 := n7_
      have HO344 := n8_
      have HO347 := n9_
      have HO361 := n10_
      have HO364 := n11_
      have HO382 := n12_
      have HO385 := n13_
      have BK277 := n14_
      have BK278 := n15_
      have BK309 := n16_
      have BK318 := n17_
      have BK340 := n18_
      have BK388 := n19_
      have HB := n20_
      clear n0_ n1_ n2_ n3_ n4_ n5_ n6_ n7_ n8_ n9_ n10_ n11_ n12_ n13_ n14_ n15_ n16_ n17_ n18_ n19_ n20_
      (try clear hb)
      (try clear hb2)
      (try clear hk)
      (try clear hi)
      (try clear ho0)
      (try clear ho1)
      refine hK.out _ _ (D11_4 BK277.out (C11_13 BK278.out).1) (fun hHeld => ?_)
      clear hK K
      refine norm_ (a' := ?_) ?_ ?_
      rotate_left
      · show Act.put _ (some 64) _ = _
        simp only [Act.put, List.setIfInBounds_toArray, List.set_cons_zero, List.set_cons_succ, i64_w, i32_w]
        rfl
      exact norm_ Z11_158 (hCont (.slice Ao104 t359.length co104, .slice Ao105 t362.length co105, v381, v384, gb388) _ ⟨hHeld, Z11_87, Z11_88, Z11_89, Z11_90, Z11_91, Z11_92, Z11_93, Z11_94, Z11_95, Z11_96, Z11_83, Z11_84, Z11_85, Z11_86, Z11_140, Z11_141, Z11_142, Z11_143, Z11_144, Z11_145, GW388.out, GE388.out, NB277_388.out, NB388_277.out, NB278_388.out, NB388_278.out, NB309_388.out, NB388_309.out, NB318_388.out, NB388_318.out, NB340_388.out, NB388_340.out, Z11_28⟩)
  rintro ⟨v360, v363, v381, v384, gb388⟩ w107 ⟨hS_, h0_, h1_, h2_, h3_, h4_, h5_, h6_, h7_, h8_, h9_, h10_, h11_, h12_, h13_, h14_, h15_, h16_, h17_, h18_, h19_, h20_, h21_, h22_, h23_, h24_, h25_, h26_, h27_, h28_, h29_, h30_, h31_, h32_⟩
  have n0_ : Aside0 (Kd.R k25 25 w107 w.heap.size (fun k_ => some k_ ≠ (.slice Ao50 t301.length co50 : Value).ownBlock ∧ some k_ ≠ (.slice Ao60 t310.length co60 : Value).ownBlock ∧ some k_ ≠ (.slice Ao72 t332.length co72 : Value).ownBlock ∧ some k_ ≠ (.slice Ao88 t342.length co88 : Value).ownBlock ∧ some k_ ≠ (v360 : Value).ownBlock ∧ some k_ ≠ (v381 : Value).ownBlock) v281 t280) := ⟨h0_⟩
  have n1_ : Aside0 (Kd.R k71 71 w107 w.heap.size (fun k_ => some k_ ≠ (.slice Ao52 t304.length co52 : Value).ownBlock ∧ some k_ ≠ (.slice Ao65 t313.length co65 : Value).ownBlock ∧ some k_ ≠ (.slice Ao74 t335.length co74 : Value).ownBlock ∧ some k_ ≠ (.slice Ao89 t345.length co89 : Value).ownBlock ∧ some k_ ≠ (v363 : Value).ownBlock ∧ some k_ ≠ (v384 : Value).ownBlock) v284 t283) := ⟨h1_⟩
  have n2_ : Aside0 (Kd.R k25 25 w107 w.heap.size (fun k_ => some k_ ≠ (v281 : Value).ownBlock ∧ some k_ ≠ (.slice Ao60 t310.length co60 : Value).ownBlock ∧ some k_ ≠ (.slice Ao72 t332.length co72 : Value).ownBlock ∧ some k_ ≠ (.slice Ao88 t342.length co88 : Value).ownBlock ∧ some k_ ≠ (v360 : Value).ownBlock ∧ some k_ ≠ (v381 : Value).ownBlock) (.slice Ao50 t301.length co50) t301) := ⟨h2_⟩
  have n3_ : Aside0 (Kd.R k71 71 w107 w.heap.size (fun k_ => some k_ ≠ (v284 : Value).ownBlock ∧ some k_ ≠ (.slice Ao65 t313.length co65 : Value).ownBlock ∧ some k_ ≠ (.slice Ao74 t335.length co74 : Value).ownBlock ∧ some k_ ≠ (.slice Ao89 t345.length co89 : Value).ownBlock ∧ some k_ ≠ (v363 : Value).ownBlock ∧ some k_ ≠ (v384 : Value).ownBlock) (.slice Ao52 t304.length co52) t304) := ⟨h3_⟩
  have n4_ : Aside0 (Kd.R k25 25 w107 w.heap.size (fun k_ => some k_ ≠ (v281 : Value).ownBlock ∧ some k_ ≠ (.slice Ao50 t301.length co50 : Value).ownBlock ∧ some k_ ≠ (.slice Ao72 t332.length co72 : Value).ownBlock ∧ some k_ ≠ (.slice Ao88 t342.length co88 : Value).ownBlock ∧ some k_ ≠ (v360 : Value).ownBlock ∧ some k_ ≠ (v381 : Value).ownBlock) (.slice Ao60 t310.length co60) t352) := ⟨h4_⟩
  have n5_ : Aside0 (Kd.R k71 71 w107 w.heap.size (fun k_ => some k_ ≠ (v284 : Value).ownBlock ∧ some k_ ≠ (.slice Ao52 t304.length co52 : Value).ownBlock ∧ some k_ ≠ (.slice Ao74 t335.length co74 : Value).ownBlock ∧ some k_ ≠ (.slice Ao89 t345.length co89 : Value).ownBlock ∧ some k_ ≠ (v363 : Value).ownBlock ∧ some k_ ≠ (v384 : Value).ownBlock) (.slice Ao65 t313.length co65) t353) := ⟨h5_⟩
  have n6_ : Aside0 (Kd.R k25 25 w107 w.heap.size (fun k_ => some k_ ≠ (v281 : Value).ownBlock ∧ some k_ ≠ (.slice Ao50 t301.length co50 : Value).ownBlock ∧ some k_ ≠ (.slice Ao60 t310.length co60 : Value).ownBlock ∧ some k_ ≠ (.slice Ao88 t342.length co88 : Value).ownBlock ∧ some k_ ≠ (v360 : Value).ownBlock ∧ some k_ ≠ (v381 : Value).ownBlock) (.slice Ao72 t332.length co72) t356) := ⟨h6_⟩
  have n7_ : Aside0 (Kd.R k71 71 w107 w.heap.size (fun k_ => some k_ ≠ (v284 : Value).ownBlock ∧ some k_ ≠ (.slice Ao52 t304.length co52 : Value).ownBlock ∧ some k_ ≠ (.slice Ao65 t313.length co65 : Value).ownBlock ∧ some k_ ≠ (.slice Ao89 t345.length co89 : Value).ownBlock ∧ some k_ ≠ (v363 : Value).ownBlock ∧ some k_ ≠ (v384 : Value).ownBlock) (.slice Ao74 t335.length co74) t357) := ⟨h7_⟩
  have n8_ : Aside0 (Kd.R k25 25 w107 w.heap.size (fun k_ => some k_ ≠ (v281 : Value).ownBlock ∧ some k_ ≠ (.slice Ao50 t301.length co50 : Value).ownBlock ∧ some k_ ≠ (.slice Ao60 t310.length co60 : Value).ownBlock ∧ some k_ ≠ (.slice Ao72 t332.length co72 : Value).ownBlock ∧ some k_ ≠ (v360 : Value).ownBlock ∧ some k_ ≠ (v381 : Value).ownBlock) (.slice Ao88 t342.length co88) t342) := ⟨h8_⟩
  have n9_ : Aside0 (Kd.R k71 71 w107 w.heap.size (fun k_ => some k_ ≠ (v284 : Value).ownBlock ∧ some k_ ≠ (.slice Ao52 t304.length co52 : Value).ownBlock ∧ some k_ ≠ (.slice Ao65 t313.length co65 : Value).ownBlock ∧ some k_ ≠ (.slice Ao74 t335.length co74 : Value).ownBlock ∧ some k_ ≠ (v363 : Value).ownBlock ∧ some k_ ≠ (v384 : Value).ownBlock) (.slice Ao89 t345.length co89) t345) := ⟨h9_⟩
  have n10_ : Aside0 (Kd.R k25 25 w107 w.heap.size (fun k_ => some k_ ≠ (v281 : Value).ownBlock ∧ some k_ ≠ (.slice Ao50 t301.length co50 : Value).ownBlock ∧ some k_ ≠ (.slice Ao60 t310.length co60 : Value).ownBlock ∧ some k_ ≠ (.slice Ao72 t332.length co72 : Value).ownBlock ∧ some k_ ≠ (.slice Ao88 t342.length co88 : Value).ownBlock ∧ some k_ ≠ (v381 : Value).ownBlock) v360 t359) := ⟨h10_⟩
  have n11_ : Aside0 (Kd.R k71 71 w107 w.heap.size (fun k_ => some k_ ≠ (v284 : Value).ownBlock ∧ some k_ ≠ (.slice Ao52 t304.length co52 : Value).ownBlock ∧ some k_ ≠ (.slice Ao65 t313.length co65 : Value).ownBlock ∧ some k_ ≠ (.slice Ao74 t335.length co74 : Value).ownBlock ∧ some k_ ≠ (.slice Ao89 t345.length co89 : Value).ownBlock ∧ some k_ ≠ (v384 : Value).ownBlock) v363 t362) := ⟨h11_⟩
  have n12_ : Aside0 (Kd.R k25 25 w107 w.heap.size (fun k_ => some k_ ≠ (v281 : Value).ownBlock ∧ some k_ ≠ (.slice Ao50 t301.length co50 : Value).ownBlock ∧ some k_ ≠ (.slice Ao60 t310.length co60 : Value).ownBlock ∧ some k_ ≠ (.slice Ao72 t332.length co72 : Value).ownBlock ∧ some k_ ≠ (.slice Ao88 t342.length co88 : Value).ownBlock ∧ some k_ ≠ (v360 : Value).ownBlock) v381 t380) := ⟨h12_⟩
  have n13_ : Aside0 (Kd.R k71 71 w107 w.heap.size (fun k_ => some k_ ≠ (v284 : Value).ownBlock ∧ some k_ ≠ (.slice Ao52 t304.length co52 : Value).ownBlock ∧ some k_ ≠ (.slice Ao65 t313.length co65 : Value).ownBlock ∧ some k_ ≠ (.slice Ao74 t335.length co74 : Value).ownBlock ∧ some k_ ≠ (.slice Ao89 t345.length co89 : Value).ownBlock ∧ some k_ ≠ (v363 : Value).ownBlock) v384 t383) := ⟨h13_⟩
  have n14_ : Aside0 (w107.heap[gb277]? = some (.cells #[.slice A0_0 l0_0.length c0_0, .slice A0_1 l0_1.length c0_1, .int .i64 a0_2, .int .i64 a0_3] 50 (0, 0))) := ⟨h14_⟩
  have n15_ : Aside0 (w107.heap[gb278]? = some (.cells #[.int .i64 a1_0, .int .i64 a1_1, .int .i64 a1_2, .int .i64 a1_3, .int .i64 a1_4, .int .i64 a1_5, .int .i64 a1_6, .int .i64 a1_7, .int .i64 a1_8, .int .i64 a1_9, .int .i64 a1_10, .bool a1_11, .bool a1_12] 75 (0, 0))) := ⟨h15_⟩
  have n16_ : Aside0 (w107.heap[gb309]? = some (.cells #[.slice Ao50 t301.length co50, .slice Ao52 t304.length co52, .int .i64 t307, .int .i64 t308] 56 (0, 0))) := ⟨h16_⟩
  have n17_ : Aside0 (w107.heap[gb318]? = some (.cells #[.slice Ao60 t310.length co60, .slice Ao65 t313.length co65, .int .i64 t316, .int .i64 t317] 56 (0, 0))) := ⟨h17_⟩
  have n18_ : Aside0 (w107.heap[gb340]? = some (.cells #[.slice Ao72 t332.length co72, .slice Ao74 t335.length co74, .int .i64 t338, .int .i64 t339] 56 (0, 0))) := ⟨h18_⟩
  have n19_ : Aside0 (w107.heap[gb388]? = some (.cells #[.slice none 0 0, .slice none 0 0, .int .i64 0, .int .i64 0] 56 (0, 0))) := ⟨h19_⟩
  have n20_ : Aside0 (w.heap.size ≤ gb388) := ⟨h20_⟩
  have n21_ : Aside0 (w.heap.size ≤ gb388) := ⟨h21_⟩
  have n22_ : Aside0 (gb277 ≠ gb388) := ⟨h22_⟩
  have n23_ : Aside0 (gb388 ≠ gb277) := ⟨h23_⟩
  have n24_ : Aside0 (gb278 ≠ gb388) := ⟨h24_⟩
  have n25_ : Aside0 (gb388 ≠ gb278) := ⟨h25_⟩
  have n26_ : Aside0 (gb309 ≠ gb388) := ⟨h26_⟩
  have n27_ : Aside0 (gb388 ≠ gb309) := ⟨h27_⟩
  have n28_ : Aside0 (gb318 ≠ gb388) := ⟨h28_⟩
  have n29_ : Aside0 (gb388 ≠ gb318) := ⟨h29_⟩
  have n30_ : Aside0 (gb340 ≠ gb388) := ⟨h30_⟩
  have n31_ : Aside0 (gb388 ≠ gb340) := ⟨h31_⟩
  have n32_ : Aside0 (Below w.heap.size w w107) := ⟨h32_⟩
  clear HO282
  clear HO285
  clear HO303
  clear HO306
  clear HO312
  clear HO315
  clear HO334
  clear HO337
  clear HO344
  clear HO347
  clear BK277
  clear BK278
  clear BK309
  clear BK318
  clear BK340
  clear HB
  clear h0_ h1_ h2_ h3_ h4_ h5_ h6_ h7_ h8_ h9_ h10_ h11_ h12_ h13_ h14_ h15_ h16_ h17_ h18_ h19_ h20_ h21_ h22_ h23_ h24_ h25_ h26_ h27_ h28_ h29_ h30_ h31_ h32_
  have HO282 := n0_
  have HO285 := n1_
  have HO303 := n2_
  have HO306 := n3_
  have HO312 := n4_
  have HO315 := n5_
  have HO334 := n6_
  have HO337 := n7_
  have HO344 := n8_
  have HO347 := n9_
  have HO361 := n10_
  have HO364 := n11_
  have HO382 := n12_
  have HO385 := n13_
  have BK277 := n14_
  have BK278 := n15_
  have BK309 := n16_
  have BK318 := n17_
  have BK340 := n18_
  have BK388 := n19_
  have GW388 := n20_
  have GE388 := n21_
  have NB277_388 := n22_
  have NB388_277 := n23_
  have NB278_388 := n24_
  have NB388_278 := n25_
  have NB309_388 := n26_
  have NB388_309 := n27_
  have NB318_388 := n28_
  have NB388_318 := n29_
  have NB340_388 := n30_
  have NB388_340 := n31_
  have HB := n32_
  clear n0_ n1_ n2_ n3_ n4_ n5_ n6_ n7_ n8_ n9_ n10_ n11_ n12_ n13_ n14_ n15_ n16_ n17_ n18_ n19_ n20_ n21_ n22_ n23_ n24_ n25_ n26_ n27_ n28_ n29_ n30_ n31_ n32_
  have hHeld : w107.cell? ⟨gb277, 0, none⟩ = some (.slice A0_0 l0_0.length c0_0) ∧ w107.cell? ⟨gb277, 1, none⟩ = some (.slice A0_1 l0_1.length c0_1) ∧ w107.cell? ⟨gb277, 2, none⟩ = some (.int .i64 a0_2) ∧ w107.cell? ⟨gb277, 3, none⟩ = some (.int .i64 a0_3) ∧ w107.cell? ⟨gb278, 0, none⟩ = some (.int .i64 a1_0) ∧ w107.cell? ⟨gb278, 1, none⟩ = some (.int .i64 a1_1) ∧ w107.cell? ⟨gb278, 2, none⟩ = some (.int .i64 a1_2) ∧ w107.cell? ⟨gb278, 3, none⟩ = some (.int .i64 a1_3) ∧ w107.cell? ⟨gb278, 4, none⟩ = some (.int .i64 a1_4) ∧ w107.cell? ⟨gb278, 5, none⟩ = some (.int .i64 a1_5) ∧ w107.cell? ⟨gb278, 6, none⟩ = some (.int .i64 a1_6) ∧ w107.cell? ⟨gb278, 7, none⟩ = some (.int .i64 a1_7) ∧ w107.cell? ⟨gb278, 8, none⟩ = some (.int .i64 a1_8) ∧ w107.cell? ⟨gb278, 9, none⟩ = some (.int .i64 a1_9) ∧ w107.cell? ⟨gb278, 10, none⟩ = some (.int .i64 a1_10) ∧ w107.cell? ⟨gb278, 11, none⟩ = some (.bool a1_11) ∧ w107.cell? ⟨gb278, 12, none⟩ = some (.bool a1_12) := hS_
  obtain ⟨Ao108, co108, eo108⟩ := Kd.R_slice HO382.out
  (first | subst eo108 | (injection eo108 with f1_ f2_ f3_; have f4_ := f1_.symm; have f5_ := f3_.symm; clear f1_ f2_ f3_; subst f4_; subst f5_))
  obtain ⟨Ao110, co110, eo110⟩ := Kd.R_slice HO385.out
  (first | subst eo110 | (injection eo110 with f1_ f2_ f3_; have f4_ := f1_.symm; have f5_ := f3_.symm; clear f1_ f2_ f3_; subst f4_; subst f5_))
  refine norm_ (a' := ?_) ?_ ?_
  rotate_left
  · simp only [putAll, Act.put, List.setIfInBounds_toArray, List.set_cons_zero, List.set_cons_succ]
    rfl
  refine one_ (i := 6) (N := none) (M11_7 127) rfl rfl (by kernel_rfl) (by decide) (fun K hK => ?_)
  obtain ⟨⟨hs109, hs111, hs112, hs113⟩, hfs109, hfs111, hfs112, hfs113⟩ := C11_4 BK388.out
  have hns109_0 := NB277_388.out
  have hns109_1 := NB278_388.out
  have hns109_2 := NB309_388.out
  have hns109_3 := NB318_388.out
  have hns109_4 := NB340_388.out
  have hms109_0 := NB388_277.out
  have hms109_1 := NB388_278.out
  have hms109_2 := NB388_309.out
  have hms109_3 := NB388_318.out
  have hms109_4 := NB388_340.out
  refine skip_ (w1 := ?_) (by rfl) rfl ?_ ?_
  rotate_left
  · go_simp
    rfl
  refine hK.out _ _ ?_ (fun hHeld => ?_)
  · exact ⟨((F11_4 (g := gb388) NB277_388.out).trans (hHeld.1)), ⟨((F11_4 (g := gb388) NB277_388.out).trans (hHeld.2.1)), ⟨((F11_4 (g := gb388) NB277_388.out).trans (hHeld.2.2.1)), ⟨((F11_4 (g := gb388) NB277_388.out).trans (hHeld.2.2.2.1)), ⟨((F11_4 (g := gb388) NB278_388.out).trans (hHeld.2.2.2.2.1)), ⟨((F11_4 (g := gb388) NB278_388.out).trans (hHeld.2.2.2.2.2.1)), ⟨((F11_4 (g := gb388) NB278_388.out).trans (hHeld.2.2.2.2.2.2.1)), ⟨((F11_4 (g := gb388) NB278_388.out).trans (hHeld.2.2.2.2.2.2.2.1)), ⟨((F11_4 (g := gb388) NB278_388.out).trans (hHeld.2.2.2.2.2.2.2.2.1)), ⟨((F11_4 (g := gb388) NB278_388.out).trans (hHeld.2.2.2.2.2.2.2.2.2.1)), ⟨((F11_4 (g := gb388) NB278_388.out).trans (hHeld.2.2.2.2.2.2.2.2.2.2.1)), ⟨((F11_4 (g := gb388) NB278_388.out).trans (hHeld.2.2.2.2.2.2.2.2.2.2.2.1)), ⟨((F11_4 (g := gb388) NB278_388.out).trans (hHeld.2.2.2.2.2.2.2.2.2.2.2.2.1)), ⟨((F11_4 (g := gb388) NB278_388.out).trans (hHeld.2.2.2.2.2.2.2.2.2.2.2.2.2.1)), ⟨((F11_4 (g := gb388) NB278_388.out).trans (hHeld.2.2.2.2.2.2.2.2.2.2.2.2.2.2.1)), ⟨((F11_4 (g := gb388) NB278_388.out).trans (hHeld.2.2.2.2.2.2.2.2.2.2.2.2.2.2.2.1)), (((F11_4 (g := gb388) NB278_388.out).trans (hHeld.2.2.2.2.2.2.2.2.2.2.2.2.2.2.2.2)))⟩⟩⟩⟩⟩⟩⟩⟩⟩⟩⟩⟩⟩⟩⟩⟩
  clear hK K
  refine done_ (by kernel_rfl) ?_
  have hnb114 := NB388_277.out
  have hnc114 := NB277_388.out
  have hnb115 := NB388_278.out
  have hnc115 := NB278_388.out
  have hnb116 := NB388_309.out
  have hnc116 := NB309_388.out
  have hnb117 := NB388_318.out
  have hnc117 := NB318_388.out
  have hnb118 := NB388_340.out
  have hnc118 := NB340_388.out
  obtain ⟨⟨hcz119_0, hcz119_1, hcz119_2, hcz119_3⟩, hfz119_0, hfz119_1, hfz119_2, hfz119_3⟩ := C11_4 BK388.out
  obtain ⟨⟨hcz120_0, hcz120_1, hcz120_2, hcz120_3⟩, hfz120_0, hfz120_1, hfz120_2, hfz120_3⟩ := C11_4 BK309.out
  try go_wp2_with (first | ((with_reducible refine gate_callee (f := 39) rfl ?_); refine goesL_ (some 67) rfl rfl Try.func39 (by kernel_rfl) rfl #[.agg #[.slice Ao108 t380.length co108, .slice Ao110 t383.length co110, .int .i64 t386, .int .i64 t387], .agg #[.slice Ao50 t301.length co50, .slice Ao52 t304.length co52, .int .i64 t307, .int .i64 t308]] rfl Z11_109 ?_; (with_reducible refine (laws_eqState.calls k _ _ t380 _ _ t383 t386 t387 _ _ t301 _ _ t304 t307 t308 true _ ?side1 ?side2 ?side3 ?side4 ?side5 ?side6 ?side7 ?side8 A32.out).mono ?_); (case side1 => refine (Kd.R_reads' (e := 25) (base := w.heap.size) (ok := fun k_ => (some k_ ≠ (v281 : Value).ownBlock ∧ (some k_ ≠ (.slice Ao50 t301.length co50 : Value).ownBlock ∧ (some k_ ≠ (.slice Ao60 t310.length co60 : Value).ownBlock ∧ (some k_ ≠ (.slice Ao72 t332.length co72 : Value).ownBlock ∧ (some k_ ≠ (.slice Ao88 t342.length co88 : Value).ownBlock ∧ some k_ ≠ (v360 : Value).ownBlock)))))) (n := t380.length) (c := co108) ?_).2.2; exact Z11_5); (case side2 => exact (Kd.R_reads' HO382.out).2.1); (case side3 => refine (Kd.R_reads' (e := 71) (base := w.heap.size) (ok := fun k_ => (some k_ ≠ (v284 : Value).ownBlock ∧ (some k_ ≠ (.slice Ao52 t304.length co52 : Value).ownBlock ∧ (some k_ ≠ (.slice Ao65 t313.length co65 : Value).ownBlock ∧ (some k_ ≠ (.slice Ao74 t335.length co74 : Value).ownBlock ∧ (some k_ ≠ (.slice Ao89 t345.length co89 : Value).ownBlock ∧ some k_ ≠ (v363 : Value).ownBlock)))))) (n := t383.length) (c := co110) ?_).2.2; exact Z11_6); (case side4 => exact (Kd.R_reads' HO385.out).2.1); (case side5 => refine (Kd.R_reads' (e := 25) (base := w.heap.size) (ok := fun k_ => (some k_ ≠ (v281 : Value).ownBlock ∧ (some k_ ≠ (.slice Ao60 t310.length co60 : Value).ownBlock ∧ (some k_ ≠ (.slice Ao72 t332.length co72 : Value).ownBlock ∧ (some k_ ≠ (.slice Ao88 t342.length co88 : Value).ownBlock ∧ (some k_ ≠ (v360 : Value).ownBlock ∧ some k_ ≠ (.slice Ao108 t380.length co108 : Value).ownBlock)))))) (n := t301.length) (c := co50) ?_).2.2; exact Z11_7); (case side6 => exact (Kd.R_reads' HO303.out).2.1); (case side7 => refine (Kd.R_reads' (e := 71) (base := w.heap.size) (ok := fun k_ => (some k_ ≠ (v284 : Value).ownBlock ∧ (some k_ ≠ (.slice Ao65 t313.length co65 : Value).ownBlock ∧ (some k_ ≠ (.slice Ao74 t335.length co74 : Value).ownBlock ∧ (some k_ ≠ (.slice Ao89 t345.length co89 : Value).ownBlock ∧ (some k_ ≠ (v363 : Value).ownBlock ∧ some k_ ≠ (.slice Ao110 t383.length co110 : Value).ownBlock)))))) (n := t304.length) (c := co52) ?_).2.2; exact Z11_8); (case side8 => exact (Kd.R_reads' HO306.out).2.1); rintro e w121 ⟨rfl, hb⟩; refine ⟨_, rfl, ?_⟩; have n0_ := Aside0.mk (Kd.R_below (by (with_reducible repeat (first | apply Kd.R_alloc | apply Kd.R_drewN | apply Kd.R_drew)); exact (Kd.R_mono (Kd.R_far (p := ⟨gb388, 3, none⟩) (Kd.R_far (p := ⟨gb388, 2, none⟩) (Kd.R_far (p := ⟨gb388, 1, none⟩) (Kd.R_far (p := ⟨gb388, 0, none⟩) (Kd.R_types HO282.out BK388.out (by decide)) (fun _ hk => hk.2) (.slice Ao108 t380.length co108)) (fun _ hk => hk.2) (.slice Ao110 t383.length co110)) (fun _ hk => hk.2) (.int .i64 t386)) (fun _ hk => hk.2) (.int .i64 t387)) (fun _ h_ => h_.1))) hb); have n1_ := Aside0.mk (Kd.R_below (by (with_reducible repeat (first | apply Kd.R_alloc | apply Kd.R_drewN | apply Kd.R_drew)); exact (Kd.R_mono (Kd.R_far (p := ⟨gb388, 3, none⟩) (Kd.R_far (p := ⟨gb388, 2, none⟩) (Kd.R_far (p := ⟨gb388, 1, none⟩) (Kd.R_far (p := ⟨gb388, 0, none⟩) (Kd.R_types HO285.out BK388.out (by decide)) (fun _ hk => hk.2) (.slice Ao108 t380.length co108)) (fun _ hk => hk.2) (.slice Ao110 t383.length co110)) (fun _ hk => hk.2) (.int .i64 t386)) (fun _ hk => hk.2) (.int .i64 t387)) (fun _ h_ => h_.1))) hb); have n2_ := Aside0.mk (Kd.R_below Z11_7 hb); have n3_ := Aside0.mk (Kd.R_below Z11_8 hb); have n4_ := Aside0.mk (Kd.R_below (by (with_reducible repeat (first | apply Kd.R_alloc | apply Kd.R_drewN | apply Kd.R_drew)); exact (Kd.R_mono (Kd.R_far (p := ⟨gb388, 3, none⟩) (Kd.R_far (p := ⟨gb388, 2, none⟩) (Kd.R_far (p := ⟨gb388, 1, none⟩) (Kd.R_far (p := ⟨gb388, 0, none⟩) (Kd.R_types HO312.out BK388.out (by decide)) (fun _ hk => hk.2) (.slice Ao108 t380.length co108)) (fun _ hk => hk.2) (.slice Ao110 t383.length co110)) (fun _ hk => hk.2) (.int .i64 t386)) (fun _ hk => hk.2) (.int .i64 t387)) (fun _ h_ => h_.1))) hb); have n5_ := Aside0.mk (Kd.R_below (by (with_reducible repeat (first | apply Kd.R_alloc | apply Kd.R_drewN | apply Kd.R_drew)); exact (Kd.R_mono (Kd.R_far (p := ⟨gb388, 3, none⟩) (Kd.R_far (p := ⟨gb388, 2, none⟩) (Kd.R_far (p := ⟨gb388, 1, none⟩) (Kd.R_far (p := ⟨gb388, 0, none⟩) (Kd.R_types HO315.out BK388.out (by decide)) (fun _ hk => hk.2) (.slice Ao108 t380.length co108)) (fun _ hk => hk.2) (.slice Ao110 t383.length co110)) (fun _ hk => hk.2) (.int .i64 t386)) (fun _ hk => hk.2) (.int .i64 t387)) (fun _ h_ => h_.1))) hb); have n6_ := Aside0.mk (Kd.R_below (by (with_reducible repeat (first | apply Kd.R_alloc | apply Kd.R_drewN | apply Kd.R_drew)); exact (Kd.R_mono (Kd.R_far (p := ⟨gb388, 3, none⟩) (Kd.R_far (p := ⟨gb388, 2, none⟩) (Kd.R_far (p := ⟨gb388, 1, none⟩) (Kd.R_far (p := ⟨gb388, 0, none⟩) (Kd.R_types HO334.out BK388.out (by decide)) (fun _ hk => hk.2) (.slice Ao108 t380.length co108)) (fun _ hk => hk.2) (.slice Ao110 t383.length co110)) (fun _ hk => hk.2) (.int .i64 t386)) (fun _ hk => hk.2) (.int .i64 t387)) (fun _ h_ => h_.1))) hb); have n7_ := Aside0.mk (Kd.R_below (by (with_reducible repeat (first | apply Kd.R_alloc | apply Kd.R_drewN | apply Kd.R_drew)); exact (Kd.R_mono (Kd.R_far (p := ⟨gb388, 3, none⟩) (Kd.R_far (p := ⟨gb388, 2, none⟩) (Kd.R_far (p := ⟨gb388, 1, none⟩) (Kd.R_far (p := ⟨gb388, 0, none⟩) (Kd.R_types HO337.out BK388.out (by decide)) (fun _ hk => hk.2) (.slice Ao108 t380.length co108)) (fun _ hk => hk.2) (.slice Ao110 t383.length co110)) (fun _ hk => hk.2) (.int .i64 t386)) (fun _ hk => hk.2) (.int .i64 t387)) (fun _ h_ => h_.1))) hb); have n8_ := Aside0.mk (Kd.R_below (by (with_reducible repeat (first | apply Kd.R_alloc | apply Kd.R_drewN | apply Kd.R_drew)); exact (Kd.R_mono (Kd.R_far (p := ⟨gb388, 3, none⟩) (Kd.R_far (p := ⟨gb388, 2, none⟩) (Kd.R_far (p := ⟨gb388, 1, none⟩) (Kd.R_far (p := ⟨gb388, 0, none⟩) (Kd.R_types HO344.out BK388.out (by decide)) (fun _ hk => hk.2) (.slice Ao108 t380.length co108)) (fun _ hk => hk.2) (.slice Ao110 t383.length co110)) (fun _ hk => hk.2) (.int .i64 t386)) (fun _ hk => hk.2) (.int .i64 t387)) (fun _ h_ => h_.1))) hb); have n9_ := Aside0.mk (Kd.R_below (by (with_reducible repeat (first | apply Kd.R_alloc | apply Kd.R_drewN | apply Kd.R_drew)); exact (Kd.R_mono (Kd.R_far (p := ⟨gb388, 3, none⟩) (Kd.R_far (p := ⟨gb388, 2, none⟩) (Kd.R_far (p := ⟨gb388, 1, none⟩) (Kd.R_far (p := ⟨gb388, 0, none⟩) (Kd.R_types HO347.out BK388.out (by decide)) (fun _ hk => hk.2) (.slice Ao108 t380.length co108)) (fun _ hk => hk.2) (.slice Ao110 t383.length co110)) (fun _ hk => hk.2) (.int .i64 t386)) (fun _ hk => hk.2) (.int .i64 t387)) (fun _ h_ => h_.1))) hb); have n10_ := Aside0.mk (Kd.R_below (by (with_reducible repeat (first | apply Kd.R_alloc | apply Kd.R_drewN | apply Kd.R_drew)); exact (Kd.R_mono (Kd.R_far (p := ⟨gb388, 3, none⟩) (Kd.R_far (p := ⟨gb388, 2, none⟩) (Kd.R_far (p := ⟨gb388, 1, none⟩) (Kd.R_far (p := ⟨gb388, 0, none⟩) (Kd.R_types HO361.out BK388.out (by decide)) (fun _ hk => hk.2) (.slice Ao108 t380.length co108)) (fun _ hk => hk.2) (.slice Ao110 t383.length co110)) (fun _ hk => hk.2) (.int .i64 t386)) (fun _ hk => hk.2) (.int .i64 t387)) (fun _ h_ => h_.1))) hb); have n11_ := Aside0.mk (Kd.R_below (by (with_reducible repeat (first | apply Kd.R_alloc | apply Kd.R_drewN | apply Kd.R_drew)); exact (Kd.R_mono (Kd.R_far (p := ⟨gb388, 3, none⟩) (Kd.R_far (p := ⟨gb388, 2, none⟩) (Kd.R_far (p := ⟨gb388, 1, none⟩) (Kd.R_far (p := ⟨gb388, 0, none⟩) (Kd.R_types HO364.out BK388.out (by decide)) (fun _ hk => hk.2) (.slice Ao108 t380.length co108)) (fun _ hk => hk.2) (.slice Ao110 t383.length co110)) (fun _ hk => hk.2) (.int .i64 t386)) (fun _ hk => hk.2) (.int .i64 t387)) (fun _ h_ => h_.1))) hb); have n12_ := Aside0.mk (Kd.R_below Z11_5 hb); have n13_ := Aside0.mk (Kd.R_below Z11_6 hb); have n14_ := Aside0.mk (blk_below (g := gb277) (o := .cells #[.slice A0_0 l0_0.length c0_0, .slice A0_1 l0_1.length c0_1, .int .i64 a0_2, .int .i64 a0_3] 50 (0, 0)) (by (with_reducible repeat (first | refine blk_drewN ?_ _ | refine blk_drew ?_ | refine blk_alloc ?_ _)); refine blk_far ?_ NB277_388.out _; (with_reducible repeat (first | refine blk_drewN ?_ _ | refine blk_drew ?_ | refine blk_alloc ?_ _)); refine blk_far ?_ NB277_388.out _; (with_reducible repeat (first | refine blk_drewN ?_ _ | refine blk_drew ?_ | refine blk_alloc ?_ _)); refine blk_far ?_ NB277_388.out _; (with_reducible repeat (first | refine blk_drewN ?_ _ | refine blk_drew ?_ | refine blk_alloc ?_ _)); refine blk_far ?_ NB277_388.out _; (with_reducible repeat (first | refine blk_drewN ?_ _ | refine blk_drew ?_ | refine blk_alloc ?_ _)); exact BK277.out) hb); have n15_ := Aside0.mk (blk_below (g := gb278) (o := .cells #[.int .i64 a1_0, .int .i64 a1_1, .int .i64 a1_2, .int .i64 a1_3, .int .i64 a1_4, .int .i64 a1_5, .int .i64 a1_6, .int .i64 a1_7, .int .i64 a1_8, .int .i64 a1_9, .int .i64 a1_10, .bool a1_11, .bool a1_12] 75 (0, 0)) (by (with_reducible repeat (first | refine blk_drewN ?_ _ | refine blk_drew ?_ | refine blk_alloc ?_ _)); refine blk_far ?_ NB278_388.out _; (with_reducible repeat (first | refine blk_drewN ?_ _ | refine blk_drew ?_ | refine blk_alloc ?_ _)); refine blk_far ?_ NB278_388.out _; (with_reducible repeat (first | refine blk_drewN ?_ _ | refine blk_drew ?_ | refine blk_alloc ?_ _)); refine blk_far ?_ NB278_388.out _; (with_reducible repeat (first | refine blk_drewN ?_ _ | refine blk_drew ?_ | refine blk_alloc ?_ _)); refine blk_far ?_ NB278_388.out _; (with_reducible repeat (first | refine blk_drewN ?_ _ | refine blk_drew ?_ | refine blk_alloc ?_ _)); exact BK278.out) hb); have n16_ := Aside0.mk (blk_below (g := gb309) (o := .cells #[.slice Ao50 t301.length co50, .slice Ao52 t304.length co52, .int .i64 t307, .int .i64 t308] 56 (0, 0)) (by (with_reducible repeat (first | refine blk_drewN ?_ _ | refine blk_drew ?_ | refine blk_alloc ?_ _)); refine blk_far ?_ NB309_388.out _; (with_reducible repeat (first | refine blk_drewN ?_ _ | refine blk_drew ?_ | refine blk_alloc ?_ _)); refine blk_far ?_ NB309_388.out _; (with_reducible repeat (first | refine blk_drewN ?_ _ | refine blk_drew ?_ | refine blk_alloc ?_ _)); refine blk_far ?_ NB309_388.out _; (with_reducible repeat (first | refine blk_drewN ?_ _ | refine blk_drew ?_ | refine blk_alloc ?_ _)); refine blk_far ?_ NB309_388.out _; (with_reducible repeat (first | refine blk_drewN ?_ _ | refine blk_drew ?_ | refine blk_alloc ?_ _)); exact BK309.out) hb); have n17_ := Aside0.mk (blk_below (g := gb318) (o := .cells #[.slice Ao60 t310.length co60, .slice Ao65 t313.length co65, .int .i64 t316, .int .i64 t317] 56 (0, 0)) (by (with_reducible repeat (first | refine blk_drewN ?_ _ | refine blk_drew ?_ | refine blk_alloc ?_ _)); refine blk_far ?_ NB318_388.out _; (with_reducible repeat (first | refine blk_drewN ?_ _ | refine blk_drew ?_ | refine blk_alloc ?_ _)); refine blk_far ?_ NB318_388.out _; (with_reducible repeat (first | refine blk_drewN ?_ _ | refine blk_drew ?_ | refine blk_alloc ?_ _)); refine blk_far ?_ NB318_388.out _; (with_reducible repeat (first | refine blk_drewN ?_ _ | refine blk_drew ?_ | refine blk_alloc ?_ _)); refine blk_far ?_ NB318_388.out _; (with_reducible repeat (first | refine blk_drewN ?_ _ | refine blk_drew ?_ | refine blk_alloc ?_ _)); exact BK318.out) hb); have n18_ := Aside0.mk (blk_below (g := gb340) (o := .cells #[.slice Ao72 t332.length co72, .slice Ao74 t335.length co74, .int .i64 t338, .int .i64 t339] 56 (0, 0)) (by (with_reducible repeat (first | refine blk_drewN ?_ _ | refine blk_drew ?_ | refine blk_alloc ?_ _)); refine blk_far ?_ NB340_388.out _; (with_reducible repeat (first | refine blk_drewN ?_ _ | refine blk_drew ?_ | refine blk_alloc ?_ _)); refine blk_far ?_ NB340_388.out _; (with_reducible repeat (first | refine blk_drewN ?_ _ | refine blk_drew ?_ | refine blk_alloc ?_ _)); refine blk_far ?_ NB340_388.out _; (with_reducible repeat (first | refine blk_drewN ?_ _ | refine blk_drew ?_ | refine blk_alloc ?_ _)); refine blk_far ?_ NB340_388.out _; (with_reducible repeat (first | refine blk_drewN ?_ _ | refine blk_drew ?_ | refine blk_alloc ?_ _)); exact BK340.out) hb); have n19_ := Aside0.mk (blk_below (g := gb388) (o := .cells #[.slice Ao108 t380.length co108, .slice Ao110 t383.length co110, .int .i64 t386, .int .i64 t387] 56 (0, 0)) (by (with_reducible repeat (first | refine blk_drewN ?_ _ | refine blk_drew ?_ | refine blk_alloc ?_ _)); apply E11_4; (with_reducible repeat (first | refine blk_drewN ?_ _ | refine blk_drew ?_ | refine blk_alloc ?_ _)); exact BK388.out) hb); have n20_ := Aside0.mk Z11_27; clear HO282; clear HO285; clear HO303; clear HO306; clear HO312; clear HO315; clear HO334; clear HO337; clear HO344; clear HO347; clear HO361; clear HO364; clear HO382; clear HO385; clear BK277; clear BK278; clear BK309; clear BK318; clear BK340; clear BK388; clear HB; have HO282 := n0_; have HO285 := n1_; have HO303 := n2_; have HO306 := n3_; have HO312 := n4_; have HO315 := n5_; have HO334 := n6_; have HO337 := n7_; have HO344 := n8_; have HO347 := n9_; have HO361 := n10_; have HO364 := n11_; have HO382 := n12_; have HO385 := n13_; have BK277 := n14_; have BK278 := n15_; have BK309 := n16_; have BK318 := n17_; have BK340 := n18_; have BK388 := n19_; have HB := n20_; clear n0_ n1_ n2_ n3_ n4_ n5_ n6_ n7_ n8_ n9_ n10_ n11_ n12_ n13_ n14_ n15_ n16_ n17_ n18_ n19_ n20_; (try clear hb); (try clear hb2); (try clear hk); (try clear hi); obtain ⟨⟨hcz122_0, hcz122_1, hcz122_2, hcz122_3⟩, hfz122_0, hfz122_1, hfz122_2, hfz122_3⟩ := C11_4 BK340.out) | ((with_reducible refine gate_callee (f := 61) rfl ?_); refine goesL_ (some 71) rfl rfl Try.func61 (by kernel_rfl) rfl #[.agg #[.slice Ao72 t356.length co72, .slice Ao74 t357.length co74, .int .i64 t338, .int .i64 t339], .int .i64 1] rfl Z11_50 ?_; (with_reducible refine (laws_heldState.calls k _ _ t356 _ _ t357 t338 t339 1 t390 _ ?side1 ?side2 ?side3 ?side4 A34.out).mono ?_); (case side1 => repeat (first | exact (Kd.R_reads' HO334.out).2.2 | (with_reducible refine Kd.C_alloc ?_ _) | (with_reducible refine Kd.C_drewN ?_ _) | (with_reducible refine Kd.C_drew ?_))); (case side2 => rw [show t356.length = t332.length from (Kd.R_reads' HO334.out).1.symm]; exact (Kd.R_reads' HO334.out).2.1); (case side3 => repeat (first | exact (Kd.R_reads' HO337.out).2.2 | (with_reducible refine Kd.C_alloc ?_ _) | (with_reducible refine Kd.C_drewN ?_ _) | (with_reducible refine Kd.C_drew ?_))); (case side4 => rw [show t357.length = t335.length from (Kd.R_reads' HO337.out).1.symm]; exact (Kd.R_reads' HO337.out).2.1); rintro e w123 ⟨rfl, hb⟩; refine ⟨_, rfl, ?_⟩; have n0_ := Aside0.mk Z11_126; have n1_ := Aside0.mk Z11_127; have n2_ := Aside0.mk Z11_128; have n3_ := Aside0.mk Z11_129; have n4_ := Aside0.mk Z11_130; have n5_ := Aside0.mk Z11_131; have n6_ := Aside0.mk Z11_132; have n7_ := Aside0.mk Z11_133; have n8_ := Aside0.mk Z11_134; have n9_ := Aside0.mk Z11_135; have n10_ := Aside0.mk Z11_136; have n11_ := Aside0.mk Z11_137; have n12_ := Aside0.mk Z11_138; have n13_ := Aside0.mk Z11_139; have n14_ := Aside0.mk Z11_57; have n15_ := Aside0.mk Z11_25; have n16_ := Aside0.mk Z11_58; have n17_ := Aside0.mk Z11_59; have n18_ := Aside0.mk Z11_60; have n19_ := Aside0.mk (blk_below (g := gb388) (o := .cells #[.slice Ao108 t380.length co108, .slice Ao110 t383.length co110, .int .i64 t386, .int .i64 t387] 56 (0, 0)) Z11_145 hb); have n20_ := Aside0.mk Z11_27; clear HO282; clear HO285; clear HO303; clear HO306; clear HO312; clear HO315; clear HO334; clear HO337; clear HO344; clear HO347; clear HO361; clear HO364; clear HO382; clear HO385; clear BK277; clear BK278; clear BK309; clear BK318; clear BK340; clear BK388; clear HB; have HO282 := n0_; have HO285 := n1_; have HO303 := n2_; have HO306 := n3_; have HO312 := n4_; have HO315 := n5_; have HO334 := n6_; have HO337 := n7_; have HO344 := n8_; have HO347 := n9_; have HO361 := n10_; have HO364 := n11_; have HO382 := n12_; have HO385 := n13_; have BK277 := n14_; have BK278 := n15_; have BK309 := n16_; have BK318 := n17_; have BK340 := n18_; have BK388 := n19_; have HB := n20_; clear n0_ n1_ n2_ n3_ n4_ n5_ n6_ n7_ n8_ n9_ n10_ n11_ n12_ n13_ n14_ n15_ n16_ n17_ n18_ n19_ n20_; (try clear hb); (try clear hb2); (try clear hk); (try clear hi)))
  go_ret
  exact ⟨(by first | rfl | (simp [errW_none, errW_some] <;> rfl) | (simp [*, errW_none, errW_some] <;> rfl)), Z11_28⟩

/-- THE ONE PURE STATEMENT of laws_FnExactSetPiece: yours. -/
def laws_FnExactSetPiece.Pure : Prop := ∀ (l0_0 : List (S75)) (l0_1 : List (S124)) (a0_2 : Int) (a0_3 : Int) (a1_0 : Int) (a1_1 : Int) (a1_2 : Int) (a1_3 : Int) (a1_4 : Int) (a1_5 : Int) (a1_6 : Int) (a1_7 : Int) (a1_8 : Int) (a1_9 : Int) (a1_10 : Int) (a1_11 : Bool) (a1_12 : Bool), l0_0.length ≤ maxLen → (∀ x ∈ l0_0, (Lit.int .i64 x.f0).wf = true ∧ (Lit.int .i64 x.f1).wf = true ∧ (Lit.int .i64 x.f2).wf = true ∧ (Lit.int .i64 x.f3).wf = true ∧ (Lit.int .i64 x.f4).wf = true ∧ (Lit.int .i64 x.f5).wf = true ∧ (Lit.int .i64 x.f6).wf = true ∧ (Lit.int .i64 x.f7).wf = true ∧ (Lit.int .i64 x.f8).wf = true ∧ (Lit.int .i64 x.f9).wf = true ∧ (Lit.int .i64 x.f10).wf = true) → l0_1.length ≤ maxLen → (∀ x ∈ l0_1, (Lit.int .i64 x.f0).wf = true ∧ (Lit.int .i64 x.f1).wf = true) → (Lit.int .i64 a0_2).wf = true → (Lit.int .i64 a0_3).wf = true → (Lit.int .i64 a1_0).wf = true → (Lit.int .i64 a1_1).wf = true → (Lit.int .i64 a1_2).wf = true → (Lit.int .i64 a1_3).wf = true → (Lit.int .i64 a1_4).wf = true → (Lit.int .i64 a1_5).wf = true → (Lit.int .i64 a1_6).wf = true → (Lit.int .i64 a1_7).wf = true → (Lit.int .i64 a1_8).wf = true → (Lit.int .i64 a1_9).wf = true → (Lit.int .i64 a1_10).wf = true → ∃ k, laws_FnExactSetPiece.f k l0_0 l0_1 a0_2 a0_3 a1_0 a1_1 a1_2 a1_3 a1_4 a1_5 a1_6 a1_7 a1_8 a1_9 a1_10 a1_11 a1_12 = some true
theorem laws_FnExactSetPiece.walk (P : laws_FnExactSetPiece.Pure) (A0_0 : Option Addr) (c0_0 : Nat) (l0_0 : List (S75)) (A0_1 : Option Addr) (c0_1 : Nat) (l0_1 : List (S124)) (a0_2 : Int) (a0_3 : Int) (a1_0 : Int) (a1_1 : Int) (a1_2 : Int) (a1_3 : Int) (a1_4 : Int) (a1_5 : Int) (a1_6 : Int) (a1_7 : Int) (a1_8 : Int) (a1_9 : Int) (a1_10 : Int) (a1_11 : Bool) (a1_12 : Bool) (w : World) (hr0_0 : Kd.C k75 w A0_0 l0_0.length l0_0) (hc0_0 : l0_0.length ≤ c0_0) (hm0_0 : l0_0.length ≤ maxLen) (hw0_0 : ∀ x ∈ l0_0, (Lit.int .i64 x.f0).wf = true ∧ (Lit.int .i64 x.f1).wf = true ∧ (Lit.int .i64 x.f2).wf = true ∧ (Lit.int .i64 x.f3).wf = true ∧ (Lit.int .i64 x.f4).wf = true ∧ (Lit.int .i64 x.f5).wf = true ∧ (Lit.int .i64 x.f6).wf = true ∧ (Lit.int .i64 x.f7).wf = true ∧ (Lit.int .i64 x.f8).wf = true ∧ (Lit.int .i64 x.f9).wf = true ∧ (Lit.int .i64 x.f10).wf = true) (hr0_1 : Kd.C k124 w A0_1 l0_1.length l0_1) (hc0_1 : l0_1.length ≤ c0_1) (hm0_1 : l0_1.length ≤ maxLen) (hw0_1 : ∀ x ∈ l0_1, (Lit.int .i64 x.f0).wf = true ∧ (Lit.int .i64 x.f1).wf = true) (w0_2 : (Lit.int .i64 a0_2).wf = true) (w0_3 : (Lit.int .i64 a0_3).wf = true) (w1_0 : (Lit.int .i64 a1_0).wf = true) (w1_1 : (Lit.int .i64 a1_1).wf = true) (w1_2 : (Lit.int .i64 a1_2).wf = true) (w1_3 : (Lit.int .i64 a1_3).wf = true) (w1_4 : (Lit.int .i64 a1_4).wf = true) (w1_5 : (Lit.int .i64 a1_5).wf = true) (w1_6 : (Lit.int .i64 a1_6).wf = true) (w1_7 : (Lit.int .i64 a1_7).wf = true) (w1_8 : (Lit.int .i64 a1_8).wf = true) (w1_9 : (Lit.int .i64 a1_9).wf = true) (w1_10 : (Lit.int .i64 a1_10).wf = true) :
    Calls Try.prog 8 #[.agg #[.slice A0_0 l0_0.length c0_0, .slice A0_1 l0_1.length c0_1, .int .i64 a0_2, .int .i64 a0_3], .agg #[.int .i64 a1_0, .int .i64 a1_1, .int .i64 a1_2, .int .i64 a1_3, .int .i64 a1_4, .int .i64 a1_5, .int .i64 a1_6, .int .i64 a1_7, .int .i64 a1_8, .int .i64 a1_9, .int .i64 a1_10, .bool a1_11, .bool a1_12]] w fun e w' => e = .returned (.bool true) ∧ Below w.heap.size w w' := by
  obtain ⟨k, h⟩ := P l0_0 l0_1 a0_2 a0_3 a1_0 a1_1 a1_2 a1_3 a1_4 a1_5 a1_6 a1_7 a1_8 a1_9 a1_10 a1_11 a1_12 hm0_0 hw0_0 hm0_1 hw0_1 w0_2 w0_3 w1_0 w1_1 w1_2 w1_3 w1_4 w1_5 w1_6 w1_7 w1_8 w1_9 w1_10
  refine (laws_FnExactSetPiece.calls k _ _ l0_0 _ _ l0_1 a0_2 a0_3 a1_0 a1_1 a1_2 a1_3 a1_4 a1_5 a1_6 a1_7 a1_8 a1_9 a1_10 a1_11 a1_12 true w hr0_0 hc0_0 hr0_1 hc0_1 rfl h).mono ?_
  rintro e w' ⟨rfl, hd⟩
  exact ⟨rfl, hd⟩


end Go.Proofs.Ytfkidiagmekleaa.QAll
