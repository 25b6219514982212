-- Written by a program of this session (patch_print.py over the print).
import Derived.Test.YtfkidiagmekleaaQAllx0
import Derived.Test.YtfkidiagmekleaaRL1
namespace Go.Proofs.Ytfkidiagmekleaa.QAll
open Go.RowKit Go.Proofs.YtfkidiagmekleaaW.PrintWords Go.Proofs.YtfkidiagmekleaaW.PrintLast Go.Proofs.YtfkidiagmekleaaW.PrintMore
attribute [local go_sem] max2_int min2_int max_two min_two max_three min_three max_four min_four   -- for this text's walks alone
set_option linter.unusedVariables false
set_option linter.unusedSimpArgs false

theorem C4_13 {W : World} {g : Nat} {T : TypeId} {v0 v1 v2 v3 v4 v5 v6 v7 v8 v9 v10 v11 v12 : Value} (h : W.heap[g]? = some (.cells #[v0, v1, v2, v3, v4, v5, v6, v7, v8, v9, v10, v11, v12] T (0, 0))) : (W.cell? ⟨g, 0, none⟩ = some v0 ∧ W.cell? ⟨g, 1, none⟩ = some v1 ∧ W.cell? ⟨g, 2, none⟩ = some v2 ∧ W.cell? ⟨g, 3, none⟩ = some v3 ∧ W.cell? ⟨g, 4, none⟩ = some v4 ∧ W.cell? ⟨g, 5, none⟩ = some v5 ∧ W.cell? ⟨g, 6, none⟩ = some v6 ∧ W.cell? ⟨g, 7, none⟩ = some v7 ∧ W.cell? ⟨g, 8, none⟩ = some v8 ∧ W.cell? ⟨g, 9, none⟩ = some v9 ∧ W.cell? ⟨g, 10, none⟩ = some v10 ∧ W.cell? ⟨g, 11, none⟩ = some v11 ∧ W.cell? ⟨g, 12, none⟩ = some v12) ∧ W.frozen? ⟨g, 0, none⟩ = false ∧ W.frozen? ⟨g, 1, none⟩ = false ∧ W.frozen? ⟨g, 2, none⟩ = false ∧ W.frozen? ⟨g, 3, none⟩ = false ∧ W.frozen? ⟨g, 4, none⟩ = false ∧ W.frozen? ⟨g, 5, none⟩ = false ∧ W.frozen? ⟨g, 6, none⟩ = false ∧ W.frozen? ⟨g, 7, none⟩ = false ∧ W.frozen? ⟨g, 8, none⟩ = false ∧ W.frozen? ⟨g, 9, none⟩ = false ∧ W.frozen? ⟨g, 10, none⟩ = false ∧ W.frozen? ⟨g, 11, none⟩ = false ∧ W.frozen? ⟨g, 12, none⟩ = false := ⟨⟨(blk_cell h 0).trans rfl, (blk_cell h 1).trans rfl, (blk_cell h 2).trans rfl, (blk_cell h 3).trans rfl, (blk_cell h 4).trans rfl, (blk_cell h 5).trans rfl, (blk_cell h 6).trans rfl, (blk_cell h 7).trans rfl, (blk_cell h 8).trans rfl, (blk_cell h 9).trans rfl, (blk_cell h 10).trans rfl, (blk_cell h 11).trans rfl, (blk_cell h 12).trans rfl⟩, blk_frozen h 0, blk_frozen h 1, blk_frozen h 2, blk_frozen h 3, blk_frozen h 4, blk_frozen h 5, blk_frozen h 6, blk_frozen h 7, blk_frozen h 8, blk_frozen h 9, blk_frozen h 10, blk_frozen h 11, blk_frozen h 12⟩
theorem E4_13 {W : World} {g : Nat} {T : TypeId} {v0 v1 v2 v3 v4 v5 v6 v7 v8 v9 v10 v11 v12 o0 o1 o2 o3 o4 o5 o6 o7 o8 o9 o10 o11 o12 : Value} (h : W.heap[g]? = some (.cells #[o0, o1, o2, o3, o4, o5, o6, o7, o8, o9, o10, o11, o12] T (0, 0))) : (((((((((((((W.setCell ⟨g, 0, none⟩ v0).setCell ⟨g, 1, none⟩ v1).setCell ⟨g, 2, none⟩ v2).setCell ⟨g, 3, none⟩ v3).setCell ⟨g, 4, none⟩ v4).setCell ⟨g, 5, none⟩ v5).setCell ⟨g, 6, none⟩ v6).setCell ⟨g, 7, none⟩ v7).setCell ⟨g, 8, none⟩ v8).setCell ⟨g, 9, none⟩ v9).setCell ⟨g, 10, none⟩ v10).setCell ⟨g, 11, none⟩ v11).setCell ⟨g, 12, none⟩ v12).heap[g]? = some (.cells #[v0, v1, v2, v3, v4, v5, v6, v7, v8, v9, v10, v11, v12] T (0, 0)) := (blk_put (cs := #[v0, v1, v2, v3, v4, v5, v6, v7, v8, v9, v10, v11, o12]) (blk_put (cs := #[v0, v1, v2, v3, v4, v5, v6, v7, v8, v9, v10, o11, o12]) (blk_put (cs := #[v0, v1, v2, v3, v4, v5, v6, v7, v8, v9, o10, o11, o12]) (blk_put (cs := #[v0, v1, v2, v3, v4, v5, v6, v7, v8, o9, o10, o11, o12]) (blk_put (cs := #[v0, v1, v2, v3, v4, v5, v6, v7, o8, o9, o10, o11, o12]) (blk_put (cs := #[v0, v1, v2, v3, v4, v5, v6, o7, o8, o9, o10, o11, o12]) (blk_put (cs := #[v0, v1, v2, v3, v4, v5, o6, o7, o8, o9, o10, o11, o12]) (blk_put (cs := #[v0, v1, v2, v3, v4, o5, o6, o7, o8, o9, o10, o11, o12]) (blk_put (cs := #[v0, v1, v2, v3, o4, o5, o6, o7, o8, o9, o10, o11, o12]) (blk_put (cs := #[v0, v1, v2, o3, o4, o5, o6, o7, o8, o9, o10, o11, o12]) (blk_put (cs := #[v0, v1, o2, o3, o4, o5, o6, o7, o8, o9, o10, o11, o12]) (blk_put (cs := #[v0, o1, o2, o3, o4, o5, o6, o7, o8, o9, o10, o11, o12]) (blk_put (cs := #[o0, o1, o2, o3, o4, o5, o6, o7, o8, o9, o10, o11, o12]) h 0 _ rfl) 1 _ rfl) 2 _ rfl) 3 _ rfl) 4 _ rfl) 5 _ rfl) 6 _ rfl) 7 _ rfl) 8 _ rfl) 9 _ rfl) 10 _ rfl) 11 _ rfl) 12 _ rfl)
theorem Z4_1 {p : Prop} (h : p := by (with_reducible repeat (first | apply Kd.R_alloc | apply Kd.R_drewN | apply Kd.R_drew)); exact (Kd.R_mono (Kd.R_far (p := ⟨gb143, 2, none⟩) (Kd.R_far (p := ⟨gb143, 12, none⟩) (Kd.R_far (p := ⟨gb143, 11, none⟩) (Kd.R_far (p := ⟨gb143, 10, none⟩) (Kd.R_far (p := ⟨gb143, 9, none⟩) (Kd.R_far (p := ⟨gb143, 8, none⟩) (Kd.R_far (p := ⟨gb143, 7, none⟩) (Kd.R_far (p := ⟨gb143, 6, none⟩) (Kd.R_far (p := ⟨gb143, 5, none⟩) (Kd.R_far (p := ⟨gb143, 4, none⟩) (Kd.R_far (p := ⟨gb143, 3, none⟩) (Kd.R_far (p := ⟨gb143, 2, none⟩) (Kd.R_far (p := ⟨gb143, 1, none⟩) (Kd.R_far (p := ⟨gb143, 0, none⟩) (Kd.R_types HO130.out BK143.out (by decide)) (fun _ hk => hk.2) (.int .i64 a1)) (fun _ hk => hk.2) (.int .i64 t125)) (fun _ hk => hk.2) (.int .i64 0)) (fun _ hk => hk.2) (.int .i64 t131)) (fun _ hk => hk.2) (.int .i64 t134)) (fun _ hk => hk.2) (.int .i64 t137)) (fun _ hk => hk.2) (.int .i64 (wrap64 (1 + t140)))) (fun _ hk => hk.2) (.int .i64 0)) (fun _ hk => hk.2) (.int .i64 0)) (fun _ hk => hk.2) (.int .i64 0)) (fun _ hk => hk.2) (.int .i64 0)) (fun _ hk => hk.2) (.bool false)) (fun _ hk => hk.2) (.bool false)) (fun _ hk => hk.2) (.int .i64 t125)) (fun _ h_ => h_.1))) : p := h
theorem Z4_2 {p : Prop} (h : p := by exact (Kd.R_mono (Kd.R_keep (IsS120.apart (show IsS120 w0 _ g s0_0 x1001_1 x1002_1 from by repeat (first | (with_reducible first | exact HI0.out | apply IsS120.alloc | apply IsS120.drewN | apply IsS120.drew | apply IsS120.set_1 | apply IsS120.set_2 | refine IsS120.far ?_ NB0_124.out _ | refine IsS120.far ?_ NB0_143.out _) | exact HI0.out)) (by (with_reducible repeat (first | apply Kd.R_alloc | apply Kd.R_drewN | apply Kd.R_drew)); exact HO_25.out) (by decide)) hk (fun _ h => h.2)) (fun _ h => h.1))) : p := h
theorem Z4_9 {p : Prop} (h : p := by (with_reducible repeat (first | refine blk_drewN ?_ _ | refine blk_drew ?_ | refine blk_alloc ?_ _)); refine blk_far ?_ NB124_143.out _; (with_reducible repeat (first | refine blk_drewN ?_ _ | refine blk_drew ?_ | refine blk_alloc ?_ _)); exact BK124.out) : p := h
theorem Z4_3 {p : Prop} (h : p := by exact (blk_below (g := gb124) (o := .cells #[.int .i64 0, .int .i64 0, .int .i64 0, .int .i64 0, .int .i64 0, .int .i64 0, .int .i64 0, .int .i64 0, .int .i64 0, .int .i64 0, .int .i64 0, .bool false, .bool false] 25 (0, 0)) Z4_9 hb)) : p := h
theorem Z4_25 {p : Prop} (h : p := by (with_reducible repeat (first | refine blk_drewN ?_ _ | refine blk_drew ?_ | refine blk_alloc ?_ _)); exact BK143.out) : p := h
theorem Z4_4 {p : Prop} (h : p := by exact (KeepBut.blk hk (g' := gb143) (o := .cells #[.int .i64 a1, .int .i64 t125, .int .i64 t125, .int .i64 t131, .int .i64 t134, .int .i64 t137, .int .i64 (wrap64 (1 + t140)), .int .i64 x144007_1, .int .i64 0, .int .i64 0, .int .i64 0, .bool false, .bool false] 25 (0, 0)) Z4_25 NB143_0.out (by simp))) : p := h
theorem Z4_24 {p : Prop} (h : p := by (with_reducible repeat (first | refine blk_drewN ?_ _ | refine blk_drew ?_ | refine blk_alloc ?_ _)); exact BK124.out) : p := h
theorem Z4_5 {p : Prop} (h : p := by exact (KeepBut.blk hk (g' := gb124) (o := .cells #[.int .i64 0, .int .i64 0, .int .i64 0, .int .i64 0, .int .i64 0, .int .i64 0, .int .i64 0, .int .i64 0, .int .i64 0, .int .i64 0, .int .i64 0, .bool false, .bool false] 25 (0, 0)) Z4_24 NB124_0.out (by simp))) : p := h
theorem Z4_6 {p : Prop} (h : p := by exact (blk_below (g := gb124) (o := .cells #[.int .i64 0, .int .i64 0, .int .i64 0, .int .i64 0, .int .i64 0, .int .i64 0, .int .i64 0, .int .i64 0, .int .i64 0, .int .i64 0, .int .i64 0, .bool false, .bool false] 25 (0, 0)) Z4_24 hb)) : p := h
theorem Z4_19 {p : Prop} (h : p := by repeat (first | (with_reducible first | exact HK.out | apply KeepBut.set_ | apply keep_drewN | apply keep_drew | apply keep_alloc | refine keep_far ?_ GW124.out _ | refine keep_far ?_ GW143.out _) | exact HK.out)) : p := h
theorem Z4_7 {p : Prop} (h : p := by exact (KeepBut.trans Z4_19 (KeepBut.of_below hb g none) (.inl rfl))) : p := h
theorem Z4_15 {p : Prop} (h : p := by repeat (first | (with_reducible first | exact HB.out | apply below_alloc | apply pw_below_drewN | apply below_drew1 | refine below_set ?_ (IsS120.ge HI0.out) | refine below_set ?_ GE124.out | refine below_set ?_ GE143.out) | exact HB.out)) : p := h
theorem Z4_8 {p : Prop} (h : p := by exact (below_step Z4_15 hb)) : p := h
theorem Z4_10 {p : Prop} (h : p := by repeat (first | (with_reducible first | exact HI0.out | apply IsS120.alloc | apply IsS120.drewN | apply IsS120.drew | apply IsS120.set_1 | apply IsS120.set_2 | refine IsS120.far ?_ NB0_124.out _ | refine IsS120.far ?_ NB0_143.out _) | exact HI0.out)) : p := h
theorem Z4_11 {p : Prop} (h : p := by exact (KeepBut.trans Z4_19 hk (.inl rfl))) : p := h
theorem Z4_12 {p : Prop} (h : p := by (with_reducible repeat (first | apply Kd.R_alloc | apply Kd.R_drewN | apply Kd.R_drew)); exact (Kd.R_mono (Kd.R_far (p := ⟨gb143, 8, none⟩) (Kd.R_types HO156.out BK143.out (by decide)) (fun _ hk => hk.2) (.int .i64 t157)) (fun _ h_ => h_.1))) : p := h
theorem Z4_13 {p : Prop} (h : p := by (with_reducible repeat (first | apply Kd.R_alloc | apply Kd.R_drewN | apply Kd.R_drew)); exact (Kd.R_mono (Kd.R_far (p := ⟨gb143, 9, none⟩) (Kd.R_types HO156.out BK143.out (by decide)) (fun _ hk => hk.2) (.int .i64 t163)) (fun _ h_ => h_.1))) : p := h
theorem Z4_14 {p : Prop} (h : p := by (with_reducible repeat (first | apply Kd.R_alloc | apply Kd.R_drewN | apply Kd.R_drew)); exact (Kd.R_mono (Kd.R_far (p := ⟨gb143, 9, none⟩) (Kd.R_types HO162.out BK143.out (by decide)) (fun _ hk => hk.2) (.int .i64 t163)) (fun _ h_ => h_.1))) : p := h
theorem Z4_21 {p : Prop} (h : p := by repeat (first | (with_reducible first | exact HK.out | apply KeepBut.set_ | apply keep_drewN | apply keep_drew | apply keep_alloc | refine keep_far ?_ GW124.out _) | exact HK.out)) : p := h
theorem Z4_16 {p : Prop} (h : p := by exact (KeepBut.trans Z4_21 (KeepBut.of_below hb g none) (.inl rfl))) : p := h
theorem Z4_17 {p : Prop} (h : p := by exact (IsS120.below (by repeat (first | (with_reducible first | exact HI0.out | apply IsS120.alloc | apply IsS120.drewN | apply IsS120.drew | apply IsS120.set_1 | apply IsS120.set_2 | refine IsS120.far ?_ NB0_124.out _) | exact HI0.out)) hb)) : p := h
theorem Z4_18 {p : Prop} (h : p := by exact (below_step (by repeat (first | (with_reducible first | exact HB.out | apply below_alloc | apply pw_below_drewN | apply below_drew1 | refine below_set ?_ (IsS120.ge HI0.out) | refine below_set ?_ GE124.out) | exact HB.out)) hb)) : p := h
theorem Z4_20 {p : Prop} (h : p := by exact (KeepBut.trans Z4_21 hk (.inl rfl))) : p := h
theorem Z4_22 {p : Prop} (h : p := by repeat (first | (with_reducible first | exact HK.out | apply KeepBut.set_ | apply keep_drewN | apply keep_drew | apply keep_alloc) | exact HK.out)) : p := h
theorem Z4_23 {p : Prop} (h : p := by (try simp only [List.map_toArray, List.map_cons, List.map_nil]); first | done | rfl | (simp only [List.length_drop, List.length_take]; rfl)) : p := h
theorem Z4_26 {p : Prop} (h : p := by (with_reducible repeat (first | apply Kd.R_alloc | apply Kd.R_drewN | apply Kd.R_drew)); exact HO130.out) : p := h
theorem Z4_27 {p : Prop} (h : p := by (with_reducible repeat (first | apply Kd.R_alloc | apply Kd.R_drewN | apply Kd.R_drew)); exact HO156.out) : p := h
theorem Z4_28 {p : Prop} (h : p := by (with_reducible repeat (first | apply Kd.R_alloc | apply Kd.R_drewN | apply Kd.R_drew)); exact HO162.out) : p := h
theorem Z4_29 {p : Prop} (h : p := by first | (with_reducible assumption) | assumption) : p := h
/-! ### spec_l4Draw: function 75 -/
mutual
def spec_l4Draw.l0 : Nat → List Int → Int → Int → List Int → Int → Int → Int → Int → Int → Int → Int → Int → Int → Int → Int → Int → Int → Bool → Bool → Option (Int × Int × Int × Int × Int × Int × Int × Int × Int × Int × Int × Bool × Bool × Int × Int)
  | 0, _, _, _, _, _, _, _, _, _, _, _, _, _, _, _, _, _, _, _ => none
  | k + 1, x25, x26, x27, x1000, x1001, x1002, x144000, x144001, x144002, x144003, x144004, x144005, x144006, x144007, x144008, x144009, x144010, x144011, x144012 => if x27 < x26 then (if 0 ≤ x27 then (if x27 < (x25.length : Int) then ((spec_l1Once.f x1000 x1001 x1002 3).bind fun bt148 => (if bt148.1 = true then (spec_l4Draw.l0 k x25 x26 (wrap64 (x27 + 1)) x1000 bt148.2.1 bt148.2.2 x144000 x144001 x144002 x144003 x144004 x144005 x144006 (wrap64 (x144007 + (rd x25 x27))) x144008 x144009 x144010 x144011 x144012) else (spec_l4Draw.l0 k x25 x26 (wrap64 (x27 + 1)) x1000 bt148.2.1 bt148.2.2 x144000 x144001 x144002 x144003 x144004 x144005 x144006 x144007 x144008 x144009 x144010 x144011 x144012))) else (none)) else (none)) else (if x144003 = 2 then ((spec_l1Once.f x1000 x1001 x1002 4).bind fun bt151 => (if bt151.1 = true then (spec_l4Draw.j1 k x1000 bt151.2.1 bt151.2.2 x144000 x144001 (wrap64 (1 - x144001)) x144003 x144004 x144005 x144006 x144007 x144008 x144009 x144010 x144011 x144012) else (spec_l4Draw.j1 k x1000 bt151.2.1 bt151.2.2 x144000 x144001 x144002 x144003 x144004 x144005 x144006 x144007 x144008 x144009 x144010 x144011 x144012))) else (some (x144000, x144001, x144002, x144003, x144004, x144005, x144006, x144007, x144008, x144009, x144010, x144011, x144012, x1001, x1002)))
def spec_l4Draw.j1 : Nat → List Int → Int → Int → Int → Int → Int → Int → Int → Int → Int → Int → Int → Int → Int → Bool → Bool → Option (Int × Int × Int × Int × Int × Int × Int × Int × Int × Int × Int × Bool × Bool × Int × Int)
  | 0, _, _, _, _, _, _, _, _, _, _, _, _, _, _, _, _ => none
  | k + 1, x1000, x1001, x1002, x144000, x144001, x144002, x144003, x144004, x144005, x144006, x144007, x144008, x144009, x144010, x144011, x144012 => (spec_l1Int.f x1000 x1001 x1002 (([0, 0, 1, 2] : List Int))).bind fun bt157 => ((spec_l1Int.f x1000 bt157.2.1 bt157.2.2 (([0, 0, 0, 1] : List Int))).bind fun bt163 => ((spec_l1Int.f x1000 bt163.2.1 bt163.2.2 (([0, 0, 1] : List Int))).bind fun bt169 => ((spec_l1Once.f x1000 bt169.2.1 bt169.2.2 4).bind fun bt172 => (some (x144000, x144001, x144002, x144003, x144004, x144005, x144006, x144007, bt157.1, bt163.1, bt169.1, x144011, bt172.1, bt172.2.1, bt172.2.2)))))
end
def spec_l4Draw.f (k : Nat) (s0_0 : List Int) (s0_1 : Int) (s0_2 : Int) (a1 : Int) : Option (Int × Int × Int × Int × Int × Int × Int × Int × Int × Int × Int × Bool × Bool × Int × Int) := (spec_l1Below.f s0_0 s0_1 s0_2 2).bind fun bt125 => ((spec_l1Int.f s0_0 bt125.2.1 bt125.2.2 (([2, 2, 2, 1, 3] : List Int))).bind fun bt131 => ((spec_l1Below.f s0_0 bt131.2.1 bt131.2.2 3).bind fun bt134 => ((spec_l1Below.f s0_0 bt134.2.1 bt134.2.2 5).bind fun bt137 => ((spec_l1Below.f s0_0 bt137.2.1 bt137.2.2 5).bind fun bt140 => ((some (([1, 2, 4, 8, 16, 32] : List Int) : List Int)).bind fun y144 => (spec_l4Draw.l0 k y144 (y144.length : Int) 0 s0_0 bt140.2.1 bt140.2.2 a1 bt125.1 bt125.1 bt131.1 bt134.1 bt137.1 (wrap64 (1 + bt140.1)) 0 0 0 0 false false))))))
theorem spec_l4Draw.mono_l : ∀ k, (∀ y0 y1 y2 y3 y4 y5 y6 y7 y8 y9 y10 y11 y12 y13 y14 y15 y16 y17 y18, LeO (spec_l4Draw.l0 k y0 y1 y2 y3 y4 y5 y6 y7 y8 y9 y10 y11 y12 y13 y14 y15 y16 y17 y18) (spec_l4Draw.l0 (k + 1) y0 y1 y2 y3 y4 y5 y6 y7 y8 y9 y10 y11 y12 y13 y14 y15 y16 y17 y18)) ∧ (∀ y0 y1 y2 y3 y4 y5 y6 y7 y8 y9 y10 y11 y12 y13 y14 y15, LeO (spec_l4Draw.j1 k y0 y1 y2 y3 y4 y5 y6 y7 y8 y9 y10 y11 y12 y13 y14 y15) (spec_l4Draw.j1 (k + 1) y0 y1 y2 y3 y4 y5 y6 y7 y8 y9 y10 y11 y12 y13 y14 y15))
  | 0 => ⟨fun _ _ _ _ _ _ _ _ _ _ _ _ _ _ _ _ _ _ _ r h => by simp [spec_l4Draw.l0] at h, fun _ _ _ _ _ _ _ _ _ _ _ _ _ _ _ _ r h => by simp [spec_l4Draw.j1] at h⟩
  | k + 1 => by
    obtain ⟨ih0, ih1⟩ := spec_l4Draw.mono_l k
    refine ⟨?_, ?_⟩
    · intro y0 y1 y2 y3 y4 y5 y6 y7 y8 y9 y10 y11 y12 y13 y14 y15 y16 y17 y18
      unfold spec_l4Draw.l0
      repeat' first
      | (with_reducible exact ih0 _ _ _ _ _ _ _ _ _ _ _ _ _ _ _ _ _ _ _)
      | (with_reducible exact ih1 _ _ _ _ _ _ _ _ _ _ _ _ _ _ _ _)
      | (with_reducible exact LeO.refl _)
      | (with_reducible exact LeO.none _)
      | (with_reducible refine LeO.ite ?_ ?_)
      | (with_reducible refine LeO.bind ?_ (fun _ => ?_))
      | exact ih0 _ _ _ _ _ _ _ _ _ _ _ _ _ _ _ _ _ _ _
      | exact ih1 _ _ _ _ _ _ _ _ _ _ _ _ _ _ _ _
      | exact LeO.none _
      | refine LeO.ite ?_ ?_
      | refine LeO.bind ?_ (fun _ => ?_)
    · intro y0 y1 y2 y3 y4 y5 y6 y7 y8 y9 y10 y11 y12 y13 y14 y15
      unfold spec_l4Draw.j1
      repeat' first
      | (with_reducible exact ih0 _ _ _ _ _ _ _ _ _ _ _ _ _ _ _ _ _ _ _)
      | (with_reducible exact ih1 _ _ _ _ _ _ _ _ _ _ _ _ _ _ _ _)
      | (with_reducible exact LeO.refl _)
      | (with_reducible exact LeO.none _)
      | (with_reducible refine LeO.ite ?_ ?_)
      | (with_reducible refine LeO.bind ?_ (fun _ => ?_))
      | exact ih0 _ _ _ _ _ _ _ _ _ _ _ _ _ _ _ _ _ _ _
      | exact ih1 _ _ _ _ _ _ _ _ _ _ _ _ _ _ _ _
      | exact LeO.none _
      | refine LeO.ite ?_ ?_
      | refine LeO.bind ?_ (fun _ => ?_)
theorem spec_l4Draw.mono : ∀ a0 a1 a2 a3 k, LeO (spec_l4Draw.f k a0 a1 a2 a3) (spec_l4Draw.f (k + 1) a0 a1 a2 a3) := by
  intro a0 a1 a2 a3 k
  obtain ⟨ih0, ih1⟩ := spec_l4Draw.mono_l k
  unfold spec_l4Draw.f
  repeat' first
      | (with_reducible exact ih0 _ _ _ _ _ _ _ _ _ _ _ _ _ _ _ _ _ _ _)
      | (with_reducible exact ih1 _ _ _ _ _ _ _ _ _ _ _ _ _ _ _ _)
      | (with_reducible exact LeO.refl _)
      | (with_reducible exact LeO.none _)
      | (with_reducible refine LeO.ite ?_ ?_)
      | (with_reducible refine LeO.bind ?_ (fun _ => ?_))
      | exact ih0 _ _ _ _ _ _ _ _ _ _ _ _ _ _ _ _ _ _ _
      | exact ih1 _ _ _ _ _ _ _ _ _ _ _ _ _ _ _ _
      | exact LeO.none _
      | refine LeO.ite ?_ ?_
      | refine LeO.bind ?_ (fun _ => ?_)
set_option maxHeartbeats 8000000 in
set_option maxRecDepth 100000 in
theorem spec_l4Draw.calls (k : Nat) (g : Nat) (s0_0 : List Int) (s0_1 : Int) (s0_2 : Int) (a1 : Int) (r1 : Int) (r2 : Int) (r3 : Int) (r4 : Int) (r5 : Int) (r6 : Int) (r7 : Int) (r8 : Int) (r9 : Int) (r10 : Int) (r11 : Int) (r12 : Bool) (r13 : Bool) (r14 : Int) (r15 : Int) (w0 w : World) (hI : IsS120 w0 w g s0_0 s0_1 s0_2) (hB : Below w0.heap.size w0 w) (h : spec_l4Draw.f k s0_0 s0_1 s0_2 a1 = some (r1, r2, r3, r4, r5, r6, r7, r8, r9, r10, r11, r12, r13, r14, r15)) :
    Calls Try.prog 75 #[.pointer (some ⟨g, 0, none⟩), .int .i64 a1] w fun e w' => e = .returned (.agg #[.int .i64 r1, .int .i64 r2, .int .i64 r3, .int .i64 r4, .int .i64 r5, .int .i64 r6, .int .i64 r7, .int .i64 r8, .int .i64 r9, .int .i64 r10, .int .i64 r11, .bool r12, .bool r13]) ∧ IsS120 w0 w' g s0_0 r14 r15 ∧ Below w0.heap.size w0 w' ∧ KeepBut w w' g none := by
  have hu25 := Try.underlying25
  have HI0 := Aside0.mk hI
  have HK := Aside0.mk (KeepBut.refl w g none)
  have HL := Aside0.mk hB.size
  clear hI
  have HW0 := Aside0.mk hB.size
  have HB := Aside0.mk hB
  clear hB
  have H : ((spec_l1Below.f s0_0 s0_1 s0_2 2).bind fun bt125 => ((spec_l1Int.f s0_0 bt125.2.1 bt125.2.2 (([2, 2, 2, 1, 3] : List Int))).bind fun bt131 => ((spec_l1Below.f s0_0 bt131.2.1 bt131.2.2 3).bind fun bt134 => ((spec_l1Below.f s0_0 bt134.2.1 bt134.2.2 5).bind fun bt137 => ((spec_l1Below.f s0_0 bt137.2.1 bt137.2.2 5).bind fun bt140 => ((some (([1, 2, 4, 8, 16, 32] : List Int) : List Int)).bind fun y144 => (spec_l4Draw.l0 k y144 (y144.length : Int) 0 s0_0 bt140.2.1 bt140.2.2 a1 bt125.1 bt125.1 bt131.1 bt134.1 bt137.1 (wrap64 (1 + bt140.1)) 0 0 0 0 false false))))))) = some (r1, r2, r3, r4, r5, r6, r7, r8, r9, r10, r11, r12, r13, r14, r15) := h
  clear h
  replace H := Option.bind_eq_some_iff.mp H
  obtain ⟨⟨t125, t126, t127⟩, A30, H⟩ := H
  (try dsimp only at H)
  have A3 := Aside0.mk A30
  clear A30
  obtain ⟨y128, hy128⟩ : ∃ y_ : List Int, y_ = (([2, 2, 2, 1, 3] : List Int)) := ⟨_, rfl⟩
  replace H : ((spec_l1Int.f s0_0 t126 t127 y128).bind fun bt131 => ((spec_l1Below.f s0_0 bt131.2.1 bt131.2.2 3).bind fun bt134 => ((spec_l1Below.f s0_0 bt134.2.1 bt134.2.2 5).bind fun bt137 => ((spec_l1Below.f s0_0 bt137.2.1 bt137.2.2 5).bind fun bt140 => ((some (([1, 2, 4, 8, 16, 32] : List Int) : List Int)).bind fun y144 => (spec_l4Draw.l0 k y144 (y144.length : Int) 0 s0_0 bt140.2.1 bt140.2.2 a1 t125 t125 bt131.1 bt134.1 bt137.1 (wrap64 (1 + bt140.1)) 0 0 0 0 false false)))))) = some (r1, r2, r3, r4, r5, r6, r7, r8, r9, r10, r11, r12, r13, r14, r15) := by first | (rw [hy128]; with_reducible exact H) | (have H2_ := (Option.bind_some _ _).symm.trans H; rw [hy128]; with_reducible exact H2_) | (have H2_ := (Option.bind_some _ _).symm.trans H; with_reducible exact H2_) | with_reducible exact H | (rw [hy128]; exact H) | exact H
  have Ny128 := Aside0.mk hy128
  clear hy128
  replace H := Option.bind_eq_some_iff.mp H
  obtain ⟨⟨t131, t132, t133⟩, A40, H⟩ := H
  (try dsimp only at H)
  have A4 := Aside0.mk A40
  clear A40
  replace H := Option.bind_eq_some_iff.mp H
  obtain ⟨⟨t134, t135, t136⟩, A50, H⟩ := H
  (try dsimp only at H)
  have A5 := Aside0.mk A50
  clear A50
  replace H := Option.bind_eq_some_iff.mp H
  obtain ⟨⟨t137, t138, t139⟩, A60, H⟩ := H
  (try dsimp only at H)
  have A6 := Aside0.mk A60
  clear A60
  replace H := Option.bind_eq_some_iff.mp H
  obtain ⟨⟨t140, t141, t142⟩, A70, H⟩ := H
  (try dsimp only at H)
  have A7 := Aside0.mk A70
  clear A70
  obtain ⟨y144, hy144⟩ : ∃ y_ : List Int, y_ = (([1, 2, 4, 8, 16, 32] : List Int)) := ⟨_, rfl⟩
  replace H : (spec_l4Draw.l0 k y144 (y144.length : Int) 0 s0_0 t141 t142 a1 t125 t125 t131 t134 t137 (wrap64 (1 + t140)) 0 0 0 0 false false) = some (r1, r2, r3, r4, r5, r6, r7, r8, r9, r10, r11, r12, r13, r14, r15) := by first | (rw [hy144]; with_reducible exact H) | (have H2_ := (Option.bind_some _ _).symm.trans H; rw [hy144]; with_reducible exact H2_) | (have H2_ := (Option.bind_some _ _).symm.trans H; with_reducible exact H2_) | with_reducible exact H | (rw [hy144]; exact H) | exact H
  have Ny144 := Aside0.mk hy144
  clear hy144
  have H' := Aside0.mk H
  clear H
  go_enter Try.func75, Try.ntmps75
  go_wp2_with (first | ((with_reducible refine gate_dst (N := 4) rfl ?_); refine box_event ?hg (N := 4) ?hd (cs := #[.int .i64 0, .int .i64 0, .int .i64 0, .int .i64 0, .int .i64 0, .int .i64 0, .int .i64 0, .int .i64 0, .int .i64 0, .int .i64 0, .int .i64 0, .bool false, .bool false]) (t := 25) ?hr ?_; (case hd => rfl); (case hg => rfl); (case hr => first | (go_simp; done) | (go_simp; rfl)); intro gb124 hg w8 hbox hb; have n0_ := Aside0.mk (IsS120.below (by repeat (first | (with_reducible first | exact HI0.out | apply IsS120.alloc | apply IsS120.drewN | apply IsS120.drew | apply IsS120.set_1 | apply IsS120.set_2) | exact HI0.out)) hb); have n1_ := Aside0.mk (KeepBut.trans Z4_22 (KeepBut.of_below hb g none) (.inl rfl)); have n2_ := Aside0.mk (below_step (by repeat (first | (with_reducible first | exact HB.out | apply below_alloc | apply pw_below_drewN | apply below_drew1 | refine below_set ?_ (IsS120.ge HI0.out)) | exact HB.out)) hb); have n3_ := Aside0.mk (hbox); have n4_ := Aside0.mk ((by rw [hg]; exact (keep_size (w := w) (g := g) (row := none) Z4_22) : w.heap.size ≤ gb124)); have n5_ := Aside0.mk ((Nat.le_trans HW0.out (by rw [hg]; exact (keep_size (w := w) (g := g) (row := none) Z4_22) : w.heap.size ≤ gb124) : w0.heap.size ≤ gb124)); have n6_ := Aside0.mk ((by rw [hg]; exact Nat.ne_of_lt (IsS120.lt (show IsS120 w0 _ g s0_0 s0_1 s0_2 from by repeat (first | (with_reducible first | exact HI0.out | apply IsS120.alloc | apply IsS120.drewN | apply IsS120.drew | apply IsS120.set_1 | apply IsS120.set_2) | exact HI0.out))) : g ≠ gb124)); have n7_ := Aside0.mk ((by rw [hg]; exact Nat.ne_of_gt (IsS120.lt (show IsS120 w0 _ g s0_0 s0_1 s0_2 from by repeat (first | (with_reducible first | exact HI0.out | apply IsS120.alloc | apply IsS120.drewN | apply IsS120.drew | apply IsS120.set_1 | apply IsS120.set_2) | exact HI0.out))) : gb124 ≠ g)); clear HI0; clear HK; clear HB; have HI0 := n0_; have HK := n1_; have HB := n2_; have BK124 := n3_; have GW124 := n4_; have GE124 := n5_; have NB0_124 := n6_; have NB124_0 := n7_; clear n0_ n1_ n2_ n3_ n4_ n5_ n6_ n7_; clear hb hbox hg) | ((with_reducible refine gate_callee (f := 74) rfl ?_); refine goesL_ (some 10) rfl rfl Try.func74 (by kernel_rfl) rfl #[.pointer (some ⟨g, 0, none⟩), .int .i64 2] rfl Z4_23 ?_; (with_reducible refine (spec_l1Below.calls g s0_0 s0_1 s0_2 2 t125 t126 t127 w0 _ ?side1 ?side2 A3.out).mono ?_); (case side1 => repeat (first | (with_reducible first | exact HI0.out | apply IsS120.alloc | apply IsS120.drewN | apply IsS120.drew | apply IsS120.set_1 | apply IsS120.set_2 | refine IsS120.far ?_ NB0_124.out _) | exact HI0.out)); (case side2 => repeat (first | (with_reducible first | exact HB.out | apply below_alloc | apply pw_below_drewN | apply below_drew1 | refine below_set ?_ (IsS120.ge HI0.out) | refine below_set ?_ GE124.out) | exact HB.out)); rintro e w9 ⟨rfl, hi, hb, hk⟩; refine ⟨_, rfl, ?_⟩; have n0_ := Aside0.mk Z4_5; have n1_ := Aside0.mk Z4_20; have n2_ := Aside0.mk (hb); have n3_ := Aside0.mk (hi); clear BK124; clear HK; clear HB; clear HI0; have BK124 := n0_; have HK := n1_; have HB := n2_; have HI0 := n3_; clear n0_ n1_ n2_ n3_; (try clear hb); (try clear hb2); (try clear hk); (try clear hi)) | ((with_reducible refine gate_dst (N := 12) rfl ?_); refine Kd.R_lit (Kd.int .i64) _ 3 ?hg (N := 12) ?hd (xs := ([2, 2, 2, 1, 3] : List Int)) (inner := [.int .i64 2, .int .i64 2, .int .i64 2, .int .i64 1, .int .i64 3]) (ok := fun _ => True) (okp := fun _ => True) ?hr ?hp (fun _ hk => hk) trivial (Below.refl _ _) (Nat.le_refl _) (by simp) ?_; (case hd => rfl); (case hg => rfl); (case hr => first | (go_simp; done) | (go_simp; rfl)); (case hp => exact (Reps.one (show Kd.M (Kd.int .i64) _ _ _ 2 [.int .i64 2] from rfl) (Reps.one (show Kd.M (Kd.int .i64) _ _ _ 2 [.int .i64 2] from rfl) (Reps.one (show Kd.M (Kd.int .i64) _ _ _ 2 [.int .i64 2] from rfl) (Reps.one (show Kd.M (Kd.int .i64) _ _ _ 1 [.int .i64 1] from rfl) (Reps.one (show Kd.M (Kd.int .i64) _ _ _ 3 [.int .i64 3] from rfl) (Reps.none _ _))))))); intro v129 w10 ho11 hb hg_ hnew_; clear hg_ hnew_; (first | rw [← Ny128.out] at ho11 | (simp only [Int.reduceToNat] at ho11; rw [← Ny128.out] at ho11)); have n0_ := Aside0.mk (Kd.R_lower ho11 (keep_size (w := w) (g := g) (row := none) Z4_21)); have n1_ := Aside0.mk Z4_17; have n2_ := Aside0.mk Z4_6; have n3_ := Aside0.mk Z4_16; have n4_ := Aside0.mk Z4_18; clear HI0; clear BK124; clear HK; clear HB; have HO130 := n0_; have HI0 := n1_; have BK124 := n2_; have HK := n3_; have HB := n4_; clear n0_ n1_ n2_ n3_ n4_; clear hb ho11; obtain ⟨Ao12, co12, eo12⟩ := Kd.R_slice HO130.out; subst eo12) | ((with_reducible refine gate_callee (f := 73) rfl ?_); refine goesL_ (some 13) rfl rfl Try.func73 (by kernel_rfl) rfl #[.pointer (some ⟨g, 0, none⟩), .slice Ao12 y128.length co12] rfl Z4_23 ?_; (with_reducible refine (spec_l1Int.calls g s0_0 t126 t127 _ _ y128 t131 t132 t133 w0 _ ?side1 ?side2 ?side3 ?side4 ?side5 A4.out).mono ?_); (case side1 => repeat (first | (with_reducible first | exact HI0.out | apply IsS120.alloc | apply IsS120.drewN | apply IsS120.drew | apply IsS120.set_1 | apply IsS120.set_2 | refine IsS120.far ?_ NB0_124.out _) | exact HI0.out)); (case side2 => repeat (first | (with_reducible first | exact HB.out | apply below_alloc | apply pw_below_drewN | apply below_drew1 | refine below_set ?_ (IsS120.ge HI0.out) | refine below_set ?_ GE124.out) | exact HB.out)); (case side3 => repeat (first | exact (Kd.R_reads' HO130.out).2.2 | (with_reducible refine Kd.C_alloc ?_ _) | (with_reducible refine Kd.C_drewN ?_ _) | (with_reducible refine Kd.C_drew ?_))); (case side4 => exact (Kd.R_reads' HO130.out).2.1); (case side5 => exact far_slice (IsS120.own_ne HI0.out HO130.out (by decide))); rintro e w13 ⟨rfl, hi, hb, hk⟩; refine ⟨_, rfl, ?_⟩; have n0_ := Aside0.mk Z4_5; have n1_ := Aside0.mk (Kd.R_mono (Kd.R_keep (IsS120.apart (show IsS120 w0 _ g s0_0 t126 t127 from by repeat (first | (with_reducible first | exact HI0.out | apply IsS120.alloc | apply IsS120.drewN | apply IsS120.drew | apply IsS120.set_1 | apply IsS120.set_2 | refine IsS120.far ?_ NB0_124.out _) | exact HI0.out)) Z4_26 (by decide)) hk (fun _ h => h.2)) (fun _ h => h.1)); have n2_ := Aside0.mk Z4_20; have n3_ := Aside0.mk (hb); have n4_ := Aside0.mk (hi); clear BK124; clear HO130; clear HK; clear HB; clear HI0; have BK124 := n0_; have HO130 := n1_; have HK := n2_; have HB := n3_; have HI0 := n4_; clear n0_ n1_ n2_ n3_ n4_; (try clear hb); (try clear hb2); (try clear hk); (try clear hi)) | ((with_reducible refine gate_callee (f := 74) rfl ?_); refine goesL_ (some 15) rfl rfl Try.func74 (by kernel_rfl) rfl #[.pointer (some ⟨g, 0, none⟩), .int .i64 3] rfl Z4_23 ?_; (with_reducible refine (spec_l1Below.calls g s0_0 t132 t133 3 t134 t135 t136 w0 _ ?side1 ?side2 A5.out).mono ?_); (case side1 => repeat (first | (with_reducible first | exact HI0.out | apply IsS120.alloc | apply IsS120.drewN | apply IsS120.drew | apply IsS120.set_1 | apply IsS120.set_2 | refine IsS120.far ?_ NB0_124.out _) | exact HI0.out)); (case side2 => repeat (first | (with_reducible first | exact HB.out | apply below_alloc | apply pw_below_drewN | apply below_drew1 | refine below_set ?_ (IsS120.ge HI0.out) | refine below_set ?_ GE124.out) | exact HB.out)); rintro e w14 ⟨rfl, hi, hb, hk⟩; refine ⟨_, rfl, ?_⟩; have n0_ := Aside0.mk Z4_5; have n1_ := Aside0.mk (Kd.R_mono (Kd.R_keep (IsS120.apart (show IsS120 w0 _ g s0_0 t132 t133 from by repeat (first | (with_reducible first | exact HI0.out | apply IsS120.alloc | apply IsS120.drewN | apply IsS120.drew | apply IsS120.set_1 | apply IsS120.set_2 | refine IsS120.far ?_ NB0_124.out _) | exact HI0.out)) Z4_26 (by decide)) hk (fun _ h => h.2)) (fun _ h => h.1)); have n2_ := Aside0.mk Z4_20; have n3_ := Aside0.mk (hb); have n4_ := Aside0.mk (hi); clear BK124; clear HO130; clear HK; clear HB; clear HI0; have BK124 := n0_; have HO130 := n1_; have HK := n2_; have HB := n3_; have HI0 := n4_; clear n0_ n1_ n2_ n3_ n4_; (try clear hb); (try clear hb2); (try clear hk); (try clear hi)) | ((with_reducible refine gate_callee (f := 74) rfl ?_); refine goesL_ (some 17) rfl rfl Try.func74 (by kernel_rfl) rfl #[.pointer (some ⟨g, 0, none⟩), .int .i64 5] rfl Z4_23 ?_; (with_reducible refine (spec_l1Below.calls g s0_0 t135 t136 5 t137 t138 t139 w0 _ ?side1 ?side2 A6.out).mono ?_); (case side1 => repeat (first | (with_reducible first | exact HI0.out | apply IsS120.alloc | apply IsS120.drewN | apply IsS120.drew | apply IsS120.set_1 | apply IsS120.set_2 | refine IsS120.far ?_ NB0_124.out _) | exact HI0.out)); (case side2 => repeat (first | (with_reducible first | exact HB.out | apply below_alloc | apply pw_below_drewN | apply below_drew1 | refine below_set ?_ (IsS120.ge HI0.out) | refine below_set ?_ GE124.out) | exact HB.out)); rintro e w15 ⟨rfl, hi, hb, hk⟩; refine ⟨_, rfl, ?_⟩; have n0_ := Aside0.mk Z4_5; have n1_ := Aside0.mk (Kd.R_mono (Kd.R_keep (IsS120.apart (show IsS120 w0 _ g s0_0 t135 t136 from by repeat (first | (with_reducible first | exact HI0.out | apply IsS120.alloc | apply IsS120.drewN | apply IsS120.drew | apply IsS120.set_1 | apply IsS120.set_2 | refine IsS120.far ?_ NB0_124.out _) | exact HI0.out)) Z4_26 (by decide)) hk (fun _ h => h.2)) (fun _ h => h.1)); have n2_ := Aside0.mk Z4_20; have n3_ := Aside0.mk (hb); have n4_ := Aside0.mk (hi); clear BK124; clear HO130; clear HK; clear HB; clear HI0; have BK124 := n0_; have HO130 := n1_; have HK := n2_; have HB := n3_; have HI0 := n4_; clear n0_ n1_ n2_ n3_ n4_; (try clear hb); (try clear hb2); (try clear hk); (try clear hi)) | ((with_reducible refine gate_callee (f := 74) rfl ?_); refine goesL_ (some 19) rfl rfl Try.func74 (by kernel_rfl) rfl #[.pointer (some ⟨g, 0, none⟩), .int .i64 5] rfl Z4_23 ?_; (with_reducible refine (spec_l1Below.calls g s0_0 t138 t139 5 t140 t141 t142 w0 _ ?side1 ?side2 A7.out).mono ?_); (case side1 => repeat (first | (with_reducible first | exact HI0.out | apply IsS120.alloc | apply IsS120.drewN | apply IsS120.drew | apply IsS120.set_1 | apply IsS120.set_2 | refine IsS120.far ?_ NB0_124.out _) | exact HI0.out)); (case side2 => repeat (first | (with_reducible first | exact HB.out | apply below_alloc | apply pw_below_drewN | apply below_drew1 | refine below_set ?_ (IsS120.ge HI0.out) | refine below_set ?_ GE124.out) | exact HB.out)); rintro e w16 ⟨rfl, hi, hb, hk⟩; refine ⟨_, rfl, ?_⟩; have n0_ := Aside0.mk Z4_5; have n1_ := Aside0.mk (Kd.R_mono (Kd.R_keep (IsS120.apart (show IsS120 w0 _ g s0_0 t138 t139 from by repeat (first | (with_reducible first | exact HI0.out | apply IsS120.alloc | apply IsS120.drewN | apply IsS120.drew | apply IsS120.set_1 | apply IsS120.set_2 | refine IsS120.far ?_ NB0_124.out _) | exact HI0.out)) Z4_26 (by decide)) hk (fun _ h => h.2)) (fun _ h => h.1)); have n2_ := Aside0.mk Z4_20; have n3_ := Aside0.mk (hb); have n4_ := Aside0.mk (hi); clear BK124; clear HO130; clear HK; clear HB; clear HI0; have BK124 := n0_; have HO130 := n1_; have HK := n2_; have HB := n3_; have HI0 := n4_; clear n0_ n1_ n2_ n3_ n4_; (try clear hb); (try clear hb2); (try clear hk); (try clear hi)) | ((with_reducible refine gate_dst (N := 5) rfl ?_); refine box_event ?hg (N := 5) ?hd (cs := #[.int .i64 0, .int .i64 0, .int .i64 0, .int .i64 0, .int .i64 0, .int .i64 0, .int .i64 0, .int .i64 0, .int .i64 0, .int .i64 0, .int .i64 0, .bool false, .bool false]) (t := 25) ?hr ?_; (case hd => rfl); (case hg => rfl); (case hr => first | (go_simp; done) | (go_simp; rfl)); intro gb143 hg w17 hbox hb; have n0_ := Aside0.mk (Kd.R_below Z4_26 hb); have n1_ := Aside0.mk Z4_17; have n2_ := Aside0.mk Z4_6; have n3_ := Aside0.mk Z4_16; have n4_ := Aside0.mk Z4_18; have n5_ := Aside0.mk (hbox); have n6_ := Aside0.mk ((by rw [hg]; exact (keep_size (w := w) (g := g) (row := none) Z4_21) : w.heap.size ≤ gb143)); have n7_ := Aside0.mk ((Nat.le_trans HW0.out (by rw [hg]; exact (keep_size (w := w) (g := g) (row := none) Z4_21) : w.heap.size ≤ gb143) : w0.heap.size ≤ gb143)); have n8_ := Aside0.mk ((by rw [hg]; exact Nat.ne_of_lt (blk_lt (g := gb124) (o := .cells #[.int .i64 0, .int .i64 0, .int .i64 0, .int .i64 0, .int .i64 0, .int .i64 0, .int .i64 0, .int .i64 0, .int .i64 0, .int .i64 0, .int .i64 0, .bool false, .bool false] 25 (0, 0)) Z4_24) : gb124 ≠ gb143)); have n9_ := Aside0.mk ((by rw [hg]; exact Nat.ne_of_gt (blk_lt (g := gb124) (o := .cells #[.int .i64 0, .int .i64 0, .int .i64 0, .int .i64 0, .int .i64 0, .int .i64 0, .int .i64 0, .int .i64 0, .int .i64 0, .int .i64 0, .int .i64 0, .bool false, .bool false] 25 (0, 0)) Z4_24) : gb143 ≠ gb124)); have n10_ := Aside0.mk ((by rw [hg]; exact Nat.ne_of_lt (IsS120.lt (show IsS120 w0 _ g s0_0 t141 t142 from by repeat (first | (with_reducible first | exact HI0.out | apply IsS120.alloc | apply IsS120.drewN | apply IsS120.drew | apply IsS120.set_1 | apply IsS120.set_2 | refine IsS120.far ?_ NB0_124.out _) | exact HI0.out))) : g ≠ gb143)); have n11_ := Aside0.mk ((by rw [hg]; exact Nat.ne_of_gt (IsS120.lt (show IsS120 w0 _ g s0_0 t141 t142 from by repeat (first | (with_reducible first | exact HI0.out | apply IsS120.alloc | apply IsS120.drewN | apply IsS120.drew | apply IsS120.set_1 | apply IsS120.set_2 | refine IsS120.far ?_ NB0_124.out _) | exact HI0.out))) : gb143 ≠ g)); clear HO130; clear HI0; clear BK124; clear HK; clear HB; have HO130 := n0_; have HI0 := n1_; have BK124 := n2_; have HK := n3_; have HB := n4_; have BK143 := n5_; have GW143 := n6_; have GE143 := n7_; have NB124_143 := n8_; have NB143_124 := n9_; have NB0_143 := n10_; have NB143_0 := n11_; clear n0_ n1_ n2_ n3_ n4_ n5_ n6_ n7_ n8_ n9_ n10_ n11_; clear hb hbox hg; have hnb18 := NB143_124.out; have hnc18 := NB124_143.out; have hnb19 := NB143_0.out; have hnc19 := NB0_143.out; obtain ⟨⟨hcz20_0, hcz20_1, hcz20_2, hcz20_3, hcz20_4, hcz20_5, hcz20_6, hcz20_7, hcz20_8, hcz20_9, hcz20_10, hcz20_11, hcz20_12⟩, hfz20_0, hfz20_1, hfz20_2, hfz20_3, hfz20_4, hfz20_5, hfz20_6, hfz20_7, hfz20_8, hfz20_9, hfz20_10, hfz20_11, hfz20_12⟩ := C4_13 BK143.out) | ((with_reducible refine gate_dst (N := 25) rfl ?_); refine Kd.R_lit (Kd.int .i64) _ 3 ?hg (N := 25) ?hd (xs := ([1, 2, 4, 8, 16, 32] : List Int)) (inner := [.int .i64 1, .int .i64 2, .int .i64 4, .int .i64 8, .int .i64 16, .int .i64 32]) (ok := fun _ => True) (okp := fun _ => True) ?hr ?hp (fun _ hk => hk) trivial (Below.refl _ _) (Nat.le_refl _) (by simp) ?_; (case hd => rfl); (case hg => rfl); (case hr => first | (go_simp; done) | (go_simp; rfl)); (case hp => exact (Reps.one (show Kd.M (Kd.int .i64) _ _ _ 1 [.int .i64 1] from rfl) (Reps.one (show Kd.M (Kd.int .i64) _ _ _ 2 [.int .i64 2] from rfl) (Reps.one (show Kd.M (Kd.int .i64) _ _ _ 4 [.int .i64 4] from rfl) (Reps.one (show Kd.M (Kd.int .i64) _ _ _ 8 [.int .i64 8] from rfl) (Reps.one (show Kd.M (Kd.int .i64) _ _ _ 16 [.int .i64 16] from rfl) (Reps.one (show Kd.M (Kd.int .i64) _ _ _ 32 [.int .i64 32] from rfl) (Reps.none _ _)))))))); intro v145 w21 ho22 hb hg_ hnew_; clear hg_ hnew_; (first | rw [← Ny144.out] at ho22 | (simp only [Int.reduceToNat] at ho22; rw [← Ny144.out] at ho22)); have n0_ := Aside0.mk (Kd.R_elder' Z4_1 (Kd.R_base ho22) hb); have n1_ := Aside0.mk (Kd.R_lower (Kd.R_new' ho22 (Kd.R_lt Z4_1)) (keep_size (w := w) (g := g) (row := none) Z4_19)); have n2_ := Aside0.mk (IsS120.below (show IsS120 w0 ((((((((((((((w17.setCell ⟨gb143, 0, none⟩ (.int .i64 a1)).setCell ⟨gb143, 1, none⟩ (.int .i64 t125)).setCell ⟨gb143, 2, none⟩ (.int .i64 0)).setCell ⟨gb143, 3, none⟩ (.int .i64 t131)).setCell ⟨gb143, 4, none⟩ (.int .i64 t134)).setCell ⟨gb143, 5, none⟩ (.int .i64 t137)).setCell ⟨gb143, 6, none⟩ (.int .i64 (wrap64 (1 + t140)))).setCell ⟨gb143, 7, none⟩ (.int .i64 0)).setCell ⟨gb143, 8, none⟩ (.int .i64 0)).setCell ⟨gb143, 9, none⟩ (.int .i64 0)).setCell ⟨gb143, 10, none⟩ (.int .i64 0)).setCell ⟨gb143, 11, none⟩ (.bool false)).setCell ⟨gb143, 12, none⟩ (.bool false)).setCell ⟨gb143, 2, none⟩ (.int .i64 t125)) g s0_0 t141 t142 from by repeat (first | (with_reducible first | exact HI0.out | apply IsS120.alloc | apply IsS120.drewN | apply IsS120.drew | apply IsS120.set_1 | apply IsS120.set_2 | refine IsS120.far ?_ NB0_124.out _ | refine IsS120.far ?_ NB0_143.out _) | exact HI0.out)) hb); have n3_ := Aside0.mk (blk_below (g := gb124) (o := .cells #[.int .i64 0, .int .i64 0, .int .i64 0, .int .i64 0, .int .i64 0, .int .i64 0, .int .i64 0, .int .i64 0, .int .i64 0, .int .i64 0, .int .i64 0, .bool false, .bool false] 25 (0, 0)) (by (with_reducible repeat (first | refine blk_drewN ?_ _ | refine blk_drew ?_ | refine blk_alloc ?_ _)); refine blk_far ?_ NB124_143.out _; (with_reducible repeat (first | refine blk_drewN ?_ _ | refine blk_drew ?_ | refine blk_alloc ?_ _)); refine blk_far ?_ NB124_143.out _; (with_reducible repeat (first | refine blk_drewN ?_ _ | refine blk_drew ?_ | refine blk_alloc ?_ _)); refine blk_far ?_ NB124_143.out _; (with_reducible repeat (first | refine blk_drewN ?_ _ | refine blk_drew ?_ | refine blk_alloc ?_ _)); refine blk_far ?_ NB124_143.out _; (with_reducible repeat (first | refine blk_drewN ?_ _ | refine blk_drew ?_ | refine blk_alloc ?_ _)); refine blk_far ?_ NB124_143.out _; (with_reducible repeat (first | refine blk_drewN ?_ _ | refine blk_drew ?_ | refine blk_alloc ?_ _)); refine blk_far ?_ NB124_143.out _; (with_reducible repeat (first | refine blk_drewN ?_ _ | refine blk_drew ?_ | refine blk_alloc ?_ _)); refine blk_far ?_ NB124_143.out _; (with_reducible repeat (first | refine blk_drewN ?_ _ | refine blk_drew ?_ | refine blk_alloc ?_ _)); refine blk_far ?_ NB124_143.out _; (with_reducible repeat (first | refine blk_drewN ?_ _ | refine blk_drew ?_ | refine blk_alloc ?_ _)); refine blk_far ?_ NB124_143.out _; (with_reducible repeat (first | refine blk_drewN ?_ _ | refine blk_drew ?_ | refine blk_alloc ?_ _)); refine blk_far ?_ NB124_143.out _; (with_reducible repeat (first | refine blk_drewN ?_ _ | refine blk_drew ?_ | refine blk_alloc ?_ _)); refine blk_far ?_ NB124_143.out _; (with_reducible repeat (first | refine blk_drewN ?_ _ | refine blk_drew ?_ | refine blk_alloc ?_ _)); refine blk_far ?_ NB124_143.out _; (with_reducible repeat (first | refine blk_drewN ?_ _ | refine blk_drew ?_ | refine blk_alloc ?_ _)); refine blk_far ?_ NB124_143.out _; (with_reducible repeat (first | refine blk_drewN ?_ _ | refine blk_drew ?_ | refine blk_alloc ?_ _)); refine blk_far ?_ NB124_143.out _; (with_reducible repeat (first | refine blk_drewN ?_ _ | refine blk_drew ?_ | refine blk_alloc ?_ _)); exact BK124.out) hb); have n4_ := Aside0.mk (blk_below (g := gb143) (o := .cells #[.int .i64 a1, .int .i64 t125, .int .i64 t125, .int .i64 t131, .int .i64 t134, .int .i64 t137, .int .i64 (wrap64 (1 + t140)), .int .i64 0, .int .i64 0, .int .i64 0, .int .i64 0, .bool false, .bool false] 25 (0, 0)) (by (with_reducible repeat (first | refine blk_drewN ?_ _ | refine blk_drew ?_ | refine blk_alloc ?_ _)); refine blk_put (cs := #[.int .i64 a1, .int .i64 t125, .int .i64 0, .int .i64 t131, .int .i64 t134, .int .i64 t137, .int .i64 (wrap64 (1 + t140)), .int .i64 0, .int .i64 0, .int .i64 0, .int .i64 0, .bool false, .bool false]) ?_ 2 _ rfl; (with_reducible repeat (first | refine blk_drewN ?_ _ | refine blk_drew ?_ | refine blk_alloc ?_ _)); refine blk_put (cs := #[.int .i64 a1, .int .i64 t125, .int .i64 0, .int .i64 t131, .int .i64 t134, .int .i64 t137, .int .i64 (wrap64 (1 + t140)), .int .i64 0, .int .i64 0, .int .i64 0, .int .i64 0, .bool false, .bool false]) ?_ 12 _ rfl; (with_reducible repeat (first | refine blk_drewN ?_ _ | refine blk_drew ?_ | refine blk_alloc ?_ _)); refine blk_put (cs := #[.int .i64 a1, .int .i64 t125, .int .i64 0, .int .i64 t131, .int .i64 t134, .int .i64 t137, .int .i64 (wrap64 (1 + t140)), .int .i64 0, .int .i64 0, .int .i64 0, .int .i64 0, .bool false, .bool false]) ?_ 11 _ rfl; (with_reducible repeat (first | refine blk_drewN ?_ _ | refine blk_drew ?_ | refine blk_alloc ?_ _)); refine blk_put (cs := #[.int .i64 a1, .int .i64 t125, .int .i64 0, .int .i64 t131, .int .i64 t134, .int .i64 t137, .int .i64 (wrap64 (1 + t140)), .int .i64 0, .int .i64 0, .int .i64 0, .int .i64 0, .bool false, .bool false]) ?_ 10 _ rfl; (with_reducible repeat (first | refine blk_drewN ?_ _ | refine blk_drew ?_ | refine blk_alloc ?_ _)); refine blk_put (cs := #[.int .i64 a1, .int .i64 t125, .int .i64 0, .int .i64 t131, .int .i64 t134, .int .i64 t137, .int .i64 (wrap64 (1 + t140)), .int .i64 0, .int .i64 0, .int .i64 0, .int .i64 0, .bool false, .bool false]) ?_ 9 _ rfl; (with_reducible repeat (first | refine blk_drewN ?_ _ | refine blk_drew ?_ | refine blk_alloc ?_ _)); refine blk_put (cs := #[.int .i64 a1, .int .i64 t125, .int .i64 0, .int .i64 t131, .int .i64 t134, .int .i64 t137, .int .i64 (wrap64 (1 + t140)), .int .i64 0, .int .i64 0, .int .i64 0, .int .i64 0, .bool false, .bool false]) ?_ 8 _ rfl; (with_reducible repeat (first | refine blk_drewN ?_ _ | refine blk_drew ?_ | refine blk_alloc ?_ _)); refine blk_put (cs := #[.int .i64 a1, .int .i64 t125, .int .i64 0, .int .i64 t131, .int .i64 t134, .int .i64 t137, .int .i64 (wrap64 (1 + t140)), .int .i64 0, .int .i64 0, .int .i64 0, .int .i64 0, .bool false, .bool false]) ?_ 7 _ rfl; (with_reducible repeat (first | refine blk_drewN ?_ _ | refine blk_drew ?_ | refine blk_alloc ?_ _)); refine blk_put (cs := #[.int .i64 a1, .int .i64 t125, .int .i64 0, .int .i64 t131, .int .i64 t134, .int .i64 t137, .int .i64 0, .int .i64 0, .int .i64 0, .int .i64 0, .int .i64 0, .bool false, .bool false]) ?_ 6 _ rfl; (with_reducible repeat (first | refine blk_drewN ?_ _ | refine blk_drew ?_ | refine blk_alloc ?_ _)); refine blk_put (cs := #[.int .i64 a1, .int .i64 t125, .int .i64 0, .int .i64 t131, .int .i64 t134, .int .i64 0, .int .i64 0, .int .i64 0, .int .i64 0, .int .i64 0, .int .i64 0, .bool false, .bool false]) ?_ 5 _ rfl; (with_reducible repeat (first | refine blk_drewN ?_ _ | refine blk_drew ?_ | refine blk_alloc ?_ _)); refine blk_put (cs := #[.int .i64 a1, .int .i64 t125, .int .i64 0, .int .i64 t131, .int .i64 0, .int .i64 0, .int .i64 0, .int .i64 0, .int .i64 0, .int .i64 0, .int .i64 0, .bool false, .bool false]) ?_ 4 _ rfl; (with_reducible repeat (first | refine blk_drewN ?_ _ | refine blk_drew ?_ | refine blk_alloc ?_ _)); refine blk_put (cs := #[.int .i64 a1, .int .i64 t125, .int .i64 0, .int .i64 0, .int .i64 0, .int .i64 0, .int .i64 0, .int .i64 0, .int .i64 0, .int .i64 0, .int .i64 0, .bool false, .bool false]) ?_ 3 _ rfl; (with_reducible repeat (first | refine blk_drewN ?_ _ | refine blk_drew ?_ | refine blk_alloc ?_ _)); refine blk_put (cs := #[.int .i64 a1, .int .i64 t125, .int .i64 0, .int .i64 0, .int .i64 0, .int .i64 0, .int .i64 0, .int .i64 0, .int .i64 0, .int .i64 0, .int .i64 0, .bool false, .bool false]) ?_ 2 _ rfl; (with_reducible repeat (first | refine blk_drewN ?_ _ | refine blk_drew ?_ | refine blk_alloc ?_ _)); refine blk_put (cs := #[.int .i64 a1, .int .i64 0, .int .i64 0, .int .i64 0, .int .i64 0, .int .i64 0, .int .i64 0, .int .i64 0, .int .i64 0, .int .i64 0, .int .i64 0, .bool false, .bool false]) ?_ 1 _ rfl; (with_reducible repeat (first | refine blk_drewN ?_ _ | refine blk_drew ?_ | refine blk_alloc ?_ _)); refine blk_put (cs := #[.int .i64 0, .int .i64 0, .int .i64 0, .int .i64 0, .int .i64 0, .int .i64 0, .int .i64 0, .int .i64 0, .int .i64 0, .int .i64 0, .int .i64 0, .bool false, .bool false]) ?_ 0 _ rfl; (with_reducible repeat (first | refine blk_drewN ?_ _ | refine blk_drew ?_ | refine blk_alloc ?_ _)); exact BK143.out) hb); have n5_ := Aside0.mk Z4_7; have n6_ := Aside0.mk Z4_8; clear HO130; clear HI0; clear BK124; clear BK143; clear HK; clear HB; have HO130 := n0_; have HO146 := n1_; have HI0 := n2_; have BK124 := n3_; have BK143 := n4_; have HK := n5_; have HB := n6_; clear n0_ n1_ n2_ n3_ n4_ n5_ n6_; clear hb ho22; obtain ⟨Ao23, co23, eo23⟩ := Kd.R_slice HO146.out; subst eo23))
  go_loopg [27] k (fun kq v27 w' => ∃ (x27_1 : Int) (x1001_1 : Int) (x1002_1 : Int) (x144007_1 : Int), v27 = .int .i64 x27_1 ∧ Aside0 (spec_l4Draw.l0 kq y144 (y144.length : Int) x27_1 s0_0 x1001_1 x1002_1 a1 t125 t125 t131 t134 t137 (wrap64 (1 + t140)) x144007_1 0 0 0 false false = some (r1, r2, r3, r4, r5, r6, r7, r8, r9, r10, r11, r12, r13, r14, r15)) ∧ Aside0 (kq ≤ k) ∧ Aside0 (Kd.R (Kd.int .i64) 3 w' w.heap.size (fun _ => True) (.slice Ao23 y144.length co23) y144) ∧ Aside0 (w'.heap[gb124]? = some (.cells #[.int .i64 0, .int .i64 0, .int .i64 0, .int .i64 0, .int .i64 0, .int .i64 0, .int .i64 0, .int .i64 0, .int .i64 0, .int .i64 0, .int .i64 0, .bool false, .bool false] 25 (0, 0))) ∧ Aside0 (w'.heap[gb143]? = some (.cells #[.int .i64 a1, .int .i64 t125, .int .i64 t125, .int .i64 t131, .int .i64 t134, .int .i64 t137, .int .i64 (wrap64 (1 + t140)), .int .i64 x144007_1, .int .i64 0, .int .i64 0, .int .i64 0, .bool false, .bool false] 25 (0, 0))) ∧ Aside0 (IsS120 w0 w' g s0_0 x1001_1 x1002_1) ∧ Aside0 (KeepBut w w' g none) ∧ Aside0 (Below w0.heap.size w0 w'))
  case atStart => exact ⟨(0), (t141), (t142), (0), (by first | rfl | (simp; done) | (simp [*]; done)), H', ⟨Nat.le_refl _⟩, ⟨(by (with_reducible repeat (first | apply Kd.R_alloc | apply Kd.R_drewN | apply Kd.R_drew)); exact Kd.R_mono HO146.out (fun _ hk => trivial))⟩, ⟨Z4_24⟩, ⟨Z4_25⟩, ⟨Z4_10⟩, ⟨Z4_19⟩, ⟨Z4_15⟩⟩
  case round =>
    clear H'
    try clear c1
    try clear p2
    try clear p6
    try clear c7
    try clear c18
    try clear c19
    try clear hcz20_0
    try clear hcz20_1
    try clear hcz20_10
    try clear hcz20_11
    try clear hcz20_12
    try clear hcz20_2
    try clear hcz20_3
    try clear hcz20_4
    try clear hcz20_5
    try clear hcz20_6
    try clear hcz20_7
    try clear hcz20_8
    try clear hcz20_9
    try clear hfz20_0
    try clear hfz20_1
    try clear hfz20_10
    try clear hfz20_11
    try clear hfz20_12
    try clear hfz20_2
    try clear hfz20_3
    try clear hfz20_4
    try clear hfz20_5
    try clear hfz20_6
    try clear hfz20_7
    try clear hfz20_8
    try clear hfz20_9
    obtain ⟨x27_1, x1001_1, x1002_1, x144007_1, rfl, HA, HK1, HO_25, BK124, BK143, HI0, HK, HB⟩ := hrel
    cases gk with
    | zero => exact absurd HA.out (by simp [spec_l4Draw.l0])
    | succ k1 =>
      have H := HA.out
      clear HA
      simp only [spec_l4Draw.l0] at H
      by_cases c24 : x27_1 < (y144.length : Int)
      · rw [if_pos c24] at H
        have c24b0 : decide (x27_1 < (y144.length : Int)) = true := decide_eq_true c24
        clear c24
        by_cases c25 : 0 ≤ x27_1
        rotate_left
        · rw [if_neg c25] at H
          exact absurd H (by simp)
        rw [if_pos c25] at H
        have c25b0 : decide (0 ≤ x27_1) = true := decide_eq_true c25
        clear c25
        by_cases c26 : x27_1 < (y144.length : Int)
        rotate_left
        · rw [if_neg c26] at H
          exact absurd H (by simp)
        rw [if_pos c26] at H
        have c26b0 : decide (x27_1 < (y144.length : Int)) = true := decide_eq_true c26
        clear c26
        replace H := Option.bind_eq_some_iff.mp H
        obtain ⟨⟨t148, t149, t150⟩, A270, H⟩ := H
        (try dsimp only at H)
        have A27 := Aside0.mk A270
        clear A270
        by_cases c28 : t148 = true
        rotate_left
        · replace c28 := Bool.eq_false_iff.mpr c28
          subst c28
          rw [if_neg (show ¬ (false = true) by decide)] at H
          have H' := Aside0.mk H
          clear H
          have p147 : 0 ≤ (x27_1 : Int) := of_decide_eq_true Z4_29
          have q147 : x27_1 < (y144.length : Int) := of_decide_eq_true Z4_29
          obtain ⟨ad147, e147, hx147_0⟩ := Kd.at_int (Kd.R_reads' HO_25.out).2.2 x27_1 p147 q147
          cases e147
          replace p147 := eq_true p147
          replace q147 := eq_true q147
          go_wp2_with (first | ((with_reducible refine gate_callee (f := 76) rfl ?_); refine goesL_ (some 32) rfl rfl Try.func76 (by kernel_rfl) rfl #[.pointer (some ⟨g, 0, none⟩), .int .i64 3] rfl Z4_23 ?_; (with_reducible refine (spec_l1Once.calls g s0_0 x1001_1 x1002_1 3 false t149 t150 w0 _ ?side1 ?side2 A27.out).mono ?_); (case side1 => repeat (first | (with_reducible first | exact HI0.out | apply IsS120.alloc | apply IsS120.drewN | apply IsS120.drew | apply IsS120.set_1 | apply IsS120.set_2 | refine IsS120.far ?_ NB0_124.out _ | refine IsS120.far ?_ NB0_143.out _) | exact HI0.out)); (case side2 => repeat (first | (with_reducible first | exact HB.out | apply below_alloc | apply pw_below_drewN | apply below_drew1 | refine below_set ?_ (IsS120.ge HI0.out) | refine below_set ?_ GE124.out | refine below_set ?_ GE143.out) | exact HB.out)); rintro e w33 ⟨rfl, hi, hb, hk⟩; refine ⟨_, rfl, ?_⟩; have n0_ := Aside0.mk Z4_2; have n1_ := Aside0.mk Z4_5; have n2_ := Aside0.mk Z4_4; have n3_ := Aside0.mk Z4_11; have n4_ := Aside0.mk (hb); have n5_ := Aside0.mk (hi); clear HO_25; clear BK124; clear BK143; clear HK; clear HB; clear HI0; have HO_25 := n0_; have BK124 := n1_; have BK143 := n2_; have HK := n3_; have HB := n4_; have HI0 := n5_; clear n0_ n1_ n2_ n3_ n4_ n5_; (try clear hb); (try clear hb2); (try clear hk); (try clear hi)))
          go_roundg k1
          case measure => have := HK1.out; omega
          case rel => exact ⟨(wrap64 (x27_1 + 1)), (t149), (t150), (x144007_1), (by first | rfl | (simp; done) | (simp [*]; done)), H', ⟨(by have := HK1.out; omega)⟩, ⟨(by (with_reducible repeat (first | apply Kd.R_alloc | apply Kd.R_drewN | apply Kd.R_drew)); exact HO_25.out)⟩, ⟨Z4_24⟩, ⟨Z4_25⟩, ⟨Z4_10⟩, ⟨Z4_19⟩, ⟨Z4_15⟩⟩
        subst c28
        rw [if_pos rfl] at H
        have H' := Aside0.mk H
        clear H
        have p147 : 0 ≤ (x27_1 : Int) := of_decide_eq_true Z4_29
        have q147 : x27_1 < (y144.length : Int) := of_decide_eq_true Z4_29
        obtain ⟨ad147, e147, hx147_0⟩ := Kd.at_int (Kd.R_reads' HO_25.out).2.2 x27_1 p147 q147
        cases e147
        replace p147 := eq_true p147
        replace q147 := eq_true q147
        go_wp2_with (first | ((with_reducible refine gate_callee (f := 76) rfl ?_); refine goesL_ (some 32) rfl rfl Try.func76 (by kernel_rfl) rfl #[.pointer (some ⟨g, 0, none⟩), .int .i64 3] rfl Z4_23 ?_; (with_reducible refine (spec_l1Once.calls g s0_0 x1001_1 x1002_1 3 true t149 t150 w0 _ ?side1 ?side2 A27.out).mono ?_); (case side1 => repeat (first | (with_reducible first | exact HI0.out | apply IsS120.alloc | apply IsS120.drewN | apply IsS120.drew | apply IsS120.set_1 | apply IsS120.set_2 | refine IsS120.far ?_ NB0_124.out _ | refine IsS120.far ?_ NB0_143.out _) | exact HI0.out)); (case side2 => repeat (first | (with_reducible first | exact HB.out | apply below_alloc | apply pw_below_drewN | apply below_drew1 | refine below_set ?_ (IsS120.ge HI0.out) | refine below_set ?_ GE124.out | refine below_set ?_ GE143.out) | exact HB.out)); rintro e w29 ⟨rfl, hi, hb, hk⟩; refine ⟨_, rfl, ?_⟩; have n0_ := Aside0.mk Z4_2; have n1_ := Aside0.mk Z4_5; have n2_ := Aside0.mk Z4_4; have n3_ := Aside0.mk Z4_11; have n4_ := Aside0.mk (hb); have n5_ := Aside0.mk (hi); clear HO_25; clear BK124; clear BK143; clear HK; clear HB; clear HI0; have HO_25 := n0_; have BK124 := n1_; have BK143 := n2_; have HK := n3_; have HB := n4_; have HI0 := n5_; clear n0_ n1_ n2_ n3_ n4_ n5_; (try clear hb); (try clear hb2); (try clear hk); (try clear hi); have hnb30 := NB143_124.out; have hnc30 := NB124_143.out; have hnb31 := NB143_0.out; have hnc31 := NB0_143.out; obtain ⟨⟨hcz32_0, hcz32_1, hcz32_2, hcz32_3, hcz32_4, hcz32_5, hcz32_6, hcz32_7, hcz32_8, hcz32_9, hcz32_10, hcz32_11, hcz32_12⟩, hfz32_0, hfz32_1, hfz32_2, hfz32_3, hfz32_4, hfz32_5, hfz32_6, hfz32_7, hfz32_8, hfz32_9, hfz32_10, hfz32_11, hfz32_12⟩ := C4_13 BK143.out))
        go_roundg k1
        case measure => have := HK1.out; omega
        case rel => exact ⟨(wrap64 (x27_1 + 1)), (t149), (t150), (wrap64 (x144007_1 + (rd y144 x27_1))), (by first | rfl | (simp; done) | (simp [*]; done)), H', ⟨(by have := HK1.out; omega)⟩, ⟨(by (with_reducible repeat (first | apply Kd.R_alloc | apply Kd.R_drewN | apply Kd.R_drew)); exact Kd.R_mono (Kd.R_far (p := ⟨gb143, 7, none⟩) (Kd.R_types HO_25.out BK143.out (by decide)) (fun _ hk => hk.2) (.int .i64 (wrap64 (x144007_1 + (rd y144 x27_1))))) (fun _ hk => trivial))⟩, ⟨Z4_9⟩, ⟨(by (with_reducible repeat (first | refine blk_drewN ?_ _ | refine blk_drew ?_ | refine blk_alloc ?_ _)); refine blk_put (cs := #[.int .i64 a1, .int .i64 t125, .int .i64 t125, .int .i64 t131, .int .i64 t134, .int .i64 t137, .int .i64 (wrap64 (1 + t140)), .int .i64 x144007_1, .int .i64 0, .int .i64 0, .int .i64 0, .bool false, .bool false]) ?_ 7 _ rfl; (with_reducible repeat (first | refine blk_drewN ?_ _ | refine blk_drew ?_ | refine blk_alloc ?_ _)); exact BK143.out)⟩, ⟨Z4_10⟩, ⟨Z4_19⟩, ⟨Z4_15⟩⟩
      rw [if_neg c24] at H
      have c24b0 : decide (x27_1 < (y144.length : Int)) = false := decide_eq_false c24
      clear c24
      by_cases c34 : t131 = 2
      rotate_left
      · rw [if_neg c34] at H
        have c34b0 : (t131 == 2) = false := beq_eq_false_iff_ne.mpr c34
        have c34b1 : (t131 != 2) = true := bne_iff_ne.mpr c34
        simp only [Option.some.injEq, Prod.mk.injEq] at H
        obtain ⟨rfl, rfl, rfl, rfl, rfl, rfl, rfl, rfl, rfl, rfl, rfl, rfl, rfl, rfl, rfl⟩ := H
        have hnb70 := NB143_124.out
        have hnc70 := NB124_143.out
        have hnb71 := NB143_0.out
        have hnc71 := NB0_143.out
        obtain ⟨⟨hcz72_0, hcz72_1, hcz72_2, hcz72_3, hcz72_4, hcz72_5, hcz72_6, hcz72_7, hcz72_8, hcz72_9, hcz72_10, hcz72_11, hcz72_12⟩, hfz72_0, hfz72_1, hfz72_2, hfz72_3, hfz72_4, hfz72_5, hfz72_6, hfz72_7, hfz72_8, hfz72_9, hfz72_10, hfz72_11, hfz72_12⟩ := C4_13 BK143.out
        have hnb73 := NB124_0.out
        have hnc73 := NB0_124.out
        obtain ⟨⟨hcz74_0, hcz74_1, hcz74_2, hcz74_3, hcz74_4, hcz74_5, hcz74_6, hcz74_7, hcz74_8, hcz74_9, hcz74_10, hcz74_11, hcz74_12⟩, hfz74_0, hfz74_1, hfz74_2, hfz74_3, hfz74_4, hfz74_5, hfz74_6, hfz74_7, hfz74_8, hfz74_9, hfz74_10, hfz74_11, hfz74_12⟩ := C4_13 BK124.out
        go_wp2
        refine bodyPost_ret (results_cell_row rfl _ _ gb124 25 #[.int .i64 a1, .int .i64 t125, .int .i64 t125, .int .i64 t131, .int .i64 t134, .int .i64 t137, .int .i64 (wrap64 (1 + t140)), .int .i64 x144007_1, .int .i64 0, .int .i64 0, .int .i64 0, .bool false, .bool false] (0, 0) _ rfl (by (with_reducible repeat (first | refine blk_drewN ?_ _ | refine blk_drew ?_ | refine blk_alloc ?_ _)); apply E4_13; (with_reducible repeat (first | refine blk_drewN ?_ _ | refine blk_drew ?_ | refine blk_alloc ?_ _)); exact BK124.out) Try.underlying25 rfl (by kernel_rfl)) rfl ?_
        exact ⟨(by first | rfl | (simp [errW_none, errW_some] <;> rfl) | (simp [*, errW_none, errW_some] <;> rfl)), Z4_10, Z4_15, Z4_19⟩
      rw [if_pos c34] at H
      have c34b0 : (t131 == 2) = true := beq_iff_eq.mpr c34
      have c34b1 : (t131 != 2) = false := bne_eq_false_iff_eq.mpr c34
      clear c34
      replace H := Option.bind_eq_some_iff.mp H
      obtain ⟨⟨t151, t152, t153⟩, A350, H⟩ := H
      (try dsimp only at H)
      have A35 := Aside0.mk A350
      clear A350
      have HC36 := Aside0.mk H
      clear H
      have hnb37 := NB143_124.out
      have hnc37 := NB124_143.out
      have hnb38 := NB143_0.out
      have hnc38 := NB0_143.out
      obtain ⟨⟨hcz39_0, hcz39_1, hcz39_2, hcz39_3, hcz39_4, hcz39_5, hcz39_6, hcz39_7, hcz39_8, hcz39_9, hcz39_10, hcz39_11, hcz39_12⟩, hfz39_0, hfz39_1, hfz39_2, hfz39_3, hfz39_4, hfz39_5, hfz39_6, hfz39_7, hfz39_8, hfz39_9, hfz39_10, hfz39_11, hfz39_12⟩ := C4_13 BK143.out
      go_upto_if 44 with (first | ((with_reducible refine gate_callee (f := 76) rfl ?_); refine goesL_ (some 44) rfl rfl Try.func76 (by kernel_rfl) rfl #[.pointer (some ⟨g, 0, none⟩), .int .i64 4] rfl Z4_23 ?_; (with_reducible refine (spec_l1Once.calls g s0_0 x1001_1 x1002_1 4 t151 t152 t153 w0 _ ?side1 ?side2 A35.out).mono ?_); (case side1 => repeat (first | (with_reducible first | exact HI0.out | apply IsS120.alloc | apply IsS120.drewN | apply IsS120.drew | apply IsS120.set_1 | apply IsS120.set_2 | refine IsS120.far ?_ NB0_124.out _ | refine IsS120.far ?_ NB0_143.out _) | exact HI0.out)); (case side2 => repeat (first | (with_reducible first | exact HB.out | apply below_alloc | apply pw_below_drewN | apply below_drew1 | refine below_set ?_ (IsS120.ge HI0.out) | refine below_set ?_ GE124.out | refine below_set ?_ GE143.out) | exact HB.out)); rintro e w40 ⟨rfl, hi, hb, hk⟩; refine ⟨_, rfl, ?_⟩; have n0_ := Aside0.mk Z4_2; have n1_ := Aside0.mk Z4_5; have n2_ := Aside0.mk Z4_4; have n3_ := Aside0.mk Z4_11; have n4_ := Aside0.mk (hb); have n5_ := Aside0.mk (hi); clear HO_25; clear BK124; clear BK143; clear HK; clear HB; clear HI0; have HO_25 := n0_; have BK124 := n1_; have BK143 := n2_; have HK := n3_; have HB := n4_; have HI0 := n5_; clear n0_ n1_ n2_ n3_ n4_ n5_; (try clear hb); (try clear hb2); (try clear hk); (try clear hi)))
      (try simp only [Act.put, List.setIfInBounds_toArray, List.set_cons_zero, List.set_cons_succ])
      go_cut [] (fun wc => ∃ (kq : Nat) (x144002_35 : Int), Aside0 (spec_l4Draw.j1 kq s0_0 t152 t153 a1 t125 x144002_35 t131 t134 t137 (wrap64 (1 + t140)) x144007_1 0 0 0 false false = some (r1, r2, r3, r4, r5, r6, r7, r8, r9, r10, r11, r12, r13, r14, r15)) ∧ Aside0 (kq ≤ k1) ∧ Aside0 (wc.heap[gb124]? = some (.cells #[.int .i64 0, .int .i64 0, .int .i64 0, .int .i64 0, .int .i64 0, .int .i64 0, .int .i64 0, .int .i64 0, .int .i64 0, .int .i64 0, .int .i64 0, .bool false, .bool false] 25 (0, 0))) ∧ Aside0 (wc.heap[gb143]? = some (.cells #[.int .i64 a1, .int .i64 t125, .int .i64 x144002_35, .int .i64 t131, .int .i64 t134, .int .i64 t137, .int .i64 (wrap64 (1 + t140)), .int .i64 x144007_1, .int .i64 0, .int .i64 0, .int .i64 0, .bool false, .bool false] 25 (0, 0))) ∧ Aside0 (IsS120 w0 wc g s0_0 t152 t153) ∧ Aside0 (KeepBut w wc g none) ∧ Aside0 (Below w0.heap.size w0 wc))
      case first =>
        have H := HC36.out
        clear HC36
        by_cases c41 : t151 = true
        rotate_left
        · replace c41 := Bool.eq_false_iff.mpr c41
          subst c41
          rw [if_neg (show ¬ (false = true) by decide)] at H
          have H' := Aside0.mk H
          clear H
          go_wp2
          go_meet
          case rel => exact ⟨_, (t125), H', ⟨(by have := HK1.out; first | omega | exact Nat.le_refl _)⟩, ⟨Z4_24⟩, ⟨Z4_25⟩, ⟨Z4_10⟩, ⟨Z4_19⟩, ⟨Z4_15⟩⟩
        subst c41
        rw [if_pos rfl] at H
        have H' := Aside0.mk H
        clear H
        have hnb42 := NB143_124.out
        have hnc42 := NB124_143.out
        have hnb43 := NB143_0.out
        have hnc43 := NB0_143.out
        obtain ⟨⟨hcz44_0, hcz44_1, hcz44_2, hcz44_3, hcz44_4, hcz44_5, hcz44_6, hcz44_7, hcz44_8, hcz44_9, hcz44_10, hcz44_11, hcz44_12⟩, hfz44_0, hfz44_1, hfz44_2, hfz44_3, hfz44_4, hfz44_5, hfz44_6, hfz44_7, hfz44_8, hfz44_9, hfz44_10, hfz44_11, hfz44_12⟩ := C4_13 BK143.out
        go_wp2
        go_meet
        case rel => exact ⟨_, (wrap64 (1 - t125)), H', ⟨(by have := HK1.out; first | omega | exact Nat.le_refl _)⟩, ⟨Z4_9⟩, ⟨(by (with_reducible repeat (first | refine blk_drewN ?_ _ | refine blk_drew ?_ | refine blk_alloc ?_ _)); refine blk_put (cs := #[.int .i64 a1, .int .i64 t125, .int .i64 t125, .int .i64 t131, .int .i64 t134, .int .i64 t137, .int .i64 (wrap64 (1 + t140)), .int .i64 x144007_1, .int .i64 0, .int .i64 0, .int .i64 0, .bool false, .bool false]) ?_ 2 _ rfl; (with_reducible repeat (first | refine blk_drewN ?_ _ | refine blk_drew ?_ | refine blk_alloc ?_ _)); exact BK143.out)⟩, ⟨Z4_10⟩, ⟨Z4_19⟩, ⟨Z4_15⟩⟩
      case rest =>
        clear HC36
        try clear c1
        try clear p1
        try clear q1
        try clear hx1
        try clear c2
        try clear p2
        try clear c3
        try clear c4
        try clear p6
        try clear c7
        try clear p14
        try clear q14
        try clear hx14
        try clear c18
        try clear c19
        try clear c24
        try clear c24b0
        try clear c25
        try clear c25b0
        try clear c26
        try clear c26b0
        try clear c28
        try clear c30
        try clear c31
        try clear c34
        try clear c34b0
        try clear c34b1
        try clear c37
        try clear c38
        try clear c41
        try clear c42
        try clear c43
        try clear hcz20_0
        try clear hcz20_1
        try clear hcz20_10
        try clear hcz20_11
        try clear hcz20_12
        try clear hcz20_2
        try clear hcz20_3
        try clear hcz20_4
        try clear hcz20_5
        try clear hcz20_6
        try clear hcz20_7
        try clear hcz20_8
        try clear hcz20_9
        try clear hcz32_0
        try clear hcz32_1
        try clear hcz32_10
        try clear hcz32_11
        try clear hcz32_12
        try clear hcz32_2
        try clear hcz32_3
        try clear hcz32_4
        try clear hcz32_5
        try clear hcz32_6
        try clear hcz32_7
        try clear hcz32_8
        try clear hcz32_9
        try clear hcz39_0
        try clear hcz39_1
        try clear hcz39_10
        try clear hcz39_11
        try clear hcz39_12
        try clear hcz39_2
        try clear hcz39_3
        try clear hcz39_4
        try clear hcz39_5
        try clear hcz39_6
        try clear hcz39_7
        try clear hcz39_8
        try clear hcz39_9
        try clear hcz44_0
        try clear hcz44_1
        try clear hcz44_10
        try clear hcz44_11
        try clear hcz44_12
        try clear hcz44_2
        try clear hcz44_3
        try clear hcz44_4
        try clear hcz44_5
        try clear hcz44_6
        try clear hcz44_7
        try clear hcz44_8
        try clear hcz44_9
        try clear hfz20_0
        try clear hfz20_1
        try clear hfz20_10
        try clear hfz20_11
        try clear hfz20_12
        try clear hfz20_2
        try clear hfz20_3
        try clear hfz20_4
        try clear hfz20_5
        try clear hfz20_6
        try clear hfz20_7
        try clear hfz20_8
        try clear hfz20_9
        try clear hfz32_0
        try clear hfz32_1
        try clear hfz32_10
        try clear hfz32_11
        try clear hfz32_12
        try clear hfz32_2
        try clear hfz32_3
        try clear hfz32_4
        try clear hfz32_5
        try clear hfz32_6
        try clear hfz32_7
        try clear hfz32_8
        try clear hfz32_9
        try clear hfz39_0
        try clear hfz39_1
        try clear hfz39_10
        try clear hfz39_11
        try clear hfz39_12
        try clear hfz39_2
        try clear hfz39_3
        try clear hfz39_4
        try clear hfz39_5
        try clear hfz39_6
        try clear hfz39_7
        try clear hfz39_8
        try clear hfz39_9
        try clear hfz44_0
        try clear hfz44_1
        try clear hfz44_10
        try clear hfz44_11
        try clear hfz44_12
        try clear hfz44_2
        try clear hfz44_3
        try clear hfz44_4
        try clear hfz44_5
        try clear hfz44_6
        try clear hfz44_7
        try clear hfz44_8
        try clear hfz44_9
        try clear hx147_0
        try clear p147
        try clear p2
        try clear p6
        try clear q147
        obtain ⟨kq, x144002_35, HA, HJ35, BK124, BK143, HI0, HK, HB⟩ := hcut
        cases kq with
        | zero => exact absurd HA.out (by simp [spec_l4Draw.j1])
        | succ kj35 =>
          have H := HA.out
          clear HA
          simp only [spec_l4Draw.j1] at H
          obtain ⟨y154, hy154⟩ : ∃ y_ : List Int, y_ = (([0, 0, 1, 2] : List Int)) := ⟨_, rfl⟩
          replace H : ((spec_l1Int.f s0_0 t152 t153 y154).bind fun bt157 => ((spec_l1Int.f s0_0 bt157.2.1 bt157.2.2 (([0, 0, 0, 1] : List Int))).bind fun bt163 => ((spec_l1Int.f s0_0 bt163.2.1 bt163.2.2 (([0, 0, 1] : List Int))).bind fun bt169 => ((spec_l1Once.f s0_0 bt169.2.1 bt169.2.2 4).bind fun bt172 => (some (a1, t125, x144002_35, t131, t134, t137, (wrap64 (1 + t140)), x144007_1, bt157.1, bt163.1, bt169.1, false, bt172.1, bt172.2.1, bt172.2.2)))))) = some (r1, r2, r3, r4, r5, r6, r7, r8, r9, r10, r11, r12, r13, r14, r15) := by first | (rw [hy154]; with_reducible exact H) | (have H2_ := (Option.bind_some _ _).symm.trans H; rw [hy154]; with_reducible exact H2_) | (have H2_ := (Option.bind_some _ _).symm.trans H; with_reducible exact H2_) | with_reducible exact H | (rw [hy154]; exact H) | exact H
          have Ny154 := Aside0.mk hy154
          clear hy154
          replace H := Option.bind_eq_some_iff.mp H
          obtain ⟨⟨t157, t158, t159⟩, A450, H⟩ := H
          (try dsimp only at H)
          have A45 := Aside0.mk A450
          clear A450
          obtain ⟨y160, hy160⟩ : ∃ y_ : List Int, y_ = (([0, 0, 0, 1] : List Int)) := ⟨_, rfl⟩
          replace H : ((spec_l1Int.f s0_0 t158 t159 y160).bind fun bt163 => ((spec_l1Int.f s0_0 bt163.2.1 bt163.2.2 (([0, 0, 1] : List Int))).bind fun bt169 => ((spec_l1Once.f s0_0 bt169.2.1 bt169.2.2 4).bind fun bt172 => (some (a1, t125, x144002_35, t131, t134, t137, (wrap64 (1 + t140)), x144007_1, t157, bt163.1, bt169.1, false, bt172.1, bt172.2.1, bt172.2.2))))) = some (r1, r2, r3, r4, r5, r6, r7, r8, r9, r10, r11, r12, r13, r14, r15) := by first | (rw [hy160]; with_reducible exact H) | (have H2_ := (Option.bind_some _ _).symm.trans H; rw [hy160]; with_reducible exact H2_) | (have H2_ := (Option.bind_some _ _).symm.trans H; with_reducible exact H2_) | with_reducible exact H | (rw [hy160]; exact H) | exact H
          have Ny160 := Aside0.mk hy160
          clear hy160
          replace H := Option.bind_eq_some_iff.mp H
          obtain ⟨⟨t163, t164, t165⟩, A460, H⟩ := H
          (try dsimp only at H)
          have A46 := Aside0.mk A460
          clear A460
          obtain ⟨y166, hy166⟩ : ∃ y_ : List Int, y_ = (([0, 0, 1] : List Int)) := ⟨_, rfl⟩
          replace H : ((spec_l1Int.f s0_0 t164 t165 y166).bind fun bt169 => ((spec_l1Once.f s0_0 bt169.2.1 bt169.2.2 4).bind fun bt172 => (some (a1, t125, x144002_35, t131, t134, t137, (wrap64 (1 + t140)), x144007_1, t157, t163, bt169.1, false, bt172.1, bt172.2.1, bt172.2.2)))) = some (r1, r2, r3, r4, r5, r6, r7, r8, r9, r10, r11, r12, r13, r14, r15) := by first | (rw [hy166]; with_reducible exact H) | (have H2_ := (Option.bind_some _ _).symm.trans H; rw [hy166]; with_reducible exact H2_) | (have H2_ := (Option.bind_some _ _).symm.trans H; with_reducible exact H2_) | with_reducible exact H | (rw [hy166]; exact H) | exact H
          have Ny166 := Aside0.mk hy166
          clear hy166
          replace H := Option.bind_eq_some_iff.mp H
          obtain ⟨⟨t169, t170, t171⟩, A470, H⟩ := H
          (try dsimp only at H)
          have A47 := Aside0.mk A470
          clear A470
          replace H := Option.bind_eq_some_iff.mp H
          obtain ⟨⟨t172, t173, t174⟩, A480, H⟩ := H
          (try dsimp only at H)
          have A48 := Aside0.mk A480
          clear A480
          simp only [Option.some.injEq, Prod.mk.injEq] at H
          obtain ⟨rfl, rfl, rfl, rfl, rfl, rfl, rfl, rfl, rfl, rfl, rfl, rfl, rfl, rfl, rfl⟩ := H
          go_wp2_with (first | ((with_reducible refine gate_dst (N := 50) rfl ?_); refine Kd.R_lit (Kd.int .i64) _ 3 ?hg (N := 50) ?hd (xs := ([0, 0, 1, 2] : List Int)) (inner := [.int .i64 0, .int .i64 0, .int .i64 1, .int .i64 2]) (ok := fun _ => True) (okp := fun _ => True) ?hr ?hp (fun _ hk => hk) trivial (Below.refl _ _) (Nat.le_refl _) (by simp) ?_; (case hd => rfl); (case hg => rfl); (case hr => first | (go_simp; done) | (go_simp; rfl)); (case hp => exact (Reps.one (show Kd.M (Kd.int .i64) _ _ _ 0 [.int .i64 0] from rfl) (Reps.one (show Kd.M (Kd.int .i64) _ _ _ 0 [.int .i64 0] from rfl) (Reps.one (show Kd.M (Kd.int .i64) _ _ _ 1 [.int .i64 1] from rfl) (Reps.one (show Kd.M (Kd.int .i64) _ _ _ 2 [.int .i64 2] from rfl) (Reps.none _ _)))))); intro v155 w49 ho50 hb hg_ hnew_; clear hg_ hnew_; (first | rw [← Ny154.out] at ho50 | (simp only [Int.reduceToNat] at ho50; rw [← Ny154.out] at ho50)); have n0_ := Aside0.mk (Kd.R_lower ho50 (keep_size (w := w) (g := g) (row := none) Z4_19)); have n1_ := Aside0.mk Z4_6; have n2_ := Aside0.mk (blk_below (g := gb143) (o := .cells #[.int .i64 a1, .int .i64 t125, .int .i64 x144002_35, .int .i64 t131, .int .i64 t134, .int .i64 t137, .int .i64 (wrap64 (1 + t140)), .int .i64 x144007_1, .int .i64 0, .int .i64 0, .int .i64 0, .bool false, .bool false] 25 (0, 0)) Z4_25 hb); have n3_ := Aside0.mk (IsS120.below Z4_10 hb); have n4_ := Aside0.mk Z4_7; have n5_ := Aside0.mk Z4_8; clear BK124; clear BK143; clear HI0; clear HK; clear HB; have HO156 := n0_; have BK124 := n1_; have BK143 := n2_; have HI0 := n3_; have HK := n4_; have HB := n5_; clear n0_ n1_ n2_ n3_ n4_ n5_; clear hb ho50; obtain ⟨Ao51, co51, eo51⟩ := Kd.R_slice HO156.out; subst eo51) | ((with_reducible refine gate_callee (f := 73) rfl ?_); refine goesL_ (some 51) rfl rfl Try.func73 (by kernel_rfl) rfl #[.pointer (some ⟨g, 0, none⟩), .slice Ao51 y154.length co51] rfl Z4_23 ?_; (with_reducible refine (spec_l1Int.calls g s0_0 t152 t153 _ _ y154 t157 t158 t159 w0 _ ?side1 ?side2 ?side3 ?side4 ?side5 A45.out).mono ?_); (case side1 => repeat (first | (with_reducible first | exact HI0.out | apply IsS120.alloc | apply IsS120.drewN | apply IsS120.drew | apply IsS120.set_1 | apply IsS120.set_2 | refine IsS120.far ?_ NB0_124.out _ | refine IsS120.far ?_ NB0_143.out _) | exact HI0.out)); (case side2 => repeat (first | (with_reducible first | exact HB.out | apply below_alloc | apply pw_below_drewN | apply below_drew1 | refine below_set ?_ (IsS120.ge HI0.out) | refine below_set ?_ GE124.out | refine below_set ?_ GE143.out) | exact HB.out)); (case side3 => repeat (first | exact (Kd.R_reads' HO156.out).2.2 | (with_reducible refine Kd.C_alloc ?_ _) | (with_reducible refine Kd.C_drewN ?_ _) | (with_reducible refine Kd.C_drew ?_))); (case side4 => exact (Kd.R_reads' HO156.out).2.1); (case side5 => exact far_slice (IsS120.own_ne HI0.out HO156.out (by decide))); rintro e w52 ⟨rfl, hi, hb, hk⟩; refine ⟨_, rfl, ?_⟩; have n0_ := Aside0.mk Z4_5; have n1_ := Aside0.mk (KeepBut.blk hk (g' := gb143) (o := .cells #[.int .i64 a1, .int .i64 t125, .int .i64 x144002_35, .int .i64 t131, .int .i64 t134, .int .i64 t137, .int .i64 (wrap64 (1 + t140)), .int .i64 x144007_1, .int .i64 0, .int .i64 0, .int .i64 0, .bool false, .bool false] 25 (0, 0)) Z4_25 NB143_0.out (by simp)); have n2_ := Aside0.mk (Kd.R_mono (Kd.R_keep (IsS120.apart (show IsS120 w0 _ g s0_0 t152 t153 from by repeat (first | (with_reducible first | exact HI0.out | apply IsS120.alloc | apply IsS120.drewN | apply IsS120.drew | apply IsS120.set_1 | apply IsS120.set_2 | refine IsS120.far ?_ NB0_124.out _ | refine IsS120.far ?_ NB0_143.out _) | exact HI0.out)) Z4_27 (by decide)) hk (fun _ h => h.2)) (fun _ h => h.1)); have n3_ := Aside0.mk Z4_11; have n4_ := Aside0.mk (hb); have n5_ := Aside0.mk (hi); clear BK124; clear BK143; clear HO156; clear HK; clear HB; clear HI0; have BK124 := n0_; have BK143 := n1_; have HO156 := n2_; have HK := n3_; have HB := n4_; have HI0 := n5_; clear n0_ n1_ n2_ n3_ n4_ n5_; (try clear hb); (try clear hb2); (try clear hk); (try clear hi); have hnb53 := NB143_124.out; have hnc53 := NB124_143.out; have hnb54 := NB143_0.out; have hnc54 := NB0_143.out; obtain ⟨⟨hcz55_0, hcz55_1, hcz55_2, hcz55_3, hcz55_4, hcz55_5, hcz55_6, hcz55_7, hcz55_8, hcz55_9, hcz55_10, hcz55_11, hcz55_12⟩, hfz55_0, hfz55_1, hfz55_2, hfz55_3, hfz55_4, hfz55_5, hfz55_6, hfz55_7, hfz55_8, hfz55_9, hfz55_10, hfz55_11, hfz55_12⟩ := C4_13 BK143.out) | ((with_reducible refine gate_dst (N := 54) rfl ?_); refine Kd.R_lit (Kd.int .i64) _ 3 ?hg (N := 54) ?hd (xs := ([0, 0, 0, 1] : List Int)) (inner := [.int .i64 0, .int .i64 0, .int .i64 0, .int .i64 1]) (ok := fun _ => True) (okp := fun _ => True) ?hr ?hp (fun _ hk => hk) trivial (Below.refl _ _) (Nat.le_refl _) (by simp) ?_; (case hd => rfl); (case hg => rfl); (case hr => first | (go_simp; done) | (go_simp; rfl)); (case hp => exact (Reps.one (show Kd.M (Kd.int .i64) _ _ _ 0 [.int .i64 0] from rfl) (Reps.one (show Kd.M (Kd.int .i64) _ _ _ 0 [.int .i64 0] from rfl) (Reps.one (show Kd.M (Kd.int .i64) _ _ _ 0 [.int .i64 0] from rfl) (Reps.one (show Kd.M (Kd.int .i64) _ _ _ 1 [.int .i64 1] from rfl) (Reps.none _ _)))))); intro v161 w56 ho57 hb hg_ hnew_; clear hg_ hnew_; (first | rw [← Ny160.out] at ho57 | (simp only [Int.reduceToNat] at ho57; rw [← Ny160.out] at ho57)); have n0_ := Aside0.mk (Kd.R_elder' Z4_12 (Kd.R_base ho57) hb); have n1_ := Aside0.mk (Kd.R_lower (Kd.R_new' ho57 (Kd.R_lt Z4_12)) (keep_size (w := w) (g := g) (row := none) Z4_19)); have n2_ := Aside0.mk Z4_3; have n3_ := Aside0.mk (blk_below (g := gb143) (o := .cells #[.int .i64 a1, .int .i64 t125, .int .i64 x144002_35, .int .i64 t131, .int .i64 t134, .int .i64 t137, .int .i64 (wrap64 (1 + t140)), .int .i64 x144007_1, .int .i64 t157, .int .i64 0, .int .i64 0, .bool false, .bool false] 25 (0, 0)) (by (with_reducible repeat (first | refine blk_drewN ?_ _ | refine blk_drew ?_ | refine blk_alloc ?_ _)); refine blk_put (cs := #[.int .i64 a1, .int .i64 t125, .int .i64 x144002_35, .int .i64 t131, .int .i64 t134, .int .i64 t137, .int .i64 (wrap64 (1 + t140)), .int .i64 x144007_1, .int .i64 0, .int .i64 0, .int .i64 0, .bool false, .bool false]) ?_ 8 _ rfl; (with_reducible repeat (first | refine blk_drewN ?_ _ | refine blk_drew ?_ | refine blk_alloc ?_ _)); exact BK143.out) hb); have n4_ := Aside0.mk (IsS120.below (show IsS120 w0 (w52.setCell ⟨gb143, 8, none⟩ (.int .i64 t157)) g s0_0 t158 t159 from by repeat (first | (with_reducible first | exact HI0.out | apply IsS120.alloc | apply IsS120.drewN | apply IsS120.drew | apply IsS120.set_1 | apply IsS120.set_2 | refine IsS120.far ?_ NB0_124.out _ | refine IsS120.far ?_ NB0_143.out _) | exact HI0.out)) hb); have n5_ := Aside0.mk Z4_7; have n6_ := Aside0.mk Z4_8; clear HO156; clear BK124; clear BK143; clear HI0; clear HK; clear HB; have HO156 := n0_; have HO162 := n1_; have BK124 := n2_; have BK143 := n3_; have HI0 := n4_; have HK := n5_; have HB := n6_; clear n0_ n1_ n2_ n3_ n4_ n5_ n6_; clear hb ho57; obtain ⟨Ao58, co58, eo58⟩ := Kd.R_slice HO162.out; subst eo58) | ((with_reducible refine gate_callee (f := 73) rfl ?_); refine goesL_ (some 55) rfl rfl Try.func73 (by kernel_rfl) rfl #[.pointer (some ⟨g, 0, none⟩), .slice Ao58 y160.length co58] rfl Z4_23 ?_; (with_reducible refine (spec_l1Int.calls g s0_0 t158 t159 _ _ y160 t163 t164 t165 w0 _ ?side1 ?side2 ?side3 ?side4 ?side5 A46.out).mono ?_); (case side1 => repeat (first | (with_reducible first | exact HI0.out | apply IsS120.alloc | apply IsS120.drewN | apply IsS120.drew | apply IsS120.set_1 | apply IsS120.set_2 | refine IsS120.far ?_ NB0_124.out _ | refine IsS120.far ?_ NB0_143.out _) | exact HI0.out)); (case side2 => repeat (first | (with_reducible first | exact HB.out | apply below_alloc | apply pw_below_drewN | apply below_drew1 | refine below_set ?_ (IsS120.ge HI0.out) | refine below_set ?_ GE124.out | refine below_set ?_ GE143.out) | exact HB.out)); (case side3 => repeat (first | exact (Kd.R_reads' HO162.out).2.2 | (with_reducible refine Kd.C_alloc ?_ _) | (with_reducible refine Kd.C_drewN ?_ _) | (with_reducible refine Kd.C_drew ?_))); (case side4 => exact (Kd.R_reads' HO162.out).2.1); (case side5 => exact far_slice (IsS120.own_ne HI0.out HO162.out (by decide))); rintro e w59 ⟨rfl, hi, hb, hk⟩; refine ⟨_, rfl, ?_⟩; have n0_ := Aside0.mk Z4_5; have n1_ := Aside0.mk (KeepBut.blk hk (g' := gb143) (o := .cells #[.int .i64 a1, .int .i64 t125, .int .i64 x144002_35, .int .i64 t131, .int .i64 t134, .int .i64 t137, .int .i64 (wrap64 (1 + t140)), .int .i64 x144007_1, .int .i64 t157, .int .i64 0, .int .i64 0, .bool false, .bool false] 25 (0, 0)) Z4_25 NB143_0.out (by simp)); have n2_ := Aside0.mk (Kd.R_mono (Kd.R_keep (IsS120.apart (show IsS120 w0 _ g s0_0 t158 t159 from by repeat (first | (with_reducible first | exact HI0.out | apply IsS120.alloc | apply IsS120.drewN | apply IsS120.drew | apply IsS120.set_1 | apply IsS120.set_2 | refine IsS120.far ?_ NB0_124.out _ | refine IsS120.far ?_ NB0_143.out _) | exact HI0.out)) Z4_27 (by decide)) hk (fun _ h => h.2)) (fun _ h => h.1)); have n3_ := Aside0.mk (Kd.R_mono (Kd.R_keep (IsS120.apart (show IsS120 w0 _ g s0_0 t158 t159 from by repeat (first | (with_reducible first | exact HI0.out | apply IsS120.alloc | apply IsS120.drewN | apply IsS120.drew | apply IsS120.set_1 | apply IsS120.set_2 | refine IsS120.far ?_ NB0_124.out _ | refine IsS120.far ?_ NB0_143.out _) | exact HI0.out)) Z4_28 (by decide)) hk (fun _ h => h.2)) (fun _ h => h.1)); have n4_ := Aside0.mk Z4_11; have n5_ := Aside0.mk (hb); have n6_ := Aside0.mk (hi); clear BK124; clear BK143; clear HO156; clear HO162; clear HK; clear HB; clear HI0; have BK124 := n0_; have BK143 := n1_; have HO156 := n2_; have HO162 := n3_; have HK := n4_; have HB := n5_; have HI0 := n6_; clear n0_ n1_ n2_ n3_ n4_ n5_ n6_; (try clear hb); (try clear hb2); (try clear hk); (try clear hi); obtain ⟨⟨hcz60_0, hcz60_1, hcz60_2, hcz60_3, hcz60_4, hcz60_5, hcz60_6, hcz60_7, hcz60_8, hcz60_9, hcz60_10, hcz60_11, hcz60_12⟩, hfz60_0, hfz60_1, hfz60_2, hfz60_3, hfz60_4, hfz60_5, hfz60_6, hfz60_7, hfz60_8, hfz60_9, hfz60_10, hfz60_11, hfz60_12⟩ := C4_13 BK143.out) | ((with_reducible refine gate_dst (N := 58) rfl ?_); refine Kd.R_lit (Kd.int .i64) _ 3 ?hg (N := 58) ?hd (xs := ([0, 0, 1] : List Int)) (inner := [.int .i64 0, .int .i64 0, .int .i64 1]) (ok := fun _ => True) (okp := fun _ => True) ?hr ?hp (fun _ hk => hk) trivial (Below.refl _ _) (Nat.le_refl _) (by simp) ?_; (case hd => rfl); (case hg => rfl); (case hr => first | (go_simp; done) | (go_simp; rfl)); (case hp => exact (Reps.one (show Kd.M (Kd.int .i64) _ _ _ 0 [.int .i64 0] from rfl) (Reps.one (show Kd.M (Kd.int .i64) _ _ _ 0 [.int .i64 0] from rfl) (Reps.one (show Kd.M (Kd.int .i64) _ _ _ 1 [.int .i64 1] from rfl) (Reps.none _ _))))); intro v167 w61 ho62 hb hg_ hnew_; clear hg_ hnew_; (first | rw [← Ny166.out] at ho62 | (simp only [Int.reduceToNat] at ho62; rw [← Ny166.out] at ho62)); have n0_ := Aside0.mk (Kd.R_elder' Z4_13 (Kd.R_base ho62) hb); have n1_ := Aside0.mk (Kd.R_elder' Z4_14 (Kd.R_base ho62) hb); have n2_ := Aside0.mk (Kd.R_lower (Kd.R_new' (Kd.R_new' ho62 (Kd.R_lt Z4_13)) (Kd.R_lt Z4_14)) (keep_size (w := w) (g := g) (row := none) Z4_19)); have n3_ := Aside0.mk Z4_3; have n4_ := Aside0.mk (blk_below (g := gb143) (o := .cells #[.int .i64 a1, .int .i64 t125, .int .i64 x144002_35, .int .i64 t131, .int .i64 t134, .int .i64 t137, .int .i64 (wrap64 (1 + t140)), .int .i64 x144007_1, .int .i64 t157, .int .i64 t163, .int .i64 0, .bool false, .bool false] 25 (0, 0)) (by (with_reducible repeat (first | refine blk_drewN ?_ _ | refine blk_drew ?_ | refine blk_alloc ?_ _)); refine blk_put (cs := #[.int .i64 a1, .int .i64 t125, .int .i64 x144002_35, .int .i64 t131, .int .i64 t134, .int .i64 t137, .int .i64 (wrap64 (1 + t140)), .int .i64 x144007_1, .int .i64 t157, .int .i64 0, .int .i64 0, .bool false, .bool false]) ?_ 9 _ rfl; (with_reducible repeat (first | refine blk_drewN ?_ _ | refine blk_drew ?_ | refine blk_alloc ?_ _)); exact BK143.out) hb); have n5_ := Aside0.mk (IsS120.below (show IsS120 w0 (w59.setCell ⟨gb143, 9, none⟩ (.int .i64 t163)) g s0_0 t164 t165 from by repeat (first | (with_reducible first | exact HI0.out | apply IsS120.alloc | apply IsS120.drewN | apply IsS120.drew | apply IsS120.set_1 | apply IsS120.set_2 | refine IsS120.far ?_ NB0_124.out _ | refine IsS120.far ?_ NB0_143.out _) | exact HI0.out)) hb); have n6_ := Aside0.mk Z4_7; have n7_ := Aside0.mk Z4_8; clear HO156; clear HO162; clear BK124; clear BK143; clear HI0; clear HK; clear HB; have HO156 := n0_; have HO162 := n1_; have HO168 := n2_; have BK124 := n3_; have BK143 := n4_; have HI0 := n5_; have HK := n6_; have HB := n7_; clear n0_ n1_ n2_ n3_ n4_ n5_ n6_ n7_; clear hb ho62; obtain ⟨Ao63, co63, eo63⟩ := Kd.R_slice HO168.out; subst eo63) | ((with_reducible refine gate_callee (f := 73) rfl ?_); refine goesL_ (some 59) rfl rfl Try.func73 (by kernel_rfl) rfl #[.pointer (some ⟨g, 0, none⟩), .slice Ao63 y166.length co63] rfl Z4_23 ?_; (with_reducible refine (spec_l1Int.calls g s0_0 t164 t165 _ _ y166 t169 t170 t171 w0 _ ?side1 ?side2 ?side3 ?side4 ?side5 A47.out).mono ?_); (case side1 => repeat (first | (with_reducible first | exact HI0.out | apply IsS120.alloc | apply IsS120.drewN | apply IsS120.drew | apply IsS120.set_1 | apply IsS120.set_2 | refine IsS120.far ?_ NB0_124.out _ | refine IsS120.far ?_ NB0_143.out _) | exact HI0.out)); (case side2 => repeat (first | (with_reducible first | exact HB.out | apply below_alloc | apply pw_below_drewN | apply below_drew1 | refine below_set ?_ (IsS120.ge HI0.out) | refine below_set ?_ GE124.out | refine below_set ?_ GE143.out) | exact HB.out)); (case side3 => repeat (first | exact (Kd.R_reads' HO168.out).2.2 | (with_reducible refine Kd.C_alloc ?_ _) | (with_reducible refine Kd.C_drewN ?_ _) | (with_reducible refine Kd.C_drew ?_))); (case side4 => exact (Kd.R_reads' HO168.out).2.1); (case side5 => exact far_slice (IsS120.own_ne HI0.out HO168.out (by decide))); rintro e w64 ⟨rfl, hi, hb, hk⟩; refine ⟨_, rfl, ?_⟩; have n0_ := Aside0.mk Z4_5; have n1_ := Aside0.mk (KeepBut.blk hk (g' := gb143) (o := .cells #[.int .i64 a1, .int .i64 t125, .int .i64 x144002_35, .int .i64 t131, .int .i64 t134, .int .i64 t137, .int .i64 (wrap64 (1 + t140)), .int .i64 x144007_1, .int .i64 t157, .int .i64 t163, .int .i64 0, .bool false, .bool false] 25 (0, 0)) Z4_25 NB143_0.out (by simp)); have n2_ := Aside0.mk (Kd.R_mono (Kd.R_keep (IsS120.apart (show IsS120 w0 _ g s0_0 t164 t165 from by repeat (first | (with_reducible first | exact HI0.out | apply IsS120.alloc | apply IsS120.drewN | apply IsS120.drew | apply IsS120.set_1 | apply IsS120.set_2 | refine IsS120.far ?_ NB0_124.out _ | refine IsS120.far ?_ NB0_143.out _) | exact HI0.out)) Z4_27 (by decide)) hk (fun _ h => h.2)) (fun _ h => h.1)); have n3_ := Aside0.mk (Kd.R_mono (Kd.R_keep (IsS120.apart (show IsS120 w0 _ g s0_0 t164 t165 from by repeat (first | (with_reducible first | exact HI0.out | apply IsS120.alloc | apply IsS120.drewN | apply IsS120.drew | apply IsS120.set_1 | apply IsS120.set_2 | refine IsS120.far ?_ NB0_124.out _ | refine IsS120.far ?_ NB0_143.out _) | exact HI0.out)) Z4_28 (by decide)) hk (fun _ h => h.2)) (fun _ h => h.1)); have n4_ := Aside0.mk (Kd.R_mono (Kd.R_keep (IsS120.apart (show IsS120 w0 _ g s0_0 t164 t165 from by repeat (first | (with_reducible first | exact HI0.out | apply IsS120.alloc | apply IsS120.drewN | apply IsS120.drew | apply IsS120.set_1 | apply IsS120.set_2 | refine IsS120.far ?_ NB0_124.out _ | refine IsS120.far ?_ NB0_143.out _) | exact HI0.out)) (by (with_reducible repeat (first | apply Kd.R_alloc | apply Kd.R_drewN | apply Kd.R_drew)); exact HO168.out) (by decide)) hk (fun _ h => h.2)) (fun _ h => h.1)); have n5_ := Aside0.mk Z4_11; have n6_ := Aside0.mk (hb); have n7_ := Aside0.mk (hi); clear BK124; clear BK143; clear HO156; clear HO162; clear HO168; clear HK; clear HB; clear HI0; have BK124 := n0_; have BK143 := n1_; have HO156 := n2_; have HO162 := n3_; have HO168 := n4_; have HK := n5_; have HB := n6_; have HI0 := n7_; clear n0_ n1_ n2_ n3_ n4_ n5_ n6_ n7_; (try clear hb); (try clear hb2); (try clear hk); (try clear hi); obtain ⟨⟨hcz65_0, hcz65_1, hcz65_2, hcz65_3, hcz65_4, hcz65_5, hcz65_6, hcz65_7, hcz65_8, hcz65_9, hcz65_10, hcz65_11, hcz65_12⟩, hfz65_0, hfz65_1, hfz65_2, hfz65_3, hfz65_4, hfz65_5, hfz65_6, hfz65_7, hfz65_8, hfz65_9, hfz65_10, hfz65_11, hfz65_12⟩ := C4_13 BK143.out) | ((with_reducible refine gate_callee (f := 76) rfl ?_); refine goesL_ (some 62) rfl rfl Try.func76 (by kernel_rfl) rfl #[.pointer (some ⟨g, 0, none⟩), .int .i64 4] rfl Z4_23 ?_; (with_reducible refine (spec_l1Once.calls g s0_0 t170 t171 4 t172 t173 t174 w0 _ ?side1 ?side2 A48.out).mono ?_); (case side1 => repeat (first | (with_reducible first | exact HI0.out | apply IsS120.alloc | apply IsS120.drewN | apply IsS120.drew | apply IsS120.set_1 | apply IsS120.set_2 | refine IsS120.far ?_ NB0_124.out _ | refine IsS120.far ?_ NB0_143.out _) | exact HI0.out)); (case side2 => repeat (first | (with_reducible first | exact HB.out | apply below_alloc | apply pw_below_drewN | apply below_drew1 | refine below_set ?_ (IsS120.ge HI0.out) | refine below_set ?_ GE124.out | refine below_set ?_ GE143.out) | exact HB.out)); rintro e w66 ⟨rfl, hi, hb, hk⟩; refine ⟨_, rfl, ?_⟩; have n0_ := Aside0.mk (KeepBut.blk hk (g' := gb124) (o := .cells #[.int .i64 0, .int .i64 0, .int .i64 0, .int .i64 0, .int .i64 0, .int .i64 0, .int .i64 0, .int .i64 0, .int .i64 0, .int .i64 0, .int .i64 0, .bool false, .bool false] 25 (0, 0)) Z4_9 NB124_0.out (by simp)); have n1_ := Aside0.mk (KeepBut.blk hk (g' := gb143) (o := .cells #[.int .i64 a1, .int .i64 t125, .int .i64 x144002_35, .int .i64 t131, .int .i64 t134, .int .i64 t137, .int .i64 (wrap64 (1 + t140)), .int .i64 x144007_1, .int .i64 t157, .int .i64 t163, .int .i64 t169, .bool false, .bool false] 25 (0, 0)) (by (with_reducible repeat (first | refine blk_drewN ?_ _ | refine blk_drew ?_ | refine blk_alloc ?_ _)); refine blk_put (cs := #[.int .i64 a1, .int .i64 t125, .int .i64 x144002_35, .int .i64 t131, .int .i64 t134, .int .i64 t137, .int .i64 (wrap64 (1 + t140)), .int .i64 x144007_1, .int .i64 t157, .int .i64 t163, .int .i64 0, .bool false, .bool false]) ?_ 10 _ rfl; (with_reducible repeat (first | refine blk_drewN ?_ _ | refine blk_drew ?_ | refine blk_alloc ?_ _)); exact BK143.out) NB143_0.out (by simp)); have n2_ := Aside0.mk (Kd.R_mono (Kd.R_keep (IsS120.apart (show IsS120 w0 _ g s0_0 t170 t171 from by repeat (first | (with_reducible first | exact HI0.out | apply IsS120.alloc | apply IsS120.drewN | apply IsS120.drew | apply IsS120.set_1 | apply IsS120.set_2 | refine IsS120.far ?_ NB0_124.out _ | refine IsS120.far ?_ NB0_143.out _) | exact HI0.out)) (by (with_reducible repeat (first | apply Kd.R_alloc | apply Kd.R_drewN | apply Kd.R_drew)); exact (Kd.R_mono (Kd.R_far (p := ⟨gb143, 10, none⟩) (Kd.R_types HO156.out BK143.out (by decide)) (fun _ hk => hk.2) (.int .i64 t169)) (fun _ h_ => h_.1))) (by decide)) hk (fun _ h => h.2)) (fun _ h => h.1)); have n3_ := Aside0.mk (Kd.R_mono (Kd.R_keep (IsS120.apart (show IsS120 w0 _ g s0_0 t170 t171 from by repeat (first | (with_reducible first | exact HI0.out | apply IsS120.alloc | apply IsS120.drewN | apply IsS120.drew | apply IsS120.set_1 | apply IsS120.set_2 | refine IsS120.far ?_ NB0_124.out _ | refine IsS120.far ?_ NB0_143.out _) | exact HI0.out)) (by (with_reducible repeat (first | apply Kd.R_alloc | apply Kd.R_drewN | apply Kd.R_drew)); exact (Kd.R_mono (Kd.R_far (p := ⟨gb143, 10, none⟩) (Kd.R_types HO162.out BK143.out (by decide)) (fun _ hk => hk.2) (.int .i64 t169)) (fun _ h_ => h_.1))) (by decide)) hk (fun _ h => h.2)) (fun _ h => h.1)); have n4_ := Aside0.mk (Kd.R_mono (Kd.R_keep (IsS120.apart (show IsS120 w0 _ g s0_0 t170 t171 from by repeat (first | (with_reducible first | exact HI0.out | apply IsS120.alloc | apply IsS120.drewN | apply IsS120.drew | apply IsS120.set_1 | apply IsS120.set_2 | refine IsS120.far ?_ NB0_124.out _ | refine IsS120.far ?_ NB0_143.out _) | exact HI0.out)) (by (with_reducible repeat (first | apply Kd.R_alloc | apply Kd.R_drewN | apply Kd.R_drew)); exact (Kd.R_mono (Kd.R_far (p := ⟨gb143, 10, none⟩) (Kd.R_types HO168.out BK143.out (by decide)) (fun _ hk => hk.2) (.int .i64 t169)) (fun _ h_ => h_.1))) (by decide)) hk (fun _ h => h.2)) (fun _ h => h.1)); have n5_ := Aside0.mk Z4_11; have n6_ := Aside0.mk (hb); have n7_ := Aside0.mk (hi); clear BK124; clear BK143; clear HO156; clear HO162; clear HO168; clear HK; clear HB; clear HI0; have BK124 := n0_; have BK143 := n1_; have HO156 := n2_; have HO162 := n3_; have HO168 := n4_; have HK := n5_; have HB := n6_; have HI0 := n7_; clear n0_ n1_ n2_ n3_ n4_ n5_ n6_ n7_; (try clear hb); (try clear hb2); (try clear hk); (try clear hi); obtain ⟨⟨hcz67_0, hcz67_1, hcz67_2, hcz67_3, hcz67_4, hcz67_5, hcz67_6, hcz67_7, hcz67_8, hcz67_9, hcz67_10, hcz67_11, hcz67_12⟩, hfz67_0, hfz67_1, hfz67_2, hfz67_3, hfz67_4, hfz67_5, hfz67_6, hfz67_7, hfz67_8, hfz67_9, hfz67_10, hfz67_11, hfz67_12⟩ := C4_13 BK143.out; have hnb68 := NB124_0.out; have hnc68 := NB0_124.out; obtain ⟨⟨hcz69_0, hcz69_1, hcz69_2, hcz69_3, hcz69_4, hcz69_5, hcz69_6, hcz69_7, hcz69_8, hcz69_9, hcz69_10, hcz69_11, hcz69_12⟩, hfz69_0, hfz69_1, hfz69_2, hfz69_3, hfz69_4, hfz69_5, hfz69_6, hfz69_7, hfz69_8, hfz69_9, hfz69_10, hfz69_11, hfz69_12⟩ := C4_13 BK124.out))
          refine bodyPost_ret (results_cell_row rfl _ _ gb124 25 #[.int .i64 a1, .int .i64 t125, .int .i64 x144002_35, .int .i64 t131, .int .i64 t134, .int .i64 t137, .int .i64 (wrap64 (1 + t140)), .int .i64 x144007_1, .int .i64 t157, .int .i64 t163, .int .i64 t169, .bool false, .bool t172] (0, 0) _ rfl (by (with_reducible repeat (first | refine blk_drewN ?_ _ | refine blk_drew ?_ | refine blk_alloc ?_ _)); apply E4_13; (with_reducible repeat (first | refine blk_drewN ?_ _ | refine blk_drew ?_ | refine blk_alloc ?_ _)); refine blk_far ?_ NB124_143.out _; (with_reducible repeat (first | refine blk_drewN ?_ _ | refine blk_drew ?_ | refine blk_alloc ?_ _)); exact BK124.out) Try.underlying25 rfl (by kernel_rfl)) rfl ?_
          exact ⟨(by first | rfl | (simp [errW_none, errW_some] <;> rfl) | (simp [*, errW_none, errW_some] <;> rfl)), Z4_10, Z4_15, Z4_19⟩



end Go.Proofs.Ytfkidiagmekleaa.QAll
