-- Written by a program of this session (patch_print.py over the print).
import Derived.Test.YtfkidiagmekleaaQAllx0
import Derived.Test.YtfkidiagmekleaaQAllx1
namespace Go.Proofs.Ytfkidiagmekleaa.QAll
open Go.RowKit Go.Proofs.YtfkidiagmekleaaW.PrintWords Go.Proofs.YtfkidiagmekleaaW.PrintLast Go.Proofs.YtfkidiagmekleaaW.PrintMore
attribute [local go_sem] max2_int min2_int max_two min_two max_three min_three max_four min_four   -- for this text's walks alone
set_option linter.unusedVariables false
set_option linter.unusedSimpArgs false
attribute [local go_sem high] eqA25

theorem C35_4 {W : World} {g : Nat} {T : TypeId} {v0 v1 v2 v3 : Value} (h : W.heap[g]? = some (.cells #[v0, v1, v2, v3] T (0, 0))) : (W.cell? ⟨g, 0, none⟩ = some v0 ∧ W.cell? ⟨g, 1, none⟩ = some v1 ∧ W.cell? ⟨g, 2, none⟩ = some v2 ∧ W.cell? ⟨g, 3, none⟩ = some v3) ∧ W.frozen? ⟨g, 0, none⟩ = false ∧ W.frozen? ⟨g, 1, none⟩ = false ∧ W.frozen? ⟨g, 2, none⟩ = false ∧ W.frozen? ⟨g, 3, none⟩ = false := ⟨⟨(blk_cell h 0).trans rfl, (blk_cell h 1).trans rfl, (blk_cell h 2).trans rfl, (blk_cell h 3).trans rfl⟩, blk_frozen h 0, blk_frozen h 1, blk_frozen h 2, blk_frozen h 3⟩
theorem C35_13 {W : World} {g : Nat} {T : TypeId} {v0 v1 v2 v3 v4 v5 v6 v7 v8 v9 v10 v11 v12 : Value} (h : W.heap[g]? = some (.cells #[v0, v1, v2, v3, v4, v5, v6, v7, v8, v9, v10, v11, v12] T (0, 0))) : (W.cell? ⟨g, 0, none⟩ = some v0 ∧ W.cell? ⟨g, 1, none⟩ = some v1 ∧ W.cell? ⟨g, 2, none⟩ = some v2 ∧ W.cell? ⟨g, 3, none⟩ = some v3 ∧ W.cell? ⟨g, 4, none⟩ = some v4 ∧ W.cell? ⟨g, 5, none⟩ = some v5 ∧ W.cell? ⟨g, 6, none⟩ = some v6 ∧ W.cell? ⟨g, 7, none⟩ = some v7 ∧ W.cell? ⟨g, 8, none⟩ = some v8 ∧ W.cell? ⟨g, 9, none⟩ = some v9 ∧ W.cell? ⟨g, 10, none⟩ = some v10 ∧ W.cell? ⟨g, 11, none⟩ = some v11 ∧ W.cell? ⟨g, 12, none⟩ = some v12) ∧ W.frozen? ⟨g, 0, none⟩ = false ∧ W.frozen? ⟨g, 1, none⟩ = false ∧ W.frozen? ⟨g, 2, none⟩ = false ∧ W.frozen? ⟨g, 3, none⟩ = false ∧ W.frozen? ⟨g, 4, none⟩ = false ∧ W.frozen? ⟨g, 5, none⟩ = false ∧ W.frozen? ⟨g, 6, none⟩ = false ∧ W.frozen? ⟨g, 7, none⟩ = false ∧ W.frozen? ⟨g, 8, none⟩ = false ∧ W.frozen? ⟨g, 9, none⟩ = false ∧ W.frozen? ⟨g, 10, none⟩ = false ∧ W.frozen? ⟨g, 11, none⟩ = false ∧ W.frozen? ⟨g, 12, none⟩ = false := ⟨⟨(blk_cell h 0).trans rfl, (blk_cell h 1).trans rfl, (blk_cell h 2).trans rfl, (blk_cell h 3).trans rfl, (blk_cell h 4).trans rfl, (blk_cell h 5).trans rfl, (blk_cell h 6).trans rfl, (blk_cell h 7).trans rfl, (blk_cell h 8).trans rfl, (blk_cell h 9).trans rfl, (blk_cell h 10).trans rfl, (blk_cell h 11).trans rfl, (blk_cell h 12).trans rfl⟩, blk_frozen h 0, blk_frozen h 1, blk_frozen h 2, blk_frozen h 3, blk_frozen h 4, blk_frozen h 5, blk_frozen h 6, blk_frozen h 7, blk_frozen h 8, blk_frozen h 9, blk_frozen h 10, blk_frozen h 11, blk_frozen h 12⟩
theorem E35_13 {W : World} {g : Nat} {T : TypeId} {v0 v1 v2 v3 v4 v5 v6 v7 v8 v9 v10 v11 v12 o0 o1 o2 o3 o4 o5 o6 o7 o8 o9 o10 o11 o12 : Value} (h : W.heap[g]? = some (.cells #[o0, o1, o2, o3, o4, o5, o6, o7, o8, o9, o10, o11, o12] T (0, 0))) : (((((((((((((W.setCell ⟨g, 0, none⟩ v0).setCell ⟨g, 1, none⟩ v1).setCell ⟨g, 2, none⟩ v2).setCell ⟨g, 3, none⟩ v3).setCell ⟨g, 4, none⟩ v4).setCell ⟨g, 5, none⟩ v5).setCell ⟨g, 6, none⟩ v6).setCell ⟨g, 7, none⟩ v7).setCell ⟨g, 8, none⟩ v8).setCell ⟨g, 9, none⟩ v9).setCell ⟨g, 10, none⟩ v10).setCell ⟨g, 11, none⟩ v11).setCell ⟨g, 12, none⟩ v12).heap[g]? = some (.cells #[v0, v1, v2, v3, v4, v5, v6, v7, v8, v9, v10, v11, v12] T (0, 0)) := (blk_put (cs := #[v0, v1, v2, v3, v4, v5, v6, v7, v8, v9, v10, v11, o12]) (blk_put (cs := #[v0, v1, v2, v3, v4, v5, v6, v7, v8, v9, v10, o11, o12]) (blk_put (cs := #[v0, v1, v2, v3, v4, v5, v6, v7, v8, v9, o10, o11, o12]) (blk_put (cs := #[v0, v1, v2, v3, v4, v5, v6, v7, v8, o9, o10, o11, o12]) (blk_put (cs := #[v0, v1, v2, v3, v4, v5, v6, v7, o8, o9, o10, o11, o12]) (blk_put (cs := #[v0, v1, v2, v3, v4, v5, v6, o7, o8, o9, o10, o11, o12]) (blk_put (cs := #[v0, v1, v2, v3, v4, v5, o6, o7, o8, o9, o10, o11, o12]) (blk_put (cs := #[v0, v1, v2, v3, v4, o5, o6, o7, o8, o9, o10, o11, o12]) (blk_put (cs := #[v0, v1, v2, v3, o4, o5, o6, o7, o8, o9, o10, o11, o12]) (blk_put (cs := #[v0, v1, v2, o3, o4, o5, o6, o7, o8, o9, o10, o11, o12]) (blk_put (cs := #[v0, v1, o2, o3, o4, o5, o6, o7, o8, o9, o10, o11, o12]) (blk_put (cs := #[v0, o1, o2, o3, o4, o5, o6, o7, o8, o9, o10, o11, o12]) (blk_put (cs := #[o0, o1, o2, o3, o4, o5, o6, o7, o8, o9, o10, o11, o12]) h 0 _ rfl) 1 _ rfl) 2 _ rfl) 3 _ rfl) 4 _ rfl) 5 _ rfl) 6 _ rfl) 7 _ rfl) 8 _ rfl) 9 _ rfl) 10 _ rfl) 11 _ rfl) 12 _ rfl)
theorem Z35_2 {p : Prop} (h : p := by (with_reducible repeat (first | refine blk_drewN ?_ _ | refine blk_drew ?_ | refine blk_alloc ?_ _)); refine blk_far ?_ NB1035_1040.out _; (with_reducible repeat (first | refine blk_drewN ?_ _ | refine blk_drew ?_ | refine blk_alloc ?_ _)); refine blk_far ?_ NB1035_1040.out _; (with_reducible repeat (first | refine blk_drewN ?_ _ | refine blk_drew ?_ | refine blk_alloc ?_ _)); refine blk_far ?_ NB1035_1040.out _; (with_reducible repeat (first | refine blk_drewN ?_ _ | refine blk_drew ?_ | refine blk_alloc ?_ _)); refine blk_far ?_ NB1035_1040.out _; (with_reducible repeat (first | refine blk_drewN ?_ _ | refine blk_drew ?_ | refine blk_alloc ?_ _)); refine blk_far ?_ NB1035_1040.out _; (with_reducible repeat (first | refine blk_drewN ?_ _ | refine blk_drew ?_ | refine blk_alloc ?_ _)); refine blk_far ?_ NB1035_1040.out _; (with_reducible repeat (first | refine blk_drewN ?_ _ | refine blk_drew ?_ | refine blk_alloc ?_ _)); refine blk_far ?_ NB1035_1040.out _; (with_reducible repeat (first | refine blk_drewN ?_ _ | refine blk_drew ?_ | refine blk_alloc ?_ _)); refine blk_far ?_ NB1035_1040.out _; (with_reducible repeat (first | refine blk_drewN ?_ _ | refine blk_drew ?_ | refine blk_alloc ?_ _)); refine blk_far ?_ NB1035_1040.out _; (with_reducible repeat (first | refine blk_drewN ?_ _ | refine blk_drew ?_ | refine blk_alloc ?_ _)); refine blk_far ?_ NB1035_1040.out _; (with_reducible repeat (first | refine blk_drewN ?_ _ | refine blk_drew ?_ | refine blk_alloc ?_ _)); refine blk_far ?_ NB1035_1040.out _; (with_reducible repeat (first | refine blk_drewN ?_ _ | refine blk_drew ?_ | refine blk_alloc ?_ _)); refine blk_far ?_ NB1035_1040.out _; (with_reducible repeat (first | refine blk_drewN ?_ _ | refine blk_drew ?_ | refine blk_alloc ?_ _)); refine blk_far ?_ NB1035_1040.out _; (with_reducible repeat (first | refine blk_drewN ?_ _ | refine blk_drew ?_ | refine blk_alloc ?_ _)); exact BK1035.out) : p := h
theorem Z35_1 {p : Prop} (h : p := by exact (blk_grown (g := gb1035) (o := .cells #[.slice (some ad1039) l0_0.length c0_0, .slice A0_1 l0_1.length c0_1, .int .i64 a0_2, .int .i64 a0_3] 56 (0, 0)) Z35_2 hg (Kd.R_ne HO_5.out BK1035.out (by decide)))) : p := h
theorem Z35_3 {p : Prop} (h : p := by (with_reducible repeat (first | apply Kd.R_alloc | apply Kd.R_drewN | apply Kd.R_drew)); exact Kd.R_mono (Kd.R_far (p := ⟨gb1040, 12, none⟩) (Kd.R_far (p := ⟨gb1040, 11, none⟩) (Kd.R_far (p := ⟨gb1040, 10, none⟩) (Kd.R_far (p := ⟨gb1040, 9, none⟩) (Kd.R_far (p := ⟨gb1040, 8, none⟩) (Kd.R_far (p := ⟨gb1040, 7, none⟩) (Kd.R_far (p := ⟨gb1040, 6, none⟩) (Kd.R_far (p := ⟨gb1040, 5, none⟩) (Kd.R_far (p := ⟨gb1040, 4, none⟩) (Kd.R_far (p := ⟨gb1040, 3, none⟩) (Kd.R_far (p := ⟨gb1040, 2, none⟩) (Kd.R_far (p := ⟨gb1040, 1, none⟩) (Kd.R_far (p := ⟨gb1040, 0, none⟩) (Kd.R_types HO_5.out BK1040.out (by decide)) (fun _ hk => hk.2) (.int .i64 ((rd_T25 l0_0 x12_1).f0))) (fun _ hk => hk.2) (.int .i64 ((rd_T25 l0_0 x12_1).f1))) (fun _ hk => hk.2) (.int .i64 ((rd_T25 l0_0 x12_1).f2))) (fun _ hk => hk.2) (.int .i64 ((rd_T25 l0_0 x12_1).f3))) (fun _ hk => hk.2) (.int .i64 ((rd_T25 l0_0 x12_1).f4))) (fun _ hk => hk.2) (.int .i64 ((rd_T25 l0_0 x12_1).f5))) (fun _ hk => hk.2) (.int .i64 ((rd_T25 l0_0 x12_1).f6))) (fun _ hk => hk.2) (.int .i64 ((rd_T25 l0_0 x12_1).f7))) (fun _ hk => hk.2) (.int .i64 ((rd_T25 l0_0 x12_1).f8))) (fun _ hk => hk.2) (.int .i64 ((rd_T25 l0_0 x12_1).f9))) (fun _ hk => hk.2) (.int .i64 ((rd_T25 l0_0 x12_1).f10))) (fun _ hk => hk.2) (.bool ((rd_T25 l0_0 x12_1).f11))) (fun _ hk => hk.2) (.bool ((rd_T25 l0_0 x12_1).f12))) (fun _ hk => trivial)) : p := h
theorem Z35_4 {p : Prop} (h : p := by exact (blk_grown (g := gb1040) (o := .cells #[.int .i64 ((rd_T25 l0_0 x12_1).f0), .int .i64 ((rd_T25 l0_0 x12_1).f1), .int .i64 ((rd_T25 l0_0 x12_1).f2), .int .i64 ((rd_T25 l0_0 x12_1).f3), .int .i64 ((rd_T25 l0_0 x12_1).f4), .int .i64 ((rd_T25 l0_0 x12_1).f5), .int .i64 ((rd_T25 l0_0 x12_1).f6), .int .i64 ((rd_T25 l0_0 x12_1).f7), .int .i64 ((rd_T25 l0_0 x12_1).f8), .int .i64 ((rd_T25 l0_0 x12_1).f9), .int .i64 ((rd_T25 l0_0 x12_1).f10), .bool ((rd_T25 l0_0 x12_1).f11), .bool ((rd_T25 l0_0 x12_1).f12)] 25 (0, 0)) (by (with_reducible repeat (first | refine blk_drewN ?_ _ | refine blk_drew ?_ | refine blk_alloc ?_ _)); apply E35_13; (with_reducible repeat (first | refine blk_drewN ?_ _ | refine blk_drew ?_ | refine blk_alloc ?_ _)); exact BK1040.out) hg (Kd.R_ne HO_5.out BK1040.out (by decide)))) : p := h
theorem Z35_14 {p : Prop} (h : p := by (with_reducible repeat (first | refine blk_drewN ?_ _ | refine blk_drew ?_ | refine blk_alloc ?_ _)); exact BK1035.out) : p := h
theorem Z35_5 {p : Prop} (h : p := by exact ((by rw [hg]; exact Nat.ne_of_lt (blk_lt (g := gb1035) (o := .cells #[.slice (some ad1039) l0_0.length c0_0, .slice A0_1 l0_1.length c0_1, .int .i64 a0_2, .int .i64 a0_3] 56 (0, 0)) Z35_14) : gb1035 ≠ gb1040))) : p := h
theorem Z35_6 {p : Prop} (h : p := by exact ((by rw [hg]; exact Nat.ne_of_gt (blk_lt (g := gb1035) (o := .cells #[.slice (some ad1039) l0_0.length c0_0, .slice A0_1 l0_1.length c0_1, .int .i64 a0_2, .int .i64 a0_3] 56 (0, 0)) Z35_14) : gb1040 ≠ gb1035))) : p := h
theorem Z35_7 {p : Prop} (h : p := by exact (blk_below (g := gb1035) (o := .cells #[.slice (some ad1039) l0_0.length c0_0, .slice A0_1 l0_1.length c0_1, .int .i64 a0_2, .int .i64 a0_3] 56 (0, 0)) Z35_14 hb)) : p := h
theorem Z35_12 {p : Prop} (h : p := by repeat (first | (with_reducible first | exact HB.out | apply below_alloc | apply pw_below_drewN | apply below_drew1 | refine below_set ?_ GE1035.out) | exact HB.out)) : p := h
theorem Z35_8 {p : Prop} (h : p := by exact ((by rw [hg]; exact (below_size Z35_12) : w.heap.size ≤ gb1040))) : p := h
theorem Z35_9 {p : Prop} (h : p := by repeat (first | (with_reducible first | exact HB.out | apply below_alloc | apply pw_below_drewN | apply below_drew1 | refine below_set ?_ GE1035.out | refine below_set ?_ GE1040.out) | exact HB.out)) : p := h
theorem Z35_10 {p : Prop} (h : p := by exact ((by rw [hg]; exact (below_size (by repeat (first | (with_reducible first | exact HB.out | apply below_alloc | apply pw_below_drewN | apply below_drew1) | exact HB.out))) : w.heap.size ≤ gb1035))) : p := h
theorem Z35_11 {p : Prop} (h : p := by exact (below_step Z35_12 hb)) : p := h
theorem Z35_13 {p : Prop} (h : p := by exact (Kd.R_below (by (with_reducible repeat (first | apply Kd.R_alloc | apply Kd.R_drewN | apply Kd.R_drew)); exact HO_5.out) hb)) : p := h
theorem Z35_16 {p : Prop} (h : p := by first | (with_reducible assumption) | assumption) : p := h
theorem Z35_17 {p : Prop} (h : p := by first | rfl | (simp; done) | (simp [*]; done)) : p := h
/-! ### impl_OnField: function 45 -/
def impl_OnField.l0 : Nat → Int → List Int → List (S25) → Int → Int → Option (List Int)
  | 0, _, _, _, _, _ => none
  | k + 1, x1, x5, x10, x11, x12 => if x12 < x11 then (if 0 ≤ x12 then (if x12 < (x10.length : Int) then (if ((rd_T25 x10 x12).f3) = 2 then (if x1 = (-1) then (if x5.length < 17592186044416 then (impl_OnField.l0 k x1 (x5 ++ [(rd_T25 x10 x12).f0]) x10 x11 (wrap64 (x12 + 1))) else (none)) else (if ((rd_T25 x10 x12).f2) = x1 then (if x5.length < 17592186044416 then (impl_OnField.l0 k x1 (x5 ++ [(rd_T25 x10 x12).f0]) x10 x11 (wrap64 (x12 + 1))) else (none)) else (impl_OnField.l0 k x1 x5 x10 x11 (wrap64 (x12 + 1))))) else (impl_OnField.l0 k x1 x5 x10 x11 (wrap64 (x12 + 1)))) else (none)) else (none)) else (some x5)
def impl_OnField.f (k : Nat) (l0_0 : List (S25)) (l0_1 : List (S71)) (a0_2 : Int) (a0_3 : Int) (a1 : Int) : Option (List Int) := impl_OnField.l0 k a1 (([] : List Int)) l0_0 (l0_0.length : Int) 0
theorem impl_OnField.mono_l : ∀ k, (∀ y0 y1 y2 y3 y4, LeO (impl_OnField.l0 k y0 y1 y2 y3 y4) (impl_OnField.l0 (k + 1) y0 y1 y2 y3 y4))
  | 0 => fun _ _ _ _ _ r h => by simp [impl_OnField.l0] at h
  | k + 1 => by
    have ih0 := impl_OnField.mono_l k
    · intro y0 y1 y2 y3 y4
      unfold impl_OnField.l0
      repeat' first
      | (with_reducible exact ih0 _ _ _ _ _)
      | (with_reducible exact LeO.refl _)
      | (with_reducible exact LeO.none _)
      | (with_reducible refine LeO.ite ?_ ?_)
      | (with_reducible refine LeO.bind ?_ (fun _ => ?_))
      | exact ih0 _ _ _ _ _
      | exact LeO.none _
      | refine LeO.ite ?_ ?_
      | refine LeO.bind ?_ (fun _ => ?_)
theorem impl_OnField.mono : ∀ a0 a1 a2 a3 a4 k, LeO (impl_OnField.f k a0 a1 a2 a3 a4) (impl_OnField.f (k + 1) a0 a1 a2 a3 a4) := by
  intro a0 a1 a2 a3 a4 k
  have ih0 := impl_OnField.mono_l k
  unfold impl_OnField.f
  repeat' first
      | (with_reducible exact ih0 _ _ _ _ _)
      | (with_reducible exact LeO.refl _)
      | (with_reducible exact LeO.none _)
      | (with_reducible refine LeO.ite ?_ ?_)
      | (with_reducible refine LeO.bind ?_ (fun _ => ?_))
      | exact ih0 _ _ _ _ _
      | exact LeO.none _
      | refine LeO.ite ?_ ?_
      | refine LeO.bind ?_ (fun _ => ?_)
set_option maxHeartbeats 8000000 in
set_option maxRecDepth 100000 in
theorem impl_OnField.calls (k : Nat) (A0_0 : Option Addr) (c0_0 : Nat) (l0_0 : List (S25)) (A0_1 : Option Addr) (c0_1 : Nat) (l0_1 : List (S71)) (a0_2 : Int) (a0_3 : Int) (a1 : Int) (r : List Int) (w : World) (hr0_0 : Kd.C k25 w A0_0 l0_0.length l0_0) (hc0_0 : l0_0.length ≤ c0_0) (hr0_1 : Kd.C k71 w A0_1 l0_1.length l0_1) (hc0_1 : l0_1.length ≤ c0_1) (h : impl_OnField.f k l0_0 l0_1 a0_2 a0_3 a1 = some r) :
    Calls Try.prog 45 #[.agg #[.slice A0_0 l0_0.length c0_0, .slice A0_1 l0_1.length c0_1, .int .i64 a0_2, .int .i64 a0_3], .int .i64 a1] w fun e w' => ∃ v0_ : Value, e = .returned (v0_) ∧ Kd.R (Kd.int .i64) 3 w' w.heap.size (fun _ => True) v0_ r ∧ Below w.heap.size w w' := by
  have hu56 := Try.underlying56
  have hu25 := Try.underlying25
  have HR0_0 := Aside0.mk hr0_0
  have HC0_0 := Aside0.mk hc0_0
  clear hr0_0 hc0_0
  have HR0_1 := Aside0.mk hr0_1
  have HC0_1 := Aside0.mk hc0_1
  clear hr0_1 hc0_1
  have HB := Aside0.mk (Below.refl w.heap.size w)
  have H : (impl_OnField.l0 k a1 (([] : List Int)) l0_0 (l0_0.length : Int) 0) = some r := h
  clear h
  obtain ⟨y1036, hy1036⟩ : ∃ y_ : List Int, y_ = (([] : List Int)) := ⟨_, rfl⟩
  replace H : (impl_OnField.l0 k a1 y1036 l0_0 (l0_0.length : Int) 0) = some r := by first | (rw [hy1036]; with_reducible exact H) | (have H2_ := (Option.bind_some _ _).symm.trans H; rw [hy1036]; with_reducible exact H2_) | (have H2_ := (Option.bind_some _ _).symm.trans H; with_reducible exact H2_) | with_reducible exact H | (rw [hy1036]; exact H) | exact H
  have Ny1036 := Aside0.mk hy1036
  clear hy1036
  have H' := Aside0.mk H
  clear H
  go_enter Try.func45, Try.ntmps45
  go_wp2_with (first | ((with_reducible refine gate_dst (N := 2) rfl ?_); refine box_event ?hg (N := 2) ?hd (cs := #[.slice A0_0 l0_0.length c0_0, .slice A0_1 l0_1.length c0_1, .int .i64 a0_2, .int .i64 a0_3]) (t := 56) ?hr ?_; (case hd => rfl); (case hg => rfl); (case hr => first | (go_simp; done) | (go_simp; rfl)); intro gb1035 hg w3 hbox hb; have n0_ := Aside0.mk (below_step (by repeat (first | (with_reducible first | exact HB.out | apply below_alloc | apply pw_below_drewN | apply below_drew1) | exact HB.out)) hb); have n1_ := Aside0.mk (hbox); have n2_ := Aside0.mk Z35_10; have n3_ := Aside0.mk Z35_10; clear HB; have HB := n0_; have BK1035 := n1_; have GW1035 := n2_; have GE1035 := n3_; clear n0_ n1_ n2_ n3_; clear hb hbox hg) | ((with_reducible refine gate_dst (N := 8) rfl ?_); refine Kd.R_lit (Kd.int .i64) _ 3 ?hg (N := 8) ?hd (xs := ([] : List Int)) (inner := []) (ok := fun _ => True) (okp := fun _ => True) ?hr ?hp (fun _ hk => hk) trivial (Below.refl _ _) (Nat.le_refl _) (by simp) ?_; (case hd => rfl); (case hg => rfl); (case hr => first | (go_simp; done) | (go_simp; rfl)); (case hp => exact (Reps.none _ _)); intro v1037 w4 ho5 hb hg_ hnew_; clear hg_ hnew_; (first | rw [← Ny1036.out] at ho5 | (simp only [Int.reduceToNat] at ho5; rw [← Ny1036.out] at ho5)); have n0_ := Aside0.mk (Kd.R_lower ho5 (below_size Z35_12)); have n1_ := Aside0.mk (blk_below (g := gb1035) (o := .cells #[.slice A0_0 l0_0.length c0_0, .slice A0_1 l0_1.length c0_1, .int .i64 a0_2, .int .i64 a0_3] 56 (0, 0)) Z35_14 hb); have n2_ := Aside0.mk Z35_11; clear BK1035; clear HB; have HO1038 := n0_; have BK1035 := n1_; have HB := n2_; clear n0_ n1_ n2_; clear hb ho5; obtain ⟨⟨hcz6_0, hcz6_1, hcz6_2, hcz6_3⟩, hfz6_0, hfz6_1, hfz6_2, hfz6_3⟩ := C35_4 BK1035.out))
  go_loopg [5, 12] k (fun kq v5 v12 w' => ∃ (x5_1 : List Int) (x12_1 : Int), v12 = .int .i64 x12_1 ∧ Aside0 (impl_OnField.l0 kq a1 x5_1 l0_0 (l0_0.length : Int) x12_1 = some r) ∧ Aside0 (kq ≤ k) ∧ Aside0 (Kd.R (Kd.int .i64) 3 w' w.heap.size (fun _ => True) v5 x5_1) ∧ Aside0 (w'.heap[gb1035]? = some (.cells #[(.slice A0_0 l0_0.length c0_0), (.slice A0_1 l0_1.length c0_1), .int .i64 a0_2, .int .i64 a0_3] 56 (0, 0))) ∧ Aside0 (Below w.heap.size w w'))
  case atStart => exact ⟨(y1036), (0), Z35_17, H', ⟨Nat.le_refl _⟩, ⟨(by (with_reducible repeat (first | apply Kd.R_alloc | apply Kd.R_drewN | apply Kd.R_drew)); exact HO1038.out)⟩, ⟨Z35_14⟩, ⟨Z35_12⟩⟩
  case round =>
    clear H'
    try clear p2
    try clear c4
    try clear hcz6_0
    try clear hcz6_1
    try clear hcz6_2
    try clear hcz6_3
    try clear hfz6_0
    try clear hfz6_1
    try clear hfz6_2
    try clear hfz6_3
    obtain ⟨x5_1, x12_1, rfl, HA, HK1, HO_5, BK1035, HB⟩ := hrel
    cases gk with
    | zero => exact absurd HA.out (by simp [impl_OnField.l0])
    | succ k1 =>
      have H := HA.out
      clear HA
      simp only [impl_OnField.l0] at H
      by_cases c7 : x12_1 < (l0_0.length : Int)
      rotate_left
      · rw [if_neg c7] at H
        have c7b0 : decide (x12_1 < (l0_0.length : Int)) = false := decide_eq_false c7
        clear c7
        obtain rfl := Option.some.inj H
        go_wp2
        go_ret
        exact ⟨_, (by first | rfl | (simp [errW_none, errW_some] <;> rfl) | (simp [*, errW_none, errW_some] <;> rfl)), (by (with_reducible repeat (first | apply Kd.R_alloc | apply Kd.R_drewN | apply Kd.R_drew)); exact HO_5.out), Z35_12⟩
      rw [if_pos c7] at H
      have c7b0 : decide (x12_1 < (l0_0.length : Int)) = true := decide_eq_true c7
      clear c7
      by_cases c8 : 0 ≤ x12_1
      rotate_left
      · rw [if_neg c8] at H
        exact absurd H (by simp)
      rw [if_pos c8] at H
      have c8b0 : decide (0 ≤ x12_1) = true := decide_eq_true c8
      clear c8
      by_cases c9 : x12_1 < (l0_0.length : Int)
      rotate_left
      · rw [if_neg c9] at H
        exact absurd H (by simp)
      rw [if_pos c9] at H
      have c9b0 : decide (x12_1 < (l0_0.length : Int)) = true := decide_eq_true c9
      clear c9
      by_cases c10 : ((rd_T25 l0_0 x12_1).f3) = 2
      rotate_left
      · rw [if_neg c10] at H
        have c10b0 : (((rd_T25 l0_0 x12_1).f3) == 2) = false := beq_eq_false_iff_ne.mpr c10
        have c10b1 : (((rd_T25 l0_0 x12_1).f3) != 2) = true := bne_iff_ne.mpr c10
        have H' := Aside0.mk H
        clear H
        have p1039 : 0 ≤ (x12_1 : Int) := of_decide_eq_true Z35_16
        have q1039 : x12_1 < (l0_0.length : Int) := of_decide_eq_true Z35_16
        obtain ⟨ad1039, e1039, hx1039_0, hx1039_1, hx1039_2, hx1039_3, hx1039_4, hx1039_5, hx1039_6, hx1039_7, hx1039_8, hx1039_9, hx1039_10, hx1039_11, hx1039_12⟩ := at_T25 HR0_0.out x12_1 p1039 q1039
        cases e1039
        replace hx1039_0 := (HB.out.cell (World.block_lt_of_cell? w _ hx1039_0)).trans hx1039_0
        replace hx1039_1 := (HB.out.cell (World.block_lt_of_cell? w _ hx1039_1)).trans hx1039_1
        replace hx1039_2 := (HB.out.cell (World.block_lt_of_cell? w _ hx1039_2)).trans hx1039_2
        replace hx1039_3 := (HB.out.cell (World.block_lt_of_cell? w _ hx1039_3)).trans hx1039_3
        replace hx1039_4 := (HB.out.cell (World.block_lt_of_cell? w _ hx1039_4)).trans hx1039_4
        replace hx1039_5 := (HB.out.cell (World.block_lt_of_cell? w _ hx1039_5)).trans hx1039_5
        replace hx1039_6 := (HB.out.cell (World.block_lt_of_cell? w _ hx1039_6)).trans hx1039_6
        replace hx1039_7 := (HB.out.cell (World.block_lt_of_cell? w _ hx1039_7)).trans hx1039_7
        replace hx1039_8 := (HB.out.cell (World.block_lt_of_cell? w _ hx1039_8)).trans hx1039_8
        replace hx1039_9 := (HB.out.cell (World.block_lt_of_cell? w _ hx1039_9)).trans hx1039_9
        replace hx1039_10 := (HB.out.cell (World.block_lt_of_cell? w _ hx1039_10)).trans hx1039_10
        replace hx1039_11 := (HB.out.cell (World.block_lt_of_cell? w _ hx1039_11)).trans hx1039_11
        replace hx1039_12 := (HB.out.cell (World.block_lt_of_cell? w _ hx1039_12)).trans hx1039_12
        replace p1039 := eq_true p1039
        replace q1039 := eq_true q1039
        go_wp2_with (first | ((with_reducible refine gate_dst (N := 7) rfl ?_); refine box_event ?hg (N := 7) ?hd (cs := #[.int .i64 0, .int .i64 0, .int .i64 0, .int .i64 0, .int .i64 0, .int .i64 0, .int .i64 0, .int .i64 0, .int .i64 0, .int .i64 0, .int .i64 0, .bool false, .bool false]) (t := 25) ?hr ?_; (case hd => rfl); (case hg => rfl); (case hr => first | (go_simp; done) | (go_simp; rfl)); intro gb1040 hg w26 hbox hb; have n0_ := Aside0.mk Z35_13; have n1_ := Aside0.mk Z35_7; have n2_ := Aside0.mk Z35_11; have n3_ := Aside0.mk (hbox); have n4_ := Aside0.mk Z35_8; have n5_ := Aside0.mk Z35_8; have n6_ := Aside0.mk Z35_5; have n7_ := Aside0.mk Z35_6; clear HO_5; clear BK1035; clear HB; have HO_5 := n0_; have BK1035 := n1_; have HB := n2_; have BK1040 := n3_; have GW1040 := n4_; have GE1040 := n5_; have NB1035_1040 := n6_; have NB1040_1035 := n7_; clear n0_ n1_ n2_ n3_ n4_ n5_ n6_ n7_; clear hb hbox hg; have hnb27 := NB1040_1035.out; have hnc27 := NB1035_1040.out; obtain ⟨⟨hcz28_0, hcz28_1, hcz28_2, hcz28_3, hcz28_4, hcz28_5, hcz28_6, hcz28_7, hcz28_8, hcz28_9, hcz28_10, hcz28_11, hcz28_12⟩, hfz28_0, hfz28_1, hfz28_2, hfz28_3, hfz28_4, hfz28_5, hfz28_6, hfz28_7, hfz28_8, hfz28_9, hfz28_10, hfz28_11, hfz28_12⟩ := C35_13 BK1040.out))
        go_roundg k1
        case measure => have := HK1.out; omega
        case rel => exact ⟨(x5_1), (wrap64 (x12_1 + 1)), Z35_17, H', ⟨(by have := HK1.out; omega)⟩, ⟨Z35_3⟩, ⟨Z35_2⟩, ⟨Z35_9⟩⟩
      rw [if_pos c10] at H
      have c10b0 : (((rd_T25 l0_0 x12_1).f3) == 2) = true := beq_iff_eq.mpr c10
      have c10b1 : (((rd_T25 l0_0 x12_1).f3) != 2) = false := bne_eq_false_iff_eq.mpr c10
      clear c10
      by_cases c11 : a1 = (-1)
      · rw [if_pos c11] at H
        have c11b0 : (a1 == (-1)) = true := beq_iff_eq.mpr c11
        have c11b1 : (a1 != (-1)) = false := bne_eq_false_iff_eq.mpr c11
        clear c11
        by_cases c12 : x5_1.length < 17592186044416
        rotate_left
        · rw [if_neg c12] at H
          exact absurd H (by simp)
        rw [if_pos c12] at H
        have LMc12 := Aside0.mk c12
        clear c12
        obtain ⟨y1041, hy1041⟩ : ∃ y_ : List Int, y_ = (x5_1 ++ [(rd_T25 l0_0 x12_1).f0]) := ⟨_, rfl⟩
        replace H : (impl_OnField.l0 k1 a1 y1041 l0_0 (l0_0.length : Int) (wrap64 (x12_1 + 1))) = some r := by first | (rw [hy1041]; with_reducible exact H) | (have H2_ := (Option.bind_some _ _).symm.trans H; rw [hy1041]; with_reducible exact H2_) | (have H2_ := (Option.bind_some _ _).symm.trans H; with_reducible exact H2_) | with_reducible exact H | (rw [hy1041]; exact H) | exact H
        have Ny1041 := Aside0.mk hy1041
        clear hy1041
        have H' := Aside0.mk H
        clear H
        have p1039 : 0 ≤ (x12_1 : Int) := of_decide_eq_true Z35_16
        have q1039 : x12_1 < (l0_0.length : Int) := of_decide_eq_true Z35_16
        obtain ⟨ad1039, e1039, hx1039_0, hx1039_1, hx1039_2, hx1039_3, hx1039_4, hx1039_5, hx1039_6, hx1039_7, hx1039_8, hx1039_9, hx1039_10, hx1039_11, hx1039_12⟩ := at_T25 HR0_0.out x12_1 p1039 q1039
        cases e1039
        replace hx1039_0 := (HB.out.cell (World.block_lt_of_cell? w _ hx1039_0)).trans hx1039_0
        replace hx1039_1 := (HB.out.cell (World.block_lt_of_cell? w _ hx1039_1)).trans hx1039_1
        replace hx1039_2 := (HB.out.cell (World.block_lt_of_cell? w _ hx1039_2)).trans hx1039_2
        replace hx1039_3 := (HB.out.cell (World.block_lt_of_cell? w _ hx1039_3)).trans hx1039_3
        replace hx1039_4 := (HB.out.cell (World.block_lt_of_cell? w _ hx1039_4)).trans hx1039_4
        replace hx1039_5 := (HB.out.cell (World.block_lt_of_cell? w _ hx1039_5)).trans hx1039_5
        replace hx1039_6 := (HB.out.cell (World.block_lt_of_cell? w _ hx1039_6)).trans hx1039_6
        replace hx1039_7 := (HB.out.cell (World.block_lt_of_cell? w _ hx1039_7)).trans hx1039_7
        replace hx1039_8 := (HB.out.cell (World.block_lt_of_cell? w _ hx1039_8)).trans hx1039_8
        replace hx1039_9 := (HB.out.cell (World.block_lt_of_cell? w _ hx1039_9)).trans hx1039_9
        replace hx1039_10 := (HB.out.cell (World.block_lt_of_cell? w _ hx1039_10)).trans hx1039_10
        replace hx1039_11 := (HB.out.cell (World.block_lt_of_cell? w _ hx1039_11)).trans hx1039_11
        replace hx1039_12 := (HB.out.cell (World.block_lt_of_cell? w _ hx1039_12)).trans hx1039_12
        replace p1039 := eq_true p1039
        replace q1039 := eq_true q1039
        go_wp2_with (first | ((with_reducible refine gate_dst (N := 7) rfl ?_); refine box_event ?hg (N := 7) ?hd (cs := #[.int .i64 0, .int .i64 0, .int .i64 0, .int .i64 0, .int .i64 0, .int .i64 0, .int .i64 0, .int .i64 0, .int .i64 0, .int .i64 0, .int .i64 0, .bool false, .bool false]) (t := 25) ?hr ?_; (case hd => rfl); (case hg => rfl); (case hr => first | (go_simp; done) | (go_simp; rfl)); intro gb1040 hg w13 hbox hb; have n0_ := Aside0.mk Z35_13; have n1_ := Aside0.mk Z35_7; have n2_ := Aside0.mk Z35_11; have n3_ := Aside0.mk (hbox); have n4_ := Aside0.mk Z35_8; have n5_ := Aside0.mk Z35_8; have n6_ := Aside0.mk Z35_5; have n7_ := Aside0.mk Z35_6; clear HO_5; clear BK1035; clear HB; have HO_5 := n0_; have BK1035 := n1_; have HB := n2_; have BK1040 := n3_; have GW1040 := n4_; have GE1040 := n5_; have NB1035_1040 := n6_; have NB1040_1035 := n7_; clear n0_ n1_ n2_ n3_ n4_ n5_ n6_ n7_; clear hb hbox hg; have hnb14 := NB1040_1035.out; have hnc14 := NB1035_1040.out; obtain ⟨⟨hcz15_0, hcz15_1, hcz15_2, hcz15_3, hcz15_4, hcz15_5, hcz15_6, hcz15_7, hcz15_8, hcz15_9, hcz15_10, hcz15_11, hcz15_12⟩, hfz15_0, hfz15_1, hfz15_2, hfz15_3, hfz15_4, hfz15_5, hfz15_6, hfz15_7, hfz15_8, hfz15_9, hfz15_10, hfz15_11, hfz15_12⟩ := C35_13 BK1040.out) | ((with_reducible refine gate_builtin (b := .append) (xs := #[.tmp 29, .tmp 32]) rfl ?_); at_builtin; refine Kd.R_append (Kd.int .i64) (w0 := w) w.heap.size rfl (.tmp 29) (.tmp 32) 67 3 (.int .i64 0) 8 rfl Try.underlying67 info3 rfl (by decide) (by omega) u5 x5_1 ((rd_T25 l0_0 x12_1).f0) [.int .i64 ((rd_T25 l0_0 x12_1).f0)] (fun _ => True) (fun _ => False) rfl (by first | (go_simp; done) | (go_simp; rfl)) ?aP (fun _ hk => hk.elim) ?aF ?aO ?aB ?aS ?aL ?_; (case aP => exact rfl); (case aB => exact Z35_9); (case aF => exact (fun _ _ => trivial)); (case aO => exact Z35_3); (case aS => exact (below_size Z35_9)); (case aL => have := LMc12.out; omega); intro v1042 w16 ho hb hg hat; rw [← Ny1041.out] at ho; have n0_ := Aside0.mk Z35_1; have n1_ := Aside0.mk Z35_4; have n2_ := Aside0.mk (hb); have n3_ := Aside0.mk (ho); clear BK1035; clear BK1040; clear HB; clear HO_5; have BK1035 := n0_; have BK1040 := n1_; have HB := n2_; have HO1043 := n3_; clear n0_ n1_ n2_ n3_; clear ho hb hg hat))
        go_roundg k1
        case measure => have := HK1.out; omega
        case rel => exact ⟨(y1041), (wrap64 (x12_1 + 1)), Z35_17, H', ⟨(by have := HK1.out; omega)⟩, ⟨(by (with_reducible repeat (first | apply Kd.R_alloc | apply Kd.R_drewN | apply Kd.R_drew)); exact HO1043.out)⟩, ⟨Z35_14⟩, ⟨Z35_9⟩⟩
      rw [if_neg c11] at H
      have c11b0 : (a1 == (-1)) = false := beq_eq_false_iff_ne.mpr c11
      have c11b1 : (a1 != (-1)) = true := bne_iff_ne.mpr c11
      by_cases c17 : ((rd_T25 l0_0 x12_1).f2) = a1
      rotate_left
      · rw [if_neg c17] at H
        have c17b0 : (((rd_T25 l0_0 x12_1).f2) == a1) = false := beq_eq_false_iff_ne.mpr c17
        have c17b1 : (((rd_T25 l0_0 x12_1).f2) != a1) = true := bne_iff_ne.mpr c17
        have H' := Aside0.mk H
        clear H
        have p1039 : 0 ≤ (x12_1 : Int) := of_decide_eq_true Z35_16
        have q1039 : x12_1 < (l0_0.length : Int) := of_decide_eq_true Z35_16
        obtain ⟨ad1039, e1039, hx1039_0, hx1039_1, hx1039_2, hx1039_3, hx1039_4, hx1039_5, hx1039_6, hx1039_7, hx1039_8, hx1039_9, hx1039_10, hx1039_11, hx1039_12⟩ := at_T25 HR0_0.out x12_1 p1039 q1039
        cases e1039
        replace hx1039_0 := (HB.out.cell (World.block_lt_of_cell? w _ hx1039_0)).trans hx1039_0
        replace hx1039_1 := (HB.out.cell (World.block_lt_of_cell? w _ hx1039_1)).trans hx1039_1
        replace hx1039_2 := (HB.out.cell (World.block_lt_of_cell? w _ hx1039_2)).trans hx1039_2
        replace hx1039_3 := (HB.out.cell (World.block_lt_of_cell? w _ hx1039_3)).trans hx1039_3
        replace hx1039_4 := (HB.out.cell (World.block_lt_of_cell? w _ hx1039_4)).trans hx1039_4
        replace hx1039_5 := (HB.out.cell (World.block_lt_of_cell? w _ hx1039_5)).trans hx1039_5
        replace hx1039_6 := (HB.out.cell (World.block_lt_of_cell? w _ hx1039_6)).trans hx1039_6
        replace hx1039_7 := (HB.out.cell (World.block_lt_of_cell? w _ hx1039_7)).trans hx1039_7
        replace hx1039_8 := (HB.out.cell (World.block_lt_of_cell? w _ hx1039_8)).trans hx1039_8
        replace hx1039_9 := (HB.out.cell (World.block_lt_of_cell? w _ hx1039_9)).trans hx1039_9
        replace hx1039_10 := (HB.out.cell (World.block_lt_of_cell? w _ hx1039_10)).trans hx1039_10
        replace hx1039_11 := (HB.out.cell (World.block_lt_of_cell? w _ hx1039_11)).trans hx1039_11
        replace hx1039_12 := (HB.out.cell (World.block_lt_of_cell? w _ hx1039_12)).trans hx1039_12
        replace p1039 := eq_true p1039
        replace q1039 := eq_true q1039
        go_wp2_with (first | ((with_reducible refine gate_dst (N := 7) rfl ?_); refine box_event ?hg (N := 7) ?hd (cs := #[.int .i64 0, .int .i64 0, .int .i64 0, .int .i64 0, .int .i64 0, .int .i64 0, .int .i64 0, .int .i64 0, .int .i64 0, .int .i64 0, .int .i64 0, .bool false, .bool false]) (t := 25) ?hr ?_; (case hd => rfl); (case hg => rfl); (case hr => first | (go_simp; done) | (go_simp; rfl)); intro gb1040 hg w23 hbox hb; have n0_ := Aside0.mk Z35_13; have n1_ := Aside0.mk Z35_7; have n2_ := Aside0.mk Z35_11; have n3_ := Aside0.mk (hbox); have n4_ := Aside0.mk Z35_8; have n5_ := Aside0.mk Z35_8; have n6_ := Aside0.mk Z35_5; have n7_ := Aside0.mk Z35_6; clear HO_5; clear BK1035; clear HB; have HO_5 := n0_; have BK1035 := n1_; have HB := n2_; have BK1040 := n3_; have GW1040 := n4_; have GE1040 := n5_; have NB1035_1040 := n6_; have NB1040_1035 := n7_; clear n0_ n1_ n2_ n3_ n4_ n5_ n6_ n7_; clear hb hbox hg; have hnb24 := NB1040_1035.out; have hnc24 := NB1035_1040.out; obtain ⟨⟨hcz25_0, hcz25_1, hcz25_2, hcz25_3, hcz25_4, hcz25_5, hcz25_6, hcz25_7, hcz25_8, hcz25_9, hcz25_10, hcz25_11, hcz25_12⟩, hfz25_0, hfz25_1, hfz25_2, hfz25_3, hfz25_4, hfz25_5, hfz25_6, hfz25_7, hfz25_8, hfz25_9, hfz25_10, hfz25_11, hfz25_12⟩ := C35_13 BK1040.out))
        go_roundg k1
        case measure => have := HK1.out; omega
        case rel => exact ⟨(x5_1), (wrap64 (x12_1 + 1)), Z35_17, H', ⟨(by have := HK1.out; omega)⟩, ⟨Z35_3⟩, ⟨Z35_2⟩, ⟨Z35_9⟩⟩
      rw [if_pos c17] at H
      have c17b0 : (((rd_T25 l0_0 x12_1).f2) == a1) = true := beq_iff_eq.mpr c17
      have c17b1 : (((rd_T25 l0_0 x12_1).f2) != a1) = false := bne_eq_false_iff_eq.mpr c17
      clear c17
      by_cases c18 : x5_1.length < 17592186044416
      rotate_left
      · rw [if_neg c18] at H
        exact absurd H (by simp)
      rw [if_pos c18] at H
      have LMc18 := Aside0.mk c18
      clear c18
      obtain ⟨y1044, hy1044⟩ : ∃ y_ : List Int, y_ = (x5_1 ++ [(rd_T25 l0_0 x12_1).f0]) := ⟨_, rfl⟩
      replace H : (impl_OnField.l0 k1 a1 y1044 l0_0 (l0_0.length : Int) (wrap64 (x12_1 + 1))) = some r := by first | (rw [hy1044]; with_reducible exact H) | (have H2_ := (Option.bind_some _ _).symm.trans H; rw [hy1044]; with_reducible exact H2_) | (have H2_ := (Option.bind_some _ _).symm.trans H; with_reducible exact H2_) | with_reducible exact H | (rw [hy1044]; exact H) | exact H
      have Ny1044 := Aside0.mk hy1044
      clear hy1044
      have H' := Aside0.mk H
      clear H
      have p1039 : 0 ≤ (x12_1 : Int) := of_decide_eq_true Z35_16
      have q1039 : x12_1 < (l0_0.length : Int) := of_decide_eq_true Z35_16
      obtain ⟨ad1039, e1039, hx1039_0, hx1039_1, hx1039_2, hx1039_3, hx1039_4, hx1039_5, hx1039_6, hx1039_7, hx1039_8, hx1039_9, hx1039_10, hx1039_11, hx1039_12⟩ := at_T25 HR0_0.out x12_1 p1039 q1039
      cases e1039
      replace hx1039_0 := (HB.out.cell (World.block_lt_of_cell? w _ hx1039_0)).trans hx1039_0
      replace hx1039_1 := (HB.out.cell (World.block_lt_of_cell? w _ hx1039_1)).trans hx1039_1
      replace hx1039_2 := (HB.out.cell (World.block_lt_of_cell? w _ hx1039_2)).trans hx1039_2
      replace hx1039_3 := (HB.out.cell (World.block_lt_of_cell? w _ hx1039_3)).trans hx1039_3
      replace hx1039_4 := (HB.out.cell (World.block_lt_of_cell? w _ hx1039_4)).trans hx1039_4
      replace hx1039_5 := (HB.out.cell (World.block_lt_of_cell? w _ hx1039_5)).trans hx1039_5
      replace hx1039_6 := (HB.out.cell (World.block_lt_of_cell? w _ hx1039_6)).trans hx1039_6
      replace hx1039_7 := (HB.out.cell (World.block_lt_of_cell? w _ hx1039_7)).trans hx1039_7
      replace hx1039_8 := (HB.out.cell (World.block_lt_of_cell? w _ hx1039_8)).trans hx1039_8
      replace hx1039_9 := (HB.out.cell (World.block_lt_of_cell? w _ hx1039_9)).trans hx1039_9
      replace hx1039_10 := (HB.out.cell (World.block_lt_of_cell? w _ hx1039_10)).trans hx1039_10
      replace hx1039_11 := (HB.out.cell (World.block_lt_of_cell? w _ hx1039_11)).trans hx1039_11
      replace hx1039_12 := (HB.out.cell (World.block_lt_of_cell? w _ hx1039_12)).trans hx1039_12
      replace p1039 := eq_true p1039
      replace q1039 := eq_true q1039
      go_wp2_with (first | ((with_reducible refine gate_dst (N := 7) rfl ?_); refine box_event ?hg (N := 7) ?hd (cs := #[.int .i64 0, .int .i64 0, .int .i64 0, .int .i64 0, .int .i64 0, .int .i64 0, .int .i64 0, .int .i64 0, .int .i64 0, .int .i64 0, .int .i64 0, .bool false, .bool false]) (t := 25) ?hr ?_; (case hd => rfl); (case hg => rfl); (case hr => first | (go_simp; done) | (go_simp; rfl)); intro gb1040 hg w19 hbox hb; have n0_ := Aside0.mk Z35_13; have n1_ := Aside0.mk Z35_7; have n2_ := Aside0.mk Z35_11; have n3_ := Aside0.mk (hbox); have n4_ := Aside0.mk Z35_8; have n5_ := Aside0.mk Z35_8; have n6_ := Aside0.mk Z35_5; have n7_ := Aside0.mk Z35_6; clear HO_5; clear BK1035; clear HB; have HO_5 := n0_; have BK1035 := n1_; have HB := n2_; have BK1040 := n3_; have GW1040 := n4_; have GE1040 := n5_; have NB1035_1040 := n6_; have NB1040_1035 := n7_; clear n0_ n1_ n2_ n3_ n4_ n5_ n6_ n7_; clear hb hbox hg; have hnb20 := NB1040_1035.out; have hnc20 := NB1035_1040.out; obtain ⟨⟨hcz21_0, hcz21_1, hcz21_2, hcz21_3, hcz21_4, hcz21_5, hcz21_6, hcz21_7, hcz21_8, hcz21_9, hcz21_10, hcz21_11, hcz21_12⟩, hfz21_0, hfz21_1, hfz21_2, hfz21_3, hfz21_4, hfz21_5, hfz21_6, hfz21_7, hfz21_8, hfz21_9, hfz21_10, hfz21_11, hfz21_12⟩ := C35_13 BK1040.out) | ((with_reducible refine gate_builtin (b := .append) (xs := #[.tmp 29, .tmp 32]) rfl ?_); at_builtin; refine Kd.R_append (Kd.int .i64) (w0 := w) w.heap.size rfl (.tmp 29) (.tmp 32) 67 3 (.int .i64 0) 8 rfl Try.underlying67 info3 rfl (by decide) (by omega) u5 x5_1 ((rd_T25 l0_0 x12_1).f0) [.int .i64 ((rd_T25 l0_0 x12_1).f0)] (fun _ => True) (fun _ => False) rfl (by first | (go_simp; done) | (go_simp; rfl)) ?aP (fun _ hk => hk.elim) ?aF ?aO ?aB ?aS ?aL ?_; (case aP => exact rfl); (case aB => exact Z35_9); (case aF => exact (fun _ _ => trivial)); (case aO => exact Z35_3); (case aS => exact (below_size Z35_9)); (case aL => have := LMc18.out; omega); intro v1045 w22 ho hb hg hat; rw [← Ny1044.out] at ho; have n0_ := Aside0.mk Z35_1; have n1_ := Aside0.mk Z35_4; have n2_ := Aside0.mk (hb); have n3_ := Aside0.mk (ho); clear BK1035; clear BK1040; clear HB; clear HO_5; have BK1035 := n0_; have BK1040 := n1_; have HB := n2_; have HO1046 := n3_; clear n0_ n1_ n2_ n3_; clear ho hb hg hat))
      go_roundg k1
      case measure => have := HK1.out; omega
      case rel => exact ⟨(y1044), (wrap64 (x12_1 + 1)), Z35_17, H', ⟨(by have := HK1.out; omega)⟩, ⟨(by (with_reducible repeat (first | apply Kd.R_alloc | apply Kd.R_drewN | apply Kd.R_drew)); exact HO1046.out)⟩, ⟨Z35_14⟩, ⟨Z35_9⟩⟩


end Go.Proofs.Ytfkidiagmekleaa.QAll
