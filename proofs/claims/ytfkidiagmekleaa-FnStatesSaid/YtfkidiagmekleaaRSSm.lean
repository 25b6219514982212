-- Written by a program of this session (patch_print.py over the print).
import Derived.Test.YtfkidiagmekleaaQAllx0
import Derived.Test.YtfkidiagmekleaaQAllx1
import Derived.Test.YtfkidiagmekleaaQAllx2
namespace Go.Proofs.Ytfkidiagmekleaa.QAll
open Go.RowKit Go.Proofs.YtfkidiagmekleaaW.PrintWords Go.Proofs.YtfkidiagmekleaaW.PrintLast Go.Proofs.YtfkidiagmekleaaW.PrintMore
attribute [local go_sem] max2_int min2_int max_two min_two max_three min_three max_four min_four   -- for this text's walks alone
set_option linter.unusedVariables false
set_option linter.unusedSimpArgs false
attribute [local go_sem high] eqA25 eqA71

theorem C37_4 {W : World} {g : Nat} {T : TypeId} {v0 v1 v2 v3 : Value} (h : W.heap[g]? = some (.cells #[v0, v1, v2, v3] T (0, 0))) : (W.cell? ⟨g, 0, none⟩ = some v0 ∧ W.cell? ⟨g, 1, none⟩ = some v1 ∧ W.cell? ⟨g, 2, none⟩ = some v2 ∧ W.cell? ⟨g, 3, none⟩ = some v3) ∧ W.frozen? ⟨g, 0, none⟩ = false ∧ W.frozen? ⟨g, 1, none⟩ = false ∧ W.frozen? ⟨g, 2, none⟩ = false ∧ W.frozen? ⟨g, 3, none⟩ = false := ⟨⟨(blk_cell h 0).trans rfl, (blk_cell h 1).trans rfl, (blk_cell h 2).trans rfl, (blk_cell h 3).trans rfl⟩, blk_frozen h 0, blk_frozen h 1, blk_frozen h 2, blk_frozen h 3⟩
theorem Z37_9 {p : Prop} (h : p := by (with_reducible repeat (first | refine blk_drewN ?_ _ | refine blk_drew ?_ | refine blk_alloc ?_ _)); exact BK1055.out) : p := h
theorem Z37_1 {p : Prop} (h : p := by exact ((by rw [hg]; exact Nat.ne_of_lt (blk_lt (g := gb1055) (o := .cells #[.slice A0_0 l0_0.length c0_0, .slice A0_1 l0_1.length c0_1, .int .i64 a0_2, .int .i64 a0_3] 56 (0, 0)) Z37_9) : gb1055 ≠ gb1056))) : p := h
theorem Z37_2 {p : Prop} (h : p := by exact ((by rw [hg]; exact Nat.ne_of_gt (blk_lt (g := gb1055) (o := .cells #[.slice A0_0 l0_0.length c0_0, .slice A0_1 l0_1.length c0_1, .int .i64 a0_2, .int .i64 a0_3] 56 (0, 0)) Z37_9) : gb1056 ≠ gb1055))) : p := h
theorem Z37_3 {p : Prop} (h : p := by exact (blk_below (g := gb1055) (o := .cells #[.slice A0_0 l0_0.length c0_0, .slice A0_1 l0_1.length c0_1, .int .i64 a0_2, .int .i64 a0_3] 56 (0, 0)) Z37_9 hb)) : p := h
theorem Z37_4 {p : Prop} (h : p := by exact ((by rw [hg]; exact (below_size (by repeat (first | (with_reducible first | exact HB.out | apply below_alloc | apply pw_below_drewN | apply below_drew1 | refine below_set ?_ GE1055.out) | exact HB.out))) : w.heap.size ≤ gb1056))) : p := h
theorem Z37_5 {p : Prop} (h : p := by repeat (first | (with_reducible first | exact HB.out | apply below_alloc | apply pw_below_drewN | apply below_drew1 | refine below_set ?_ GE1055.out | refine below_set ?_ GE1056.out) | exact HB.out)) : p := h
theorem Z37_6 {p : Prop} (h : p := by exact ((by rw [hg]; exact (below_size (by repeat (first | (with_reducible first | exact HB.out | apply below_alloc | apply pw_below_drewN | apply below_drew1) | exact HB.out))) : w.heap.size ≤ gb1055))) : p := h
theorem Z37_7 {p : Prop} (h : p := by exact (below_step (by repeat (first | (with_reducible first | exact HB.out | apply below_alloc | apply pw_below_drewN | apply below_drew1 | refine below_set ?_ GE1055.out) | exact HB.out)) hb)) : p := h
theorem Z37_8 {p : Prop} (h : p := by exact (below_step (by repeat (first | (with_reducible first | exact HB.out | apply below_alloc | apply pw_below_drewN | apply below_drew1) | exact HB.out)) hb)) : p := h
theorem Z37_10 {p : Prop} (h : p := by (with_reducible repeat (first | refine blk_drewN ?_ _ | refine blk_drew ?_ | refine blk_alloc ?_ _)); exact BK1056.out) : p := h
theorem Z37_11 {p : Prop} (h : p := by first | rfl | (simp [errW_none, errW_some] <;> rfl) | (simp [*, errW_none, errW_some] <;> rfl)) : p := h
theorem Z37_12 {p : Prop} (h : p := by first | (with_reducible assumption) | assumption) : p := h
theorem Z37_13 {p : Prop} (h : p := by first | rfl | (simp; done) | (simp [*]; done)) : p := h
/-! ### spec_SameState: function 47 -/
mutual
def spec_SameState.j0 : Nat → Bool → List (S25) → List (S71) → Int → Int → List (S25) → List (S71) → Int → Int → Option (Bool)
  | 0, _, _, _, _, _, _, _, _, _ => none
  | k + 1, x36, x1056000, x1056001, x1056002, x1056003, x1057000, x1057001, x1057002, x1057003 => if x36 = true then (some false) else (spec_SameState.l0 k 0 x1056000 x1056001 x1056002 x1056003 x1057000 x1057001 x1057002 x1057003)
def spec_SameState.l0 : Nat → Int → List (S25) → List (S71) → Int → Int → List (S25) → List (S71) → Int → Int → Option (Bool)
  | 0, _, _, _, _, _, _, _, _, _ => none
  | k + 1, x5, x1056000, x1056001, x1056002, x1056003, x1057000, x1057001, x1057002, x1057003 => if x5 < (x1056000.length : Int) then (if 0 ≤ x5 then (if x5 < (x1057000.length : Int) then (if (!(((rd_T25 x1056000 x5).f0) == ((rd_T25 x1057000 x5).f0)) || (!(((rd_T25 x1056000 x5).f1) == ((rd_T25 x1057000 x5).f1)) || (!(((rd_T25 x1056000 x5).f2) == ((rd_T25 x1057000 x5).f2)) || (!(((rd_T25 x1056000 x5).f3) == ((rd_T25 x1057000 x5).f3)) || (!(((rd_T25 x1056000 x5).f4) == ((rd_T25 x1057000 x5).f4)) || (!(((rd_T25 x1056000 x5).f5) == ((rd_T25 x1057000 x5).f5)) || (!(((rd_T25 x1056000 x5).f6) == ((rd_T25 x1057000 x5).f6)) || (!(((rd_T25 x1056000 x5).f7) == ((rd_T25 x1057000 x5).f7)) || (!(((rd_T25 x1056000 x5).f8) == ((rd_T25 x1057000 x5).f8)) || (!(((rd_T25 x1056000 x5).f9) == ((rd_T25 x1057000 x5).f9)) || (!(((rd_T25 x1056000 x5).f10) == ((rd_T25 x1057000 x5).f10)) || (!(((rd_T25 x1056000 x5).f11) == ((rd_T25 x1057000 x5).f11)) || (!(((rd_T25 x1056000 x5).f12) == ((rd_T25 x1057000 x5).f12))))))))))))))) = true then (some false) else (spec_SameState.l0 k (wrap64 (x5 + 1)) x1056000 x1056001 x1056002 x1056003 x1057000 x1057001 x1057002 x1057003)) else (none)) else (none)) else (spec_SameState.l1 k 0 x1056000 x1056001 x1056002 x1056003 x1057000 x1057001 x1057002 x1057003)
def spec_SameState.l1 : Nat → Int → List (S25) → List (S71) → Int → Int → List (S25) → List (S71) → Int → Int → Option (Bool)
  | 0, _, _, _, _, _, _, _, _, _ => none
  | k + 1, x6, x1056000, x1056001, x1056002, x1056003, x1057000, x1057001, x1057002, x1057003 => if x6 < (x1056001.length : Int) then (if 0 ≤ x6 then (if x6 < (x1057001.length : Int) then (if (!(((rd_T71 x1056001 x6).f0) == ((rd_T71 x1057001 x6).f0)) || (!(((rd_T71 x1056001 x6).f1) == ((rd_T71 x1057001 x6).f1)) || (!(((rd_T71 x1056001 x6).f2) == ((rd_T71 x1057001 x6).f2))))) = true then (some false) else (spec_SameState.l1 k (wrap64 (x6 + 1)) x1056000 x1056001 x1056002 x1056003 x1057000 x1057001 x1057002 x1057003)) else (none)) else (none)) else (some true)
end
def spec_SameState.f (k : Nat) (l0_0 : List (S25)) (l0_1 : List (S71)) (a0_2 : Int) (a0_3 : Int) (l1_0 : List (S25)) (l1_1 : List (S71)) (a1_2 : Int) (a1_3 : Int) : Option (Bool) := if (l0_0.length : Int) = (l1_0.length : Int) then (if (l0_1.length : Int) = (l1_1.length : Int) then (if a0_2 = a1_2 then (spec_SameState.j0 k (a0_3 != a1_3) l0_0 l0_1 a0_2 a0_3 l1_0 l1_1 a1_2 a1_3) else (spec_SameState.j0 k true l0_0 l0_1 a0_2 a0_3 l1_0 l1_1 a1_2 a1_3)) else (spec_SameState.j0 k true l0_0 l0_1 a0_2 a0_3 l1_0 l1_1 a1_2 a1_3)) else (spec_SameState.j0 k true l0_0 l0_1 a0_2 a0_3 l1_0 l1_1 a1_2 a1_3)
theorem spec_SameState.mono_l : ∀ k, (∀ y0 y1 y2 y3 y4 y5 y6 y7 y8, LeO (spec_SameState.j0 k y0 y1 y2 y3 y4 y5 y6 y7 y8) (spec_SameState.j0 (k + 1) y0 y1 y2 y3 y4 y5 y6 y7 y8)) ∧ (∀ y0 y1 y2 y3 y4 y5 y6 y7 y8, LeO (spec_SameState.l0 k y0 y1 y2 y3 y4 y5 y6 y7 y8) (spec_SameState.l0 (k + 1) y0 y1 y2 y3 y4 y5 y6 y7 y8)) ∧ (∀ y0 y1 y2 y3 y4 y5 y6 y7 y8, LeO (spec_SameState.l1 k y0 y1 y2 y3 y4 y5 y6 y7 y8) (spec_SameState.l1 (k + 1) y0 y1 y2 y3 y4 y5 y6 y7 y8))
  | 0 => ⟨fun _ _ _ _ _ _ _ _ _ r h => by simp [spec_SameState.j0] at h, fun _ _ _ _ _ _ _ _ _ r h => by simp [spec_SameState.l0] at h, fun _ _ _ _ _ _ _ _ _ r h => by simp [spec_SameState.l1] at h⟩
  | k + 1 => by
    obtain ⟨ih0, ih1, ih2⟩ := spec_SameState.mono_l k
    refine ⟨?_, ?_, ?_⟩
    · intro y0 y1 y2 y3 y4 y5 y6 y7 y8
      unfold spec_SameState.j0
      repeat' first
      | (with_reducible exact ih0 _ _ _ _ _ _ _ _ _)
      | (with_reducible exact ih1 _ _ _ _ _ _ _ _ _)
      | (with_reducible exact ih2 _ _ _ _ _ _ _ _ _)
      | (with_reducible exact LeO.refl _)
      | (with_reducible exact LeO.none _)
      | (with_reducible refine LeO.ite ?_ ?_)
      | (with_reducible refine LeO.bind ?_ (fun _ => ?_))
      | exact ih0 _ _ _ _ _ _ _ _ _
      | exact ih1 _ _ _ _ _ _ _ _ _
      | exact ih2 _ _ _ _ _ _ _ _ _
      | exact LeO.none _
      | refine LeO.ite ?_ ?_
      | refine LeO.bind ?_ (fun _ => ?_)
    · intro y0 y1 y2 y3 y4 y5 y6 y7 y8
      unfold spec_SameState.l0
      repeat' first
      | (with_reducible exact ih0 _ _ _ _ _ _ _ _ _)
      | (with_reducible exact ih1 _ _ _ _ _ _ _ _ _)
      | (with_reducible exact ih2 _ _ _ _ _ _ _ _ _)
      | (with_reducible exact LeO.refl _)
      | (with_reducible exact LeO.none _)
      | (with_reducible refine LeO.ite ?_ ?_)
      | (with_reducible refine LeO.bind ?_ (fun _ => ?_))
      | exact ih0 _ _ _ _ _ _ _ _ _
      | exact ih1 _ _ _ _ _ _ _ _ _
      | exact ih2 _ _ _ _ _ _ _ _ _
      | exact LeO.none _
      | refine LeO.ite ?_ ?_
      | refine LeO.bind ?_ (fun _ => ?_)
    · intro y0 y1 y2 y3 y4 y5 y6 y7 y8
      unfold spec_SameState.l1
      repeat' first
      | (with_reducible exact ih0 _ _ _ _ _ _ _ _ _)
      | (with_reducible exact ih1 _ _ _ _ _ _ _ _ _)
      | (with_reducible exact ih2 _ _ _ _ _ _ _ _ _)
      | (with_reducible exact LeO.refl _)
      | (with_reducible exact LeO.none _)
      | (with_reducible refine LeO.ite ?_ ?_)
      | (with_reducible refine LeO.bind ?_ (fun _ => ?_))
      | exact ih0 _ _ _ _ _ _ _ _ _
      | exact ih1 _ _ _ _ _ _ _ _ _
      | exact ih2 _ _ _ _ _ _ _ _ _
      | exact LeO.none _
      | refine LeO.ite ?_ ?_
      | refine LeO.bind ?_ (fun _ => ?_)
theorem spec_SameState.mono : ∀ a0 a1 a2 a3 a4 a5 a6 a7 k, LeO (spec_SameState.f k a0 a1 a2 a3 a4 a5 a6 a7) (spec_SameState.f (k + 1) a0 a1 a2 a3 a4 a5 a6 a7) := by
  intro a0 a1 a2 a3 a4 a5 a6 a7 k
  obtain ⟨ih0, ih1, ih2⟩ := spec_SameState.mono_l k
  unfold spec_SameState.f
  repeat' first
      | (with_reducible exact ih0 _ _ _ _ _ _ _ _ _)
      | (with_reducible exact ih1 _ _ _ _ _ _ _ _ _)
      | (with_reducible exact ih2 _ _ _ _ _ _ _ _ _)
      | (with_reducible exact LeO.refl _)
      | (with_reducible exact LeO.none _)
      | (with_reducible refine LeO.ite ?_ ?_)
      | (with_reducible refine LeO.bind ?_ (fun _ => ?_))
      | exact ih0 _ _ _ _ _ _ _ _ _
      | exact ih1 _ _ _ _ _ _ _ _ _
      | exact ih2 _ _ _ _ _ _ _ _ _
      | exact LeO.none _
      | refine LeO.ite ?_ ?_
      | refine LeO.bind ?_ (fun _ => ?_)
set_option maxHeartbeats 8000000 in
set_option maxRecDepth 100000 in
theorem spec_SameState.calls (k : Nat) (A0_0 : Option Addr) (c0_0 : Nat) (l0_0 : List (S25)) (A0_1 : Option Addr) (c0_1 : Nat) (l0_1 : List (S71)) (a0_2 : Int) (a0_3 : Int) (A1_0 : Option Addr) (c1_0 : Nat) (l1_0 : List (S25)) (A1_1 : Option Addr) (c1_1 : Nat) (l1_1 : List (S71)) (a1_2 : Int) (a1_3 : Int) (r : Bool) (w : World) (hr0_0 : Kd.C k25 w A0_0 l0_0.length l0_0) (hc0_0 : l0_0.length ≤ c0_0) (hr0_1 : Kd.C k71 w A0_1 l0_1.length l0_1) (hc0_1 : l0_1.length ≤ c0_1) (hr1_0 : Kd.C k25 w A1_0 l1_0.length l1_0) (hc1_0 : l1_0.length ≤ c1_0) (hr1_1 : Kd.C k71 w A1_1 l1_1.length l1_1) (hc1_1 : l1_1.length ≤ c1_1) (h : spec_SameState.f k l0_0 l0_1 a0_2 a0_3 l1_0 l1_1 a1_2 a1_3 = some r) :
    Calls Try.prog 47 #[.agg #[.slice A0_0 l0_0.length c0_0, .slice A0_1 l0_1.length c0_1, .int .i64 a0_2, .int .i64 a0_3], .agg #[.slice A1_0 l1_0.length c1_0, .slice A1_1 l1_1.length c1_1, .int .i64 a1_2, .int .i64 a1_3]] w fun e w' => e = .returned (.bool r) ∧ Below w.heap.size w w' := by
  have hu56 := Try.underlying56
  have hu25 := Try.underlying25
  have hu71 := Try.underlying71
  have HR0_0 := Aside0.mk hr0_0
  have HC0_0 := Aside0.mk hc0_0
  clear hr0_0 hc0_0
  have HR0_1 := Aside0.mk hr0_1
  have HC0_1 := Aside0.mk hc0_1
  clear hr0_1 hc0_1
  have HR1_0 := Aside0.mk hr1_0
  have HC1_0 := Aside0.mk hc1_0
  clear hr1_0 hc1_0
  have HR1_1 := Aside0.mk hr1_1
  have HC1_1 := Aside0.mk hc1_1
  clear hr1_1 hc1_1
  have HB := Aside0.mk (Below.refl w.heap.size w)
  have H : (if (l0_0.length : Int) = (l1_0.length : Int) then (if (l0_1.length : Int) = (l1_1.length : Int) then (if a0_2 = a1_2 then (spec_SameState.j0 k (a0_3 != a1_3) l0_0 l0_1 a0_2 a0_3 l1_0 l1_1 a1_2 a1_3) else (spec_SameState.j0 k true l0_0 l0_1 a0_2 a0_3 l1_0 l1_1 a1_2 a1_3)) else (spec_SameState.j0 k true l0_0 l0_1 a0_2 a0_3 l1_0 l1_1 a1_2 a1_3)) else (spec_SameState.j0 k true l0_0 l0_1 a0_2 a0_3 l1_0 l1_1 a1_2 a1_3)) = some r := h
  clear h
  have HC3 := Aside0.mk H
  clear H
  go_enter Try.func47, Try.ntmps47
  go_upto_region 1 with (first | ((with_reducible refine gate_dst (N := 2) rfl ?_); (try (refine gate_guard (by rfl) ?_; dsimp only)); refine box_event ?hg (N := 2) ?hd (cs := #[.slice A0_0 l0_0.length c0_0, .slice A0_1 l0_1.length c0_1, .int .i64 a0_2, .int .i64 a0_3]) (t := 56) ?hr ?_; (case hd => rfl); (case hg => rfl); (case hr => first | (go_simp; done) | (go_simp; rfl)); intro gb1055 hg w4 hbox hb; have n0_ := Aside0.mk Z37_8; have n1_ := Aside0.mk (hbox); have n2_ := Aside0.mk Z37_6; have n3_ := Aside0.mk Z37_6; clear HB; have HB := n0_; have BK1055 := n1_; have GW1055 := n2_; have GE1055 := n3_; clear n0_ n1_ n2_ n3_; clear hb hbox hg) | ((with_reducible refine gate_dst (N := 3) rfl ?_); (try (refine gate_guard (by rfl) ?_; dsimp only)); refine box_event ?hg (N := 3) ?hd (cs := #[.slice A1_0 l1_0.length c1_0, .slice A1_1 l1_1.length c1_1, .int .i64 a1_2, .int .i64 a1_3]) (t := 56) ?hr ?_; (case hd => rfl); (case hg => rfl); (case hr => first | (go_simp; done) | (go_simp; rfl)); intro gb1056 hg w5 hbox hb; have n0_ := Aside0.mk Z37_3; have n1_ := Aside0.mk Z37_7; have n2_ := Aside0.mk (hbox); have n3_ := Aside0.mk Z37_4; have n4_ := Aside0.mk Z37_4; have n5_ := Aside0.mk Z37_1; have n6_ := Aside0.mk Z37_2; clear BK1055; clear HB; have BK1055 := n0_; have HB := n1_; have BK1056 := n2_; have GW1056 := n3_; have GE1056 := n4_; have NB1055_1056 := n5_; have NB1056_1055 := n6_; clear n0_ n1_ n2_ n3_ n4_ n5_ n6_; clear hb hbox hg))
  repeat (go_quiet (first | ((with_reducible refine gate_dst (N := 2) rfl ?_); (try (refine gate_guard (by rfl) ?_; dsimp only)); refine box_event ?hg (N := 2) ?hd (cs := #[.slice A0_0 l0_0.length c0_0, .slice A0_1 l0_1.length c0_1, .int .i64 a0_2, .int .i64 a0_3]) (t := 56) ?hr ?_; (case hd => rfl); (case hg => rfl); (case hr => first | (go_simp; done) | (go_simp; rfl)); intro gb1055 hg w4 hbox hb; have n0_ := Aside0.mk Z37_8; have n1_ := Aside0.mk (hbox); have n2_ := Aside0.mk Z37_6; have n3_ := Aside0.mk Z37_6; clear HB; have HB := n0_; have BK1055 := n1_; have GW1055 := n2_; have GE1055 := n3_; clear n0_ n1_ n2_ n3_; clear hb hbox hg) | ((with_reducible refine gate_dst (N := 3) rfl ?_); (try (refine gate_guard (by rfl) ?_; dsimp only)); refine box_event ?hg (N := 3) ?hd (cs := #[.slice A1_0 l1_0.length c1_0, .slice A1_1 l1_1.length c1_1, .int .i64 a1_2, .int .i64 a1_3]) (t := 56) ?hr ?_; (case hd => rfl); (case hg => rfl); (case hr => first | (go_simp; done) | (go_simp; rfl)); intro gb1056 hg w5 hbox hb; have n0_ := Aside0.mk Z37_3; have n1_ := Aside0.mk Z37_7; have n2_ := Aside0.mk (hbox); have n3_ := Aside0.mk Z37_4; have n4_ := Aside0.mk Z37_4; have n5_ := Aside0.mk Z37_1; have n6_ := Aside0.mk Z37_2; clear BK1055; clear HB; have BK1055 := n0_; have HB := n1_; have BK1056 := n2_; have GW1056 := n3_; have GE1056 := n4_; have NB1055_1056 := n5_; have NB1056_1055 := n6_; clear n0_ n1_ n2_ n3_ n4_ n5_ n6_; clear hb hbox hg)); go_upto_region 1 with (first | ((with_reducible refine gate_dst (N := 2) rfl ?_); (try (refine gate_guard (by rfl) ?_; dsimp only)); refine box_event ?hg (N := 2) ?hd (cs := #[.slice A0_0 l0_0.length c0_0, .slice A0_1 l0_1.length c0_1, .int .i64 a0_2, .int .i64 a0_3]) (t := 56) ?hr ?_; (case hd => rfl); (case hg => rfl); (case hr => first | (go_simp; done) | (go_simp; rfl)); intro gb1055 hg w4 hbox hb; have n0_ := Aside0.mk Z37_8; have n1_ := Aside0.mk (hbox); have n2_ := Aside0.mk Z37_6; have n3_ := Aside0.mk Z37_6; clear HB; have HB := n0_; have BK1055 := n1_; have GW1055 := n2_; have GE1055 := n3_; clear n0_ n1_ n2_ n3_; clear hb hbox hg) | ((with_reducible refine gate_dst (N := 3) rfl ?_); (try (refine gate_guard (by rfl) ?_; dsimp only)); refine box_event ?hg (N := 3) ?hd (cs := #[.slice A1_0 l1_0.length c1_0, .slice A1_1 l1_1.length c1_1, .int .i64 a1_2, .int .i64 a1_3]) (t := 56) ?hr ?_; (case hd => rfl); (case hg => rfl); (case hr => first | (go_simp; done) | (go_simp; rfl)); intro gb1056 hg w5 hbox hb; have n0_ := Aside0.mk Z37_3; have n1_ := Aside0.mk Z37_7; have n2_ := Aside0.mk (hbox); have n3_ := Aside0.mk Z37_4; have n4_ := Aside0.mk Z37_4; have n5_ := Aside0.mk Z37_1; have n6_ := Aside0.mk Z37_2; clear BK1055; clear HB; have BK1055 := n0_; have HB := n1_; have BK1056 := n2_; have GW1056 := n3_; have GE1056 := n4_; have NB1055_1056 := n5_; have NB1056_1055 := n6_; clear n0_ n1_ n2_ n3_ n4_ n5_ n6_; clear hb hbox hg)))
  (try simp only [Act.put, List.setIfInBounds_toArray, List.set_cons_zero, List.set_cons_succ])
  go_cut [36] (fun v36 wc => ∃ (kq : Nat) (x36_2 : Bool), v36 = .bool x36_2 ∧ Aside0 (spec_SameState.j0 kq x36_2 l0_0 l0_1 a0_2 a0_3 l1_0 l1_1 a1_2 a1_3 = some r) ∧ Aside0 (kq ≤ k) ∧ Aside0 (wc.heap[gb1055]? = some (.cells #[(.slice A0_0 l0_0.length c0_0), (.slice A0_1 l0_1.length c0_1), .int .i64 a0_2, .int .i64 a0_3] 56 (0, 0))) ∧ Aside0 (wc.heap[gb1056]? = some (.cells #[(.slice A1_0 l1_0.length c1_0), (.slice A1_1 l1_1.length c1_1), .int .i64 a1_2, .int .i64 a1_3] 56 (0, 0))) ∧ Aside0 (Below w.heap.size w wc))
  case first =>
    have H := HC3.out
    clear HC3
    by_cases c6 : (l0_0.length : Int) = (l1_0.length : Int)
    rotate_left
    · rw [if_neg c6] at H
      have c6b0 : ((l0_0.length : Int) == (l1_0.length : Int)) = false := beq_eq_false_iff_ne.mpr c6
      have c6b1 : ((l0_0.length : Int) != (l1_0.length : Int)) = true := bne_iff_ne.mpr c6
      have c6b2 : (l0_0.length == l1_0.length) = false := by first | simpa using c6 | (simp at c6 ⊢; omega)
      (first | rw [c6b0] | (simp only [i64_w, i32_w]; rw [c6b0]) | skip)
      have H' := Aside0.mk H
      clear H
      have hnb18 := NB1055_1056.out
      have hnc18 := NB1056_1055.out
      obtain ⟨⟨hcz19_0, hcz19_1, hcz19_2, hcz19_3⟩, hfz19_0, hfz19_1, hfz19_2, hfz19_3⟩ := C37_4 BK1055.out
      obtain ⟨⟨hcz20_0, hcz20_1, hcz20_2, hcz20_3⟩, hfz20_0, hfz20_1, hfz20_2, hfz20_3⟩ := C37_4 BK1056.out
      go_wp2
      repeat (go_quiet (fail); try go_wp2)
      go_meet
      case rel => exact ⟨_, (true), Z37_13, H', ⟨(by first | omega | exact Nat.le_refl _)⟩, ⟨Z37_9⟩, ⟨Z37_10⟩, ⟨Z37_5⟩⟩
    rw [if_pos c6] at H
    have c6b0 : ((l0_0.length : Int) == (l1_0.length : Int)) = true := beq_iff_eq.mpr c6
    have c6b1 : ((l0_0.length : Int) != (l1_0.length : Int)) = false := bne_eq_false_iff_eq.mpr c6
    have c6b2 : (l0_0.length == l1_0.length) = true := by first | simpa using c6 | (simp at c6 ⊢; omega)
    clear c6
    (first | rw [c6b0] | (simp only [i64_w, i32_w]; rw [c6b0]) | skip)
    by_cases c7 : (l0_1.length : Int) = (l1_1.length : Int)
    rotate_left
    · rw [if_neg c7] at H
      have c7b0 : ((l0_1.length : Int) == (l1_1.length : Int)) = false := beq_eq_false_iff_ne.mpr c7
      have c7b1 : ((l0_1.length : Int) != (l1_1.length : Int)) = true := bne_iff_ne.mpr c7
      have c7b2 : (l0_1.length == l1_1.length) = false := by first | simpa using c7 | (simp at c7 ⊢; omega)
      have H' := Aside0.mk H
      clear H
      have hnb15 := NB1055_1056.out
      have hnc15 := NB1056_1055.out
      obtain ⟨⟨hcz16_0, hcz16_1, hcz16_2, hcz16_3⟩, hfz16_0, hfz16_1, hfz16_2, hfz16_3⟩ := C37_4 BK1055.out
      obtain ⟨⟨hcz17_0, hcz17_1, hcz17_2, hcz17_3⟩, hfz17_0, hfz17_1, hfz17_2, hfz17_3⟩ := C37_4 BK1056.out
      go_wp2
      repeat (go_quiet (fail); try go_wp2)
      go_meet
      case rel => exact ⟨_, (true), Z37_13, H', ⟨(by first | omega | exact Nat.le_refl _)⟩, ⟨Z37_9⟩, ⟨Z37_10⟩, ⟨Z37_5⟩⟩
    rw [if_pos c7] at H
    have c7b0 : ((l0_1.length : Int) == (l1_1.length : Int)) = true := beq_iff_eq.mpr c7
    have c7b1 : ((l0_1.length : Int) != (l1_1.length : Int)) = false := bne_eq_false_iff_eq.mpr c7
    have c7b2 : (l0_1.length == l1_1.length) = true := by first | simpa using c7 | (simp at c7 ⊢; omega)
    clear c7
    by_cases c8 : a0_2 = a1_2
    rotate_left
    · rw [if_neg c8] at H
      have c8b0 : (a0_2 == a1_2) = false := beq_eq_false_iff_ne.mpr c8
      have c8b1 : (a0_2 != a1_2) = true := bne_iff_ne.mpr c8
      have H' := Aside0.mk H
      clear H
      have hnb12 := NB1055_1056.out
      have hnc12 := NB1056_1055.out
      obtain ⟨⟨hcz13_0, hcz13_1, hcz13_2, hcz13_3⟩, hfz13_0, hfz13_1, hfz13_2, hfz13_3⟩ := C37_4 BK1055.out
      obtain ⟨⟨hcz14_0, hcz14_1, hcz14_2, hcz14_3⟩, hfz14_0, hfz14_1, hfz14_2, hfz14_3⟩ := C37_4 BK1056.out
      go_wp2
      repeat (go_quiet (fail); try go_wp2)
      go_meet
      case rel => exact ⟨_, (true), Z37_13, H', ⟨(by first | omega | exact Nat.le_refl _)⟩, ⟨Z37_9⟩, ⟨Z37_10⟩, ⟨Z37_5⟩⟩
    rw [if_pos c8] at H
    have c8b0 : (a0_2 == a1_2) = true := beq_iff_eq.mpr c8
    have c8b1 : (a0_2 != a1_2) = false := bne_eq_false_iff_eq.mpr c8
    clear c8
    have H' := Aside0.mk H
    clear H
    have hnb9 := NB1055_1056.out
    have hnc9 := NB1056_1055.out
    obtain ⟨⟨hcz10_0, hcz10_1, hcz10_2, hcz10_3⟩, hfz10_0, hfz10_1, hfz10_2, hfz10_3⟩ := C37_4 BK1055.out
    obtain ⟨⟨hcz11_0, hcz11_1, hcz11_2, hcz11_3⟩, hfz11_0, hfz11_1, hfz11_2, hfz11_3⟩ := C37_4 BK1056.out
    go_wp2
    repeat (go_quiet (fail); try go_wp2)
    go_meet
    case rel => exact ⟨_, ((a0_3 != a1_3)), Z37_13, H', ⟨(by first | omega | exact Nat.le_refl _)⟩, ⟨Z37_9⟩, ⟨Z37_10⟩, ⟨Z37_5⟩⟩
  case rest =>
    clear HC3
    try clear c1
    try clear p2
    try clear c4
    try clear c6
    try clear c6b0
    try clear c6b1
    try clear c6b2
    try clear c7
    try clear c7b0
    try clear c7b1
    try clear c7b2
    try clear c8
    try clear c8b0
    try clear c8b1
    try clear c9
    try clear c12
    try clear c15
    try clear c18
    try clear hcz10_0
    try clear hcz10_1
    try clear hcz10_2
    try clear hcz10_3
    try clear hcz11_0
    try clear hcz11_1
    try clear hcz11_2
    try clear hcz11_3
    try clear hcz13_0
    try clear hcz13_1
    try clear hcz13_2
    try clear hcz13_3
    try clear hcz14_0
    try clear hcz14_1
    try clear hcz14_2
    try clear hcz14_3
    try clear hcz16_0
    try clear hcz16_1
    try clear hcz16_2
    try clear hcz16_3
    try clear hcz17_0
    try clear hcz17_1
    try clear hcz17_2
    try clear hcz17_3
    try clear hcz19_0
    try clear hcz19_1
    try clear hcz19_2
    try clear hcz19_3
    try clear hcz20_0
    try clear hcz20_1
    try clear hcz20_2
    try clear hcz20_3
    try clear hfz10_0
    try clear hfz10_1
    try clear hfz10_2
    try clear hfz10_3
    try clear hfz11_0
    try clear hfz11_1
    try clear hfz11_2
    try clear hfz11_3
    try clear hfz13_0
    try clear hfz13_1
    try clear hfz13_2
    try clear hfz13_3
    try clear hfz14_0
    try clear hfz14_1
    try clear hfz14_2
    try clear hfz14_3
    try clear hfz16_0
    try clear hfz16_1
    try clear hfz16_2
    try clear hfz16_3
    try clear hfz17_0
    try clear hfz17_1
    try clear hfz17_2
    try clear hfz17_3
    try clear hfz19_0
    try clear hfz19_1
    try clear hfz19_2
    try clear hfz19_3
    try clear hfz20_0
    try clear hfz20_1
    try clear hfz20_2
    try clear hfz20_3
    obtain ⟨kq, x36_2, rfl, HA, HJ2, BK1055, BK1056, HB⟩ := hcut
    cases kq with
    | zero => exact absurd HA.out (by simp [spec_SameState.j0])
    | succ kj2 =>
      have H := HA.out
      clear HA
      simp only [spec_SameState.j0] at H
      by_cases c21 : x36_2 = true
      · subst c21
        have H1 : (some false) = some r := by rw [if_pos rfl] at H; exact H
        clear H
        have H := H1
        clear H1
        obtain rfl := Option.some.inj H
        go_wp2
        repeat (go_quiet (fail); try go_wp2)
        go_ret
        exact ⟨Z37_11, Z37_5⟩
      replace c21 := Bool.eq_false_iff.mpr c21
      subst c21
      have H1 : (spec_SameState.l0 kj2 0 l0_0 l0_1 a0_2 a0_3 l1_0 l1_1 a1_2 a1_3) = some r := by rw [if_neg (show ¬ (false = true) by decide)] at H; exact H
      clear H
      have H := H1
      clear H1
      have H' := Aside0.mk H
      clear H
      go_wp2
      repeat (go_quiet (fail); try go_wp2)
      go_loopg [5] kj2 (fun kq v5 w' => ∃ (x5_2 : Int), v5 = .int .i64 x5_2 ∧ Aside0 (spec_SameState.l0 kq x5_2 l0_0 l0_1 a0_2 a0_3 l1_0 l1_1 a1_2 a1_3 = some r) ∧ Aside0 (kq ≤ kj2) ∧ Aside0 (w'.heap[gb1055]? = some (.cells #[(.slice A0_0 l0_0.length c0_0), (.slice A0_1 l0_1.length c0_1), .int .i64 a0_2, .int .i64 a0_3] 56 (0, 0))) ∧ Aside0 (w'.heap[gb1056]? = some (.cells #[(.slice A1_0 l1_0.length c1_0), (.slice A1_1 l1_1.length c1_1), .int .i64 a1_2, .int .i64 a1_3] 56 (0, 0))) ∧ Aside0 (Below w.heap.size w w'))
      case atStart => exact ⟨(0), Z37_13, H', ⟨Nat.le_refl _⟩, ⟨Z37_9⟩, ⟨Z37_10⟩, ⟨Z37_5⟩⟩
      case round =>
        clear H'
        try clear c1
        try clear c2
        try clear p2
        try clear c4
        try clear c6
        try clear c6b0
        try clear c6b1
        try clear c6b2
        try clear c7
        try clear c7b0
        try clear c7b1
        try clear c7b2
        try clear c8
        try clear c8b0
        try clear c8b1
        try clear c9
        try clear c12
        try clear c15
        try clear c18
        try clear c21
        try clear hcz10_0
        try clear hcz10_1
        try clear hcz10_2
        try clear hcz10_3
        try clear hcz11_0
        try clear hcz11_1
        try clear hcz11_2
        try clear hcz11_3
        try clear hcz13_0
        try clear hcz13_1
        try clear hcz13_2
        try clear hcz13_3
        try clear hcz14_0
        try clear hcz14_1
        try clear hcz14_2
        try clear hcz14_3
        try clear hcz16_0
        try clear hcz16_1
        try clear hcz16_2
        try clear hcz16_3
        try clear hcz17_0
        try clear hcz17_1
        try clear hcz17_2
        try clear hcz17_3
        try clear hcz19_0
        try clear hcz19_1
        try clear hcz19_2
        try clear hcz19_3
        try clear hcz20_0
        try clear hcz20_1
        try clear hcz20_2
        try clear hcz20_3
        try clear hfz10_0
        try clear hfz10_1
        try clear hfz10_2
        try clear hfz10_3
        try clear hfz11_0
        try clear hfz11_1
        try clear hfz11_2
        try clear hfz11_3
        try clear hfz13_0
        try clear hfz13_1
        try clear hfz13_2
        try clear hfz13_3
        try clear hfz14_0
        try clear hfz14_1
        try clear hfz14_2
        try clear hfz14_3
        try clear hfz16_0
        try clear hfz16_1
        try clear hfz16_2
        try clear hfz16_3
        try clear hfz17_0
        try clear hfz17_1
        try clear hfz17_2
        try clear hfz17_3
        try clear hfz19_0
        try clear hfz19_1
        try clear hfz19_2
        try clear hfz19_3
        try clear hfz20_0
        try clear hfz20_1
        try clear hfz20_2
        try clear hfz20_3
        try clear p2
        obtain ⟨x5_2, rfl, HA, HK2, BK1055, BK1056, HB⟩ := hrel
        cases gk with
        | zero => exact absurd HA.out (by simp [spec_SameState.l0])
        | succ k2 =>
          have H := HA.out
          clear HA
          simp only [spec_SameState.l0] at H
          by_cases c22 : x5_2 < (l0_0.length : Int)
          · rw [if_pos c22] at H
            have c22b0 : decide (x5_2 < (l0_0.length : Int)) = true := decide_eq_true c22
            clear c22
            by_cases c23 : 0 ≤ x5_2
            rotate_left
            · rw [if_neg c23] at H
              exact absurd H (by simp)
            rw [if_pos c23] at H
            have c23b0 : decide (0 ≤ x5_2) = true := decide_eq_true c23
            clear c23
            by_cases c24 : x5_2 < (l1_0.length : Int)
            rotate_left
            · rw [if_neg c24] at H
              exact absurd H (by simp)
            rw [if_pos c24] at H
            have c24b0 : decide (x5_2 < (l1_0.length : Int)) = true := decide_eq_true c24
            clear c24
            by_cases c25 : (!(((rd_T25 l0_0 x5_2).f0) == ((rd_T25 l1_0 x5_2).f0)) || (!(((rd_T25 l0_0 x5_2).f1) == ((rd_T25 l1_0 x5_2).f1)) || (!(((rd_T25 l0_0 x5_2).f2) == ((rd_T25 l1_0 x5_2).f2)) || (!(((rd_T25 l0_0 x5_2).f3) == ((rd_T25 l1_0 x5_2).f3)) || (!(((rd_T25 l0_0 x5_2).f4) == ((rd_T25 l1_0 x5_2).f4)) || (!(((rd_T25 l0_0 x5_2).f5) == ((rd_T25 l1_0 x5_2).f5)) || (!(((rd_T25 l0_0 x5_2).f6) == ((rd_T25 l1_0 x5_2).f6)) || (!(((rd_T25 l0_0 x5_2).f7) == ((rd_T25 l1_0 x5_2).f7)) || (!(((rd_T25 l0_0 x5_2).f8) == ((rd_T25 l1_0 x5_2).f8)) || (!(((rd_T25 l0_0 x5_2).f9) == ((rd_T25 l1_0 x5_2).f9)) || (!(((rd_T25 l0_0 x5_2).f10) == ((rd_T25 l1_0 x5_2).f10)) || (!(((rd_T25 l0_0 x5_2).f11) == ((rd_T25 l1_0 x5_2).f11)) || (!(((rd_T25 l0_0 x5_2).f12) == ((rd_T25 l1_0 x5_2).f12))))))))))))))) = true
            · rw [if_pos c25] at H
              have c25b0 : (!(((rd_T25 l0_0 x5_2).f0) == ((rd_T25 l1_0 x5_2).f0)) || (!(((rd_T25 l0_0 x5_2).f1) == ((rd_T25 l1_0 x5_2).f1)) || (!(((rd_T25 l0_0 x5_2).f2) == ((rd_T25 l1_0 x5_2).f2)) || (!(((rd_T25 l0_0 x5_2).f3) == ((rd_T25 l1_0 x5_2).f3)) || (!(((rd_T25 l0_0 x5_2).f4) == ((rd_T25 l1_0 x5_2).f4)) || (!(((rd_T25 l0_0 x5_2).f5) == ((rd_T25 l1_0 x5_2).f5)) || (!(((rd_T25 l0_0 x5_2).f6) == ((rd_T25 l1_0 x5_2).f6)) || (!(((rd_T25 l0_0 x5_2).f7) == ((rd_T25 l1_0 x5_2).f7)) || (!(((rd_T25 l0_0 x5_2).f8) == ((rd_T25 l1_0 x5_2).f8)) || (!(((rd_T25 l0_0 x5_2).f9) == ((rd_T25 l1_0 x5_2).f9)) || (!(((rd_T25 l0_0 x5_2).f10) == ((rd_T25 l1_0 x5_2).f10)) || (!(((rd_T25 l0_0 x5_2).f11) == ((rd_T25 l1_0 x5_2).f11)) || (!(((rd_T25 l0_0 x5_2).f12) == ((rd_T25 l1_0 x5_2).f12))))))))))))))) = true := c25
              clear c25
              obtain rfl := Option.some.inj H
              have hnb26 := NB1055_1056.out
              have hnc26 := NB1056_1055.out
              obtain ⟨⟨hcz27_0, hcz27_1, hcz27_2, hcz27_3⟩, hfz27_0, hfz27_1, hfz27_2, hfz27_3⟩ := C37_4 BK1055.out
              have p1057 : 0 ≤ (x5_2 : Int) := of_decide_eq_true Z37_12
              have q1057 : x5_2 < (l0_0.length : Int) := of_decide_eq_true Z37_12
              obtain ⟨ad1057, e1057, hx1057_0, hx1057_1, hx1057_2, hx1057_3, hx1057_4, hx1057_5, hx1057_6, hx1057_7, hx1057_8, hx1057_9, hx1057_10, hx1057_11, hx1057_12⟩ := at_T25 HR0_0.out x5_2 p1057 q1057
              cases e1057
              replace hx1057_0 := (HB.out.cell (World.block_lt_of_cell? w _ hx1057_0)).trans hx1057_0
              replace hx1057_1 := (HB.out.cell (World.block_lt_of_cell? w _ hx1057_1)).trans hx1057_1
              replace hx1057_2 := (HB.out.cell (World.block_lt_of_cell? w _ hx1057_2)).trans hx1057_2
              replace hx1057_3 := (HB.out.cell (World.block_lt_of_cell? w _ hx1057_3)).trans hx1057_3
              replace hx1057_4 := (HB.out.cell (World.block_lt_of_cell? w _ hx1057_4)).trans hx1057_4
              replace hx1057_5 := (HB.out.cell (World.block_lt_of_cell? w _ hx1057_5)).trans hx1057_5
              replace hx1057_6 := (HB.out.cell (World.block_lt_of_cell? w _ hx1057_6)).trans hx1057_6
              replace hx1057_7 := (HB.out.cell (World.block_lt_of_cell? w _ hx1057_7)).trans hx1057_7
              replace hx1057_8 := (HB.out.cell (World.block_lt_of_cell? w _ hx1057_8)).trans hx1057_8
              replace hx1057_9 := (HB.out.cell (World.block_lt_of_cell? w _ hx1057_9)).trans hx1057_9
              replace hx1057_10 := (HB.out.cell (World.block_lt_of_cell? w _ hx1057_10)).trans hx1057_10
              replace hx1057_11 := (HB.out.cell (World.block_lt_of_cell? w _ hx1057_11)).trans hx1057_11
              replace hx1057_12 := (HB.out.cell (World.block_lt_of_cell? w _ hx1057_12)).trans hx1057_12
              replace p1057 := eq_true p1057
              replace q1057 := eq_true q1057
              obtain ⟨⟨hcz28_0, hcz28_1, hcz28_2, hcz28_3⟩, hfz28_0, hfz28_1, hfz28_2, hfz28_3⟩ := C37_4 BK1056.out
              have p1058 : 0 ≤ (x5_2 : Int) := of_decide_eq_true Z37_12
              have q1058 : x5_2 < (l1_0.length : Int) := of_decide_eq_true Z37_12
              obtain ⟨ad1058, e1058, hx1058_0, hx1058_1, hx1058_2, hx1058_3, hx1058_4, hx1058_5, hx1058_6, hx1058_7, hx1058_8, hx1058_9, hx1058_10, hx1058_11, hx1058_12⟩ := at_T25 HR1_0.out x5_2 p1058 q1058
              cases e1058
              replace hx1058_0 := (HB.out.cell (World.block_lt_of_cell? w _ hx1058_0)).trans hx1058_0
              replace hx1058_1 := (HB.out.cell (World.block_lt_of_cell? w _ hx1058_1)).trans hx1058_1
              replace hx1058_2 := (HB.out.cell (World.block_lt_of_cell? w _ hx1058_2)).trans hx1058_2
              replace hx1058_3 := (HB.out.cell (World.block_lt_of_cell? w _ hx1058_3)).trans hx1058_3
              replace hx1058_4 := (HB.out.cell (World.block_lt_of_cell? w _ hx1058_4)).trans hx1058_4
              replace hx1058_5 := (HB.out.cell (World.block_lt_of_cell? w _ hx1058_5)).trans hx1058_5
              replace hx1058_6 := (HB.out.cell (World.block_lt_of_cell? w _ hx1058_6)).trans hx1058_6
              replace hx1058_7 := (HB.out.cell (World.block_lt_of_cell? w _ hx1058_7)).trans hx1058_7
              replace hx1058_8 := (HB.out.cell (World.block_lt_of_cell? w _ hx1058_8)).trans hx1058_8
              replace hx1058_9 := (HB.out.cell (World.block_lt_of_cell? w _ hx1058_9)).trans hx1058_9
              replace hx1058_10 := (HB.out.cell (World.block_lt_of_cell? w _ hx1058_10)).trans hx1058_10
              replace hx1058_11 := (HB.out.cell (World.block_lt_of_cell? w _ hx1058_11)).trans hx1058_11
              replace hx1058_12 := (HB.out.cell (World.block_lt_of_cell? w _ hx1058_12)).trans hx1058_12
              replace p1058 := eq_true p1058
              replace q1058 := eq_true q1058
              go_wp2
              repeat (go_quiet (fail); try go_wp2)
              go_ret
              exact ⟨Z37_11, Z37_5⟩
            rw [if_neg c25] at H
            have c25b0 : (!(((rd_T25 l0_0 x5_2).f0) == ((rd_T25 l1_0 x5_2).f0)) || (!(((rd_T25 l0_0 x5_2).f1) == ((rd_T25 l1_0 x5_2).f1)) || (!(((rd_T25 l0_0 x5_2).f2) == ((rd_T25 l1_0 x5_2).f2)) || (!(((rd_T25 l0_0 x5_2).f3) == ((rd_T25 l1_0 x5_2).f3)) || (!(((rd_T25 l0_0 x5_2).f4) == ((rd_T25 l1_0 x5_2).f4)) || (!(((rd_T25 l0_0 x5_2).f5) == ((rd_T25 l1_0 x5_2).f5)) || (!(((rd_T25 l0_0 x5_2).f6) == ((rd_T25 l1_0 x5_2).f6)) || (!(((rd_T25 l0_0 x5_2).f7) == ((rd_T25 l1_0 x5_2).f7)) || (!(((rd_T25 l0_0 x5_2).f8) == ((rd_T25 l1_0 x5_2).f8)) || (!(((rd_T25 l0_0 x5_2).f9) == ((rd_T25 l1_0 x5_2).f9)) || (!(((rd_T25 l0_0 x5_2).f10) == ((rd_T25 l1_0 x5_2).f10)) || (!(((rd_T25 l0_0 x5_2).f11) == ((rd_T25 l1_0 x5_2).f11)) || (!(((rd_T25 l0_0 x5_2).f12) == ((rd_T25 l1_0 x5_2).f12))))))))))))))) = false := by simpa using c25
            clear c25
            have H' := Aside0.mk H
            clear H
            have hnb29 := NB1055_1056.out
            have hnc29 := NB1056_1055.out
            obtain ⟨⟨hcz30_0, hcz30_1, hcz30_2, hcz30_3⟩, hfz30_0, hfz30_1, hfz30_2, hfz30_3⟩ := C37_4 BK1055.out
            have p1057 : 0 ≤ (x5_2 : Int) := of_decide_eq_true Z37_12
            have q1057 : x5_2 < (l0_0.length : Int) := of_decide_eq_true Z37_12
            obtain ⟨ad1057, e1057, hx1057_0, hx1057_1, hx1057_2, hx1057_3, hx1057_4, hx1057_5, hx1057_6, hx1057_7, hx1057_8, hx1057_9, hx1057_10, hx1057_11, hx1057_12⟩ := at_T25 HR0_0.out x5_2 p1057 q1057
            cases e1057
            replace hx1057_0 := (HB.out.cell (World.block_lt_of_cell? w _ hx1057_0)).trans hx1057_0
            replace hx1057_1 := (HB.out.cell (World.block_lt_of_cell? w _ hx1057_1)).trans hx1057_1
            replace hx1057_2 := (HB.out.cell (World.block_lt_of_cell? w _ hx1057_2)).trans hx1057_2
            replace hx1057_3 := (HB.out.cell (World.block_lt_of_cell? w _ hx1057_3)).trans hx1057_3
            replace hx1057_4 := (HB.out.cell (World.block_lt_of_cell? w _ hx1057_4)).trans hx1057_4
            replace hx1057_5 := (HB.out.cell (World.block_lt_of_cell? w _ hx1057_5)).trans hx1057_5
            replace hx1057_6 := (HB.out.cell (World.block_lt_of_cell? w _ hx1057_6)).trans hx1057_6
            replace hx1057_7 := (HB.out.cell (World.block_lt_of_cell? w _ hx1057_7)).trans hx1057_7
            replace hx1057_8 := (HB.out.cell (World.block_lt_of_cell? w _ hx1057_8)).trans hx1057_8
            replace hx1057_9 := (HB.out.cell (World.block_lt_of_cell? w _ hx1057_9)).trans hx1057_9
            replace hx1057_10 := (HB.out.cell (World.block_lt_of_cell? w _ hx1057_10)).trans hx1057_10
            replace hx1057_11 := (HB.out.cell (World.block_lt_of_cell? w _ hx1057_11)).trans hx1057_11
            replace hx1057_12 := (HB.out.cell (World.block_lt_of_cell? w _ hx1057_12)).trans hx1057_12
            replace p1057 := eq_true p1057
            replace q1057 := eq_true q1057
            obtain ⟨⟨hcz31_0, hcz31_1, hcz31_2, hcz31_3⟩, hfz31_0, hfz31_1, hfz31_2, hfz31_3⟩ := C37_4 BK1056.out
            have p1058 : 0 ≤ (x5_2 : Int) := of_decide_eq_true Z37_12
            have q1058 : x5_2 < (l1_0.length : Int) := of_decide_eq_true Z37_12
            obtain ⟨ad1058, e1058, hx1058_0, hx1058_1, hx1058_2, hx1058_3, hx1058_4, hx1058_5, hx1058_6, hx1058_7, hx1058_8, hx1058_9, hx1058_10, hx1058_11, hx1058_12⟩ := at_T25 HR1_0.out x5_2 p1058 q1058
            cases e1058
            replace hx1058_0 := (HB.out.cell (World.block_lt_of_cell? w _ hx1058_0)).trans hx1058_0
            replace hx1058_1 := (HB.out.cell (World.block_lt_of_cell? w _ hx1058_1)).trans hx1058_1
            replace hx1058_2 := (HB.out.cell (World.block_lt_of_cell? w _ hx1058_2)).trans hx1058_2
            replace hx1058_3 := (HB.out.cell (World.block_lt_of_cell? w _ hx1058_3)).trans hx1058_3
            replace hx1058_4 := (HB.out.cell (World.block_lt_of_cell? w _ hx1058_4)).trans hx1058_4
            replace hx1058_5 := (HB.out.cell (World.block_lt_of_cell? w _ hx1058_5)).trans hx1058_5
            replace hx1058_6 := (HB.out.cell (World.block_lt_of_cell? w _ hx1058_6)).trans hx1058_6
            replace hx1058_7 := (HB.out.cell (World.block_lt_of_cell? w _ hx1058_7)).trans hx1058_7
            replace hx1058_8 := (HB.out.cell (World.block_lt_of_cell? w _ hx1058_8)).trans hx1058_8
            replace hx1058_9 := (HB.out.cell (World.block_lt_of_cell? w _ hx1058_9)).trans hx1058_9
            replace hx1058_10 := (HB.out.cell (World.block_lt_of_cell? w _ hx1058_10)).trans hx1058_10
            replace hx1058_11 := (HB.out.cell (World.block_lt_of_cell? w _ hx1058_11)).trans hx1058_11
            replace hx1058_12 := (HB.out.cell (World.block_lt_of_cell? w _ hx1058_12)).trans hx1058_12
            replace p1058 := eq_true p1058
            replace q1058 := eq_true q1058
            go_wp2
            repeat (go_quiet (fail); try go_wp2)
            go_roundg k2
            case measure => have := HJ2.out; have := HK2.out; omega
            case rel => exact ⟨(wrap64 (x5_2 + 1)), Z37_13, H', ⟨(by have := HJ2.out; have := HK2.out; omega)⟩, ⟨Z37_9⟩, ⟨Z37_10⟩, ⟨Z37_5⟩⟩
          rw [if_neg c22] at H
          have c22b0 : decide (x5_2 < (l0_0.length : Int)) = false := decide_eq_false c22
          clear c22
          have H' := Aside0.mk H
          clear H
          have hnb32 := NB1055_1056.out
          have hnc32 := NB1056_1055.out
          obtain ⟨⟨hcz33_0, hcz33_1, hcz33_2, hcz33_3⟩, hfz33_0, hfz33_1, hfz33_2, hfz33_3⟩ := C37_4 BK1055.out
          go_wp2
          repeat (go_quiet (fail); try go_wp2)
          go_loopg [6] k2 (fun kq v6 w' => ∃ (x6_3 : Int), v6 = .int .i64 x6_3 ∧ Aside0 (spec_SameState.l1 kq x6_3 l0_0 l0_1 a0_2 a0_3 l1_0 l1_1 a1_2 a1_3 = some r) ∧ Aside0 (kq ≤ k2) ∧ Aside0 (w'.heap[gb1055]? = some (.cells #[(.slice A0_0 l0_0.length c0_0), (.slice A0_1 l0_1.length c0_1), .int .i64 a0_2, .int .i64 a0_3] 56 (0, 0))) ∧ Aside0 (w'.heap[gb1056]? = some (.cells #[(.slice A1_0 l1_0.length c1_0), (.slice A1_1 l1_1.length c1_1), .int .i64 a1_2, .int .i64 a1_3] 56 (0, 0))) ∧ Aside0 (Below w.heap.size w w'))
          case atStart => exact ⟨(0), Z37_13, H', ⟨Nat.le_refl _⟩, ⟨Z37_9⟩, ⟨Z37_10⟩, ⟨Z37_5⟩⟩
          case round =>
            clear H'
            try clear c1
            try clear p1
            try clear q1
            try clear hx1
            try clear c2
            try clear p2
            try clear c3
            try clear c4
            try clear c6
            try clear c6b0
            try clear c6b1
            try clear c6b2
            try clear p6
            try clear c7
            try clear c7b0
            try clear c7b1
            try clear c7b2
            try clear c8
            try clear c8b0
            try clear c8b1
            try clear c9
            try clear p10
            try clear q10
            try clear hx10
            try clear c12
            try clear c15
            try clear c18
            try clear c21
            try clear c22
            try clear c22b0
            try clear c23
            try clear c23b0
            try clear c24
            try clear c24b0
            try clear c25
            try clear c25b0
            try clear c26
            try clear c29
            try clear c32
            try clear hcz10_0
            try clear hcz10_1
            try clear hcz10_2
            try clear hcz10_3
            try clear hcz11_0
            try clear hcz11_1
            try clear hcz11_2
            try clear hcz11_3
            try clear hcz13_0
            try clear hcz13_1
            try clear hcz13_2
            try clear hcz13_3
            try clear hcz14_0
            try clear hcz14_1
            try clear hcz14_2
            try clear hcz14_3
            try clear hcz16_0
            try clear hcz16_1
            try clear hcz16_2
            try clear hcz16_3
            try clear hcz17_0
            try clear hcz17_1
            try clear hcz17_2
            try clear hcz17_3
            try clear hcz19_0
            try clear hcz19_1
            try clear hcz19_2
            try clear hcz19_3
            try clear hcz20_0
            try clear hcz20_1
            try clear hcz20_2
            try clear hcz20_3
            try clear hcz27_0
            try clear hcz27_1
            try clear hcz27_2
            try clear hcz27_3
            try clear hcz28_0
            try clear hcz28_1
            try clear hcz28_2
            try clear hcz28_3
            try clear hcz30_0
            try clear hcz30_1
            try clear hcz30_2
            try clear hcz30_3
            try clear hcz31_0
            try clear hcz31_1
            try clear hcz31_2
            try clear hcz31_3
            try clear hcz33_0
            try clear hcz33_1
            try clear hcz33_2
            try clear hcz33_3
            try clear hfz10_0
            try clear hfz10_1
            try clear hfz10_2
            try clear hfz10_3
            try clear hfz11_0
            try clear hfz11_1
            try clear hfz11_2
            try clear hfz11_3
            try clear hfz13_0
            try clear hfz13_1
            try clear hfz13_2
            try clear hfz13_3
            try clear hfz14_0
            try clear hfz14_1
            try clear hfz14_2
            try clear hfz14_3
            try clear hfz16_0
            try clear hfz16_1
            try clear hfz16_2
            try clear hfz16_3
            try clear hfz17_0
            try clear hfz17_1
            try clear hfz17_2
            try clear hfz17_3
            try clear hfz19_0
            try clear hfz19_1
            try clear hfz19_2
            try clear hfz19_3
            try clear hfz20_0
            try clear hfz20_1
            try clear hfz20_2
            try clear hfz20_3
            try clear hfz27_0
            try clear hfz27_1
            try clear hfz27_2
            try clear hfz27_3
            try clear hfz28_0
            try clear hfz28_1
            try clear hfz28_2
            try clear hfz28_3
            try clear hfz30_0
            try clear hfz30_1
            try clear hfz30_2
            try clear hfz30_3
            try clear hfz31_0
            try clear hfz31_1
            try clear hfz31_2
            try clear hfz31_3
            try clear hfz33_0
            try clear hfz33_1
            try clear hfz33_2
            try clear hfz33_3
            try clear hx1057_0
            try clear hx1057_1
            try clear hx1057_10
            try clear hx1057_11
            try clear hx1057_12
            try clear hx1057_2
            try clear hx1057_3
            try clear hx1057_4
            try clear hx1057_5
            try clear hx1057_6
            try clear hx1057_7
            try clear hx1057_8
            try clear hx1057_9
            try clear hx1058_0
            try clear hx1058_1
            try clear hx1058_10
            try clear hx1058_11
            try clear hx1058_12
            try clear hx1058_2
            try clear hx1058_3
            try clear hx1058_4
            try clear hx1058_5
            try clear hx1058_6
            try clear hx1058_7
            try clear hx1058_8
            try clear hx1058_9
            try clear p1057
            try clear p1058
            try clear p2
            try clear q1057
            try clear q1058
            obtain ⟨x6_3, rfl, HA, HK3, BK1055, BK1056, HB⟩ := hrel
            cases gk with
            | zero => exact absurd HA.out (by simp [spec_SameState.l1])
            | succ k3 =>
              have H := HA.out
              clear HA
              simp only [spec_SameState.l1] at H
              by_cases c34 : x6_3 < (l0_1.length : Int)
              rotate_left
              · rw [if_neg c34] at H
                have c34b0 : decide (x6_3 < (l0_1.length : Int)) = false := decide_eq_false c34
                clear c34
                obtain rfl := Option.some.inj H
                have hnb44 := NB1055_1056.out
                have hnc44 := NB1056_1055.out
                obtain ⟨⟨hcz45_0, hcz45_1, hcz45_2, hcz45_3⟩, hfz45_0, hfz45_1, hfz45_2, hfz45_3⟩ := C37_4 BK1055.out
                go_wp2
                repeat (go_quiet (fail); try go_wp2)
                go_ret
                exact ⟨Z37_11, Z37_5⟩
              rw [if_pos c34] at H
              have c34b0 : decide (x6_3 < (l0_1.length : Int)) = true := decide_eq_true c34
              clear c34
              by_cases c35 : 0 ≤ x6_3
              rotate_left
              · rw [if_neg c35] at H
                exact absurd H (by simp)
              rw [if_pos c35] at H
              have c35b0 : decide (0 ≤ x6_3) = true := decide_eq_true c35
              clear c35
              by_cases c36 : x6_3 < (l1_1.length : Int)
              rotate_left
              · rw [if_neg c36] at H
                exact absurd H (by simp)
              rw [if_pos c36] at H
              have c36b0 : decide (x6_3 < (l1_1.length : Int)) = true := decide_eq_true c36
              clear c36
              by_cases c37 : (!(((rd_T71 l0_1 x6_3).f0) == ((rd_T71 l1_1 x6_3).f0)) || (!(((rd_T71 l0_1 x6_3).f1) == ((rd_T71 l1_1 x6_3).f1)) || (!(((rd_T71 l0_1 x6_3).f2) == ((rd_T71 l1_1 x6_3).f2))))) = true
              · rw [if_pos c37] at H
                have c37b0 : (!(((rd_T71 l0_1 x6_3).f0) == ((rd_T71 l1_1 x6_3).f0)) || (!(((rd_T71 l0_1 x6_3).f1) == ((rd_T71 l1_1 x6_3).f1)) || (!(((rd_T71 l0_1 x6_3).f2) == ((rd_T71 l1_1 x6_3).f2))))) = true := c37
                clear c37
                obtain rfl := Option.some.inj H
                have hnb38 := NB1055_1056.out
                have hnc38 := NB1056_1055.out
                obtain ⟨⟨hcz39_0, hcz39_1, hcz39_2, hcz39_3⟩, hfz39_0, hfz39_1, hfz39_2, hfz39_3⟩ := C37_4 BK1055.out
                have p1059 : 0 ≤ (x6_3 : Int) := of_decide_eq_true Z37_12
                have q1059 : x6_3 < (l0_1.length : Int) := of_decide_eq_true Z37_12
                obtain ⟨ad1059, e1059, hx1059_0, hx1059_1, hx1059_2⟩ := at_T71 HR0_1.out x6_3 p1059 q1059
                cases e1059
                replace hx1059_0 := (HB.out.cell (World.block_lt_of_cell? w _ hx1059_0)).trans hx1059_0
                replace hx1059_1 := (HB.out.cell (World.block_lt_of_cell? w _ hx1059_1)).trans hx1059_1
                replace hx1059_2 := (HB.out.cell (World.block_lt_of_cell? w _ hx1059_2)).trans hx1059_2
                replace p1059 := eq_true p1059
                replace q1059 := eq_true q1059
                obtain ⟨⟨hcz40_0, hcz40_1, hcz40_2, hcz40_3⟩, hfz40_0, hfz40_1, hfz40_2, hfz40_3⟩ := C37_4 BK1056.out
                have p1060 : 0 ≤ (x6_3 : Int) := of_decide_eq_true Z37_12
                have q1060 : x6_3 < (l1_1.length : Int) := of_decide_eq_true Z37_12
                obtain ⟨ad1060, e1060, hx1060_0, hx1060_1, hx1060_2⟩ := at_T71 HR1_1.out x6_3 p1060 q1060
                cases e1060
                replace hx1060_0 := (HB.out.cell (World.block_lt_of_cell? w _ hx1060_0)).trans hx1060_0
                replace hx1060_1 := (HB.out.cell (World.block_lt_of_cell? w _ hx1060_1)).trans hx1060_1
                replace hx1060_2 := (HB.out.cell (World.block_lt_of_cell? w _ hx1060_2)).trans hx1060_2
                replace p1060 := eq_true p1060
                replace q1060 := eq_true q1060
                go_wp2
                repeat (go_quiet (fail); try go_wp2)
                go_ret
                exact ⟨Z37_11, Z37_5⟩
              rw [if_neg c37] at H
              have c37b0 : (!(((rd_T71 l0_1 x6_3).f0) == ((rd_T71 l1_1 x6_3).f0)) || (!(((rd_T71 l0_1 x6_3).f1) == ((rd_T71 l1_1 x6_3).f1)) || (!(((rd_T71 l0_1 x6_3).f2) == ((rd_T71 l1_1 x6_3).f2))))) = false := by simpa using c37
              clear c37
              have H' := Aside0.mk H
              clear H
              have hnb41 := NB1055_1056.out
              have hnc41 := NB1056_1055.out
              obtain ⟨⟨hcz42_0, hcz42_1, hcz42_2, hcz42_3⟩, hfz42_0, hfz42_1, hfz42_2, hfz42_3⟩ := C37_4 BK1055.out
              have p1059 : 0 ≤ (x6_3 : Int) := of_decide_eq_true Z37_12
              have q1059 : x6_3 < (l0_1.length : Int) := of_decide_eq_true Z37_12
              obtain ⟨ad1059, e1059, hx1059_0, hx1059_1, hx1059_2⟩ := at_T71 HR0_1.out x6_3 p1059 q1059
              cases e1059
              replace hx1059_0 := (HB.out.cell (World.block_lt_of_cell? w _ hx1059_0)).trans hx1059_0
              replace hx1059_1 := (HB.out.cell (World.block_lt_of_cell? w _ hx1059_1)).trans hx1059_1
              replace hx1059_2 := (HB.out.cell (World.block_lt_of_cell? w _ hx1059_2)).trans hx1059_2
              replace p1059 := eq_true p1059
              replace q1059 := eq_true q1059
              obtain ⟨⟨hcz43_0, hcz43_1, hcz43_2, hcz43_3⟩, hfz43_0, hfz43_1, hfz43_2, hfz43_3⟩ := C37_4 BK1056.out
              have p1060 : 0 ≤ (x6_3 : Int) := of_decide_eq_true Z37_12
              have q1060 : x6_3 < (l1_1.length : Int) := of_decide_eq_true Z37_12
              obtain ⟨ad1060, e1060, hx1060_0, hx1060_1, hx1060_2⟩ := at_T71 HR1_1.out x6_3 p1060 q1060
              cases e1060
              replace hx1060_0 := (HB.out.cell (World.block_lt_of_cell? w _ hx1060_0)).trans hx1060_0
              replace hx1060_1 := (HB.out.cell (World.block_lt_of_cell? w _ hx1060_1)).trans hx1060_1
              replace hx1060_2 := (HB.out.cell (World.block_lt_of_cell? w _ hx1060_2)).trans hx1060_2
              replace p1060 := eq_true p1060
              replace q1060 := eq_true q1060
              go_wp2
              repeat (go_quiet (fail); try go_wp2)
              go_roundg k3
              case measure => have := HJ2.out; have := HK2.out; have := HK3.out; omega
              case rel => exact ⟨(wrap64 (x6_3 + 1)), Z37_13, H', ⟨(by have := HJ2.out; have := HK2.out; have := HK3.out; omega)⟩, ⟨Z37_9⟩, ⟨Z37_10⟩, ⟨Z37_5⟩⟩



end Go.Proofs.Ytfkidiagmekleaa.QAll
