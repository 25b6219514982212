-- Written by a program of this session (patch_print.py over the print).
import Derived.Test.YtfpbbikhcnpceaaQFnExactSameStatex0
import Derived.Test.YtfpbbikhcnpceaaQFnExactSameStatex1
import Derived.Test.YtfpbbikhcnpceaaQFnExactSameStatex2
namespace Go.Proofs.Ytfpbbikhcnpceaa.QFnExactSameState
open Go.RowKit Go.Proofs.YtfpbbikhcnpceaaW.PrintWords Go.Proofs.YtfpbbikhcnpceaaW.PrintLast Go.Proofs.YtfpbbikhcnpceaaW.PrintMore
attribute [local go_sem] max2_int min2_int max_two min_two max_three min_three max_four min_four   -- for this text's walks alone
set_option linter.unusedVariables false
set_option linter.unusedSimpArgs false

attribute [local go_sem high] eqA54 eqA118
theorem Z6_9 {p : Prop} (h : p := by (with_reducible repeat (first | refine blk_drewN ?_ _ | refine blk_drew ?_ | refine blk_alloc ?_ _)); exact BK159.out) : p := h
theorem Z6_1 {p : Prop} (h : p := by exact ((by rw [hg]; exact Nat.ne_of_lt (blk_lt (g := gb159) (o := .cells #[.slice A0_0 l0_0.length c0_0, .slice A0_1 l0_1.length c0_1, .int .i64 a0_2, .int .i64 a0_3] 84 (0, 0)) Z6_9) : gb159 ≠ gb160))) : p := h
theorem Z6_2 {p : Prop} (h : p := by exact ((by rw [hg]; exact Nat.ne_of_gt (blk_lt (g := gb159) (o := .cells #[.slice A0_0 l0_0.length c0_0, .slice A0_1 l0_1.length c0_1, .int .i64 a0_2, .int .i64 a0_3] 84 (0, 0)) Z6_9) : gb160 ≠ gb159))) : p := h
theorem Z6_3 {p : Prop} (h : p := by exact (blk_below (g := gb159) (o := .cells #[.slice A0_0 l0_0.length c0_0, .slice A0_1 l0_1.length c0_1, .int .i64 a0_2, .int .i64 a0_3] 84 (0, 0)) Z6_9 hb)) : p := h
theorem Z6_4 {p : Prop} (h : p := by exact ((by rw [hg]; exact (below_size (by repeat (first | (with_reducible first | exact HB.out | apply below_alloc | apply pw_below_drewN | apply below_drew1 | refine below_set ?_ GE159.out) | exact HB.out))) : w.heap.size ≤ gb160))) : p := h
theorem Z6_5 {p : Prop} (h : p := by repeat (first | (with_reducible first | exact HB.out | apply below_alloc | apply pw_below_drewN | apply below_drew1 | refine below_set ?_ GE159.out | refine below_set ?_ GE160.out) | exact HB.out)) : p := h
theorem Z6_6 {p : Prop} (h : p := by exact ((by rw [hg]; exact (below_size (by repeat (first | (with_reducible first | exact HB.out | apply below_alloc | apply pw_below_drewN | apply below_drew1) | exact HB.out))) : w.heap.size ≤ gb159))) : p := h
theorem Z6_7 {p : Prop} (h : p := by exact (below_step (by repeat (first | (with_reducible first | exact HB.out | apply below_alloc | apply pw_below_drewN | apply below_drew1 | refine below_set ?_ GE159.out) | exact HB.out)) hb)) : p := h
theorem Z6_8 {p : Prop} (h : p := by exact (below_step (by repeat (first | (with_reducible first | exact HB.out | apply below_alloc | apply pw_below_drewN | apply below_drew1) | exact HB.out)) hb)) : p := h
theorem Z6_10 {p : Prop} (h : p := by (with_reducible repeat (first | refine blk_drewN ?_ _ | refine blk_drew ?_ | refine blk_alloc ?_ _)); exact BK160.out) : p := h
theorem Z6_11 {p : Prop} (h : p := by first | rfl | (simp [errW_none, errW_some] <;> rfl) | (simp [*, errW_none, errW_some] <;> rfl)) : p := h
theorem Z6_12 {p : Prop} (h : p := by first | (with_reducible assumption) | assumption) : p := h
theorem Z6_13 {p : Prop} (h : p := by first | rfl | (simp; done) | (simp [*]; done)) : p := h
/-! ### spec_SameState: function 86 -/
mutual
def spec_SameState.j0 : Nat → Bool → List (S54) → List (S118) → Int → Int → List (S54) → List (S118) → Int → Int → Option (Bool)
  | 0, _, _, _, _, _, _, _, _, _ => none
  | k + 1, x36, x160000, x160001, x160002, x160003, x161000, x161001, x161002, x161003 => if x36 = true then (some false) else (spec_SameState.l0 k 0 x160000 x160001 x160002 x160003 x161000 x161001 x161002 x161003)
def spec_SameState.l0 : Nat → Int → List (S54) → List (S118) → Int → Int → List (S54) → List (S118) → Int → Int → Option (Bool)
  | 0, _, _, _, _, _, _, _, _, _ => none
  | k + 1, x5, x160000, x160001, x160002, x160003, x161000, x161001, x161002, x161003 => if x5 < (x160000.length : Int) then (if 0 ≤ x5 then (if x5 < (x161000.length : Int) then (if (!(((rd_T54 x160000 x5).f0) == ((rd_T54 x161000 x5).f0)) || (!(((rd_T54 x160000 x5).f1) == ((rd_T54 x161000 x5).f1)) || (!(((rd_T54 x160000 x5).f2) == ((rd_T54 x161000 x5).f2)) || (!(((rd_T54 x160000 x5).f3) == ((rd_T54 x161000 x5).f3)) || (!(((rd_T54 x160000 x5).f4) == ((rd_T54 x161000 x5).f4)) || (!(((rd_T54 x160000 x5).f5) == ((rd_T54 x161000 x5).f5)) || (!(((rd_T54 x160000 x5).f6) == ((rd_T54 x161000 x5).f6)) || (!(((rd_T54 x160000 x5).f7) == ((rd_T54 x161000 x5).f7)) || (!(((rd_T54 x160000 x5).f8) == ((rd_T54 x161000 x5).f8)) || (!(((rd_T54 x160000 x5).f9) == ((rd_T54 x161000 x5).f9)) || (!(((rd_T54 x160000 x5).f10) == ((rd_T54 x161000 x5).f10)) || (!(((rd_T54 x160000 x5).f11) == ((rd_T54 x161000 x5).f11)) || (!(((rd_T54 x160000 x5).f12) == ((rd_T54 x161000 x5).f12))))))))))))))) = true then (some false) else (spec_SameState.l0 k (wrap64 (x5 + 1)) x160000 x160001 x160002 x160003 x161000 x161001 x161002 x161003)) else (none)) else (none)) else (spec_SameState.l1 k 0 x160000 x160001 x160002 x160003 x161000 x161001 x161002 x161003)
def spec_SameState.l1 : Nat → Int → List (S54) → List (S118) → Int → Int → List (S54) → List (S118) → Int → Int → Option (Bool)
  | 0, _, _, _, _, _, _, _, _, _ => none
  | k + 1, x6, x160000, x160001, x160002, x160003, x161000, x161001, x161002, x161003 => if x6 < (x160001.length : Int) then (if 0 ≤ x6 then (if x6 < (x161001.length : Int) then (if (!(((rd_T118 x160001 x6).f0) == ((rd_T118 x161001 x6).f0)) || (!(((rd_T118 x160001 x6).f1) == ((rd_T118 x161001 x6).f1)) || (!(((rd_T118 x160001 x6).f2) == ((rd_T118 x161001 x6).f2))))) = true then (some false) else (spec_SameState.l1 k (wrap64 (x6 + 1)) x160000 x160001 x160002 x160003 x161000 x161001 x161002 x161003)) else (none)) else (none)) else (some true)
end
def spec_SameState.f (k : Nat) (l0_0 : List (S54)) (l0_1 : List (S118)) (a0_2 : Int) (a0_3 : Int) (l1_0 : List (S54)) (l1_1 : List (S118)) (a1_2 : Int) (a1_3 : Int) : Option (Bool) := if (l0_0.length : Int) = (l1_0.length : Int) then (if (l0_1.length : Int) = (l1_1.length : Int) then (if a0_2 = a1_2 then (spec_SameState.j0 k (a0_3 != a1_3) l0_0 l0_1 a0_2 a0_3 l1_0 l1_1 a1_2 a1_3) else (spec_SameState.j0 k true l0_0 l0_1 a0_2 a0_3 l1_0 l1_1 a1_2 a1_3)) else (spec_SameState.j0 k true l0_0 l0_1 a0_2 a0_3 l1_0 l1_1 a1_2 a1_3)) else (spec_SameState.j0 k true l0_0 l0_1 a0_2 a0_3 l1_0 l1_1 a1_2 a1_3)
theorem spec_SameState.mono_l : ∀ k, (∀ y0 y1 y2 y3 y4 y5 y6 y7 y8, LeO (spec_SameState.j0 k y0 y1 y2 y3 y4 y5 y6 y7 y8) (spec_SameState.j0 (k + 1) y0 y1 y2 y3 y4 y5 y6 y7 y8)) ∧ (∀ y0 y1 y2 y3 y4 y5 y6 y7 y8, LeO (spec_SameState.l0 k y0 y1 y2 y3 y4 y5 y6 y7 y8) (spec_SameState.l0 (k + 1) y0 y1 y2 y3 y4 y5 y6 y7 y8)) ∧ (∀ y0 y1 y2 y3 y4 y5 y6 y7 y8, LeO (spec_SameState.l1 k y0 y1 y2 y3 y4 y5 y6 y7 y8) (spec_SameState.l1 (k + 1) y0 y1 y2 y3 y4 y5 y6 y7 y8))
  | 0 => ⟨fun _ _ _ _ _ _ _ _ _ r h => by simp [spec_SameState.j0] at h, fun _ _ _ _ _ _ _ _ _ r h => by simp [spec_SameState.l0] at h, fun _ _ _ _ _ _ _ _ _ r h => by simp [spec_SameState.l1] at h⟩
  | k + 1 => by
    obtain ⟨ih0, ih1, ih2⟩ := spec_SameState.mono_l k
    refine ⟨?_, ?_, ?_⟩
    · intro y0 y1 y2 y3 y4 y5 y6 y7 y8
      unfold spec_SameState.j0
      repeat' first
      | (with_reducible exact ih0 _ _ _ _ _ _ _ _ _)
      | (with_reducible exact ih1 _ _ _ _ _ _ _ _ _)
      | (with_reducible exact ih2 _ _ _ _ _ _ _ _ _)
      | (with_reducible exact LeO.refl _)
      | (with_reducible exact LeO.none _)
      | (with_reducible refine LeO.ite ?_ ?_)
      | (with_reducible refine LeO.bind ?_ (fun _ => ?_))
      | exact ih0 _ _ _ _ _ _ _ _ _
      | exact ih1 _ _ _ _ _ _ _ _ _
      | exact ih2 _ _ _ _ _ _ _ _ _
      | exact LeO.none _
      | refine LeO.ite ?_ ?_
      | refine LeO.bind ?_ (fun _ => ?_)
    · intro y0 y1 y2 y3 y4 y5 y6 y7 y8
      unfold spec_SameState.l0
      repeat' first
      | (with_reducible exact ih0 _ _ _ _ _ _ _ _ _)
      | (with_reducible exact ih1 _ _ _ _ _ _ _ _ _)
      | (with_reducible exact ih2 _ _ _ _ _ _ _ _ _)
      | (with_reducible exact LeO.refl _)
      | (with_reducible exact LeO.none _)
      | (with_reducible refine LeO.ite ?_ ?_)
      | (with_reducible refine LeO.bind ?_ (fun _ => ?_))
      | exact ih0 _ _ _ _ _ _ _ _ _
      | exact ih1 _ _ _ _ _ _ _ _ _
      | exact ih2 _ _ _ _ _ _ _ _ _
      | exact LeO.none _
      | refine LeO.ite ?_ ?_
      | refine LeO.bind ?_ (fun _ => ?_)
    · intro y0 y1 y2 y3 y4 y5 y6 y7 y8
      unfold spec_SameState.l1
      repeat' first
      | (with_reducible exact ih0 _ _ _ _ _ _ _ _ _)
      | (with_reducible exact ih1 _ _ _ _ _ _ _ _ _)
      | (with_reducible exact ih2 _ _ _ _ _ _ _ _ _)
      | (with_reducible exact LeO.refl _)
      | (with_reducible exact LeO.none _)
      | (with_reducible refine LeO.ite ?_ ?_)
      | (with_reducible refine LeO.bind ?_ (fun _ => ?_))
      | exact ih0 _ _ _ _ _ _ _ _ _
      | exact ih1 _ _ _ _ _ _ _ _ _
      | exact ih2 _ _ _ _ _ _ _ _ _
      | exact LeO.none _
      | refine LeO.ite ?_ ?_
      | refine LeO.bind ?_ (fun _ => ?_)
theorem spec_SameState.mono : ∀ a0 a1 a2 a3 a4 a5 a6 a7 k, LeO (spec_SameState.f k a0 a1 a2 a3 a4 a5 a6 a7) (spec_SameState.f (k + 1) a0 a1 a2 a3 a4 a5 a6 a7) := by
  intro a0 a1 a2 a3 a4 a5 a6 a7 k
  obtain ⟨ih0, ih1, ih2⟩ := spec_SameState.mono_l k
  unfold spec_SameState.f
  repeat' first
      | (with_reducible exact ih0 _ _ _ _ _ _ _ _ _)
      | (with_reducible exact ih1 _ _ _ _ _ _ _ _ _)
      | (with_reducible exact ih2 _ _ _ _ _ _ _ _ _)
      | (with_reducible exact LeO.refl _)
      | (with_reducible exact LeO.none _)
      | (with_reducible refine LeO.ite ?_ ?_)
      | (with_reducible refine LeO.bind ?_ (fun _ => ?_))
      | exact ih0 _ _ _ _ _ _ _ _ _
      | exact ih1 _ _ _ _ _ _ _ _ _
      | exact ih2 _ _ _ _ _ _ _ _ _
      | exact LeO.none _
      | refine LeO.ite ?_ ?_
      | refine LeO.bind ?_ (fun _ => ?_)
set_option maxHeartbeats 8000000 in
set_option maxRecDepth 100000 in
theorem spec_SameState.calls (k : Nat) (A0_0 : Option Addr) (c0_0 : Nat) (l0_0 : List (S54)) (A0_1 : Option Addr) (c0_1 : Nat) (l0_1 : List (S118)) (a0_2 : Int) (a0_3 : Int) (A1_0 : Option Addr) (c1_0 : Nat) (l1_0 : List (S54)) (A1_1 : Option Addr) (c1_1 : Nat) (l1_1 : List (S118)) (a1_2 : Int) (a1_3 : Int) (r : Bool) (w : World) (hr0_0 : Kd.C k54 w A0_0 l0_0.length l0_0) (hc0_0 : l0_0.length ≤ c0_0) (hr0_1 : Kd.C k118 w A0_1 l0_1.length l0_1) (hc0_1 : l0_1.length ≤ c0_1) (hr1_0 : Kd.C k54 w A1_0 l1_0.length l1_0) (hc1_0 : l1_0.length ≤ c1_0) (hr1_1 : Kd.C k118 w A1_1 l1_1.length l1_1) (hc1_1 : l1_1.length ≤ c1_1) (h : spec_SameState.f k l0_0 l0_1 a0_2 a0_3 l1_0 l1_1 a1_2 a1_3 = some r) :
    Calls Try.prog 86 #[.agg #[.slice A0_0 l0_0.length c0_0, .slice A0_1 l0_1.length c0_1, .int .i64 a0_2, .int .i64 a0_3], .agg #[.slice A1_0 l1_0.length c1_0, .slice A1_1 l1_1.length c1_1, .int .i64 a1_2, .int .i64 a1_3]] w fun e w' => e = .returned (.bool r) ∧ Below w.heap.size w w' := by
  have hu84 := Try.underlying84
  have hu54 := Try.underlying54
  have hu118 := Try.underlying118
  have HR0_0 := Aside0.mk hr0_0
  have HC0_0 := Aside0.mk hc0_0
  clear hr0_0 hc0_0
  have HR0_1 := Aside0.mk hr0_1
  have HC0_1 := Aside0.mk hc0_1
  clear hr0_1 hc0_1
  have HR1_0 := Aside0.mk hr1_0
  have HC1_0 := Aside0.mk hc1_0
  clear hr1_0 hc1_0
  have HR1_1 := Aside0.mk hr1_1
  have HC1_1 := Aside0.mk hc1_1
  clear hr1_1 hc1_1
  have HB := Aside0.mk (Below.refl w.heap.size w)
  have H : (if (l0_0.length : Int) = (l1_0.length : Int) then (if (l0_1.length : Int) = (l1_1.length : Int) then (if a0_2 = a1_2 then (spec_SameState.j0 k (a0_3 != a1_3) l0_0 l0_1 a0_2 a0_3 l1_0 l1_1 a1_2 a1_3) else (spec_SameState.j0 k true l0_0 l0_1 a0_2 a0_3 l1_0 l1_1 a1_2 a1_3)) else (spec_SameState.j0 k true l0_0 l0_1 a0_2 a0_3 l1_0 l1_1 a1_2 a1_3)) else (spec_SameState.j0 k true l0_0 l0_1 a0_2 a0_3 l1_0 l1_1 a1_2 a1_3)) = some r := h
  clear h
  have HC3 := Aside0.mk H
  clear H
  go_enter Try.func86, Try.ntmps86
  go_upto_region 1 with (first | ((with_reducible refine gate_dst (N := 2) rfl ?_); (try (refine gate_guard (by rfl) ?_; dsimp only)); refine box_event ?hg (N := 2) ?hd (cs := #[.slice A0_0 l0_0.length c0_0, .slice A0_1 l0_1.length c0_1, .int .i64 a0_2, .int .i64 a0_3]) (t := 84) ?hr ?_; (case hd => rfl); (case hg => rfl); (case hr => first | (go_simp; done) | (go_simp; rfl)); intro gb159 hg w4 hbox hb; have n0_ := Aside0.mk Z6_8; have n1_ := Aside0.mk (hbox); have n2_ := Aside0.mk Z6_6; have n3_ := Aside0.mk Z6_6; clear HB; have HB := n0_; have BK159 := n1_; have GW159 := n2_; have GE159 := n3_; clear n0_ n1_ n2_ n3_; clear hb hbox hg) | ((with_reducible refine gate_dst (N := 3) rfl ?_); (try (refine gate_guard (by rfl) ?_; dsimp only)); refine box_event ?hg (N := 3) ?hd (cs := #[.slice A1_0 l1_0.length c1_0, .slice A1_1 l1_1.length c1_1, .int .i64 a1_2, .int .i64 a1_3]) (t := 84) ?hr ?_; (case hd => rfl); (case hg => rfl); (case hr => first | (go_simp; done) | (go_simp; rfl)); intro gb160 hg w5 hbox hb; have n0_ := Aside0.mk Z6_3; have n1_ := Aside0.mk Z6_7; have n2_ := Aside0.mk (hbox); have n3_ := Aside0.mk Z6_4; have n4_ := Aside0.mk Z6_4; have n5_ := Aside0.mk Z6_1; have n6_ := Aside0.mk Z6_2; clear BK159; clear HB; have BK159 := n0_; have HB := n1_; have BK160 := n2_; have GW160 := n3_; have GE160 := n4_; have NB159_160 := n5_; have NB160_159 := n6_; clear n0_ n1_ n2_ n3_ n4_ n5_ n6_; clear hb hbox hg))
  repeat (go_quiet (first | ((with_reducible refine gate_dst (N := 2) rfl ?_); (try (refine gate_guard (by rfl) ?_; dsimp only)); refine box_event ?hg (N := 2) ?hd (cs := #[.slice A0_0 l0_0.length c0_0, .slice A0_1 l0_1.length c0_1, .int .i64 a0_2, .int .i64 a0_3]) (t := 84) ?hr ?_; (case hd => rfl); (case hg => rfl); (case hr => first | (go_simp; done) | (go_simp; rfl)); intro gb159 hg w4 hbox hb; have n0_ := Aside0.mk Z6_8; have n1_ := Aside0.mk (hbox); have n2_ := Aside0.mk Z6_6; have n3_ := Aside0.mk Z6_6; clear HB; have HB := n0_; have BK159 := n1_; have GW159 := n2_; have GE159 := n3_; clear n0_ n1_ n2_ n3_; clear hb hbox hg) | ((with_reducible refine gate_dst (N := 3) rfl ?_); (try (refine gate_guard (by rfl) ?_; dsimp only)); refine box_event ?hg (N := 3) ?hd (cs := #[.slice A1_0 l1_0.length c1_0, .slice A1_1 l1_1.length c1_1, .int .i64 a1_2, .int .i64 a1_3]) (t := 84) ?hr ?_; (case hd => rfl); (case hg => rfl); (case hr => first | (go_simp; done) | (go_simp; rfl)); intro gb160 hg w5 hbox hb; have n0_ := Aside0.mk Z6_3; have n1_ := Aside0.mk Z6_7; have n2_ := Aside0.mk (hbox); have n3_ := Aside0.mk Z6_4; have n4_ := Aside0.mk Z6_4; have n5_ := Aside0.mk Z6_1; have n6_ := Aside0.mk Z6_2; clear BK159; clear HB; have BK159 := n0_; have HB := n1_; have BK160 := n2_; have GW160 := n3_; have GE160 := n4_; have NB159_160 := n5_; have NB160_159 := n6_; clear n0_ n1_ n2_ n3_ n4_ n5_ n6_; clear hb hbox hg)); go_upto_region 1 with (first | ((with_reducible refine gate_dst (N := 2) rfl ?_); (try (refine gate_guard (by rfl) ?_; dsimp only)); refine box_event ?hg (N := 2) ?hd (cs := #[.slice A0_0 l0_0.length c0_0, .slice A0_1 l0_1.length c0_1, .int .i64 a0_2, .int .i64 a0_3]) (t := 84) ?hr ?_; (case hd => rfl); (case hg => rfl); (case hr => first | (go_simp; done) | (go_simp; rfl)); intro gb159 hg w4 hbox hb; have n0_ := Aside0.mk Z6_8; have n1_ := Aside0.mk (hbox); have n2_ := Aside0.mk Z6_6; have n3_ := Aside0.mk Z6_6; clear HB; have HB := n0_; have BK159 := n1_; have GW159 := n2_; have GE159 := n3_; clear n0_ n1_ n2_ n3_; clear hb hbox hg) | ((with_reducible refine gate_dst (N := 3) rfl ?_); (try (refine gate_guard (by rfl) ?_; dsimp only)); refine box_event ?hg (N := 3) ?hd (cs := #[.slice A1_0 l1_0.length c1_0, .slice A1_1 l1_1.length c1_1, .int .i64 a1_2, .int .i64 a1_3]) (t := 84) ?hr ?_; (case hd => rfl); (case hg => rfl); (case hr => first | (go_simp; done) | (go_simp; rfl)); intro gb160 hg w5 hbox hb; have n0_ := Aside0.mk Z6_3; have n1_ := Aside0.mk Z6_7; have n2_ := Aside0.mk (hbox); have n3_ := Aside0.mk Z6_4; have n4_ := Aside0.mk Z6_4; have n5_ := Aside0.mk Z6_1; have n6_ := Aside0.mk Z6_2; clear BK159; clear HB; have BK159 := n0_; have HB := n1_; have BK160 := n2_; have GW160 := n3_; have GE160 := n4_; have NB159_160 := n5_; have NB160_159 := n6_; clear n0_ n1_ n2_ n3_ n4_ n5_ n6_; clear hb hbox hg)))
  (try simp only [Act.put, List.setIfInBounds_toArray, List.set_cons_zero, List.set_cons_succ])
  go_cut [36] (fun v36 wc => ∃ (kq : Nat) (x36_2 : Bool), v36 = .bool x36_2 ∧ Aside0 (spec_SameState.j0 kq x36_2 l0_0 l0_1 a0_2 a0_3 l1_0 l1_1 a1_2 a1_3 = some r) ∧ Aside0 (kq ≤ k) ∧ Aside0 (wc.heap[gb159]? = some (.cells #[(.slice A0_0 l0_0.length c0_0), (.slice A0_1 l0_1.length c0_1), .int .i64 a0_2, .int .i64 a0_3] 84 (0, 0))) ∧ Aside0 (wc.heap[gb160]? = some (.cells #[(.slice A1_0 l1_0.length c1_0), (.slice A1_1 l1_1.length c1_1), .int .i64 a1_2, .int .i64 a1_3] 84 (0, 0))) ∧ Aside0 (Below w.heap.size w wc))
  case first =>
    have H := HC3.out
    clear HC3
    by_cases c6 : (l0_0.length : Int) = (l1_0.length : Int)
    rotate_left
    · rw [if_neg c6] at H
      have c6b0 : ((l0_0.length : Int) == (l1_0.length : Int)) = false := beq_eq_false_iff_ne.mpr c6
      have c6b1 : ((l0_0.length : Int) != (l1_0.length : Int)) = true := bne_iff_ne.mpr c6
      have c6b2 : (l0_0.length == l1_0.length) = false := by first | simpa using c6 | (simp at c6 ⊢; omega)
      (first | rw [c6b0] | (simp only [i64_w, i32_w]; rw [c6b0]) | skip)
      have H' := Aside0.mk H
      clear H
      have hnb18 := NB159_160.out
      have hnc18 := NB160_159.out
      have hcz19_0 : w5.cell? ⟨gb159, 0, none⟩ = some (.slice A0_0 l0_0.length c0_0) := (blk_cell BK159.out 0).trans rfl
      have hcz19_1 : w5.cell? ⟨gb159, 1, none⟩ = some (.slice A0_1 l0_1.length c0_1) := (blk_cell BK159.out 1).trans rfl
      have hcz19_2 : w5.cell? ⟨gb159, 2, none⟩ = some (.int .i64 a0_2) := (blk_cell BK159.out 2).trans rfl
      have hcz19_3 : w5.cell? ⟨gb159, 3, none⟩ = some (.int .i64 a0_3) := (blk_cell BK159.out 3).trans rfl
      have hfz19_0 := blk_frozen BK159.out 0
      have hfz19_1 := blk_frozen BK159.out 1
      have hfz19_2 := blk_frozen BK159.out 2
      have hfz19_3 := blk_frozen BK159.out 3
      have hcz20_0 : w5.cell? ⟨gb160, 0, none⟩ = some (.slice A1_0 l1_0.length c1_0) := (blk_cell BK160.out 0).trans rfl
      have hcz20_1 : w5.cell? ⟨gb160, 1, none⟩ = some (.slice A1_1 l1_1.length c1_1) := (blk_cell BK160.out 1).trans rfl
      have hcz20_2 : w5.cell? ⟨gb160, 2, none⟩ = some (.int .i64 a1_2) := (blk_cell BK160.out 2).trans rfl
      have hcz20_3 : w5.cell? ⟨gb160, 3, none⟩ = some (.int .i64 a1_3) := (blk_cell BK160.out 3).trans rfl
      have hfz20_0 := blk_frozen BK160.out 0
      have hfz20_1 := blk_frozen BK160.out 1
      have hfz20_2 := blk_frozen BK160.out 2
      have hfz20_3 := blk_frozen BK160.out 3
      go_wp2
      repeat (go_quiet (fail); try go_wp2)
      go_meet
      case rel => exact ⟨_, (true), Z6_13, H', ⟨(by first | omega | exact Nat.le_refl _)⟩, ⟨Z6_9⟩, ⟨Z6_10⟩, ⟨Z6_5⟩⟩
    rw [if_pos c6] at H
    have c6b0 : ((l0_0.length : Int) == (l1_0.length : Int)) = true := beq_iff_eq.mpr c6
    have c6b1 : ((l0_0.length : Int) != (l1_0.length : Int)) = false := bne_eq_false_iff_eq.mpr c6
    have c6b2 : (l0_0.length == l1_0.length) = true := by first | simpa using c6 | (simp at c6 ⊢; omega)
    clear c6
    (first | rw [c6b0] | (simp only [i64_w, i32_w]; rw [c6b0]) | skip)
    by_cases c7 : (l0_1.length : Int) = (l1_1.length : Int)
    rotate_left
    · rw [if_neg c7] at H
      have c7b0 : ((l0_1.length : Int) == (l1_1.length : Int)) = false := beq_eq_false_iff_ne.mpr c7
      have c7b1 : ((l0_1.length : Int) != (l1_1.length : Int)) = true := bne_iff_ne.mpr c7
      have c7b2 : (l0_1.length == l1_1.length) = false := by first | simpa using c7 | (simp at c7 ⊢; omega)
      have H' := Aside0.mk H
      clear H
      have hnb15 := NB159_160.out
      have hnc15 := NB160_159.out
      have hcz16_0 : w5.cell? ⟨gb159, 0, none⟩ = some (.slice A0_0 l0_0.length c0_0) := (blk_cell BK159.out 0).trans rfl
      have hcz16_1 : w5.cell? ⟨gb159, 1, none⟩ = some (.slice A0_1 l0_1.length c0_1) := (blk_cell BK159.out 1).trans rfl
      have hcz16_2 : w5.cell? ⟨gb159, 2, none⟩ = some (.int .i64 a0_2) := (blk_cell BK159.out 2).trans rfl
      have hcz16_3 : w5.cell? ⟨gb159, 3, none⟩ = some (.int .i64 a0_3) := (blk_cell BK159.out 3).trans rfl
      have hfz16_0 := blk_frozen BK159.out 0
      have hfz16_1 := blk_frozen BK159.out 1
      have hfz16_2 := blk_frozen BK159.out 2
      have hfz16_3 := blk_frozen BK159.out 3
      have hcz17_0 : w5.cell? ⟨gb160, 0, none⟩ = some (.slice A1_0 l1_0.length c1_0) := (blk_cell BK160.out 0).trans rfl
      have hcz17_1 : w5.cell? ⟨gb160, 1, none⟩ = some (.slice A1_1 l1_1.length c1_1) := (blk_cell BK160.out 1).trans rfl
      have hcz17_2 : w5.cell? ⟨gb160, 2, none⟩ = some (.int .i64 a1_2) := (blk_cell BK160.out 2).trans rfl
      have hcz17_3 : w5.cell? ⟨gb160, 3, none⟩ = some (.int .i64 a1_3) := (blk_cell BK160.out 3).trans rfl
      have hfz17_0 := blk_frozen BK160.out 0
      have hfz17_1 := blk_frozen BK160.out 1
      have hfz17_2 := blk_frozen BK160.out 2
      have hfz17_3 := blk_frozen BK160.out 3
      go_wp2
      repeat (go_quiet (fail); try go_wp2)
      go_meet
      case rel => exact ⟨_, (true), Z6_13, H', ⟨(by first | omega | exact Nat.le_refl _)⟩, ⟨Z6_9⟩, ⟨Z6_10⟩, ⟨Z6_5⟩⟩
    rw [if_pos c7] at H
    have c7b0 : ((l0_1.length : Int) == (l1_1.length : Int)) = true := beq_iff_eq.mpr c7
    have c7b1 : ((l0_1.length : Int) != (l1_1.length : Int)) = false := bne_eq_false_iff_eq.mpr c7
    have c7b2 : (l0_1.length == l1_1.length) = true := by first | simpa using c7 | (simp at c7 ⊢; omega)
    clear c7
    by_cases c8 : a0_2 = a1_2
    rotate_left
    · rw [if_neg c8] at H
      have c8b0 : (a0_2 == a1_2) = false := beq_eq_false_iff_ne.mpr c8
      have c8b1 : (a0_2 != a1_2) = true := bne_iff_ne.mpr c8
      have H' := Aside0.mk H
      clear H
      have hnb12 := NB159_160.out
      have hnc12 := NB160_159.out
      have hcz13_0 : w5.cell? ⟨gb159, 0, none⟩ = some (.slice A0_0 l0_0.length c0_0) := (blk_cell BK159.out 0).trans rfl
      have hcz13_1 : w5.cell? ⟨gb159, 1, none⟩ = some (.slice A0_1 l0_1.length c0_1) := (blk_cell BK159.out 1).trans rfl
      have hcz13_2 : w5.cell? ⟨gb159, 2, none⟩ = some (.int .i64 a0_2) := (blk_cell BK159.out 2).trans rfl
      have hcz13_3 : w5.cell? ⟨gb159, 3, none⟩ = some (.int .i64 a0_3) := (blk_cell BK159.out 3).trans rfl
      have hfz13_0 := blk_frozen BK159.out 0
      have hfz13_1 := blk_frozen BK159.out 1
      have hfz13_2 := blk_frozen BK159.out 2
      have hfz13_3 := blk_frozen BK159.out 3
      have hcz14_0 : w5.cell? ⟨gb160, 0, none⟩ = some (.slice A1_0 l1_0.length c1_0) := (blk_cell BK160.out 0).trans rfl
      have hcz14_1 : w5.cell? ⟨gb160, 1, none⟩ = some (.slice A1_1 l1_1.length c1_1) := (blk_cell BK160.out 1).trans rfl
      have hcz14_2 : w5.cell? ⟨gb160, 2, none⟩ = some (.int .i64 a1_2) := (blk_cell BK160.out 2).trans rfl
      have hcz14_3 : w5.cell? ⟨gb160, 3, none⟩ = some (.int .i64 a1_3) := (blk_cell BK160.out 3).trans rfl
      have hfz14_0 := blk_frozen BK160.out 0
      have hfz14_1 := blk_frozen BK160.out 1
      have hfz14_2 := blk_frozen BK160.out 2
      have hfz14_3 := blk_frozen BK160.out 3
      go_wp2
      repeat (go_quiet (fail); try go_wp2)
      go_meet
      case rel => exact ⟨_, (true), Z6_13, H', ⟨(by first | omega | exact Nat.le_refl _)⟩, ⟨Z6_9⟩, ⟨Z6_10⟩, ⟨Z6_5⟩⟩
    rw [if_pos c8] at H
    have c8b0 : (a0_2 == a1_2) = true := beq_iff_eq.mpr c8
    have c8b1 : (a0_2 != a1_2) = false := bne_eq_false_iff_eq.mpr c8
    clear c8
    have H' := Aside0.mk H
    clear H
    have hnb9 := NB159_160.out
    have hnc9 := NB160_159.out
    have hcz10_0 : w5.cell? ⟨gb159, 0, none⟩ = some (.slice A0_0 l0_0.length c0_0) := (blk_cell BK159.out 0).trans rfl
    have hcz10_1 : w5.cell? ⟨gb159, 1, none⟩ = some (.slice A0_1 l0_1.length c0_1) := (blk_cell BK159.out 1).trans rfl
    have hcz10_2 : w5.cell? ⟨gb159, 2, none⟩ = some (.int .i64 a0_2) := (blk_cell BK159.out 2).trans rfl
    have hcz10_3 : w5.cell? ⟨gb159, 3, none⟩ = some (.int .i64 a0_3) := (blk_cell BK159.out 3).trans rfl
    have hfz10_0 := blk_frozen BK159.out 0
    have hfz10_1 := blk_frozen BK159.out 1
    have hfz10_2 := blk_frozen BK159.out 2
    have hfz10_3 := blk_frozen BK159.out 3
    have hcz11_0 : w5.cell? ⟨gb160, 0, none⟩ = some (.slice A1_0 l1_0.length c1_0) := (blk_cell BK160.out 0).trans rfl
    have hcz11_1 : w5.cell? ⟨gb160, 1, none⟩ = some (.slice A1_1 l1_1.length c1_1) := (blk_cell BK160.out 1).trans rfl
    have hcz11_2 : w5.cell? ⟨gb160, 2, none⟩ = some (.int .i64 a1_2) := (blk_cell BK160.out 2).trans rfl
    have hcz11_3 : w5.cell? ⟨gb160, 3, none⟩ = some (.int .i64 a1_3) := (blk_cell BK160.out 3).trans rfl
    have hfz11_0 := blk_frozen BK160.out 0
    have hfz11_1 := blk_frozen BK160.out 1
    have hfz11_2 := blk_frozen BK160.out 2
    have hfz11_3 := blk_frozen BK160.out 3
    go_wp2
    repeat (go_quiet (fail); try go_wp2)
    go_meet
    case rel => exact ⟨_, ((a0_3 != a1_3)), Z6_13, H', ⟨(by first | omega | exact Nat.le_refl _)⟩, ⟨Z6_9⟩, ⟨Z6_10⟩, ⟨Z6_5⟩⟩
  case rest =>
    clear HC3
    try clear c1
    try clear p2
    try clear c6
    try clear c6b0
    try clear c6b1
    try clear c6b2
    try clear c7
    try clear c7b0
    try clear c7b1
    try clear c7b2
    try clear c8
    try clear c8b0
    try clear c8b1
    try clear c9
    try clear c12
    try clear c15
    try clear c18
    try clear hcz10_0
    try clear hcz10_1
    try clear hcz10_2
    try clear hcz10_3
    try clear hcz11_0
    try clear hcz11_1
    try clear hcz11_2
    try clear hcz11_3
    try clear hcz13_0
    try clear hcz13_1
    try clear hcz13_2
    try clear hcz13_3
    try clear hcz14_0
    try clear hcz14_1
    try clear hcz14_2
    try clear hcz14_3
    try clear hcz16_0
    try clear hcz16_1
    try clear hcz16_2
    try clear hcz16_3
    try clear hcz17_0
    try clear hcz17_1
    try clear hcz17_2
    try clear hcz17_3
    try clear hcz19_0
    try clear hcz19_1
    try clear hcz19_2
    try clear hcz19_3
    try clear hcz20_0
    try clear hcz20_1
    try clear hcz20_2
    try clear hcz20_3
    try clear hfz10_0
    try clear hfz10_1
    try clear hfz10_2
    try clear hfz10_3
    try clear hfz11_0
    try clear hfz11_1
    try clear hfz11_2
    try clear hfz11_3
    try clear hfz13_0
    try clear hfz13_1
    try clear hfz13_2
    try clear hfz13_3
    try clear hfz14_0
    try clear hfz14_1
    try clear hfz14_2
    try clear hfz14_3
    try clear hfz16_0
    try clear hfz16_1
    try clear hfz16_2
    try clear hfz16_3
    try clear hfz17_0
    try clear hfz17_1
    try clear hfz17_2
    try clear hfz17_3
    try clear hfz19_0
    try clear hfz19_1
    try clear hfz19_2
    try clear hfz19_3
    try clear hfz20_0
    try clear hfz20_1
    try clear hfz20_2
    try clear hfz20_3
    obtain ⟨kq, x36_2, rfl, HA, HJ2, BK159, BK160, HB⟩ := hcut
    cases kq with
    | zero => exact absurd HA.out (by simp [spec_SameState.j0])
    | succ kj2 =>
      have H := HA.out
      clear HA
      simp only [spec_SameState.j0] at H
      by_cases c21 : x36_2 = true
      · subst c21
        have H1 : (some false) = some r := by rw [if_pos rfl] at H; exact H
        clear H
        have H := H1
        clear H1
        obtain rfl := Option.some.inj H
        go_wp2
        repeat (go_quiet (fail); try go_wp2)
        go_ret
        exact ⟨Z6_11, Z6_5⟩
      replace c21 := Bool.eq_false_iff.mpr c21
      subst c21
      have H1 : (spec_SameState.l0 kj2 0 l0_0 l0_1 a0_2 a0_3 l1_0 l1_1 a1_2 a1_3) = some r := by rw [if_neg (show ¬ (false = true) by decide)] at H; exact H
      clear H
      have H := H1
      clear H1
      have H' := Aside0.mk H
      clear H
      go_wp2
      repeat (go_quiet (fail); try go_wp2)
      go_loopg [5] kj2 (fun kq v5 w' => ∃ (x5_2 : Int), v5 = .int .i64 x5_2 ∧ Aside0 (spec_SameState.l0 kq x5_2 l0_0 l0_1 a0_2 a0_3 l1_0 l1_1 a1_2 a1_3 = some r) ∧ Aside0 (kq ≤ kj2) ∧ Aside0 (w'.heap[gb159]? = some (.cells #[(.slice A0_0 l0_0.length c0_0), (.slice A0_1 l0_1.length c0_1), .int .i64 a0_2, .int .i64 a0_3] 84 (0, 0))) ∧ Aside0 (w'.heap[gb160]? = some (.cells #[(.slice A1_0 l1_0.length c1_0), (.slice A1_1 l1_1.length c1_1), .int .i64 a1_2, .int .i64 a1_3] 84 (0, 0))) ∧ Aside0 (Below w.heap.size w w'))
      case atStart => exact ⟨(0), Z6_13, H', ⟨Nat.le_refl _⟩, ⟨Z6_9⟩, ⟨Z6_10⟩, ⟨Z6_5⟩⟩
      case round =>
        clear H'
        try clear c1
        try clear c2
        try clear p2
        try clear c6
        try clear c6b0
        try clear c6b1
        try clear c6b2
        try clear c7
        try clear c7b0
        try clear c7b1
        try clear c7b2
        try clear c8
        try clear c8b0
        try clear c8b1
        try clear c9
        try clear c12
        try clear c15
        try clear c18
        try clear c21
        try clear hcz10_0
        try clear hcz10_1
        try clear hcz10_2
        try clear hcz10_3
        try clear hcz11_0
        try clear hcz11_1
        try clear hcz11_2
        try clear hcz11_3
        try clear hcz13_0
        try clear hcz13_1
        try clear hcz13_2
        try clear hcz13_3
        try clear hcz14_0
        try clear hcz14_1
        try clear hcz14_2
        try clear hcz14_3
        try clear hcz16_0
        try clear hcz16_1
        try clear hcz16_2
        try clear hcz16_3
        try clear hcz17_0
        try clear hcz17_1
        try clear hcz17_2
        try clear hcz17_3
        try clear hcz19_0
        try clear hcz19_1
        try clear hcz19_2
        try clear hcz19_3
        try clear hcz20_0
        try clear hcz20_1
        try clear hcz20_2
        try clear hcz20_3
        try clear hfz10_0
        try clear hfz10_1
        try clear hfz10_2
        try clear hfz10_3
        try clear hfz11_0
        try clear hfz11_1
        try clear hfz11_2
        try clear hfz11_3
        try clear hfz13_0
        try clear hfz13_1
        try clear hfz13_2
        try clear hfz13_3
        try clear hfz14_0
        try clear hfz14_1
        try clear hfz14_2
        try clear hfz14_3
        try clear hfz16_0
        try clear hfz16_1
        try clear hfz16_2
        try clear hfz16_3
        try clear hfz17_0
        try clear hfz17_1
        try clear hfz17_2
        try clear hfz17_3
        try clear hfz19_0
        try clear hfz19_1
        try clear hfz19_2
        try clear hfz19_3
        try clear hfz20_0
        try clear hfz20_1
        try clear hfz20_2
        try clear hfz20_3
        try clear p2
        obtain ⟨x5_2, rfl, HA, HK2, BK159, BK160, HB⟩ := hrel
        cases gk with
        | zero => exact absurd HA.out (by simp [spec_SameState.l0])
        | succ k2 =>
          have H := HA.out
          clear HA
          simp only [spec_SameState.l0] at H
          by_cases c22 : x5_2 < (l0_0.length : Int)
          · rw [if_pos c22] at H
            have c22b0 : decide (x5_2 < (l0_0.length : Int)) = true := decide_eq_true c22
            clear c22
            by_cases c23 : 0 ≤ x5_2
            rotate_left
            · rw [if_neg c23] at H
              exact absurd H (by simp)
            rw [if_pos c23] at H
            have c23b0 : decide (0 ≤ x5_2) = true := decide_eq_true c23
            clear c23
            by_cases c24 : x5_2 < (l1_0.length : Int)
            rotate_left
            · rw [if_neg c24] at H
              exact absurd H (by simp)
            rw [if_pos c24] at H
            have c24b0 : decide (x5_2 < (l1_0.length : Int)) = true := decide_eq_true c24
            clear c24
            by_cases c25 : (!(((rd_T54 l0_0 x5_2).f0) == ((rd_T54 l1_0 x5_2).f0)) || (!(((rd_T54 l0_0 x5_2).f1) == ((rd_T54 l1_0 x5_2).f1)) || (!(((rd_T54 l0_0 x5_2).f2) == ((rd_T54 l1_0 x5_2).f2)) || (!(((rd_T54 l0_0 x5_2).f3) == ((rd_T54 l1_0 x5_2).f3)) || (!(((rd_T54 l0_0 x5_2).f4) == ((rd_T54 l1_0 x5_2).f4)) || (!(((rd_T54 l0_0 x5_2).f5) == ((rd_T54 l1_0 x5_2).f5)) || (!(((rd_T54 l0_0 x5_2).f6) == ((rd_T54 l1_0 x5_2).f6)) || (!(((rd_T54 l0_0 x5_2).f7) == ((rd_T54 l1_0 x5_2).f7)) || (!(((rd_T54 l0_0 x5_2).f8) == ((rd_T54 l1_0 x5_2).f8)) || (!(((rd_T54 l0_0 x5_2).f9) == ((rd_T54 l1_0 x5_2).f9)) || (!(((rd_T54 l0_0 x5_2).f10) == ((rd_T54 l1_0 x5_2).f10)) || (!(((rd_T54 l0_0 x5_2).f11) == ((rd_T54 l1_0 x5_2).f11)) || (!(((rd_T54 l0_0 x5_2).f12) == ((rd_T54 l1_0 x5_2).f12))))))))))))))) = true
            · rw [if_pos c25] at H
              have c25b0 : (!(((rd_T54 l0_0 x5_2).f0) == ((rd_T54 l1_0 x5_2).f0)) || (!(((rd_T54 l0_0 x5_2).f1) == ((rd_T54 l1_0 x5_2).f1)) || (!(((rd_T54 l0_0 x5_2).f2) == ((rd_T54 l1_0 x5_2).f2)) || (!(((rd_T54 l0_0 x5_2).f3) == ((rd_T54 l1_0 x5_2).f3)) || (!(((rd_T54 l0_0 x5_2).f4) == ((rd_T54 l1_0 x5_2).f4)) || (!(((rd_T54 l0_0 x5_2).f5) == ((rd_T54 l1_0 x5_2).f5)) || (!(((rd_T54 l0_0 x5_2).f6) == ((rd_T54 l1_0 x5_2).f6)) || (!(((rd_T54 l0_0 x5_2).f7) == ((rd_T54 l1_0 x5_2).f7)) || (!(((rd_T54 l0_0 x5_2).f8) == ((rd_T54 l1_0 x5_2).f8)) || (!(((rd_T54 l0_0 x5_2).f9) == ((rd_T54 l1_0 x5_2).f9)) || (!(((rd_T54 l0_0 x5_2).f10) == ((rd_T54 l1_0 x5_2).f10)) || (!(((rd_T54 l0_0 x5_2).f11) == ((rd_T54 l1_0 x5_2).f11)) || (!(((rd_T54 l0_0 x5_2).f12) == ((rd_T54 l1_0 x5_2).f12))))))))))))))) = true := c25
              clear c25
              obtain rfl := Option.some.inj H
              have hnb26 := NB159_160.out
              have hnc26 := NB160_159.out
              have hcz27_0 : wr.cell? ⟨gb159, 0, none⟩ = some (.slice A0_0 l0_0.length c0_0) := (blk_cell BK159.out 0).trans rfl
              have hcz27_1 : wr.cell? ⟨gb159, 1, none⟩ = some (.slice A0_1 l0_1.length c0_1) := (blk_cell BK159.out 1).trans rfl
              have hcz27_2 : wr.cell? ⟨gb159, 2, none⟩ = some (.int .i64 a0_2) := (blk_cell BK159.out 2).trans rfl
              have hcz27_3 : wr.cell? ⟨gb159, 3, none⟩ = some (.int .i64 a0_3) := (blk_cell BK159.out 3).trans rfl
              have hfz27_0 := blk_frozen BK159.out 0
              have hfz27_1 := blk_frozen BK159.out 1
              have hfz27_2 := blk_frozen BK159.out 2
              have hfz27_3 := blk_frozen BK159.out 3
              have p161 : 0 ≤ (x5_2 : Int) := of_decide_eq_true Z6_12
              have q161 : x5_2 < (l0_0.length : Int) := of_decide_eq_true Z6_12
              obtain ⟨ad161, e161, hx161_0, hx161_1, hx161_2, hx161_3, hx161_4, hx161_5, hx161_6, hx161_7, hx161_8, hx161_9, hx161_10, hx161_11, hx161_12⟩ := at_T54 HR0_0.out x5_2 p161 q161
              cases e161
              replace hx161_0 := (HB.out.cell (World.block_lt_of_cell? w _ hx161_0)).trans hx161_0
              replace hx161_1 := (HB.out.cell (World.block_lt_of_cell? w _ hx161_1)).trans hx161_1
              replace hx161_2 := (HB.out.cell (World.block_lt_of_cell? w _ hx161_2)).trans hx161_2
              replace hx161_3 := (HB.out.cell (World.block_lt_of_cell? w _ hx161_3)).trans hx161_3
              replace hx161_4 := (HB.out.cell (World.block_lt_of_cell? w _ hx161_4)).trans hx161_4
              replace hx161_5 := (HB.out.cell (World.block_lt_of_cell? w _ hx161_5)).trans hx161_5
              replace hx161_6 := (HB.out.cell (World.block_lt_of_cell? w _ hx161_6)).trans hx161_6
              replace hx161_7 := (HB.out.cell (World.block_lt_of_cell? w _ hx161_7)).trans hx161_7
              replace hx161_8 := (HB.out.cell (World.block_lt_of_cell? w _ hx161_8)).trans hx161_8
              replace hx161_9 := (HB.out.cell (World.block_lt_of_cell? w _ hx161_9)).trans hx161_9
              replace hx161_10 := (HB.out.cell (World.block_lt_of_cell? w _ hx161_10)).trans hx161_10
              replace hx161_11 := (HB.out.cell (World.block_lt_of_cell? w _ hx161_11)).trans hx161_11
              replace hx161_12 := (HB.out.cell (World.block_lt_of_cell? w _ hx161_12)).trans hx161_12
              replace p161 := eq_true p161
              replace q161 := eq_true q161
              have hcz28_0 : wr.cell? ⟨gb160, 0, none⟩ = some (.slice A1_0 l1_0.length c1_0) := (blk_cell BK160.out 0).trans rfl
              have hcz28_1 : wr.cell? ⟨gb160, 1, none⟩ = some (.slice A1_1 l1_1.length c1_1) := (blk_cell BK160.out 1).trans rfl
              have hcz28_2 : wr.cell? ⟨gb160, 2, none⟩ = some (.int .i64 a1_2) := (blk_cell BK160.out 2).trans rfl
              have hcz28_3 : wr.cell? ⟨gb160, 3, none⟩ = some (.int .i64 a1_3) := (blk_cell BK160.out 3).trans rfl
              have hfz28_0 := blk_frozen BK160.out 0
              have hfz28_1 := blk_frozen BK160.out 1
              have hfz28_2 := blk_frozen BK160.out 2
              have hfz28_3 := blk_frozen BK160.out 3
              have p162 : 0 ≤ (x5_2 : Int) := of_decide_eq_true Z6_12
              have q162 : x5_2 < (l1_0.length : Int) := of_decide_eq_true Z6_12
              obtain ⟨ad162, e162, hx162_0, hx162_1, hx162_2, hx162_3, hx162_4, hx162_5, hx162_6, hx162_7, hx162_8, hx162_9, hx162_10, hx162_11, hx162_12⟩ := at_T54 HR1_0.out x5_2 p162 q162
              cases e162
              replace hx162_0 := (HB.out.cell (World.block_lt_of_cell? w _ hx162_0)).trans hx162_0
              replace hx162_1 := (HB.out.cell (World.block_lt_of_cell? w _ hx162_1)).trans hx162_1
              replace hx162_2 := (HB.out.cell (World.block_lt_of_cell? w _ hx162_2)).trans hx162_2
              replace hx162_3 := (HB.out.cell (World.block_lt_of_cell? w _ hx162_3)).trans hx162_3
              replace hx162_4 := (HB.out.cell (World.block_lt_of_cell? w _ hx162_4)).trans hx162_4
              replace hx162_5 := (HB.out.cell (World.block_lt_of_cell? w _ hx162_5)).trans hx162_5
              replace hx162_6 := (HB.out.cell (World.block_lt_of_cell? w _ hx162_6)).trans hx162_6
              replace hx162_7 := (HB.out.cell (World.block_lt_of_cell? w _ hx162_7)).trans hx162_7
              replace hx162_8 := (HB.out.cell (World.block_lt_of_cell? w _ hx162_8)).trans hx162_8
              replace hx162_9 := (HB.out.cell (World.block_lt_of_cell? w _ hx162_9)).trans hx162_9
              replace hx162_10 := (HB.out.cell (World.block_lt_of_cell? w _ hx162_10)).trans hx162_10
              replace hx162_11 := (HB.out.cell (World.block_lt_of_cell? w _ hx162_11)).trans hx162_11
              replace hx162_12 := (HB.out.cell (World.block_lt_of_cell? w _ hx162_12)).trans hx162_12
              replace p162 := eq_true p162
              replace q162 := eq_true q162
              go_wp2
              repeat (go_quiet (fail); try go_wp2)
              go_ret
              exact ⟨Z6_11, Z6_5⟩
            rw [if_neg c25] at H
            have c25b0 : (!(((rd_T54 l0_0 x5_2).f0) == ((rd_T54 l1_0 x5_2).f0)) || (!(((rd_T54 l0_0 x5_2).f1) == ((rd_T54 l1_0 x5_2).f1)) || (!(((rd_T54 l0_0 x5_2).f2) == ((rd_T54 l1_0 x5_2).f2)) || (!(((rd_T54 l0_0 x5_2).f3) == ((rd_T54 l1_0 x5_2).f3)) || (!(((rd_T54 l0_0 x5_2).f4) == ((rd_T54 l1_0 x5_2).f4)) || (!(((rd_T54 l0_0 x5_2).f5) == ((rd_T54 l1_0 x5_2).f5)) || (!(((rd_T54 l0_0 x5_2).f6) == ((rd_T54 l1_0 x5_2).f6)) || (!(((rd_T54 l0_0 x5_2).f7) == ((rd_T54 l1_0 x5_2).f7)) || (!(((rd_T54 l0_0 x5_2).f8) == ((rd_T54 l1_0 x5_2).f8)) || (!(((rd_T54 l0_0 x5_2).f9) == ((rd_T54 l1_0 x5_2).f9)) || (!(((rd_T54 l0_0 x5_2).f10) == ((rd_T54 l1_0 x5_2).f10)) || (!(((rd_T54 l0_0 x5_2).f11) == ((rd_T54 l1_0 x5_2).f11)) || (!(((rd_T54 l0_0 x5_2).f12) == ((rd_T54 l1_0 x5_2).f12))))))))))))))) = false := by simpa using c25
            clear c25
            have H' := Aside0.mk H
            clear H
            have hnb29 := NB159_160.out
            have hnc29 := NB160_159.out
            have hcz30_0 : wr.cell? ⟨gb159, 0, none⟩ = some (.slice A0_0 l0_0.length c0_0) := (blk_cell BK159.out 0).trans rfl
            have hcz30_1 : wr.cell? ⟨gb159, 1, none⟩ = some (.slice A0_1 l0_1.length c0_1) := (blk_cell BK159.out 1).trans rfl
            have hcz30_2 : wr.cell? ⟨gb159, 2, none⟩ = some (.int .i64 a0_2) := (blk_cell BK159.out 2).trans rfl
            have hcz30_3 : wr.cell? ⟨gb159, 3, none⟩ = some (.int .i64 a0_3) := (blk_cell BK159.out 3).trans rfl
            have hfz30_0 := blk_frozen BK159.out 0
            have hfz30_1 := blk_frozen BK159.out 1
            have hfz30_2 := blk_frozen BK159.out 2
            have hfz30_3 := blk_frozen BK159.out 3
            have p161 : 0 ≤ (x5_2 : Int) := of_decide_eq_true Z6_12
            have q161 : x5_2 < (l0_0.length : Int) := of_decide_eq_true Z6_12
            obtain ⟨ad161, e161, hx161_0, hx161_1, hx161_2, hx161_3, hx161_4, hx161_5, hx161_6, hx161_7, hx161_8, hx161_9, hx161_10, hx161_11, hx161_12⟩ := at_T54 HR0_0.out x5_2 p161 q161
            cases e161
            replace hx161_0 := (HB.out.cell (World.block_lt_of_cell? w _ hx161_0)).trans hx161_0
            replace hx161_1 := (HB.out.cell (World.block_lt_of_cell? w _ hx161_1)).trans hx161_1
            replace hx161_2 := (HB.out.cell (World.block_lt_of_cell? w _ hx161_2)).trans hx161_2
            replace hx161_3 := (HB.out.cell (World.block_lt_of_cell? w _ hx161_3)).trans hx161_3
            replace hx161_4 := (HB.out.cell (World.block_lt_of_cell? w _ hx161_4)).trans hx161_4
            replace hx161_5 := (HB.out.cell (World.block_lt_of_cell? w _ hx161_5)).trans hx161_5
            replace hx161_6 := (HB.out.cell (World.block_lt_of_cell? w _ hx161_6)).trans hx161_6
            replace hx161_7 := (HB.out.cell (World.block_lt_of_cell? w _ hx161_7)).trans hx161_7
            replace hx161_8 := (HB.out.cell (World.block_lt_of_cell? w _ hx161_8)).trans hx161_8
            replace hx161_9 := (HB.out.cell (World.block_lt_of_cell? w _ hx161_9)).trans hx161_9
            replace hx161_10 := (HB.out.cell (World.block_lt_of_cell? w _ hx161_10)).trans hx161_10
            replace hx161_11 := (HB.out.cell (World.block_lt_of_cell? w _ hx161_11)).trans hx161_11
            replace hx161_12 := (HB.out.cell (World.block_lt_of_cell? w _ hx161_12)).trans hx161_12
            replace p161 := eq_true p161
            replace q161 := eq_true q161
            have hcz31_0 : wr.cell? ⟨gb160, 0, none⟩ = some (.slice A1_0 l1_0.length c1_0) := (blk_cell BK160.out 0).trans rfl
            have hcz31_1 : wr.cell? ⟨gb160, 1, none⟩ = some (.slice A1_1 l1_1.length c1_1) := (blk_cell BK160.out 1).trans rfl
            have hcz31_2 : wr.cell? ⟨gb160, 2, none⟩ = some (.int .i64 a1_2) := (blk_cell BK160.out 2).trans rfl
            have hcz31_3 : wr.cell? ⟨gb160, 3, none⟩ = some (.int .i64 a1_3) := (blk_cell BK160.out 3).trans rfl
            have hfz31_0 := blk_frozen BK160.out 0
            have hfz31_1 := blk_frozen BK160.out 1
            have hfz31_2 := blk_frozen BK160.out 2
            have hfz31_3 := blk_frozen BK160.out 3
            have p162 : 0 ≤ (x5_2 : Int) := of_decide_eq_true Z6_12
            have q162 : x5_2 < (l1_0.length : Int) := of_decide_eq_true Z6_12
            obtain ⟨ad162, e162, hx162_0, hx162_1, hx162_2, hx162_3, hx162_4, hx162_5, hx162_6, hx162_7, hx162_8, hx162_9, hx162_10, hx162_11, hx162_12⟩ := at_T54 HR1_0.out x5_2 p162 q162
            cases e162
            replace hx162_0 := (HB.out.cell (World.block_lt_of_cell? w _ hx162_0)).trans hx162_0
            replace hx162_1 := (HB.out.cell (World.block_lt_of_cell? w _ hx162_1)).trans hx162_1
            replace hx162_2 := (HB.out.cell (World.block_lt_of_cell? w _ hx162_2)).trans hx162_2
            replace hx162_3 := (HB.out.cell (World.block_lt_of_cell? w _ hx162_3)).trans hx162_3
            replace hx162_4 := (HB.out.cell (World.block_lt_of_cell? w _ hx162_4)).trans hx162_4
            replace hx162_5 := (HB.out.cell (World.block_lt_of_cell? w _ hx162_5)).trans hx162_5
            replace hx162_6 := (HB.out.cell (World.block_lt_of_cell? w _ hx162_6)).trans hx162_6
            replace hx162_7 := (HB.out.cell (World.block_lt_of_cell? w _ hx162_7)).trans hx162_7
            replace hx162_8 := (HB.out.cell (World.block_lt_of_cell? w _ hx162_8)).trans hx162_8
            replace hx162_9 := (HB.out.cell (World.block_lt_of_cell? w _ hx162_9)).trans hx162_9
            replace hx162_10 := (HB.out.cell (World.block_lt_of_cell? w _ hx162_10)).trans hx162_10
            replace hx162_11 := (HB.out.cell (World.block_lt_of_cell? w _ hx162_11)).trans hx162_11
            replace hx162_12 := (HB.out.cell (World.block_lt_of_cell? w _ hx162_12)).trans hx162_12
            replace p162 := eq_true p162
            replace q162 := eq_true q162
            go_wp2
            repeat (go_quiet (fail); try go_wp2)
            go_roundg k2
            case measure => have := HJ2.out; have := HK2.out; omega
            case rel => exact ⟨(wrap64 (x5_2 + 1)), Z6_13, H', ⟨(by have := HJ2.out; have := HK2.out; omega)⟩, ⟨Z6_9⟩, ⟨Z6_10⟩, ⟨Z6_5⟩⟩
          rw [if_neg c22] at H
          have c22b0 : decide (x5_2 < (l0_0.length : Int)) = false := decide_eq_false c22
          clear c22
          have H' := Aside0.mk H
          clear H
          have hnb32 := NB159_160.out
          have hnc32 := NB160_159.out
          have hcz33_0 : wr.cell? ⟨gb159, 0, none⟩ = some (.slice A0_0 l0_0.length c0_0) := (blk_cell BK159.out 0).trans rfl
          have hcz33_1 : wr.cell? ⟨gb159, 1, none⟩ = some (.slice A0_1 l0_1.length c0_1) := (blk_cell BK159.out 1).trans rfl
          have hcz33_2 : wr.cell? ⟨gb159, 2, none⟩ = some (.int .i64 a0_2) := (blk_cell BK159.out 2).trans rfl
          have hcz33_3 : wr.cell? ⟨gb159, 3, none⟩ = some (.int .i64 a0_3) := (blk_cell BK159.out 3).trans rfl
          have hfz33_0 := blk_frozen BK159.out 0
          have hfz33_1 := blk_frozen BK159.out 1
          have hfz33_2 := blk_frozen BK159.out 2
          have hfz33_3 := blk_frozen BK159.out 3
          go_wp2
          repeat (go_quiet (fail); try go_wp2)
          go_loopg [6] k2 (fun kq v6 w' => ∃ (x6_3 : Int), v6 = .int .i64 x6_3 ∧ Aside0 (spec_SameState.l1 kq x6_3 l0_0 l0_1 a0_2 a0_3 l1_0 l1_1 a1_2 a1_3 = some r) ∧ Aside0 (kq ≤ k2) ∧ Aside0 (w'.heap[gb159]? = some (.cells #[(.slice A0_0 l0_0.length c0_0), (.slice A0_1 l0_1.length c0_1), .int .i64 a0_2, .int .i64 a0_3] 84 (0, 0))) ∧ Aside0 (w'.heap[gb160]? = some (.cells #[(.slice A1_0 l1_0.length c1_0), (.slice A1_1 l1_1.length c1_1), .int .i64 a1_2, .int .i64 a1_3] 84 (0, 0))) ∧ Aside0 (Below w.heap.size w w'))
          case atStart => exact ⟨(0), Z6_13, H', ⟨Nat.le_refl _⟩, ⟨Z6_9⟩, ⟨Z6_10⟩, ⟨Z6_5⟩⟩
          case round =>
            clear H'
            try clear c1
            try clear p1
            try clear q1
            try clear hx1
            try clear c2
            try clear p2
            try clear c3
            try clear c6
            try clear c6b0
            try clear c6b1
            try clear c6b2
            try clear p6
            try clear c7
            try clear c7b0
            try clear c7b1
            try clear c7b2
            try clear c8
            try clear c8b0
            try clear c8b1
            try clear c9
            try clear c12
            try clear c15
            try clear p16
            try clear q16
            try clear hx16
            try clear c18
            try clear c21
            try clear c22
            try clear c22b0
            try clear c23
            try clear c23b0
            try clear c24
            try clear c24b0
            try clear c25
            try clear c25b0
            try clear c26
            try clear c29
            try clear c32
            try clear hcz10_0
            try clear hcz10_1
            try clear hcz10_2
            try clear hcz10_3
            try clear hcz11_0
            try clear hcz11_1
            try clear hcz11_2
            try clear hcz11_3
            try clear hcz13_0
            try clear hcz13_1
            try clear hcz13_2
            try clear hcz13_3
            try clear hcz14_0
            try clear hcz14_1
            try clear hcz14_2
            try clear hcz14_3
            try clear hcz16_0
            try clear hcz16_1
            try clear hcz16_2
            try clear hcz16_3
            try clear hcz17_0
            try clear hcz17_1
            try clear hcz17_2
            try clear hcz17_3
            try clear hcz19_0
            try clear hcz19_1
            try clear hcz19_2
            try clear hcz19_3
            try clear hcz20_0
            try clear hcz20_1
            try clear hcz20_2
            try clear hcz20_3
            try clear hcz27_0
            try clear hcz27_1
            try clear hcz27_2
            try clear hcz27_3
            try clear hcz28_0
            try clear hcz28_1
            try clear hcz28_2
            try clear hcz28_3
            try clear hcz30_0
            try clear hcz30_1
            try clear hcz30_2
            try clear hcz30_3
            try clear hcz31_0
            try clear hcz31_1
            try clear hcz31_2
            try clear hcz31_3
            try clear hcz33_0
            try clear hcz33_1
            try clear hcz33_2
            try clear hcz33_3
            try clear hfz10_0
            try clear hfz10_1
            try clear hfz10_2
            try clear hfz10_3
            try clear hfz11_0
            try clear hfz11_1
            try clear hfz11_2
            try clear hfz11_3
            try clear hfz13_0
            try clear hfz13_1
            try clear hfz13_2
            try clear hfz13_3
            try clear hfz14_0
            try clear hfz14_1
            try clear hfz14_2
            try clear hfz14_3
            try clear hfz16_0
            try clear hfz16_1
            try clear hfz16_2
            try clear hfz16_3
            try clear hfz17_0
            try clear hfz17_1
            try clear hfz17_2
            try clear hfz17_3
            try clear hfz19_0
            try clear hfz19_1
            try clear hfz19_2
            try clear hfz19_3
            try clear hfz20_0
            try clear hfz20_1
            try clear hfz20_2
            try clear hfz20_3
            try clear hfz27_0
            try clear hfz27_1
            try clear hfz27_2
            try clear hfz27_3
            try clear hfz28_0
            try clear hfz28_1
            try clear hfz28_2
            try clear hfz28_3
            try clear hfz30_0
            try clear hfz30_1
            try clear hfz30_2
            try clear hfz30_3
            try clear hfz31_0
            try clear hfz31_1
            try clear hfz31_2
            try clear hfz31_3
            try clear hfz33_0
            try clear hfz33_1
            try clear hfz33_2
            try clear hfz33_3
            try clear hx161_0
            try clear hx161_1
            try clear hx161_10
            try clear hx161_11
            try clear hx161_12
            try clear hx161_2
            try clear hx161_3
            try clear hx161_4
            try clear hx161_5
            try clear hx161_6
            try clear hx161_7
            try clear hx161_8
            try clear hx161_9
            try clear hx162_0
            try clear hx162_1
            try clear hx162_10
            try clear hx162_11
            try clear hx162_12
            try clear hx162_2
            try clear hx162_3
            try clear hx162_4
            try clear hx162_5
            try clear hx162_6
            try clear hx162_7
            try clear hx162_8
            try clear hx162_9
            try clear p161
            try clear p162
            try clear p2
            try clear q161
            try clear q162
            obtain ⟨x6_3, rfl, HA, HK3, BK159, BK160, HB⟩ := hrel
            cases gk with
            | zero => exact absurd HA.out (by simp [spec_SameState.l1])
            | succ k3 =>
              have H := HA.out
              clear HA
              simp only [spec_SameState.l1] at H
              by_cases c34 : x6_3 < (l0_1.length : Int)
              rotate_left
              · rw [if_neg c34] at H
                have c34b0 : decide (x6_3 < (l0_1.length : Int)) = false := decide_eq_false c34
                clear c34
                obtain rfl := Option.some.inj H
                have hnb44 := NB159_160.out
                have hnc44 := NB160_159.out
                have hcz45_0 : wr.cell? ⟨gb159, 0, none⟩ = some (.slice A0_0 l0_0.length c0_0) := (blk_cell BK159.out 0).trans rfl
                have hcz45_1 : wr.cell? ⟨gb159, 1, none⟩ = some (.slice A0_1 l0_1.length c0_1) := (blk_cell BK159.out 1).trans rfl
                have hcz45_2 : wr.cell? ⟨gb159, 2, none⟩ = some (.int .i64 a0_2) := (blk_cell BK159.out 2).trans rfl
                have hcz45_3 : wr.cell? ⟨gb159, 3, none⟩ = some (.int .i64 a0_3) := (blk_cell BK159.out 3).trans rfl
                have hfz45_0 := blk_frozen BK159.out 0
                have hfz45_1 := blk_frozen BK159.out 1
                have hfz45_2 := blk_frozen BK159.out 2
                have hfz45_3 := blk_frozen BK159.out 3
                go_wp2
                repeat (go_quiet (fail); try go_wp2)
                go_ret
                exact ⟨Z6_11, Z6_5⟩
              rw [if_pos c34] at H
              have c34b0 : decide (x6_3 < (l0_1.length : Int)) = true := decide_eq_true c34
              clear c34
              by_cases c35 : 0 ≤ x6_3
              rotate_left
              · rw [if_neg c35] at H
                exact absurd H (by simp)
              rw [if_pos c35] at H
              have c35b0 : decide (0 ≤ x6_3) = true := decide_eq_true c35
              clear c35
              by_cases c36 : x6_3 < (l1_1.length : Int)
              rotate_left
              · rw [if_neg c36] at H
                exact absurd H (by simp)
              rw [if_pos c36] at H
              have c36b0 : decide (x6_3 < (l1_1.length : Int)) = true := decide_eq_true c36
              clear c36
              by_cases c37 : (!(((rd_T118 l0_1 x6_3).f0) == ((rd_T118 l1_1 x6_3).f0)) || (!(((rd_T118 l0_1 x6_3).f1) == ((rd_T118 l1_1 x6_3).f1)) || (!(((rd_T118 l0_1 x6_3).f2) == ((rd_T118 l1_1 x6_3).f2))))) = true
              · rw [if_pos c37] at H
                have c37b0 : (!(((rd_T118 l0_1 x6_3).f0) == ((rd_T118 l1_1 x6_3).f0)) || (!(((rd_T118 l0_1 x6_3).f1) == ((rd_T118 l1_1 x6_3).f1)) || (!(((rd_T118 l0_1 x6_3).f2) == ((rd_T118 l1_1 x6_3).f2))))) = true := c37
                clear c37
                obtain rfl := Option.some.inj H
                have hnb38 := NB159_160.out
                have hnc38 := NB160_159.out
                have hcz39_0 : wr.cell? ⟨gb159, 0, none⟩ = some (.slice A0_0 l0_0.length c0_0) := (blk_cell BK159.out 0).trans rfl
                have hcz39_1 : wr.cell? ⟨gb159, 1, none⟩ = some (.slice A0_1 l0_1.length c0_1) := (blk_cell BK159.out 1).trans rfl
                have hcz39_2 : wr.cell? ⟨gb159, 2, none⟩ = some (.int .i64 a0_2) := (blk_cell BK159.out 2).trans rfl
                have hcz39_3 : wr.cell? ⟨gb159, 3, none⟩ = some (.int .i64 a0_3) := (blk_cell BK159.out 3).trans rfl
                have hfz39_0 := blk_frozen BK159.out 0
                have hfz39_1 := blk_frozen BK159.out 1
                have hfz39_2 := blk_frozen BK159.out 2
                have hfz39_3 := blk_frozen BK159.out 3
                have p163 : 0 ≤ (x6_3 : Int) := of_decide_eq_true Z6_12
                have q163 : x6_3 < (l0_1.length : Int) := of_decide_eq_true Z6_12
                obtain ⟨ad163, e163, hx163_0, hx163_1, hx163_2⟩ := at_T118 HR0_1.out x6_3 p163 q163
                cases e163
                replace hx163_0 := (HB.out.cell (World.block_lt_of_cell? w _ hx163_0)).trans hx163_0
                replace hx163_1 := (HB.out.cell (World.block_lt_of_cell? w _ hx163_1)).trans hx163_1
                replace hx163_2 := (HB.out.cell (World.block_lt_of_cell? w _ hx163_2)).trans hx163_2
                replace p163 := eq_true p163
                replace q163 := eq_true q163
                have hcz40_0 : wr.cell? ⟨gb160, 0, none⟩ = some (.slice A1_0 l1_0.length c1_0) := (blk_cell BK160.out 0).trans rfl
                have hcz40_1 : wr.cell? ⟨gb160, 1, none⟩ = some (.slice A1_1 l1_1.length c1_1) := (blk_cell BK160.out 1).trans rfl
                have hcz40_2 : wr.cell? ⟨gb160, 2, none⟩ = some (.int .i64 a1_2) := (blk_cell BK160.out 2).trans rfl
                have hcz40_3 : wr.cell? ⟨gb160, 3, none⟩ = some (.int .i64 a1_3) := (blk_cell BK160.out 3).trans rfl
                have hfz40_0 := blk_frozen BK160.out 0
                have hfz40_1 := blk_frozen BK160.out 1
                have hfz40_2 := blk_frozen BK160.out 2
                have hfz40_3 := blk_frozen BK160.out 3
                have p164 : 0 ≤ (x6_3 : Int) := of_decide_eq_true Z6_12
                have q164 : x6_3 < (l1_1.length : Int) := of_decide_eq_true Z6_12
                obtain ⟨ad164, e164, hx164_0, hx164_1, hx164_2⟩ := at_T118 HR1_1.out x6_3 p164 q164
                cases e164
                replace hx164_0 := (HB.out.cell (World.block_lt_of_cell? w _ hx164_0)).trans hx164_0
                replace hx164_1 := (HB.out.cell (World.block_lt_of_cell? w _ hx164_1)).trans hx164_1
                replace hx164_2 := (HB.out.cell (World.block_lt_of_cell? w _ hx164_2)).trans hx164_2
                replace p164 := eq_true p164
                replace q164 := eq_true q164
                go_wp2
                repeat (go_quiet (fail); try go_wp2)
                go_ret
                exact ⟨Z6_11, Z6_5⟩
              rw [if_neg c37] at H
              have c37b0 : (!(((rd_T118 l0_1 x6_3).f0) == ((rd_T118 l1_1 x6_3).f0)) || (!(((rd_T118 l0_1 x6_3).f1) == ((rd_T118 l1_1 x6_3).f1)) || (!(((rd_T118 l0_1 x6_3).f2) == ((rd_T118 l1_1 x6_3).f2))))) = false := by simpa using c37
              clear c37
              have H' := Aside0.mk H
              clear H
              have hnb41 := NB159_160.out
              have hnc41 := NB160_159.out
              have hcz42_0 : wr.cell? ⟨gb159, 0, none⟩ = some (.slice A0_0 l0_0.length c0_0) := (blk_cell BK159.out 0).trans rfl
              have hcz42_1 : wr.cell? ⟨gb159, 1, none⟩ = some (.slice A0_1 l0_1.length c0_1) := (blk_cell BK159.out 1).trans rfl
              have hcz42_2 : wr.cell? ⟨gb159, 2, none⟩ = some (.int .i64 a0_2) := (blk_cell BK159.out 2).trans rfl
              have hcz42_3 : wr.cell? ⟨gb159, 3, none⟩ = some (.int .i64 a0_3) := (blk_cell BK159.out 3).trans rfl
              have hfz42_0 := blk_frozen BK159.out 0
              have hfz42_1 := blk_frozen BK159.out 1
              have hfz42_2 := blk_frozen BK159.out 2
              have hfz42_3 := blk_frozen BK159.out 3
              have p163 : 0 ≤ (x6_3 : Int) := of_decide_eq_true Z6_12
              have q163 : x6_3 < (l0_1.length : Int) := of_decide_eq_true Z6_12
              obtain ⟨ad163, e163, hx163_0, hx163_1, hx163_2⟩ := at_T118 HR0_1.out x6_3 p163 q163
              cases e163
              replace hx163_0 := (HB.out.cell (World.block_lt_of_cell? w _ hx163_0)).trans hx163_0
              replace hx163_1 := (HB.out.cell (World.block_lt_of_cell? w _ hx163_1)).trans hx163_1
              replace hx163_2 := (HB.out.cell (World.block_lt_of_cell? w _ hx163_2)).trans hx163_2
              replace p163 := eq_true p163
              replace q163 := eq_true q163
              have hcz43_0 : wr.cell? ⟨gb160, 0, none⟩ = some (.slice A1_0 l1_0.length c1_0) := (blk_cell BK160.out 0).trans rfl
              have hcz43_1 : wr.cell? ⟨gb160, 1, none⟩ = some (.slice A1_1 l1_1.length c1_1) := (blk_cell BK160.out 1).trans rfl
              have hcz43_2 : wr.cell? ⟨gb160, 2, none⟩ = some (.int .i64 a1_2) := (blk_cell BK160.out 2).trans rfl
              have hcz43_3 : wr.cell? ⟨gb160, 3, none⟩ = some (.int .i64 a1_3) := (blk_cell BK160.out 3).trans rfl
              have hfz43_0 := blk_frozen BK160.out 0
              have hfz43_1 := blk_frozen BK160.out 1
              have hfz43_2 := blk_frozen BK160.out 2
              have hfz43_3 := blk_frozen BK160.out 3
              have p164 : 0 ≤ (x6_3 : Int) := of_decide_eq_true Z6_12
              have q164 : x6_3 < (l1_1.length : Int) := of_decide_eq_true Z6_12
              obtain ⟨ad164, e164, hx164_0, hx164_1, hx164_2⟩ := at_T118 HR1_1.out x6_3 p164 q164
              cases e164
              replace hx164_0 := (HB.out.cell (World.block_lt_of_cell? w _ hx164_0)).trans hx164_0
              replace hx164_1 := (HB.out.cell (World.block_lt_of_cell? w _ hx164_1)).trans hx164_1
              replace hx164_2 := (HB.out.cell (World.block_lt_of_cell? w _ hx164_2)).trans hx164_2
              replace p164 := eq_true p164
              replace q164 := eq_true q164
              go_wp2
              repeat (go_quiet (fail); try go_wp2)
              go_roundg k3
              case measure => have := HJ2.out; have := HK2.out; have := HK3.out; omega
              case rel => exact ⟨(wrap64 (x6_3 + 1)), Z6_13, H', ⟨(by have := HJ2.out; have := HK2.out; have := HK3.out; omega)⟩, ⟨Z6_9⟩, ⟨Z6_10⟩, ⟨Z6_5⟩⟩

end Go.Proofs.Ytfpbbikhcnpceaa.QFnExactSameState
