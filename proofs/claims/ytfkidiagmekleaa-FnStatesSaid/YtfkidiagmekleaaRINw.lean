-- Written by a program of this session (patch_print.py over the print).
import Derived.Test.YtfkidiagmekleaaQAllx0
namespace Go.Proofs.Ytfkidiagmekleaa.QAll
open Go.RowKit Go.Proofs.YtfkidiagmekleaaW.PrintWords Go.Proofs.YtfkidiagmekleaaW.PrintLast Go.Proofs.YtfkidiagmekleaaW.PrintMore
attribute [local go_sem] max2_int min2_int max_two min_two max_three min_three max_four min_four   -- for this text's walks alone
set_option linter.unusedVariables false
set_option linter.unusedSimpArgs false

/-! ### impl_StateNew: function 43 -/
mutual
def impl_StateNew.j0 : Nat → Int → Int → Int → Option ((List (S25)) × (List (S71)) × Int × Int)
  | 0, _, _, _ => none
  | k + 1, x0, x1011002, x1011003 => impl_StateNew.l0 k x0 0 ([] : List (S71)) x1011002 x1011003
def impl_StateNew.l0 : Nat → Int → Int → List (S71) → Int → Int → Option ((List (S25)) × (List (S71)) × Int × Int)
  | 0, _, _, _, _, _ => none
  | k + 1, x7, x8, x1011001, x1011002, x1011003 => if x8 < x7 then (if x1011001.length < 5864062014805 then (impl_StateNew.l0 k x7 (wrap64 (x8 + 1)) (x1011001 ++ [(⟨20, 0, false⟩ : S71)]) x1011002 x1011003) else (none)) else (some (([] : List (S25)), x1011001, x1011002, x1011003))
end
def impl_StateNew.f (k : Nat) (a0 : Int) : Option ((List (S25)) × (List (S71)) × Int × Int) := if a0 = 3 then (impl_StateNew.j0 k a0 0 0) else (impl_StateNew.j0 k 2 0 0)
theorem impl_StateNew.mono_l : ∀ k, (∀ y0 y1 y2, LeO (impl_StateNew.j0 k y0 y1 y2) (impl_StateNew.j0 (k + 1) y0 y1 y2)) ∧ (∀ y0 y1 y2 y3 y4, LeO (impl_StateNew.l0 k y0 y1 y2 y3 y4) (impl_StateNew.l0 (k + 1) y0 y1 y2 y3 y4))
  | 0 => ⟨fun _ _ _ r h => by simp [impl_StateNew.j0] at h, fun _ _ _ _ _ r h => by simp [impl_StateNew.l0] at h⟩
  | k + 1 => by
    obtain ⟨ih0, ih1⟩ := impl_StateNew.mono_l k
    refine ⟨?_, ?_⟩
    · intro y0 y1 y2
      unfold impl_StateNew.j0
      repeat' first
      | (with_reducible exact ih0 _ _ _)
      | (with_reducible exact ih1 _ _ _ _ _)
      | (with_reducible exact LeO.refl _)
      | (with_reducible exact LeO.none _)
      | (with_reducible refine LeO.ite ?_ ?_)
      | (with_reducible refine LeO.bind ?_ (fun _ => ?_))
      | exact ih0 _ _ _
      | exact ih1 _ _ _ _ _
      | exact LeO.none _
      | refine LeO.ite ?_ ?_
      | refine LeO.bind ?_ (fun _ => ?_)
    · intro y0 y1 y2 y3 y4
      unfold impl_StateNew.l0
      repeat' first
      | (with_reducible exact ih0 _ _ _)
      | (with_reducible exact ih1 _ _ _ _ _)
      | (with_reducible exact LeO.refl _)
      | (with_reducible exact LeO.none _)
      | (with_reducible refine LeO.ite ?_ ?_)
      | (with_reducible refine LeO.bind ?_ (fun _ => ?_))
      | exact ih0 _ _ _
      | exact ih1 _ _ _ _ _
      | exact LeO.none _
      | refine LeO.ite ?_ ?_
      | refine LeO.bind ?_ (fun _ => ?_)
theorem impl_StateNew.mono : ∀ a0 k, LeO (impl_StateNew.f k a0) (impl_StateNew.f (k + 1) a0) := by
  intro a0 k
  obtain ⟨ih0, ih1⟩ := impl_StateNew.mono_l k
  unfold impl_StateNew.f
  repeat' first
      | (with_reducible exact ih0 _ _ _)
      | (with_reducible exact ih1 _ _ _ _ _)
      | (with_reducible exact LeO.refl _)
      | (with_reducible exact LeO.none _)
      | (with_reducible refine LeO.ite ?_ ?_)
      | (with_reducible refine LeO.bind ?_ (fun _ => ?_))
      | exact ih0 _ _ _
      | exact ih1 _ _ _ _ _
      | exact LeO.none _
      | refine LeO.ite ?_ ?_
      | refine LeO.bind ?_ (fun _ => ?_)
set_option maxHeartbeats 8000000 in
set_option maxRecDepth 100000 in
theorem impl_StateNew.calls (k : Nat) (a0 : Int) (r1 : List (S25)) (r2 : List (S71)) (r3 : Int) (r4 : Int) (w : World) (h : impl_StateNew.f k a0 = some (r1, r2, r3, r4)) :
    Calls Try.prog 43 #[.int .i64 a0] w fun e w' => ∃ v0_ v1_ : Value, e = .returned (.agg #[v0_, v1_, .int .i64 r3, .int .i64 r4]) ∧ Kd.R k25 25 w' w.heap.size (fun _ => True) v0_ r1 ∧ Kd.R k71 71 w' w.heap.size (fun _ => True) v1_ r2 ∧ Below w.heap.size w w' := by
  have hu56 := Try.underlying56
  have hu71 := Try.underlying71
  have HB := Aside0.mk (Below.refl w.heap.size w)
  have H : (if a0 = 3 then (impl_StateNew.j0 k a0 0 0) else (impl_StateNew.j0 k 2 0 0)) = some (r1, r2, r3, r4) := h
  clear h
  have HC2 := Aside0.mk H
  clear H
  go_enter Try.func43, Try.ntmps43
  go_upto_if 6 with (first | ((with_reducible refine gate_dst (N := 2) rfl ?_); refine box_event ?hg (N := 2) ?hd (cs := #[.slice none 0 0, .slice none 0 0, .int .i64 0, .int .i64 0]) (t := 56) ?hr ?_; (case hd => rfl); (case hg => rfl); (case hr => first | (go_simp; done) | (go_simp; rfl)); intro gb1009 hg w3 hbox hb; have n0_ := Aside0.mk (below_step (by repeat (first | (with_reducible first | exact HB.out | apply below_alloc | apply pw_below_drewN | apply below_drew1) | exact HB.out)) hb); have n1_ := Aside0.mk (hbox); have n2_ := Aside0.mk ((by rw [hg]; exact (below_size (by repeat (first | (with_reducible first | exact HB.out | apply below_alloc | apply pw_below_drewN | apply below_drew1) | exact HB.out))) : w.heap.size ≤ gb1009)); have n3_ := Aside0.mk ((by rw [hg]; exact (below_size (by repeat (first | (with_reducible first | exact HB.out | apply below_alloc | apply pw_below_drewN | apply below_drew1) | exact HB.out))) : w.heap.size ≤ gb1009)); clear HB; have HB := n0_; have BK1009 := n1_; have GW1009 := n2_; have GE1009 := n3_; clear n0_ n1_ n2_ n3_; clear hb hbox hg) | ((with_reducible refine gate_dst (N := 3) rfl ?_); refine box_event ?hg (N := 3) ?hd (cs := #[.slice none 0 0, .slice none 0 0, .int .i64 0, .int .i64 0]) (t := 56) ?hr ?_; (case hd => rfl); (case hg => rfl); (case hr => first | (go_simp; done) | (go_simp; rfl)); intro gb1010 hg w4 hbox hb; have n0_ := Aside0.mk (blk_below (g := gb1009) (o := .cells #[.slice none 0 0, .slice none 0 0, .int .i64 0, .int .i64 0] 56 (0, 0)) (by (with_reducible repeat (first | refine blk_drewN ?_ _ | refine blk_drew ?_ | refine blk_alloc ?_ _)); exact BK1009.out) hb); have n1_ := Aside0.mk (below_step (by repeat (first | (with_reducible first | exact HB.out | apply below_alloc | apply pw_below_drewN | apply below_drew1 | refine below_set ?_ GE1009.out) | exact HB.out)) hb); have n2_ := Aside0.mk (hbox); have n3_ := Aside0.mk ((by rw [hg]; exact (below_size (by repeat (first | (with_reducible first | exact HB.out | apply below_alloc | apply pw_below_drewN | apply below_drew1 | refine below_set ?_ GE1009.out) | exact HB.out))) : w.heap.size ≤ gb1010)); have n4_ := Aside0.mk ((by rw [hg]; exact (below_size (by repeat (first | (with_reducible first | exact HB.out | apply below_alloc | apply pw_below_drewN | apply below_drew1 | refine below_set ?_ GE1009.out) | exact HB.out))) : w.heap.size ≤ gb1010)); have n5_ := Aside0.mk ((by rw [hg]; exact Nat.ne_of_lt (blk_lt (g := gb1009) (o := .cells #[.slice none 0 0, .slice none 0 0, .int .i64 0, .int .i64 0] 56 (0, 0)) (by (with_reducible repeat (first | refine blk_drewN ?_ _ | refine blk_drew ?_ | refine blk_alloc ?_ _)); exact BK1009.out)) : gb1009 ≠ gb1010)); have n6_ := Aside0.mk ((by rw [hg]; exact Nat.ne_of_gt (blk_lt (g := gb1009) (o := .cells #[.slice none 0 0, .slice none 0 0, .int .i64 0, .int .i64 0] 56 (0, 0)) (by (with_reducible repeat (first | refine blk_drewN ?_ _ | refine blk_drew ?_ | refine blk_alloc ?_ _)); exact BK1009.out)) : gb1010 ≠ gb1009)); clear BK1009; clear HB; have BK1009 := n0_; have HB := n1_; have BK1010 := n2_; have GW1010 := n3_; have GE1010 := n4_; have NB1009_1010 := n5_; have NB1010_1009 := n6_; clear n0_ n1_ n2_ n3_ n4_ n5_ n6_; clear hb hbox hg; have hnb5 := NB1010_1009.out; have hnc5 := NB1009_1010.out; have hcz6_0 : w4.cell? ⟨gb1010, 0, none⟩ = some (.slice none 0 0) := (blk_cell BK1010.out 0).trans rfl; have hcz6_1 : w4.cell? ⟨gb1010, 1, none⟩ = some (.slice none 0 0) := (blk_cell BK1010.out 1).trans rfl; have hcz6_2 : w4.cell? ⟨gb1010, 2, none⟩ = some (.int .i64 0) := (blk_cell BK1010.out 2).trans rfl; have hcz6_3 : w4.cell? ⟨gb1010, 3, none⟩ = some (.int .i64 0) := (blk_cell BK1010.out 3).trans rfl; have hfz6_0 := blk_frozen BK1010.out 0; have hfz6_1 := blk_frozen BK1010.out 1; have hfz6_2 := blk_frozen BK1010.out 2; have hfz6_3 := blk_frozen BK1010.out 3))
  (try simp only [Act.put, List.setIfInBounds_toArray, List.set_cons_zero, List.set_cons_succ])
  go_cut [0] (fun v0 wc => ∃ (kq : Nat) (x0_1 : Int), v0 = .int .i64 x0_1 ∧ Aside0 (impl_StateNew.j0 kq x0_1 0 0 = some (r1, r2, r3, r4)) ∧ Aside0 (kq ≤ k) ∧ Aside0 (wc.heap[gb1009]? = some (.cells #[(.slice none 0 0), (.slice none 0 0), .int .i64 0, .int .i64 0] 56 (0, 0))) ∧ Aside0 (wc.heap[gb1010]? = some (.cells #[(.slice none 0 0), (.slice none 0 0), .int .i64 0, .int .i64 0] 56 (0, 0))) ∧ Aside0 (Below w.heap.size w wc))
  case first =>
    have H := HC2.out
    clear HC2
    by_cases c7 : a0 = 3
    · rw [if_pos c7] at H
      have c7b0 : (a0 == 3) = true := beq_iff_eq.mpr c7
      have c7b1 : (a0 != 3) = false := bne_eq_false_iff_eq.mpr c7
      clear c7
      (first | rw [c7b0] | (simp only [i64_w, i32_w]; rw [c7b0]) | skip)
      have H' := Aside0.mk H
      clear H
      go_wp2
      go_meet
      case rel => exact ⟨_, (a0), (by first | rfl | (simp; done) | (simp [*]; done)), H', ⟨by first | omega | exact Nat.le_refl _⟩, ⟨by (with_reducible repeat (first | refine blk_drewN ?_ _ | refine blk_drew ?_ | refine blk_alloc ?_ _)); refine blk_far ?_ NB1009_1010.out _; (with_reducible repeat (first | refine blk_drewN ?_ _ | refine blk_drew ?_ | refine blk_alloc ?_ _)); refine blk_far ?_ NB1009_1010.out _; (with_reducible repeat (first | refine blk_drewN ?_ _ | refine blk_drew ?_ | refine blk_alloc ?_ _)); refine blk_far ?_ NB1009_1010.out _; (with_reducible repeat (first | refine blk_drewN ?_ _ | refine blk_drew ?_ | refine blk_alloc ?_ _)); refine blk_far ?_ NB1009_1010.out _; (with_reducible repeat (first | refine blk_drewN ?_ _ | refine blk_drew ?_ | refine blk_alloc ?_ _)); exact BK1009.out⟩, ⟨by (with_reducible repeat (first | refine blk_drewN ?_ _ | refine blk_drew ?_ | refine blk_alloc ?_ _)); refine blk_put (cs := #[.slice none 0 0, .slice none 0 0, .int .i64 0, .int .i64 0]) ?_ 3 _ rfl; (with_reducible repeat (first | refine blk_drewN ?_ _ | refine blk_drew ?_ | refine blk_alloc ?_ _)); refine blk_put (cs := #[.slice none 0 0, .slice none 0 0, .int .i64 0, .int .i64 0]) ?_ 2 _ rfl; (with_reducible repeat (first | refine blk_drewN ?_ _ | refine blk_drew ?_ | refine blk_alloc ?_ _)); refine blk_put (cs := #[.slice none 0 0, .slice none 0 0, .int .i64 0, .int .i64 0]) ?_ 1 _ rfl; (with_reducible repeat (first | refine blk_drewN ?_ _ | refine blk_drew ?_ | refine blk_alloc ?_ _)); refine blk_put (cs := #[.slice none 0 0, .slice none 0 0, .int .i64 0, .int .i64 0]) ?_ 0 _ rfl; (with_reducible repeat (first | refine blk_drewN ?_ _ | refine blk_drew ?_ | refine blk_alloc ?_ _)); exact BK1010.out⟩, ⟨by repeat (first | (with_reducible first | exact HB.out | apply below_alloc | apply pw_below_drewN | apply below_drew1 | refine below_set ?_ GE1009.out | refine below_set ?_ GE1010.out) | exact HB.out)⟩⟩
    · rw [if_neg c7] at H
      have c7b0 : (a0 == 3) = false := beq_eq_false_iff_ne.mpr c7
      have c7b1 : (a0 != 3) = true := bne_iff_ne.mpr c7
      (first | rw [c7b0] | (simp only [i64_w, i32_w]; rw [c7b0]) | skip)
      have H' := Aside0.mk H
      clear H
      go_wp2
      go_meet
      case rel => exact ⟨_, (2), (by first | rfl | (simp; done) | (simp [*]; done)), H', ⟨by first | omega | exact Nat.le_refl _⟩, ⟨by (with_reducible repeat (first | refine blk_drewN ?_ _ | refine blk_drew ?_ | refine blk_alloc ?_ _)); refine blk_far ?_ NB1009_1010.out _; (with_reducible repeat (first | refine blk_drewN ?_ _ | refine blk_drew ?_ | refine blk_alloc ?_ _)); refine blk_far ?_ NB1009_1010.out _; (with_reducible repeat (first | refine blk_drewN ?_ _ | refine blk_drew ?_ | refine blk_alloc ?_ _)); refine blk_far ?_ NB1009_1010.out _; (with_reducible repeat (first | refine blk_drewN ?_ _ | refine blk_drew ?_ | refine blk_alloc ?_ _)); refine blk_far ?_ NB1009_1010.out _; (with_reducible repeat (first | refine blk_drewN ?_ _ | refine blk_drew ?_ | refine blk_alloc ?_ _)); exact BK1009.out⟩, ⟨by (with_reducible repeat (first | refine blk_drewN ?_ _ | refine blk_drew ?_ | refine blk_alloc ?_ _)); refine blk_put (cs := #[.slice none 0 0, .slice none 0 0, .int .i64 0, .int .i64 0]) ?_ 3 _ rfl; (with_reducible repeat (first | refine blk_drewN ?_ _ | refine blk_drew ?_ | refine blk_alloc ?_ _)); refine blk_put (cs := #[.slice none 0 0, .slice none 0 0, .int .i64 0, .int .i64 0]) ?_ 2 _ rfl; (with_reducible repeat (first | refine blk_drewN ?_ _ | refine blk_drew ?_ | refine blk_alloc ?_ _)); refine blk_put (cs := #[.slice none 0 0, .slice none 0 0, .int .i64 0, .int .i64 0]) ?_ 1 _ rfl; (with_reducible repeat (first | refine blk_drewN ?_ _ | refine blk_drew ?_ | refine blk_alloc ?_ _)); refine blk_put (cs := #[.slice none 0 0, .slice none 0 0, .int .i64 0, .int .i64 0]) ?_ 0 _ rfl; (with_reducible repeat (first | refine blk_drewN ?_ _ | refine blk_drew ?_ | refine blk_alloc ?_ _)); exact BK1010.out⟩, ⟨by repeat (first | (with_reducible first | exact HB.out | apply below_alloc | apply pw_below_drewN | apply below_drew1 | refine below_set ?_ GE1009.out | refine below_set ?_ GE1010.out) | exact HB.out)⟩⟩
  case rest =>
    clear HC2
    try clear p2
    try clear c4
    try clear c5
    try clear c7
    try clear c7b0
    try clear c7b1
    try clear hcz6_0
    try clear hcz6_1
    try clear hcz6_2
    try clear hcz6_3
    try clear hfz6_0
    try clear hfz6_1
    try clear hfz6_2
    try clear hfz6_3
    obtain ⟨kq, x0_1, rfl, HA, HJ1, BK1009, BK1010, HB⟩ := hcut
    cases kq with
    | zero => exact absurd HA.out (by simp [impl_StateNew.j0])
    | succ kj1 =>
      have H := HA.out
      clear HA
      simp only [impl_StateNew.j0] at H
      have H' := Aside0.mk H
      clear H
      go_wp2
      go_loopg [8] kj1 (fun kq v8 w' => ∃ (x8_2 : Int) (x1011001_2 : List (S71)) (u1011001 : Value), v8 = .int .i64 x8_2 ∧ Aside0 (impl_StateNew.l0 kq x0_1 x8_2 x1011001_2 0 0 = some (r1, r2, r3, r4)) ∧ Aside0 (kq ≤ kj1) ∧ Aside0 (Kd.R k71 71 w' w.heap.size (fun _ => True) u1011001 x1011001_2) ∧ Aside0 (w'.heap[gb1009]? = some (.cells #[(.slice none 0 0), (.slice none 0 0), .int .i64 0, .int .i64 0] 56 (0, 0))) ∧ Aside0 (w'.heap[gb1010]? = some (.cells #[(.slice none 0 0), u1011001, .int .i64 0, .int .i64 0] 56 (0, 0))) ∧ Aside0 (Below w.heap.size w w'))
      case atStart => exact ⟨(0), (([] : List (S71))), (.slice none 0 0), (by first | rfl | (simp; done) | (simp [*]; done)), H', ⟨Nat.le_refl _⟩, ⟨by first | exact Kd.R_nil _ _ _ _ _ | exact Kd.N_nil _ _ _ _ _ | exact Kd.V_nil _ _ _ _ _ | exact Kd.Q_nil _ _ _ _ _ | exact Kd.S_nil _ _ _ _ _⟩, ⟨by (with_reducible repeat (first | refine blk_drewN ?_ _ | refine blk_drew ?_ | refine blk_alloc ?_ _)); exact BK1009.out⟩, ⟨by (with_reducible repeat (first | refine blk_drewN ?_ _ | refine blk_drew ?_ | refine blk_alloc ?_ _)); exact BK1010.out⟩, ⟨by repeat (first | (with_reducible first | exact HB.out | apply below_alloc | apply pw_below_drewN | apply below_drew1 | refine below_set ?_ GE1009.out | refine below_set ?_ GE1010.out) | exact HB.out)⟩⟩
      case round =>
        clear H'
        try clear p2
        try clear c4
        try clear c5
        try clear c7
        try clear c7b0
        try clear c7b1
        try clear hcz6_0
        try clear hcz6_1
        try clear hcz6_2
        try clear hcz6_3
        try clear hfz6_0
        try clear hfz6_1
        try clear hfz6_2
        try clear hfz6_3
        try clear p2
        obtain ⟨x8_2, x1011001_2, u1011001, rfl, HA, HK2, HO_1011001, BK1009, BK1010, HB⟩ := hrel
        cases gk with
        | zero => exact absurd HA.out (by simp [impl_StateNew.l0])
        | succ k2 =>
          have H := HA.out
          clear HA
          simp only [impl_StateNew.l0] at H
          by_cases c8 : x8_2 < x0_1
          · rw [if_pos c8] at H
            have c8b0 : decide (x8_2 < x0_1) = true := decide_eq_true c8
            clear c8
            by_cases c9 : x1011001_2.length < 5864062014805
            · rw [if_pos c9] at H
              have LMc9 := Aside0.mk c9
              clear c9
              obtain ⟨y1011, hy1011⟩ : ∃ y_ : List (S71), y_ = (x1011001_2 ++ [(⟨20, 0, false⟩ : S71)]) := ⟨_, rfl⟩
              replace H : (impl_StateNew.l0 k2 x0_1 (wrap64 (x8_2 + 1)) y1011 0 0) = some (r1, r2, r3, r4) := by first | (rw [hy1011]; with_reducible exact H) | (have H2_ := (Option.bind_some _ _).symm.trans H; rw [hy1011]; with_reducible exact H2_) | (have H2_ := (Option.bind_some _ _).symm.trans H; with_reducible exact H2_) | with_reducible exact H | (rw [hy1011]; exact H) | exact H
              have Ny1011 := Aside0.mk hy1011
              clear hy1011
              have H' := Aside0.mk H
              clear H
              have hnb10 := NB1010_1009.out
              have hnc10 := NB1009_1010.out
              have hcz11_0 : wr.cell? ⟨gb1010, 0, none⟩ = some (.slice none 0 0) := (blk_cell BK1010.out 0).trans rfl
              have hcz11_1 : wr.cell? ⟨gb1010, 1, none⟩ = some (u1011001) := (blk_cell BK1010.out 1).trans rfl
              have hcz11_2 : wr.cell? ⟨gb1010, 2, none⟩ = some (.int .i64 0) := (blk_cell BK1010.out 2).trans rfl
              have hcz11_3 : wr.cell? ⟨gb1010, 3, none⟩ = some (.int .i64 0) := (blk_cell BK1010.out 3).trans rfl
              have hfz11_0 := blk_frozen BK1010.out 0
              have hfz11_1 := blk_frozen BK1010.out 1
              have hfz11_2 := blk_frozen BK1010.out 2
              have hfz11_3 := blk_frozen BK1010.out 3
              go_wp2_with (first | ((with_reducible refine gate_builtin (b := .append) (xs := #[.tmp 11, .tmp 13]) rfl ?_); at_builtin; refine Kd.R_append k71 (w0 := w) w.heap.size rfl (.tmp 11) (.tmp 13) 54 71 (.agg #[(.int .i64 0), (.int .i64 0), (.bool false)]) 24 rfl Try.underlying54 info71 rfl (by decide) (by omega) u1011001 x1011001_2 (⟨20, 0, false⟩ : S71) [.int .i64 20, .int .i64 0, .bool false] (fun _ => True) (fun _ => False) rfl rfl ?aP (fun _ hk => hk.elim) ?aF ?aO ?aB ?aS ?aL ?_; (case aP => exact k71_mkM _ _ _ (⟨20, 0, false⟩ : S71)); (case aB => exact (by repeat (first | (with_reducible first | exact HB.out | apply below_alloc | apply pw_below_drewN | apply below_drew1 | refine below_set ?_ GE1009.out | refine below_set ?_ GE1010.out) | exact HB.out))); (case aF => exact (fun _ _ => trivial)); (case aO => exact (by (with_reducible repeat (first | apply Kd.R_alloc | apply Kd.R_drewN | apply Kd.R_drew)); exact HO_1011001.out)); (case aS => exact (below_size (by repeat (first | (with_reducible first | exact HB.out | apply below_alloc | apply pw_below_drewN | apply below_drew1 | refine below_set ?_ GE1009.out | refine below_set ?_ GE1010.out) | exact HB.out)))); (case aL => have := LMc9.out; omega); intro v1012 w12 ho hb hg hat; rw [← Ny1011.out] at ho; have n0_ := Aside0.mk (blk_grown (g := gb1009) (o := .cells #[.slice none 0 0, .slice none 0 0, .int .i64 0, .int .i64 0] 56 (0, 0)) (by (with_reducible repeat (first | refine blk_drewN ?_ _ | refine blk_drew ?_ | refine blk_alloc ?_ _)); exact BK1009.out) hg (Kd.R_ne HO_1011001.out BK1009.out (by decide))); have n1_ := Aside0.mk (blk_grown (g := gb1010) (o := .cells #[.slice none 0 0, u1011001, .int .i64 0, .int .i64 0] 56 (0, 0)) (by (with_reducible repeat (first | refine blk_drewN ?_ _ | refine blk_drew ?_ | refine blk_alloc ?_ _)); exact BK1010.out) hg (Kd.R_ne HO_1011001.out BK1010.out (by decide))); have n2_ := Aside0.mk (hb); have n3_ := Aside0.mk (ho); clear BK1009; clear BK1010; clear HB; clear HO_1011001; have BK1009 := n0_; have BK1010 := n1_; have HB := n2_; have HO1013 := n3_; clear n0_ n1_ n2_ n3_; clear ho hb hg hat; obtain ⟨Ao13, co13, eo13⟩ := Kd.R_slice HO1013.out; subst eo13; have hcz14_0 : w12.cell? ⟨gb1010, 0, none⟩ = some (.slice none 0 0) := (blk_cell BK1010.out 0).trans rfl; have hcz14_1 : w12.cell? ⟨gb1010, 1, none⟩ = some (u1011001) := (blk_cell BK1010.out 1).trans rfl; have hcz14_2 : w12.cell? ⟨gb1010, 2, none⟩ = some (.int .i64 0) := (blk_cell BK1010.out 2).trans rfl; have hcz14_3 : w12.cell? ⟨gb1010, 3, none⟩ = some (.int .i64 0) := (blk_cell BK1010.out 3).trans rfl; have hfz14_0 := blk_frozen BK1010.out 0; have hfz14_1 := blk_frozen BK1010.out 1; have hfz14_2 := blk_frozen BK1010.out 2; have hfz14_3 := blk_frozen BK1010.out 3))
              go_roundg k2
              case measure => have := HJ1.out; have := HK2.out; omega
              case rel => exact ⟨(wrap64 (x8_2 + 1)), (y1011), (.slice Ao13 y1011.length co13), (by first | rfl | (simp; done) | (simp [*]; done)), H', ⟨by have := HJ1.out; have := HK2.out; omega⟩, ⟨by (with_reducible repeat (first | apply Kd.R_alloc | apply Kd.R_drewN | apply Kd.R_drew)); exact Kd.R_mono (Kd.R_far (p := ⟨gb1010, 1, none⟩) (Kd.R_types HO1013.out BK1010.out (by decide)) (fun _ hk => hk.2) (.slice Ao13 y1011.length co13)) (fun _ hk => trivial)⟩, ⟨by (with_reducible repeat (first | refine blk_drewN ?_ _ | refine blk_drew ?_ | refine blk_alloc ?_ _)); refine blk_far ?_ NB1009_1010.out _; (with_reducible repeat (first | refine blk_drewN ?_ _ | refine blk_drew ?_ | refine blk_alloc ?_ _)); exact BK1009.out⟩, ⟨by (with_reducible repeat (first | refine blk_drewN ?_ _ | refine blk_drew ?_ | refine blk_alloc ?_ _)); refine blk_put (cs := #[.slice none 0 0, u1011001, .int .i64 0, .int .i64 0]) ?_ 1 _ rfl; (with_reducible repeat (first | refine blk_drewN ?_ _ | refine blk_drew ?_ | refine blk_alloc ?_ _)); exact BK1010.out⟩, ⟨by repeat (first | (with_reducible first | exact HB.out | apply below_alloc | apply pw_below_drewN | apply below_drew1 | refine below_set ?_ GE1009.out | refine below_set ?_ GE1010.out) | exact HB.out)⟩⟩
            · rw [if_neg c9] at H
              exact absurd H (by simp)
          · rw [if_neg c8] at H
            have c8b0 : decide (x8_2 < x0_1) = false := decide_eq_false c8
            clear c8
            simp only [Option.some.injEq, Prod.mk.injEq] at H
            obtain ⟨rfl, rfl, rfl, rfl⟩ := H
            have hnb15 := NB1010_1009.out
            have hnc15 := NB1009_1010.out
            have hcz16_0 : wr.cell? ⟨gb1010, 0, none⟩ = some (.slice none 0 0) := (blk_cell BK1010.out 0).trans rfl
            have hcz16_1 : wr.cell? ⟨gb1010, 1, none⟩ = some (u1011001) := (blk_cell BK1010.out 1).trans rfl
            have hcz16_2 : wr.cell? ⟨gb1010, 2, none⟩ = some (.int .i64 0) := (blk_cell BK1010.out 2).trans rfl
            have hcz16_3 : wr.cell? ⟨gb1010, 3, none⟩ = some (.int .i64 0) := (blk_cell BK1010.out 3).trans rfl
            have hfz16_0 := blk_frozen BK1010.out 0
            have hfz16_1 := blk_frozen BK1010.out 1
            have hfz16_2 := blk_frozen BK1010.out 2
            have hfz16_3 := blk_frozen BK1010.out 3
            have hcz17_0 : wr.cell? ⟨gb1009, 0, none⟩ = some (.slice none 0 0) := (blk_cell BK1009.out 0).trans rfl
            have hcz17_1 : wr.cell? ⟨gb1009, 1, none⟩ = some (.slice none 0 0) := (blk_cell BK1009.out 1).trans rfl
            have hcz17_2 : wr.cell? ⟨gb1009, 2, none⟩ = some (.int .i64 0) := (blk_cell BK1009.out 2).trans rfl
            have hcz17_3 : wr.cell? ⟨gb1009, 3, none⟩ = some (.int .i64 0) := (blk_cell BK1009.out 3).trans rfl
            have hfz17_0 := blk_frozen BK1009.out 0
            have hfz17_1 := blk_frozen BK1009.out 1
            have hfz17_2 := blk_frozen BK1009.out 2
            have hfz17_3 := blk_frozen BK1009.out 3
            obtain ⟨Ao18, co18, eo18⟩ := Kd.R_slice HO_1011001.out
            subst eo18
            go_wp2
            refine bodyPost_ret (results_cell_row rfl _ _ gb1009 56 #[.slice none 0 0, .slice Ao18 x1011001_2.length co18, .int .i64 0, .int .i64 0] (0, 0) _ rfl (by (with_reducible repeat (first | refine blk_drewN ?_ _ | refine blk_drew ?_ | refine blk_alloc ?_ _)); refine blk_put (cs := #[.slice none 0 0, .slice Ao18 x1011001_2.length co18, .int .i64 0, .int .i64 0]) ?_ 3 _ rfl; (with_reducible repeat (first | refine blk_drewN ?_ _ | refine blk_drew ?_ | refine blk_alloc ?_ _)); refine blk_put (cs := #[.slice none 0 0, .slice Ao18 x1011001_2.length co18, .int .i64 0, .int .i64 0]) ?_ 2 _ rfl; (with_reducible repeat (first | refine blk_drewN ?_ _ | refine blk_drew ?_ | refine blk_alloc ?_ _)); refine blk_put (cs := #[.slice none 0 0, .slice none 0 0, .int .i64 0, .int .i64 0]) ?_ 1 _ rfl; (with_reducible repeat (first | refine blk_drewN ?_ _ | refine blk_drew ?_ | refine blk_alloc ?_ _)); refine blk_put (cs := #[.slice none 0 0, .slice none 0 0, .int .i64 0, .int .i64 0]) ?_ 0 _ rfl; (with_reducible repeat (first | refine blk_drewN ?_ _ | refine blk_drew ?_ | refine blk_alloc ?_ _)); exact BK1009.out) Try.underlying56 rfl (by kernel_rfl)) rfl ?_
            exact ⟨_, _, by first | rfl | (simp [errW_none, errW_some] <;> rfl) | (simp [*, errW_none, errW_some] <;> rfl), by first | exact Kd.R_nil _ _ _ _ _ | exact Kd.N_nil _ _ _ _ _ | exact Kd.V_nil _ _ _ _ _ | exact Kd.Q_nil _ _ _ _ _ | exact Kd.S_nil _ _ _ _ _, by (with_reducible repeat (first | apply Kd.R_alloc | apply Kd.R_drewN | apply Kd.R_drew)); exact Kd.R_mono (Kd.R_far (p := ⟨gb1009, 3, none⟩) (Kd.R_far (p := ⟨gb1009, 2, none⟩) (Kd.R_far (p := ⟨gb1009, 1, none⟩) (Kd.R_far (p := ⟨gb1009, 0, none⟩) (Kd.R_types HO_1011001.out BK1009.out (by decide)) (fun _ hk => hk.2) (.slice none 0 0)) (fun _ hk => hk.2) (.slice Ao18 x1011001_2.length co18)) (fun _ hk => hk.2) (.int .i64 0)) (fun _ hk => hk.2) (.int .i64 0)) (fun _ hk => trivial), by repeat (first | (with_reducible first | exact HB.out | apply below_alloc | apply pw_below_drewN | apply below_drew1 | refine below_set ?_ GE1009.out | refine below_set ?_ GE1010.out) | exact HB.out)⟩




end Go.Proofs.Ytfkidiagmekleaa.QAll
