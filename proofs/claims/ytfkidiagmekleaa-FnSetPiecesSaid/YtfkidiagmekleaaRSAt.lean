-- Written by a program of this session (patch_print.py over the print).
import Derived.Test.YtfkidiagmekleaaQAllx0
namespace Go.Proofs.Ytfkidiagmekleaa.QAll
open Go.RowKit Go.Proofs.YtfkidiagmekleaaW.PrintWords Go.Proofs.YtfkidiagmekleaaW.PrintLast Go.Proofs.YtfkidiagmekleaaW.PrintMore
attribute [local go_sem] max2_int min2_int max_two min_two max_three min_three max_four min_four   -- for this text's walks alone
set_option linter.unusedVariables false
set_option linter.unusedSimpArgs false

/-! ### spec_PieceAt: function 68 -/
def spec_PieceAt.l0 : Nat → Int → Int → List (S25) → List (S71) → Int → Int → Option (Int)
  | 0, _, _, _, _, _, _ => none
  | k + 1, x1, x5, x1195000, x1195001, x1195002, x1195003 => if x5 < (x1195000.length : Int) then (if 0 ≤ x5 then (if ((rd_T25 x1195000 x5).f0) = x1 then (some x5) else (spec_PieceAt.l0 k x1 (wrap64 (x5 + 1)) x1195000 x1195001 x1195002 x1195003)) else (none)) else (some (-1))
def spec_PieceAt.f (k : Nat) (l0_0 : List (S25)) (l0_1 : List (S71)) (a0_2 : Int) (a0_3 : Int) (a1 : Int) : Option (Int) := spec_PieceAt.l0 k a1 0 l0_0 l0_1 a0_2 a0_3
theorem spec_PieceAt.mono_l : ∀ k, (∀ y0 y1 y2 y3 y4 y5, LeO (spec_PieceAt.l0 k y0 y1 y2 y3 y4 y5) (spec_PieceAt.l0 (k + 1) y0 y1 y2 y3 y4 y5))
  | 0 => fun _ _ _ _ _ _ r h => by simp [spec_PieceAt.l0] at h
  | k + 1 => by
    have ih0 := spec_PieceAt.mono_l k
    · intro y0 y1 y2 y3 y4 y5
      unfold spec_PieceAt.l0
      repeat' first
      | (with_reducible exact ih0 _ _ _ _ _ _)
      | (with_reducible exact LeO.refl _)
      | (with_reducible exact LeO.none _)
      | (with_reducible refine LeO.ite ?_ ?_)
      | (with_reducible refine LeO.bind ?_ (fun _ => ?_))
      | exact ih0 _ _ _ _ _ _
      | exact LeO.none _
      | refine LeO.ite ?_ ?_
      | refine LeO.bind ?_ (fun _ => ?_)
theorem spec_PieceAt.mono : ∀ a0 a1 a2 a3 a4 k, LeO (spec_PieceAt.f k a0 a1 a2 a3 a4) (spec_PieceAt.f (k + 1) a0 a1 a2 a3 a4) := by
  intro a0 a1 a2 a3 a4 k
  have ih0 := spec_PieceAt.mono_l k
  unfold spec_PieceAt.f
  repeat' first
      | (with_reducible exact ih0 _ _ _ _ _ _)
      | (with_reducible exact LeO.refl _)
      | (with_reducible exact LeO.none _)
      | (with_reducible refine LeO.ite ?_ ?_)
      | (with_reducible refine LeO.bind ?_ (fun _ => ?_))
      | exact ih0 _ _ _ _ _ _
      | exact LeO.none _
      | refine LeO.ite ?_ ?_
      | refine LeO.bind ?_ (fun _ => ?_)
set_option maxHeartbeats 8000000 in
set_option maxRecDepth 100000 in
theorem spec_PieceAt.calls (k : Nat) (A0_0 : Option Addr) (c0_0 : Nat) (l0_0 : List (S25)) (A0_1 : Option Addr) (c0_1 : Nat) (l0_1 : List (S71)) (a0_2 : Int) (a0_3 : Int) (a1 : Int) (r : Int) (w : World) (hr0_0 : Kd.C k25 w A0_0 l0_0.length l0_0) (hc0_0 : l0_0.length ≤ c0_0) (hr0_1 : Kd.C k71 w A0_1 l0_1.length l0_1) (hc0_1 : l0_1.length ≤ c0_1) (h : spec_PieceAt.f k l0_0 l0_1 a0_2 a0_3 a1 = some r) :
    Calls Try.prog 68 #[.agg #[.slice A0_0 l0_0.length c0_0, .slice A0_1 l0_1.length c0_1, .int .i64 a0_2, .int .i64 a0_3], .int .i64 a1] w fun e w' => e = .returned (.int .i64 r) ∧ Below w.heap.size w w' := by
  have hu56 := Try.underlying56
  have HR0_0 := Aside0.mk hr0_0
  have HC0_0 := Aside0.mk hc0_0
  clear hr0_0 hc0_0
  have HR0_1 := Aside0.mk hr0_1
  have HC0_1 := Aside0.mk hc0_1
  clear hr0_1 hc0_1
  have HB := Aside0.mk (Below.refl w.heap.size w)
  have H : (spec_PieceAt.l0 k a1 0 l0_0 l0_1 a0_2 a0_3) = some r := h
  clear h
  have H' := Aside0.mk H
  clear H
  go_enter Try.func68, Try.ntmps68
  go_wp2_with (first | ((with_reducible refine gate_dst (N := 2) rfl ?_); refine box_event ?hg (N := 2) ?hd (cs := #[.slice A0_0 l0_0.length c0_0, .slice A0_1 l0_1.length c0_1, .int .i64 a0_2, .int .i64 a0_3]) (t := 56) ?hr ?_; (case hd => rfl); (case hg => rfl); (case hr => first | (go_simp; done) | (go_simp; rfl)); intro gb1194 hg w3 hbox hb; have n0_ := Aside0.mk (below_step (by repeat (first | (with_reducible first | exact HB.out | apply below_alloc | apply pw_below_drewN | apply below_drew1) | exact HB.out)) hb); have n1_ := Aside0.mk (hbox); have n2_ := Aside0.mk ((by rw [hg]; exact (below_size (by repeat (first | (with_reducible first | exact HB.out | apply below_alloc | apply pw_below_drewN | apply below_drew1) | exact HB.out))) : w.heap.size ≤ gb1194)); have n3_ := Aside0.mk ((by rw [hg]; exact (below_size (by repeat (first | (with_reducible first | exact HB.out | apply below_alloc | apply pw_below_drewN | apply below_drew1) | exact HB.out))) : w.heap.size ≤ gb1194)); clear HB; have HB := n0_; have BK1194 := n1_; have GW1194 := n2_; have GE1194 := n3_; clear n0_ n1_ n2_ n3_; clear hb hbox hg))
  go_loopg [5] k (fun kq v5 w' => ∃ (x5_1 : Int), v5 = .int .i64 x5_1 ∧ Aside0 (spec_PieceAt.l0 kq a1 x5_1 l0_0 l0_1 a0_2 a0_3 = some r) ∧ Aside0 (kq ≤ k) ∧ Aside0 (w'.heap[gb1194]? = some (.cells #[(.slice A0_0 l0_0.length c0_0), (.slice A0_1 l0_1.length c0_1), .int .i64 a0_2, .int .i64 a0_3] 56 (0, 0))) ∧ Aside0 (Below w.heap.size w w'))
  case atStart => exact ⟨(0), (by first | rfl | (simp; done) | (simp [*]; done)), H', ⟨Nat.le_refl _⟩, ⟨by (with_reducible repeat (first | refine blk_drewN ?_ _ | refine blk_drew ?_ | refine blk_alloc ?_ _)); exact BK1194.out⟩, ⟨by repeat (first | (with_reducible first | exact HB.out | apply below_alloc | apply pw_below_drewN | apply below_drew1 | refine below_set ?_ GE1194.out) | exact HB.out)⟩⟩
  case round =>
    clear H'
    try clear p2
    obtain ⟨x5_1, rfl, HA, HK1, BK1194, HB⟩ := hrel
    cases gk with
    | zero => exact absurd HA.out (by simp [spec_PieceAt.l0])
    | succ k1 =>
      have H := HA.out
      clear HA
      simp only [spec_PieceAt.l0] at H
      by_cases c4 : x5_1 < (l0_0.length : Int)
      · rw [if_pos c4] at H
        have c4b0 : decide (x5_1 < (l0_0.length : Int)) = true := decide_eq_true c4
        clear c4
        by_cases c5 : 0 ≤ x5_1
        · rw [if_pos c5] at H
          have c5b0 : decide (0 ≤ x5_1) = true := decide_eq_true c5
          clear c5
          by_cases c6 : ((rd_T25 l0_0 x5_1).f0) = a1
          · rw [if_pos c6] at H
            have c6b0 : (((rd_T25 l0_0 x5_1).f0) == a1) = true := beq_iff_eq.mpr c6
            have c6b1 : (((rd_T25 l0_0 x5_1).f0) != a1) = false := bne_eq_false_iff_eq.mpr c6
            clear c6
            obtain rfl := Option.some.inj H
            have hcz7_0 : wr.cell? ⟨gb1194, 0, none⟩ = some (.slice A0_0 l0_0.length c0_0) := (blk_cell BK1194.out 0).trans rfl
            have hcz7_1 : wr.cell? ⟨gb1194, 1, none⟩ = some (.slice A0_1 l0_1.length c0_1) := (blk_cell BK1194.out 1).trans rfl
            have hcz7_2 : wr.cell? ⟨gb1194, 2, none⟩ = some (.int .i64 a0_2) := (blk_cell BK1194.out 2).trans rfl
            have hcz7_3 : wr.cell? ⟨gb1194, 3, none⟩ = some (.int .i64 a0_3) := (blk_cell BK1194.out 3).trans rfl
            have hfz7_0 := blk_frozen BK1194.out 0
            have hfz7_1 := blk_frozen BK1194.out 1
            have hfz7_2 := blk_frozen BK1194.out 2
            have hfz7_3 := blk_frozen BK1194.out 3
            have p1195 : 0 ≤ (x5_1 : Int) := of_decide_eq_true (by first | (with_reducible assumption) | assumption)
            have q1195 : x5_1 < (l0_0.length : Int) := of_decide_eq_true (by first | (with_reducible assumption) | assumption)
            obtain ⟨ad1195, e1195, hx1195_0, hx1195_1, hx1195_2, hx1195_3, hx1195_4, hx1195_5, hx1195_6, hx1195_7, hx1195_8, hx1195_9, hx1195_10, hx1195_11, hx1195_12⟩ := at_T25 HR0_0.out x5_1 p1195 q1195
            cases e1195
            replace hx1195_0 := (HB.out.cell (World.block_lt_of_cell? w _ hx1195_0)).trans hx1195_0
            replace hx1195_1 := (HB.out.cell (World.block_lt_of_cell? w _ hx1195_1)).trans hx1195_1
            replace hx1195_2 := (HB.out.cell (World.block_lt_of_cell? w _ hx1195_2)).trans hx1195_2
            replace hx1195_3 := (HB.out.cell (World.block_lt_of_cell? w _ hx1195_3)).trans hx1195_3
            replace hx1195_4 := (HB.out.cell (World.block_lt_of_cell? w _ hx1195_4)).trans hx1195_4
            replace hx1195_5 := (HB.out.cell (World.block_lt_of_cell? w _ hx1195_5)).trans hx1195_5
            replace hx1195_6 := (HB.out.cell (World.block_lt_of_cell? w _ hx1195_6)).trans hx1195_6
            replace hx1195_7 := (HB.out.cell (World.block_lt_of_cell? w _ hx1195_7)).trans hx1195_7
            replace hx1195_8 := (HB.out.cell (World.block_lt_of_cell? w _ hx1195_8)).trans hx1195_8
            replace hx1195_9 := (HB.out.cell (World.block_lt_of_cell? w _ hx1195_9)).trans hx1195_9
            replace hx1195_10 := (HB.out.cell (World.block_lt_of_cell? w _ hx1195_10)).trans hx1195_10
            replace hx1195_11 := (HB.out.cell (World.block_lt_of_cell? w _ hx1195_11)).trans hx1195_11
            replace hx1195_12 := (HB.out.cell (World.block_lt_of_cell? w _ hx1195_12)).trans hx1195_12
            replace p1195 := eq_true p1195
            replace q1195 := eq_true q1195
            go_wp2
            go_ret
            exact ⟨by first | rfl | (simp [errW_none, errW_some] <;> rfl) | (simp [*, errW_none, errW_some] <;> rfl), by repeat (first | (with_reducible first | exact HB.out | apply below_alloc | apply pw_below_drewN | apply below_drew1 | refine below_set ?_ GE1194.out) | exact HB.out)⟩
          · rw [if_neg c6] at H
            have c6b0 : (((rd_T25 l0_0 x5_1).f0) == a1) = false := beq_eq_false_iff_ne.mpr c6
            have c6b1 : (((rd_T25 l0_0 x5_1).f0) != a1) = true := bne_iff_ne.mpr c6
            have H' := Aside0.mk H
            clear H
            have hcz8_0 : wr.cell? ⟨gb1194, 0, none⟩ = some (.slice A0_0 l0_0.length c0_0) := (blk_cell BK1194.out 0).trans rfl
            have hcz8_1 : wr.cell? ⟨gb1194, 1, none⟩ = some (.slice A0_1 l0_1.length c0_1) := (blk_cell BK1194.out 1).trans rfl
            have hcz8_2 : wr.cell? ⟨gb1194, 2, none⟩ = some (.int .i64 a0_2) := (blk_cell BK1194.out 2).trans rfl
            have hcz8_3 : wr.cell? ⟨gb1194, 3, none⟩ = some (.int .i64 a0_3) := (blk_cell BK1194.out 3).trans rfl
            have hfz8_0 := blk_frozen BK1194.out 0
            have hfz8_1 := blk_frozen BK1194.out 1
            have hfz8_2 := blk_frozen BK1194.out 2
            have hfz8_3 := blk_frozen BK1194.out 3
            have p1195 : 0 ≤ (x5_1 : Int) := of_decide_eq_true (by first | (with_reducible assumption) | assumption)
            have q1195 : x5_1 < (l0_0.length : Int) := of_decide_eq_true (by first | (with_reducible assumption) | assumption)
            obtain ⟨ad1195, e1195, hx1195_0, hx1195_1, hx1195_2, hx1195_3, hx1195_4, hx1195_5, hx1195_6, hx1195_7, hx1195_8, hx1195_9, hx1195_10, hx1195_11, hx1195_12⟩ := at_T25 HR0_0.out x5_1 p1195 q1195
            cases e1195
            replace hx1195_0 := (HB.out.cell (World.block_lt_of_cell? w _ hx1195_0)).trans hx1195_0
            replace hx1195_1 := (HB.out.cell (World.block_lt_of_cell? w _ hx1195_1)).trans hx1195_1
            replace hx1195_2 := (HB.out.cell (World.block_lt_of_cell? w _ hx1195_2)).trans hx1195_2
            replace hx1195_3 := (HB.out.cell (World.block_lt_of_cell? w _ hx1195_3)).trans hx1195_3
            replace hx1195_4 := (HB.out.cell (World.block_lt_of_cell? w _ hx1195_4)).trans hx1195_4
            replace hx1195_5 := (HB.out.cell (World.block_lt_of_cell? w _ hx1195_5)).trans hx1195_5
            replace hx1195_6 := (HB.out.cell (World.block_lt_of_cell? w _ hx1195_6)).trans hx1195_6
            replace hx1195_7 := (HB.out.cell (World.block_lt_of_cell? w _ hx1195_7)).trans hx1195_7
            replace hx1195_8 := (HB.out.cell (World.block_lt_of_cell? w _ hx1195_8)).trans hx1195_8
            replace hx1195_9 := (HB.out.cell (World.block_lt_of_cell? w _ hx1195_9)).trans hx1195_9
            replace hx1195_10 := (HB.out.cell (World.block_lt_of_cell? w _ hx1195_10)).trans hx1195_10
            replace hx1195_11 := (HB.out.cell (World.block_lt_of_cell? w _ hx1195_11)).trans hx1195_11
            replace hx1195_12 := (HB.out.cell (World.block_lt_of_cell? w _ hx1195_12)).trans hx1195_12
            replace p1195 := eq_true p1195
            replace q1195 := eq_true q1195
            go_wp2
            go_roundg k1
            case measure => have := HK1.out; omega
            case rel => exact ⟨(wrap64 (x5_1 + 1)), (by first | rfl | (simp; done) | (simp [*]; done)), H', ⟨by have := HK1.out; omega⟩, ⟨by (with_reducible repeat (first | refine blk_drewN ?_ _ | refine blk_drew ?_ | refine blk_alloc ?_ _)); exact BK1194.out⟩, ⟨by repeat (first | (with_reducible first | exact HB.out | apply below_alloc | apply pw_below_drewN | apply below_drew1 | refine below_set ?_ GE1194.out) | exact HB.out)⟩⟩
        · rw [if_neg c5] at H
          exact absurd H (by simp)
      · rw [if_neg c4] at H
        have c4b0 : decide (x5_1 < (l0_0.length : Int)) = false := decide_eq_false c4
        clear c4
        obtain rfl := Option.some.inj H
        have hcz9_0 : wr.cell? ⟨gb1194, 0, none⟩ = some (.slice A0_0 l0_0.length c0_0) := (blk_cell BK1194.out 0).trans rfl
        have hcz9_1 : wr.cell? ⟨gb1194, 1, none⟩ = some (.slice A0_1 l0_1.length c0_1) := (blk_cell BK1194.out 1).trans rfl
        have hcz9_2 : wr.cell? ⟨gb1194, 2, none⟩ = some (.int .i64 a0_2) := (blk_cell BK1194.out 2).trans rfl
        have hcz9_3 : wr.cell? ⟨gb1194, 3, none⟩ = some (.int .i64 a0_3) := (blk_cell BK1194.out 3).trans rfl
        have hfz9_0 := blk_frozen BK1194.out 0
        have hfz9_1 := blk_frozen BK1194.out 1
        have hfz9_2 := blk_frozen BK1194.out 2
        have hfz9_3 := blk_frozen BK1194.out 3
        go_wp2
        go_ret
        exact ⟨by first | rfl | (simp [errW_none, errW_some] <;> rfl) | (simp [*, errW_none, errW_some] <;> rfl), by repeat (first | (with_reducible first | exact HB.out | apply below_alloc | apply pw_below_drewN | apply below_drew1 | refine below_set ?_ GE1194.out) | exact HB.out)⟩



end Go.Proofs.Ytfkidiagmekleaa.QAll
