-- Written by a program of this session (patch_print.py over the print).
import Derived.Test.YtfkidiagmekleaaQAllx0
namespace Go.Proofs.Ytfkidiagmekleaa.QAll
open Go.RowKit Go.Proofs.YtfkidiagmekleaaW.PrintWords Go.Proofs.YtfkidiagmekleaaW.PrintLast Go.Proofs.YtfkidiagmekleaaW.PrintMore
attribute [local go_sem] max2_int min2_int max_two min_two max_three min_three max_four min_four   -- for this text's walks alone
set_option linter.unusedVariables false
set_option linter.unusedSimpArgs false

/-! ### spec_OnField: function 49 -/
def spec_OnField.l0 : Nat → Int → List Int → Int → List (S25) → List (S71) → Int → Int → Option (List Int)
  | 0, _, _, _, _, _, _, _ => none
  | k + 1, x1, x5, x6, x1064000, x1064001, x1064002, x1064003 => if x6 < (x1064000.length : Int) then (if 0 ≤ x6 then (if ((rd_T25 x1064000 x6).f3) = 2 then (if x1 = (-1) then (if x5.length < 17592186044416 then (spec_OnField.l0 k x1 (x5 ++ [(rd_T25 x1064000 x6).f0]) (wrap64 (x6 + 1)) x1064000 x1064001 x1064002 x1064003) else (none)) else (if ((rd_T25 x1064000 x6).f2) = x1 then (if x5.length < 17592186044416 then (spec_OnField.l0 k x1 (x5 ++ [(rd_T25 x1064000 x6).f0]) (wrap64 (x6 + 1)) x1064000 x1064001 x1064002 x1064003) else (none)) else (spec_OnField.l0 k x1 x5 (wrap64 (x6 + 1)) x1064000 x1064001 x1064002 x1064003))) else (spec_OnField.l0 k x1 x5 (wrap64 (x6 + 1)) x1064000 x1064001 x1064002 x1064003)) else (none)) else (some x5)
def spec_OnField.f (k : Nat) (l0_0 : List (S25)) (l0_1 : List (S71)) (a0_2 : Int) (a0_3 : Int) (a1 : Int) : Option (List Int) := spec_OnField.l0 k a1 (([] : List Int)) 0 l0_0 l0_1 a0_2 a0_3
theorem spec_OnField.mono_l : ∀ k, (∀ y0 y1 y2 y3 y4 y5 y6, LeO (spec_OnField.l0 k y0 y1 y2 y3 y4 y5 y6) (spec_OnField.l0 (k + 1) y0 y1 y2 y3 y4 y5 y6))
  | 0 => fun _ _ _ _ _ _ _ r h => by simp [spec_OnField.l0] at h
  | k + 1 => by
    have ih0 := spec_OnField.mono_l k
    · intro y0 y1 y2 y3 y4 y5 y6
      unfold spec_OnField.l0
      repeat' first
      | (with_reducible exact ih0 _ _ _ _ _ _ _)
      | (with_reducible exact LeO.refl _)
      | (with_reducible exact LeO.none _)
      | (with_reducible refine LeO.ite ?_ ?_)
      | (with_reducible refine LeO.bind ?_ (fun _ => ?_))
      | exact ih0 _ _ _ _ _ _ _
      | exact LeO.none _
      | refine LeO.ite ?_ ?_
      | refine LeO.bind ?_ (fun _ => ?_)
theorem spec_OnField.mono : ∀ a0 a1 a2 a3 a4 k, LeO (spec_OnField.f k a0 a1 a2 a3 a4) (spec_OnField.f (k + 1) a0 a1 a2 a3 a4) := by
  intro a0 a1 a2 a3 a4 k
  have ih0 := spec_OnField.mono_l k
  unfold spec_OnField.f
  repeat' first
      | (with_reducible exact ih0 _ _ _ _ _ _ _)
      | (with_reducible exact LeO.refl _)
      | (with_reducible exact LeO.none _)
      | (with_reducible refine LeO.ite ?_ ?_)
      | (with_reducible refine LeO.bind ?_ (fun _ => ?_))
      | exact ih0 _ _ _ _ _ _ _
      | exact LeO.none _
      | refine LeO.ite ?_ ?_
      | refine LeO.bind ?_ (fun _ => ?_)
set_option maxHeartbeats 8000000 in
set_option maxRecDepth 100000 in
theorem spec_OnField.calls (k : Nat) (A0_0 : Option Addr) (c0_0 : Nat) (l0_0 : List (S25)) (A0_1 : Option Addr) (c0_1 : Nat) (l0_1 : List (S71)) (a0_2 : Int) (a0_3 : Int) (a1 : Int) (r : List Int) (w : World) (hr0_0 : Kd.C k25 w A0_0 l0_0.length l0_0) (hc0_0 : l0_0.length ≤ c0_0) (hr0_1 : Kd.C k71 w A0_1 l0_1.length l0_1) (hc0_1 : l0_1.length ≤ c0_1) (h : spec_OnField.f k l0_0 l0_1 a0_2 a0_3 a1 = some r) :
    Calls Try.prog 49 #[.agg #[.slice A0_0 l0_0.length c0_0, .slice A0_1 l0_1.length c0_1, .int .i64 a0_2, .int .i64 a0_3], .int .i64 a1] w fun e w' => ∃ v0_ : Value, e = .returned (v0_) ∧ Kd.R (Kd.int .i64) 3 w' w.heap.size (fun _ => True) v0_ r ∧ Below w.heap.size w w' := by
  have hu56 := Try.underlying56
  have HR0_0 := Aside0.mk hr0_0
  have HC0_0 := Aside0.mk hc0_0
  clear hr0_0 hc0_0
  have HR0_1 := Aside0.mk hr0_1
  have HC0_1 := Aside0.mk hc0_1
  clear hr0_1 hc0_1
  have HB := Aside0.mk (Below.refl w.heap.size w)
  have H : (spec_OnField.l0 k a1 (([] : List Int)) 0 l0_0 l0_1 a0_2 a0_3) = some r := h
  clear h
  obtain ⟨y1064, hy1064⟩ : ∃ y_ : List Int, y_ = (([] : List Int)) := ⟨_, rfl⟩
  replace H : (spec_OnField.l0 k a1 y1064 0 l0_0 l0_1 a0_2 a0_3) = some r := by first | (rw [hy1064]; with_reducible exact H) | (have H2_ := (Option.bind_some _ _).symm.trans H; rw [hy1064]; with_reducible exact H2_) | (have H2_ := (Option.bind_some _ _).symm.trans H; with_reducible exact H2_) | with_reducible exact H | (rw [hy1064]; exact H) | exact H
  have Ny1064 := Aside0.mk hy1064
  clear hy1064
  have H' := Aside0.mk H
  clear H
  go_enter Try.func49, Try.ntmps49
  go_wp2_with (first | ((with_reducible refine gate_dst (N := 2) rfl ?_); refine box_event ?hg (N := 2) ?hd (cs := #[.slice A0_0 l0_0.length c0_0, .slice A0_1 l0_1.length c0_1, .int .i64 a0_2, .int .i64 a0_3]) (t := 56) ?hr ?_; (case hd => rfl); (case hg => rfl); (case hr => first | (go_simp; done) | (go_simp; rfl)); intro gb1063 hg w3 hbox hb; have n0_ := Aside0.mk (below_step (by repeat (first | (with_reducible first | exact HB.out | apply below_alloc | apply pw_below_drewN | apply below_drew1) | exact HB.out)) hb); have n1_ := Aside0.mk (hbox); have n2_ := Aside0.mk ((by rw [hg]; exact (below_size (by repeat (first | (with_reducible first | exact HB.out | apply below_alloc | apply pw_below_drewN | apply below_drew1) | exact HB.out))) : w.heap.size ≤ gb1063)); have n3_ := Aside0.mk ((by rw [hg]; exact (below_size (by repeat (first | (with_reducible first | exact HB.out | apply below_alloc | apply pw_below_drewN | apply below_drew1) | exact HB.out))) : w.heap.size ≤ gb1063)); clear HB; have HB := n0_; have BK1063 := n1_; have GW1063 := n2_; have GE1063 := n3_; clear n0_ n1_ n2_ n3_; clear hb hbox hg) | ((with_reducible refine gate_dst (N := 7) rfl ?_); refine Kd.R_lit (Kd.int .i64) _ 3 ?hg (N := 7) ?hd (xs := ([] : List Int)) (inner := []) (ok := fun _ => True) (okp := fun _ => True) ?hr ?hp (fun _ hk => hk) trivial (Below.refl _ _) (Nat.le_refl _) (by simp) ?_; (case hd => rfl); (case hg => rfl); (case hr => first | (go_simp; done) | (go_simp; rfl)); (case hp => exact (Reps.none _ _)); intro v1065 w4 ho5 hb hg_ hnew_; clear hg_ hnew_; (first | rw [← Ny1064.out] at ho5 | (simp only [Int.reduceToNat] at ho5; rw [← Ny1064.out] at ho5)); have n0_ := Aside0.mk (Kd.R_lower ho5 (below_size (by repeat (first | (with_reducible first | exact HB.out | apply below_alloc | apply pw_below_drewN | apply below_drew1 | refine below_set ?_ GE1063.out) | exact HB.out)))); have n1_ := Aside0.mk (blk_below (g := gb1063) (o := .cells #[.slice A0_0 l0_0.length c0_0, .slice A0_1 l0_1.length c0_1, .int .i64 a0_2, .int .i64 a0_3] 56 (0, 0)) (by (with_reducible repeat (first | refine blk_drewN ?_ _ | refine blk_drew ?_ | refine blk_alloc ?_ _)); exact BK1063.out) hb); have n2_ := Aside0.mk (below_step (by repeat (first | (with_reducible first | exact HB.out | apply below_alloc | apply pw_below_drewN | apply below_drew1 | refine below_set ?_ GE1063.out) | exact HB.out)) hb); clear BK1063; clear HB; have HO1066 := n0_; have BK1063 := n1_; have HB := n2_; clear n0_ n1_ n2_; clear hb ho5))
  go_loopg [5, 6] k (fun kq v5 v6 w' => ∃ (x5_1 : List Int) (x6_1 : Int), v6 = .int .i64 x6_1 ∧ Aside0 (spec_OnField.l0 kq a1 x5_1 x6_1 l0_0 l0_1 a0_2 a0_3 = some r) ∧ Aside0 (kq ≤ k) ∧ Aside0 (Kd.R (Kd.int .i64) 3 w' w.heap.size (fun _ => True) v5 x5_1) ∧ Aside0 (w'.heap[gb1063]? = some (.cells #[(.slice A0_0 l0_0.length c0_0), (.slice A0_1 l0_1.length c0_1), .int .i64 a0_2, .int .i64 a0_3] 56 (0, 0))) ∧ Aside0 (Below w.heap.size w w'))
  case atStart => exact ⟨(y1064), (0), (by first | rfl | (simp; done) | (simp [*]; done)), H', ⟨Nat.le_refl _⟩, ⟨by (with_reducible repeat (first | apply Kd.R_alloc | apply Kd.R_drewN | apply Kd.R_drew)); exact HO1066.out⟩, ⟨by (with_reducible repeat (first | refine blk_drewN ?_ _ | refine blk_drew ?_ | refine blk_alloc ?_ _)); exact BK1063.out⟩, ⟨by repeat (first | (with_reducible first | exact HB.out | apply below_alloc | apply pw_below_drewN | apply below_drew1 | refine below_set ?_ GE1063.out) | exact HB.out)⟩⟩
  case round =>
    clear H'
    try clear p2
    try clear c4
    obtain ⟨x5_1, x6_1, rfl, HA, HK1, HO_5, BK1063, HB⟩ := hrel
    cases gk with
    | zero => exact absurd HA.out (by simp [spec_OnField.l0])
    | succ k1 =>
      have H := HA.out
      clear HA
      simp only [spec_OnField.l0] at H
      by_cases c6 : x6_1 < (l0_0.length : Int)
      · rw [if_pos c6] at H
        have c6b0 : decide (x6_1 < (l0_0.length : Int)) = true := decide_eq_true c6
        clear c6
        by_cases c7 : 0 ≤ x6_1
        · rw [if_pos c7] at H
          have c7b0 : decide (0 ≤ x6_1) = true := decide_eq_true c7
          clear c7
          by_cases c8 : ((rd_T25 l0_0 x6_1).f3) = 2
          · rw [if_pos c8] at H
            have c8b0 : (((rd_T25 l0_0 x6_1).f3) == 2) = true := beq_iff_eq.mpr c8
            have c8b1 : (((rd_T25 l0_0 x6_1).f3) != 2) = false := bne_eq_false_iff_eq.mpr c8
            clear c8
            by_cases c9 : a1 = (-1)
            · rw [if_pos c9] at H
              have c9b0 : (a1 == (-1)) = true := beq_iff_eq.mpr c9
              have c9b1 : (a1 != (-1)) = false := bne_eq_false_iff_eq.mpr c9
              clear c9
              by_cases c10 : x5_1.length < 17592186044416
              · rw [if_pos c10] at H
                have LMc10 := Aside0.mk c10
                clear c10
                obtain ⟨y1069, hy1069⟩ : ∃ y_ : List Int, y_ = (x5_1 ++ [(rd_T25 l0_0 x6_1).f0]) := ⟨_, rfl⟩
                replace H : (spec_OnField.l0 k1 a1 y1069 (wrap64 (x6_1 + 1)) l0_0 l0_1 a0_2 a0_3) = some r := by first | (rw [hy1069]; with_reducible exact H) | (have H2_ := (Option.bind_some _ _).symm.trans H; rw [hy1069]; with_reducible exact H2_) | (have H2_ := (Option.bind_some _ _).symm.trans H; with_reducible exact H2_) | with_reducible exact H | (rw [hy1069]; exact H) | exact H
                have Ny1069 := Aside0.mk hy1069
                clear hy1069
                have H' := Aside0.mk H
                clear H
                have hcz11_0 : wr.cell? ⟨gb1063, 0, none⟩ = some (.slice A0_0 l0_0.length c0_0) := (blk_cell BK1063.out 0).trans rfl
                have hcz11_1 : wr.cell? ⟨gb1063, 1, none⟩ = some (.slice A0_1 l0_1.length c0_1) := (blk_cell BK1063.out 1).trans rfl
                have hcz11_2 : wr.cell? ⟨gb1063, 2, none⟩ = some (.int .i64 a0_2) := (blk_cell BK1063.out 2).trans rfl
                have hcz11_3 : wr.cell? ⟨gb1063, 3, none⟩ = some (.int .i64 a0_3) := (blk_cell BK1063.out 3).trans rfl
                have hfz11_0 := blk_frozen BK1063.out 0
                have hfz11_1 := blk_frozen BK1063.out 1
                have hfz11_2 := blk_frozen BK1063.out 2
                have hfz11_3 := blk_frozen BK1063.out 3
                have p1067 : 0 ≤ (x6_1 : Int) := of_decide_eq_true (by first | (with_reducible assumption) | assumption)
                have q1067 : x6_1 < (l0_0.length : Int) := of_decide_eq_true (by first | (with_reducible assumption) | assumption)
                obtain ⟨ad1067, e1067, hx1067_0, hx1067_1, hx1067_2, hx1067_3, hx1067_4, hx1067_5, hx1067_6, hx1067_7, hx1067_8, hx1067_9, hx1067_10, hx1067_11, hx1067_12⟩ := at_T25 HR0_0.out x6_1 p1067 q1067
                cases e1067
                replace hx1067_0 := (HB.out.cell (World.block_lt_of_cell? w _ hx1067_0)).trans hx1067_0
                replace hx1067_1 := (HB.out.cell (World.block_lt_of_cell? w _ hx1067_1)).trans hx1067_1
                replace hx1067_2 := (HB.out.cell (World.block_lt_of_cell? w _ hx1067_2)).trans hx1067_2
                replace hx1067_3 := (HB.out.cell (World.block_lt_of_cell? w _ hx1067_3)).trans hx1067_3
                replace hx1067_4 := (HB.out.cell (World.block_lt_of_cell? w _ hx1067_4)).trans hx1067_4
                replace hx1067_5 := (HB.out.cell (World.block_lt_of_cell? w _ hx1067_5)).trans hx1067_5
                replace hx1067_6 := (HB.out.cell (World.block_lt_of_cell? w _ hx1067_6)).trans hx1067_6
                replace hx1067_7 := (HB.out.cell (World.block_lt_of_cell? w _ hx1067_7)).trans hx1067_7
                replace hx1067_8 := (HB.out.cell (World.block_lt_of_cell? w _ hx1067_8)).trans hx1067_8
                replace hx1067_9 := (HB.out.cell (World.block_lt_of_cell? w _ hx1067_9)).trans hx1067_9
                replace hx1067_10 := (HB.out.cell (World.block_lt_of_cell? w _ hx1067_10)).trans hx1067_10
                replace hx1067_11 := (HB.out.cell (World.block_lt_of_cell? w _ hx1067_11)).trans hx1067_11
                replace hx1067_12 := (HB.out.cell (World.block_lt_of_cell? w _ hx1067_12)).trans hx1067_12
                replace p1067 := eq_true p1067
                replace q1067 := eq_true q1067
                have p1068 : 0 ≤ (x6_1 : Int) := of_decide_eq_true (by first | (with_reducible assumption) | assumption)
                have q1068 : x6_1 < (l0_0.length : Int) := of_decide_eq_true (by first | (with_reducible assumption) | assumption)
                obtain ⟨ad1068, e1068, hx1068_0, hx1068_1, hx1068_2, hx1068_3, hx1068_4, hx1068_5, hx1068_6, hx1068_7, hx1068_8, hx1068_9, hx1068_10, hx1068_11, hx1068_12⟩ := at_T25 HR0_0.out x6_1 p1068 q1068
                obtain rfl : ad1067 = ad1068 := (by injection e1068)
                replace hx1068_0 := (HB.out.cell (World.block_lt_of_cell? w _ hx1068_0)).trans hx1068_0
                replace hx1068_1 := (HB.out.cell (World.block_lt_of_cell? w _ hx1068_1)).trans hx1068_1
                replace hx1068_2 := (HB.out.cell (World.block_lt_of_cell? w _ hx1068_2)).trans hx1068_2
                replace hx1068_3 := (HB.out.cell (World.block_lt_of_cell? w _ hx1068_3)).trans hx1068_3
                replace hx1068_4 := (HB.out.cell (World.block_lt_of_cell? w _ hx1068_4)).trans hx1068_4
                replace hx1068_5 := (HB.out.cell (World.block_lt_of_cell? w _ hx1068_5)).trans hx1068_5
                replace hx1068_6 := (HB.out.cell (World.block_lt_of_cell? w _ hx1068_6)).trans hx1068_6
                replace hx1068_7 := (HB.out.cell (World.block_lt_of_cell? w _ hx1068_7)).trans hx1068_7
                replace hx1068_8 := (HB.out.cell (World.block_lt_of_cell? w _ hx1068_8)).trans hx1068_8
                replace hx1068_9 := (HB.out.cell (World.block_lt_of_cell? w _ hx1068_9)).trans hx1068_9
                replace hx1068_10 := (HB.out.cell (World.block_lt_of_cell? w _ hx1068_10)).trans hx1068_10
                replace hx1068_11 := (HB.out.cell (World.block_lt_of_cell? w _ hx1068_11)).trans hx1068_11
                replace hx1068_12 := (HB.out.cell (World.block_lt_of_cell? w _ hx1068_12)).trans hx1068_12
                replace p1068 := eq_true p1068
                replace q1068 := eq_true q1068
                go_wp2_with (first | ((with_reducible refine gate_builtin (b := .append) (xs := #[.tmp 36, .tmp 43]) rfl ?_); at_builtin; refine Kd.R_append (Kd.int .i64) (w0 := w) w.heap.size rfl (.tmp 36) (.tmp 43) 67 3 (.int .i64 0) 8 rfl Try.underlying67 info3 rfl (by decide) (by omega) u5 x5_1 ((rd_T25 l0_0 x6_1).f0) [.int .i64 ((rd_T25 l0_0 x6_1).f0)] (fun _ => True) (fun _ => False) rfl rfl ?aP (fun _ hk => hk.elim) ?aF ?aO ?aB ?aS ?aL ?_; (case aP => exact rfl); (case aB => exact (by repeat (first | (with_reducible first | exact HB.out | apply below_alloc | apply pw_below_drewN | apply below_drew1 | refine below_set ?_ GE1063.out) | exact HB.out))); (case aF => exact (fun _ _ => trivial)); (case aO => exact (by (with_reducible repeat (first | apply Kd.R_alloc | apply Kd.R_drewN | apply Kd.R_drew)); exact HO_5.out)); (case aS => exact (below_size (by repeat (first | (with_reducible first | exact HB.out | apply below_alloc | apply pw_below_drewN | apply below_drew1 | refine below_set ?_ GE1063.out) | exact HB.out)))); (case aL => have := LMc10.out; omega); intro v1070 w12 ho hb hg hat; rw [← Ny1069.out] at ho; have n0_ := Aside0.mk (blk_grown (g := gb1063) (o := .cells #[.slice (some ad1067) l0_0.length c0_0, .slice A0_1 l0_1.length c0_1, .int .i64 a0_2, .int .i64 a0_3] 56 (0, 0)) (by (with_reducible repeat (first | refine blk_drewN ?_ _ | refine blk_drew ?_ | refine blk_alloc ?_ _)); exact BK1063.out) hg (Kd.R_ne HO_5.out BK1063.out (by decide))); have n1_ := Aside0.mk (hb); have n2_ := Aside0.mk (ho); clear BK1063; clear HB; clear HO_5; have BK1063 := n0_; have HB := n1_; have HO1071 := n2_; clear n0_ n1_ n2_; clear ho hb hg hat))
                go_roundg k1
                case measure => have := HK1.out; omega
                case rel => exact ⟨(y1069), (wrap64 (x6_1 + 1)), (by first | rfl | (simp; done) | (simp [*]; done)), H', ⟨by have := HK1.out; omega⟩, ⟨by (with_reducible repeat (first | apply Kd.R_alloc | apply Kd.R_drewN | apply Kd.R_drew)); exact HO1071.out⟩, ⟨by (with_reducible repeat (first | refine blk_drewN ?_ _ | refine blk_drew ?_ | refine blk_alloc ?_ _)); exact BK1063.out⟩, ⟨by repeat (first | (with_reducible first | exact HB.out | apply below_alloc | apply pw_below_drewN | apply below_drew1 | refine below_set ?_ GE1063.out) | exact HB.out)⟩⟩
              · rw [if_neg c10] at H
                exact absurd H (by simp)
            · rw [if_neg c9] at H
              have c9b0 : (a1 == (-1)) = false := beq_eq_false_iff_ne.mpr c9
              have c9b1 : (a1 != (-1)) = true := bne_iff_ne.mpr c9
              by_cases c13 : ((rd_T25 l0_0 x6_1).f2) = a1
              · rw [if_pos c13] at H
                have c13b0 : (((rd_T25 l0_0 x6_1).f2) == a1) = true := beq_iff_eq.mpr c13
                have c13b1 : (((rd_T25 l0_0 x6_1).f2) != a1) = false := bne_eq_false_iff_eq.mpr c13
                clear c13
                by_cases c14 : x5_1.length < 17592186044416
                · rw [if_pos c14] at H
                  have LMc14 := Aside0.mk c14
                  clear c14
                  obtain ⟨y1074, hy1074⟩ : ∃ y_ : List Int, y_ = (x5_1 ++ [(rd_T25 l0_0 x6_1).f0]) := ⟨_, rfl⟩
                  replace H : (spec_OnField.l0 k1 a1 y1074 (wrap64 (x6_1 + 1)) l0_0 l0_1 a0_2 a0_3) = some r := by first | (rw [hy1074]; with_reducible exact H) | (have H2_ := (Option.bind_some _ _).symm.trans H; rw [hy1074]; with_reducible exact H2_) | (have H2_ := (Option.bind_some _ _).symm.trans H; with_reducible exact H2_) | with_reducible exact H | (rw [hy1074]; exact H) | exact H
                  have Ny1074 := Aside0.mk hy1074
                  clear hy1074
                  have H' := Aside0.mk H
                  clear H
                  have hcz15_0 : wr.cell? ⟨gb1063, 0, none⟩ = some (.slice A0_0 l0_0.length c0_0) := (blk_cell BK1063.out 0).trans rfl
                  have hcz15_1 : wr.cell? ⟨gb1063, 1, none⟩ = some (.slice A0_1 l0_1.length c0_1) := (blk_cell BK1063.out 1).trans rfl
                  have hcz15_2 : wr.cell? ⟨gb1063, 2, none⟩ = some (.int .i64 a0_2) := (blk_cell BK1063.out 2).trans rfl
                  have hcz15_3 : wr.cell? ⟨gb1063, 3, none⟩ = some (.int .i64 a0_3) := (blk_cell BK1063.out 3).trans rfl
                  have hfz15_0 := blk_frozen BK1063.out 0
                  have hfz15_1 := blk_frozen BK1063.out 1
                  have hfz15_2 := blk_frozen BK1063.out 2
                  have hfz15_3 := blk_frozen BK1063.out 3
                  have p1067 : 0 ≤ (x6_1 : Int) := of_decide_eq_true (by first | (with_reducible assumption) | assumption)
                  have q1067 : x6_1 < (l0_0.length : Int) := of_decide_eq_true (by first | (with_reducible assumption) | assumption)
                  obtain ⟨ad1067, e1067, hx1067_0, hx1067_1, hx1067_2, hx1067_3, hx1067_4, hx1067_5, hx1067_6, hx1067_7, hx1067_8, hx1067_9, hx1067_10, hx1067_11, hx1067_12⟩ := at_T25 HR0_0.out x6_1 p1067 q1067
                  cases e1067
                  replace hx1067_0 := (HB.out.cell (World.block_lt_of_cell? w _ hx1067_0)).trans hx1067_0
                  replace hx1067_1 := (HB.out.cell (World.block_lt_of_cell? w _ hx1067_1)).trans hx1067_1
                  replace hx1067_2 := (HB.out.cell (World.block_lt_of_cell? w _ hx1067_2)).trans hx1067_2
                  replace hx1067_3 := (HB.out.cell (World.block_lt_of_cell? w _ hx1067_3)).trans hx1067_3
                  replace hx1067_4 := (HB.out.cell (World.block_lt_of_cell? w _ hx1067_4)).trans hx1067_4
                  replace hx1067_5 := (HB.out.cell (World.block_lt_of_cell? w _ hx1067_5)).trans hx1067_5
                  replace hx1067_6 := (HB.out.cell (World.block_lt_of_cell? w _ hx1067_6)).trans hx1067_6
                  replace hx1067_7 := (HB.out.cell (World.block_lt_of_cell? w _ hx1067_7)).trans hx1067_7
                  replace hx1067_8 := (HB.out.cell (World.block_lt_of_cell? w _ hx1067_8)).trans hx1067_8
                  replace hx1067_9 := (HB.out.cell (World.block_lt_of_cell? w _ hx1067_9)).trans hx1067_9
                  replace hx1067_10 := (HB.out.cell (World.block_lt_of_cell? w _ hx1067_10)).trans hx1067_10
                  replace hx1067_11 := (HB.out.cell (World.block_lt_of_cell? w _ hx1067_11)).trans hx1067_11
                  replace hx1067_12 := (HB.out.cell (World.block_lt_of_cell? w _ hx1067_12)).trans hx1067_12
                  replace p1067 := eq_true p1067
                  replace q1067 := eq_true q1067
                  have p1072 : 0 ≤ (x6_1 : Int) := of_decide_eq_true (by first | (with_reducible assumption) | assumption)
                  have q1072 : x6_1 < (l0_0.length : Int) := of_decide_eq_true (by first | (with_reducible assumption) | assumption)
                  obtain ⟨ad1072, e1072, hx1072_0, hx1072_1, hx1072_2, hx1072_3, hx1072_4, hx1072_5, hx1072_6, hx1072_7, hx1072_8, hx1072_9, hx1072_10, hx1072_11, hx1072_12⟩ := at_T25 HR0_0.out x6_1 p1072 q1072
                  obtain rfl : ad1067 = ad1072 := (by injection e1072)
                  replace hx1072_0 := (HB.out.cell (World.block_lt_of_cell? w _ hx1072_0)).trans hx1072_0
                  replace hx1072_1 := (HB.out.cell (World.block_lt_of_cell? w _ hx1072_1)).trans hx1072_1
                  replace hx1072_2 := (HB.out.cell (World.block_lt_of_cell? w _ hx1072_2)).trans hx1072_2
                  replace hx1072_3 := (HB.out.cell (World.block_lt_of_cell? w _ hx1072_3)).trans hx1072_3
                  replace hx1072_4 := (HB.out.cell (World.block_lt_of_cell? w _ hx1072_4)).trans hx1072_4
                  replace hx1072_5 := (HB.out.cell (World.block_lt_of_cell? w _ hx1072_5)).trans hx1072_5
                  replace hx1072_6 := (HB.out.cell (World.block_lt_of_cell? w _ hx1072_6)).trans hx1072_6
                  replace hx1072_7 := (HB.out.cell (World.block_lt_of_cell? w _ hx1072_7)).trans hx1072_7
                  replace hx1072_8 := (HB.out.cell (World.block_lt_of_cell? w _ hx1072_8)).trans hx1072_8
                  replace hx1072_9 := (HB.out.cell (World.block_lt_of_cell? w _ hx1072_9)).trans hx1072_9
                  replace hx1072_10 := (HB.out.cell (World.block_lt_of_cell? w _ hx1072_10)).trans hx1072_10
                  replace hx1072_11 := (HB.out.cell (World.block_lt_of_cell? w _ hx1072_11)).trans hx1072_11
                  replace hx1072_12 := (HB.out.cell (World.block_lt_of_cell? w _ hx1072_12)).trans hx1072_12
                  replace p1072 := eq_true p1072
                  replace q1072 := eq_true q1072
                  have p1073 : 0 ≤ (x6_1 : Int) := of_decide_eq_true (by first | (with_reducible assumption) | assumption)
                  have q1073 : x6_1 < (l0_0.length : Int) := of_decide_eq_true (by first | (with_reducible assumption) | assumption)
                  obtain ⟨ad1073, e1073, hx1073_0, hx1073_1, hx1073_2, hx1073_3, hx1073_4, hx1073_5, hx1073_6, hx1073_7, hx1073_8, hx1073_9, hx1073_10, hx1073_11, hx1073_12⟩ := at_T25 HR0_0.out x6_1 p1073 q1073
                  obtain rfl : ad1067 = ad1073 := (by injection e1073)
                  replace hx1073_0 := (HB.out.cell (World.block_lt_of_cell? w _ hx1073_0)).trans hx1073_0
                  replace hx1073_1 := (HB.out.cell (World.block_lt_of_cell? w _ hx1073_1)).trans hx1073_1
                  replace hx1073_2 := (HB.out.cell (World.block_lt_of_cell? w _ hx1073_2)).trans hx1073_2
                  replace hx1073_3 := (HB.out.cell (World.block_lt_of_cell? w _ hx1073_3)).trans hx1073_3
                  replace hx1073_4 := (HB.out.cell (World.block_lt_of_cell? w _ hx1073_4)).trans hx1073_4
                  replace hx1073_5 := (HB.out.cell (World.block_lt_of_cell? w _ hx1073_5)).trans hx1073_5
                  replace hx1073_6 := (HB.out.cell (World.block_lt_of_cell? w _ hx1073_6)).trans hx1073_6
                  replace hx1073_7 := (HB.out.cell (World.block_lt_of_cell? w _ hx1073_7)).trans hx1073_7
                  replace hx1073_8 := (HB.out.cell (World.block_lt_of_cell? w _ hx1073_8)).trans hx1073_8
                  replace hx1073_9 := (HB.out.cell (World.block_lt_of_cell? w _ hx1073_9)).trans hx1073_9
                  replace hx1073_10 := (HB.out.cell (World.block_lt_of_cell? w _ hx1073_10)).trans hx1073_10
                  replace hx1073_11 := (HB.out.cell (World.block_lt_of_cell? w _ hx1073_11)).trans hx1073_11
                  replace hx1073_12 := (HB.out.cell (World.block_lt_of_cell? w _ hx1073_12)).trans hx1073_12
                  replace p1073 := eq_true p1073
                  replace q1073 := eq_true q1073
                  go_wp2_with (first | ((with_reducible refine gate_builtin (b := .append) (xs := #[.tmp 36, .tmp 43]) rfl ?_); at_builtin; refine Kd.R_append (Kd.int .i64) (w0 := w) w.heap.size rfl (.tmp 36) (.tmp 43) 67 3 (.int .i64 0) 8 rfl Try.underlying67 info3 rfl (by decide) (by omega) u5 x5_1 ((rd_T25 l0_0 x6_1).f0) [.int .i64 ((rd_T25 l0_0 x6_1).f0)] (fun _ => True) (fun _ => False) rfl rfl ?aP (fun _ hk => hk.elim) ?aF ?aO ?aB ?aS ?aL ?_; (case aP => exact rfl); (case aB => exact (by repeat (first | (with_reducible first | exact HB.out | apply below_alloc | apply pw_below_drewN | apply below_drew1 | refine below_set ?_ GE1063.out) | exact HB.out))); (case aF => exact (fun _ _ => trivial)); (case aO => exact (by (with_reducible repeat (first | apply Kd.R_alloc | apply Kd.R_drewN | apply Kd.R_drew)); exact HO_5.out)); (case aS => exact (below_size (by repeat (first | (with_reducible first | exact HB.out | apply below_alloc | apply pw_below_drewN | apply below_drew1 | refine below_set ?_ GE1063.out) | exact HB.out)))); (case aL => have := LMc14.out; omega); intro v1075 w16 ho hb hg hat; rw [← Ny1074.out] at ho; have n0_ := Aside0.mk (blk_grown (g := gb1063) (o := .cells #[.slice (some ad1067) l0_0.length c0_0, .slice A0_1 l0_1.length c0_1, .int .i64 a0_2, .int .i64 a0_3] 56 (0, 0)) (by (with_reducible repeat (first | refine blk_drewN ?_ _ | refine blk_drew ?_ | refine blk_alloc ?_ _)); exact BK1063.out) hg (Kd.R_ne HO_5.out BK1063.out (by decide))); have n1_ := Aside0.mk (hb); have n2_ := Aside0.mk (ho); clear BK1063; clear HB; clear HO_5; have BK1063 := n0_; have HB := n1_; have HO1076 := n2_; clear n0_ n1_ n2_; clear ho hb hg hat))
                  go_roundg k1
                  case measure => have := HK1.out; omega
                  case rel => exact ⟨(y1074), (wrap64 (x6_1 + 1)), (by first | rfl | (simp; done) | (simp [*]; done)), H', ⟨by have := HK1.out; omega⟩, ⟨by (with_reducible repeat (first | apply Kd.R_alloc | apply Kd.R_drewN | apply Kd.R_drew)); exact HO1076.out⟩, ⟨by (with_reducible repeat (first | refine blk_drewN ?_ _ | refine blk_drew ?_ | refine blk_alloc ?_ _)); exact BK1063.out⟩, ⟨by repeat (first | (with_reducible first | exact HB.out | apply below_alloc | apply pw_below_drewN | apply below_drew1 | refine below_set ?_ GE1063.out) | exact HB.out)⟩⟩
                · rw [if_neg c14] at H
                  exact absurd H (by simp)
              · rw [if_neg c13] at H
                have c13b0 : (((rd_T25 l0_0 x6_1).f2) == a1) = false := beq_eq_false_iff_ne.mpr c13
                have c13b1 : (((rd_T25 l0_0 x6_1).f2) != a1) = true := bne_iff_ne.mpr c13
                have H' := Aside0.mk H
                clear H
                have hcz17_0 : wr.cell? ⟨gb1063, 0, none⟩ = some (.slice A0_0 l0_0.length c0_0) := (blk_cell BK1063.out 0).trans rfl
                have hcz17_1 : wr.cell? ⟨gb1063, 1, none⟩ = some (.slice A0_1 l0_1.length c0_1) := (blk_cell BK1063.out 1).trans rfl
                have hcz17_2 : wr.cell? ⟨gb1063, 2, none⟩ = some (.int .i64 a0_2) := (blk_cell BK1063.out 2).trans rfl
                have hcz17_3 : wr.cell? ⟨gb1063, 3, none⟩ = some (.int .i64 a0_3) := (blk_cell BK1063.out 3).trans rfl
                have hfz17_0 := blk_frozen BK1063.out 0
                have hfz17_1 := blk_frozen BK1063.out 1
                have hfz17_2 := blk_frozen BK1063.out 2
                have hfz17_3 := blk_frozen BK1063.out 3
                have p1067 : 0 ≤ (x6_1 : Int) := of_decide_eq_true (by first | (with_reducible assumption) | assumption)
                have q1067 : x6_1 < (l0_0.length : Int) := of_decide_eq_true (by first | (with_reducible assumption) | assumption)
                obtain ⟨ad1067, e1067, hx1067_0, hx1067_1, hx1067_2, hx1067_3, hx1067_4, hx1067_5, hx1067_6, hx1067_7, hx1067_8, hx1067_9, hx1067_10, hx1067_11, hx1067_12⟩ := at_T25 HR0_0.out x6_1 p1067 q1067
                cases e1067
                replace hx1067_0 := (HB.out.cell (World.block_lt_of_cell? w _ hx1067_0)).trans hx1067_0
                replace hx1067_1 := (HB.out.cell (World.block_lt_of_cell? w _ hx1067_1)).trans hx1067_1
                replace hx1067_2 := (HB.out.cell (World.block_lt_of_cell? w _ hx1067_2)).trans hx1067_2
                replace hx1067_3 := (HB.out.cell (World.block_lt_of_cell? w _ hx1067_3)).trans hx1067_3
                replace hx1067_4 := (HB.out.cell (World.block_lt_of_cell? w _ hx1067_4)).trans hx1067_4
                replace hx1067_5 := (HB.out.cell (World.block_lt_of_cell? w _ hx1067_5)).trans hx1067_5
                replace hx1067_6 := (HB.out.cell (World.block_lt_of_cell? w _ hx1067_6)).trans hx1067_6
                replace hx1067_7 := (HB.out.cell (World.block_lt_of_cell? w _ hx1067_7)).trans hx1067_7
                replace hx1067_8 := (HB.out.cell (World.block_lt_of_cell? w _ hx1067_8)).trans hx1067_8
                replace hx1067_9 := (HB.out.cell (World.block_lt_of_cell? w _ hx1067_9)).trans hx1067_9
                replace hx1067_10 := (HB.out.cell (World.block_lt_of_cell? w _ hx1067_10)).trans hx1067_10
                replace hx1067_11 := (HB.out.cell (World.block_lt_of_cell? w _ hx1067_11)).trans hx1067_11
                replace hx1067_12 := (HB.out.cell (World.block_lt_of_cell? w _ hx1067_12)).trans hx1067_12
                replace p1067 := eq_true p1067
                replace q1067 := eq_true q1067
                have p1072 : 0 ≤ (x6_1 : Int) := of_decide_eq_true (by first | (with_reducible assumption) | assumption)
                have q1072 : x6_1 < (l0_0.length : Int) := of_decide_eq_true (by first | (with_reducible assumption) | assumption)
                obtain ⟨ad1072, e1072, hx1072_0, hx1072_1, hx1072_2, hx1072_3, hx1072_4, hx1072_5, hx1072_6, hx1072_7, hx1072_8, hx1072_9, hx1072_10, hx1072_11, hx1072_12⟩ := at_T25 HR0_0.out x6_1 p1072 q1072
                obtain rfl : ad1067 = ad1072 := (by injection e1072)
                replace hx1072_0 := (HB.out.cell (World.block_lt_of_cell? w _ hx1072_0)).trans hx1072_0
                replace hx1072_1 := (HB.out.cell (World.block_lt_of_cell? w _ hx1072_1)).trans hx1072_1
                replace hx1072_2 := (HB.out.cell (World.block_lt_of_cell? w _ hx1072_2)).trans hx1072_2
                replace hx1072_3 := (HB.out.cell (World.block_lt_of_cell? w _ hx1072_3)).trans hx1072_3
                replace hx1072_4 := (HB.out.cell (World.block_lt_of_cell? w _ hx1072_4)).trans hx1072_4
                replace hx1072_5 := (HB.out.cell (World.block_lt_of_cell? w _ hx1072_5)).trans hx1072_5
                replace hx1072_6 := (HB.out.cell (World.block_lt_of_cell? w _ hx1072_6)).trans hx1072_6
                replace hx1072_7 := (HB.out.cell (World.block_lt_of_cell? w _ hx1072_7)).trans hx1072_7
                replace hx1072_8 := (HB.out.cell (World.block_lt_of_cell? w _ hx1072_8)).trans hx1072_8
                replace hx1072_9 := (HB.out.cell (World.block_lt_of_cell? w _ hx1072_9)).trans hx1072_9
                replace hx1072_10 := (HB.out.cell (World.block_lt_of_cell? w _ hx1072_10)).trans hx1072_10
                replace hx1072_11 := (HB.out.cell (World.block_lt_of_cell? w _ hx1072_11)).trans hx1072_11
                replace hx1072_12 := (HB.out.cell (World.block_lt_of_cell? w _ hx1072_12)).trans hx1072_12
                replace p1072 := eq_true p1072
                replace q1072 := eq_true q1072
                go_wp2
                go_roundg k1
                case measure => have := HK1.out; omega
                case rel => exact ⟨(x5_1), (wrap64 (x6_1 + 1)), (by first | rfl | (simp; done) | (simp [*]; done)), H', ⟨by have := HK1.out; omega⟩, ⟨by (with_reducible repeat (first | apply Kd.R_alloc | apply Kd.R_drewN | apply Kd.R_drew)); exact HO_5.out⟩, ⟨by (with_reducible repeat (first | refine blk_drewN ?_ _ | refine blk_drew ?_ | refine blk_alloc ?_ _)); exact BK1063.out⟩, ⟨by repeat (first | (with_reducible first | exact HB.out | apply below_alloc | apply pw_below_drewN | apply below_drew1 | refine below_set ?_ GE1063.out) | exact HB.out)⟩⟩
          · rw [if_neg c8] at H
            have c8b0 : (((rd_T25 l0_0 x6_1).f3) == 2) = false := beq_eq_false_iff_ne.mpr c8
            have c8b1 : (((rd_T25 l0_0 x6_1).f3) != 2) = true := bne_iff_ne.mpr c8
            have H' := Aside0.mk H
            clear H
            have hcz18_0 : wr.cell? ⟨gb1063, 0, none⟩ = some (.slice A0_0 l0_0.length c0_0) := (blk_cell BK1063.out 0).trans rfl
            have hcz18_1 : wr.cell? ⟨gb1063, 1, none⟩ = some (.slice A0_1 l0_1.length c0_1) := (blk_cell BK1063.out 1).trans rfl
            have hcz18_2 : wr.cell? ⟨gb1063, 2, none⟩ = some (.int .i64 a0_2) := (blk_cell BK1063.out 2).trans rfl
            have hcz18_3 : wr.cell? ⟨gb1063, 3, none⟩ = some (.int .i64 a0_3) := (blk_cell BK1063.out 3).trans rfl
            have hfz18_0 := blk_frozen BK1063.out 0
            have hfz18_1 := blk_frozen BK1063.out 1
            have hfz18_2 := blk_frozen BK1063.out 2
            have hfz18_3 := blk_frozen BK1063.out 3
            have p1067 : 0 ≤ (x6_1 : Int) := of_decide_eq_true (by first | (with_reducible assumption) | assumption)
            have q1067 : x6_1 < (l0_0.length : Int) := of_decide_eq_true (by first | (with_reducible assumption) | assumption)
            obtain ⟨ad1067, e1067, hx1067_0, hx1067_1, hx1067_2, hx1067_3, hx1067_4, hx1067_5, hx1067_6, hx1067_7, hx1067_8, hx1067_9, hx1067_10, hx1067_11, hx1067_12⟩ := at_T25 HR0_0.out x6_1 p1067 q1067
            cases e1067
            replace hx1067_0 := (HB.out.cell (World.block_lt_of_cell? w _ hx1067_0)).trans hx1067_0
            replace hx1067_1 := (HB.out.cell (World.block_lt_of_cell? w _ hx1067_1)).trans hx1067_1
            replace hx1067_2 := (HB.out.cell (World.block_lt_of_cell? w _ hx1067_2)).trans hx1067_2
            replace hx1067_3 := (HB.out.cell (World.block_lt_of_cell? w _ hx1067_3)).trans hx1067_3
            replace hx1067_4 := (HB.out.cell (World.block_lt_of_cell? w _ hx1067_4)).trans hx1067_4
            replace hx1067_5 := (HB.out.cell (World.block_lt_of_cell? w _ hx1067_5)).trans hx1067_5
            replace hx1067_6 := (HB.out.cell (World.block_lt_of_cell? w _ hx1067_6)).trans hx1067_6
            replace hx1067_7 := (HB.out.cell (World.block_lt_of_cell? w _ hx1067_7)).trans hx1067_7
            replace hx1067_8 := (HB.out.cell (World.block_lt_of_cell? w _ hx1067_8)).trans hx1067_8
            replace hx1067_9 := (HB.out.cell (World.block_lt_of_cell? w _ hx1067_9)).trans hx1067_9
            replace hx1067_10 := (HB.out.cell (World.block_lt_of_cell? w _ hx1067_10)).trans hx1067_10
            replace hx1067_11 := (HB.out.cell (World.block_lt_of_cell? w _ hx1067_11)).trans hx1067_11
            replace hx1067_12 := (HB.out.cell (World.block_lt_of_cell? w _ hx1067_12)).trans hx1067_12
            replace p1067 := eq_true p1067
            replace q1067 := eq_true q1067
            go_wp2
            go_roundg k1
            case measure => have := HK1.out; omega
            case rel => exact ⟨(x5_1), (wrap64 (x6_1 + 1)), (by first | rfl | (simp; done) | (simp [*]; done)), H', ⟨by have := HK1.out; omega⟩, ⟨by (with_reducible repeat (first | apply Kd.R_alloc | apply Kd.R_drewN | apply Kd.R_drew)); exact HO_5.out⟩, ⟨by (with_reducible repeat (first | refine blk_drewN ?_ _ | refine blk_drew ?_ | refine blk_alloc ?_ _)); exact BK1063.out⟩, ⟨by repeat (first | (with_reducible first | exact HB.out | apply below_alloc | apply pw_below_drewN | apply below_drew1 | refine below_set ?_ GE1063.out) | exact HB.out)⟩⟩
        · rw [if_neg c7] at H
          exact absurd H (by simp)
      · rw [if_neg c6] at H
        have c6b0 : decide (x6_1 < (l0_0.length : Int)) = false := decide_eq_false c6
        clear c6
        obtain rfl := Option.some.inj H
        have hcz19_0 : wr.cell? ⟨gb1063, 0, none⟩ = some (.slice A0_0 l0_0.length c0_0) := (blk_cell BK1063.out 0).trans rfl
        have hcz19_1 : wr.cell? ⟨gb1063, 1, none⟩ = some (.slice A0_1 l0_1.length c0_1) := (blk_cell BK1063.out 1).trans rfl
        have hcz19_2 : wr.cell? ⟨gb1063, 2, none⟩ = some (.int .i64 a0_2) := (blk_cell BK1063.out 2).trans rfl
        have hcz19_3 : wr.cell? ⟨gb1063, 3, none⟩ = some (.int .i64 a0_3) := (blk_cell BK1063.out 3).trans rfl
        have hfz19_0 := blk_frozen BK1063.out 0
        have hfz19_1 := blk_frozen BK1063.out 1
        have hfz19_2 := blk_frozen BK1063.out 2
        have hfz19_3 := blk_frozen BK1063.out 3
        go_wp2
        go_ret
        exact ⟨_, by first | rfl | (simp [errW_none, errW_some] <;> rfl) | (simp [*, errW_none, errW_some] <;> rfl), by (with_reducible repeat (first | apply Kd.R_alloc | apply Kd.R_drewN | apply Kd.R_drew)); exact HO_5.out, by repeat (first | (with_reducible first | exact HB.out | apply below_alloc | apply pw_below_drewN | apply below_drew1 | refine below_set ?_ GE1063.out) | exact HB.out)⟩



end Go.Proofs.Ytfkidiagmekleaa.QAll
