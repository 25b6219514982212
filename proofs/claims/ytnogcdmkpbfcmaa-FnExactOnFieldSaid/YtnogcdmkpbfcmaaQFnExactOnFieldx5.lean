-- Written by a program of this session (patch_print.py over the print).
import Derived.Test.YtnogcdmkpbfcmaaQFnExactOnFieldx0
import Derived.Test.YtnogcdmkpbfcmaaQFnExactOnFieldx1
import Derived.Test.YtnogcdmkpbfcmaaQFnExactOnFieldx2
import Derived.Test.YtnogcdmkpbfcmaaQFnExactOnFieldx4
namespace Go.Proofs.Ytnogcdmkpbfcmaa.QFnExactOnField
open Go.RowKit Go.Proofs.YtnogcdmkpbfcmaaW.PrintWords Go.Proofs.YtnogcdmkpbfcmaaW.PrintLast Go.Proofs.YtnogcdmkpbfcmaaW.PrintMore
attribute [local go_sem] max2_int min2_int max_two min_two max_three min_three max_four min_four   -- for this text's walks alone
set_option linter.unusedVariables false
set_option linter.unusedSimpArgs false

theorem C5_4 {W : World} {g : Nat} {T : TypeId} {v0 v1 v2 v3 : Value} (h : W.heap[g]? = some (.cells #[v0, v1, v2, v3] T (0, 0))) : (W.cell? ⟨g, 0, none⟩ = some v0 ∧ W.cell? ⟨g, 1, none⟩ = some v1 ∧ W.cell? ⟨g, 2, none⟩ = some v2 ∧ W.cell? ⟨g, 3, none⟩ = some v3) ∧ W.frozen? ⟨g, 0, none⟩ = false ∧ W.frozen? ⟨g, 1, none⟩ = false ∧ W.frozen? ⟨g, 2, none⟩ = false ∧ W.frozen? ⟨g, 3, none⟩ = false := ⟨⟨(blk_cell h 0).trans rfl, (blk_cell h 1).trans rfl, (blk_cell h 2).trans rfl, (blk_cell h 3).trans rfl⟩, blk_frozen h 0, blk_frozen h 1, blk_frozen h 2, blk_frozen h 3⟩
theorem D5_4 {W : World} {g : Nat} {T : TypeId} {v0 v1 v2 v3 : Value} (h : W.heap[g]? = some (.cells #[v0, v1, v2, v3] T (0, 0))) {R : Prop} (r : R) : W.cell? ⟨g, 0, none⟩ = some v0 ∧ W.cell? ⟨g, 1, none⟩ = some v1 ∧ W.cell? ⟨g, 2, none⟩ = some v2 ∧ W.cell? ⟨g, 3, none⟩ = some v3 ∧ R := ⟨(blk_cell h 0).trans rfl, (blk_cell h 1).trans rfl, (blk_cell h 2).trans rfl, (blk_cell h 3).trans rfl, r⟩
theorem E5_4 {W : World} {g : Nat} {T : TypeId} {v0 v1 v2 v3 o0 o1 o2 o3 : Value} (h : W.heap[g]? = some (.cells #[o0, o1, o2, o3] T (0, 0))) : ((((W.setCell ⟨g, 0, none⟩ v0).setCell ⟨g, 1, none⟩ v1).setCell ⟨g, 2, none⟩ v2).setCell ⟨g, 3, none⟩ v3).heap[g]? = some (.cells #[v0, v1, v2, v3] T (0, 0)) := (blk_put (cs := #[v0, v1, v2, o3]) (blk_put (cs := #[v0, v1, o2, o3]) (blk_put (cs := #[v0, o1, o2, o3]) (blk_put (cs := #[o0, o1, o2, o3]) h 0 _ rfl) 1 _ rfl) 2 _ rfl) 3 _ rfl)
theorem Z5_1 {p : Prop} (h : p := by (with_reducible repeat (first | apply Kd.R_alloc | apply Kd.R_drewN | apply Kd.R_drew)); exact (Kd.R_mono (Kd.R_far (p := ⟨gb231, 3, none⟩) (Kd.R_far (p := ⟨gb231, 2, none⟩) (Kd.R_far (p := ⟨gb231, 1, none⟩) (Kd.R_far (p := ⟨gb231, 0, none⟩) (Kd.R_types HO225.out BK231.out (by decide)) (fun _ hk => hk.2) (.slice Ao43 t223.length co43)) (fun _ hk => hk.2) (.slice Ao46 t226.length co46)) (fun _ hk => hk.2) (.int .i64 t229)) (fun _ hk => hk.2) (.int .i64 t230)) (fun _ h_ => h_.1))) : p := h
theorem Z5_2 {p : Prop} (h : p := by (with_reducible repeat (first | apply Kd.R_alloc | apply Kd.R_drewN | apply Kd.R_drew)); exact (Kd.R_mono (Kd.R_far (p := ⟨gb231, 3, none⟩) (Kd.R_far (p := ⟨gb231, 2, none⟩) (Kd.R_far (p := ⟨gb231, 1, none⟩) (Kd.R_far (p := ⟨gb231, 0, none⟩) (Kd.R_types HO228.out BK231.out (by decide)) (fun _ hk => hk.2) (.slice Ao43 t223.length co43)) (fun _ hk => hk.2) (.slice Ao46 t226.length co46)) (fun _ hk => hk.2) (.int .i64 t229)) (fun _ hk => hk.2) (.int .i64 t230)) (fun _ h_ => h_.1))) : p := h
theorem Z5_3 {p : Prop} (h : p := by (with_reducible repeat (first | apply Kd.R_alloc | apply Kd.R_drewN | apply Kd.R_drew)); exact (Kd.R_mono (Kd.R_far (p := ⟨gb231, 3, none⟩) (Kd.R_far (p := ⟨gb231, 2, none⟩) (Kd.R_far (p := ⟨gb231, 1, none⟩) (Kd.R_far (p := ⟨gb231, 0, none⟩) (Kd.R_types HO222.out BK231.out (by decide)) (fun _ hk => hk.2) (.slice Ao43 t223.length co43)) (fun _ hk => hk.2) (.slice Ao46 t226.length co46)) (fun _ hk => hk.2) (.int .i64 t229)) (fun _ hk => hk.2) (.int .i64 t230)) (fun _ h_ => h_.1))) : p := h
theorem Z5_37 {p : Prop} (h : p := by (with_reducible repeat (first | refine blk_drewN ?_ _ | refine blk_drew ?_ | refine blk_alloc ?_ _)); exact BK210.out) : p := h
theorem Z5_4 {p : Prop} (h : p := by exact (blk_below (g := gb210) (o := .cells #[.slice A0_0 l0_0.length c0_0, .slice A0_1 l0_1.length c0_1, .int .i64 a0_2, .int .i64 a0_3] 25 (0, 0)) Z5_37 hb)) : p := h
theorem Z5_38 {p : Prop} (h : p := by (with_reducible repeat (first | refine blk_drewN ?_ _ | refine blk_drew ?_ | refine blk_alloc ?_ _)); exact BK231.out) : p := h
theorem Z5_5 {p : Prop} (h : p := by exact (blk_below (g := gb231) (o := .cells #[.slice Ao43 t223.length co43, .slice Ao46 t226.length co46, .int .i64 t229, .int .i64 t230] 32 (0, 0)) Z5_38 hb)) : p := h
theorem Z5_6 {p : Prop} (h : p := by first | exact hk_.2 hs_ | exact hk_.1.2 hs_ | exact hk_.1.1.2 hs_ | exact hk_.1.1.1.2 hs_ | exact hk_.1.1.1.1.2 hs_ | exact hk_.1.1.1.1.1.2 hs_ | exact hk_.1 hs_ | exact hk_.1.1 hs_ | exact hk_.1.1.1 hs_ | exact hk_.1.1.1.1 hs_ | exact hk_.1.1.1.1.1 hs_) : p := h
theorem Z5_7 {p : Prop} (h : p := by first | exact hk_.1.1.2 e_ | exact hk_.2 e_ | exact hk_.1.2 e_ | exact hk_.1.1.1.2 e_ | exact hk_.1.1.1.1.2 e_ | exact hk_.1.1.1.1.1.2 e_ | exact hk_.1 e_ | exact hk_.1.1 e_ | exact hk_.1.1.1 e_ | exact hk_.1.1.1.1 e_ | exact hk_.1.1.1.1.1 e_) : p := h
theorem Z5_8 {p : Prop} (h : p := by first | exact hk_.2 e_ | exact hk_.1.2 e_ | exact hk_.1.1.2 e_ | exact hk_.1.1.1.2 e_ | exact hk_.1.1.1.1.2 e_ | exact hk_.1.1.1.1.1.2 e_ | exact hk_.1 e_ | exact hk_.1.1 e_ | exact hk_.1.1.1 e_ | exact hk_.1.1.1.1 e_ | exact hk_.1.1.1.1.1 e_) : p := h
theorem Z5_9 {p : Prop} (h : p := by first | exact hk_.1.2 e_ | exact hk_.2 e_ | exact hk_.1.1.2 e_ | exact hk_.1.1.1.2 e_ | exact hk_.1.1.1.1.2 e_ | exact hk_.1.1.1.1.1.2 e_ | exact hk_.1 e_ | exact hk_.1.1 e_ | exact hk_.1.1.1 e_ | exact hk_.1.1.1.1 e_ | exact hk_.1.1.1.1.1 e_) : p := h
theorem Z5_10 {p : Prop} (h : p := by (try simp only [List.map_toArray, List.map_cons, List.map_nil]); first | done | (rw [show t250.length = t232.length from (Kd.R_reads' HO234.out).1.symm] <;> rfl) | rfl | (simp only [List.length_drop, List.length_take]; rfl)) : p := h
theorem Z5_20 {p : Prop} (h : p := by repeat (first | (with_reducible first | exact HB.out | apply below_alloc | apply pw_below_drewN | apply below_drew1 | refine below_set ?_ GE210.out) | exact HB.out)) : p := h
theorem Z5_11 {p : Prop} (h : p := by exact ((by rw [hg]; exact (below_size Z5_20) : w.heap.size ≤ gb231))) : p := h
theorem Z5_16 {p : Prop} (h : p := by repeat (first | (with_reducible first | exact HB.out | apply below_alloc | apply pw_below_drewN | apply below_drew1 | refine below_set ?_ GE210.out | refine below_set ?_ GE231.out) | exact HB.out)) : p := h
theorem Z5_12 {p : Prop} (h : p := by exact (below_step Z5_16 hb)) : p := h
theorem Z5_13 {p : Prop} (h : p := by first | exact hk_.1.1.1.2 | exact hk_.2 | exact hk_.1.2 | exact hk_.1.1.2 | exact hk_.1.1.1.1.2 | exact hk_.1.1.1.1.1.2 | exact hk_.1 | exact hk_.1.1 | exact hk_.1.1.1 | exact hk_.1.1.1.1 | exact hk_.1.1.1.1.1) : p := h
theorem Z5_14 {p : Prop} (h : p := by first | exact hk_.1.1.2 | exact hk_.2 | exact hk_.1.2 | exact hk_.1.1.1.2 | exact hk_.1.1.1.1.2 | exact hk_.1.1.1.1.1.2 | exact hk_.1 | exact hk_.1.1 | exact hk_.1.1.1 | exact hk_.1.1.1.1 | exact hk_.1.1.1.1.1) : p := h
theorem Z5_15 {p : Prop} (h : p := by first | exact hk_.1.1.1 | exact hk_.2 | exact hk_.1.2 | exact hk_.1.1.2 | exact hk_.1.1.1.2 | exact hk_.1.1.1.1.2 | exact hk_.1.1.1.1.1.2 | exact hk_.1 | exact hk_.1.1 | exact hk_.1.1.1.1 | exact hk_.1.1.1.1.1) : p := h
theorem Z5_17 {p : Prop} (h : p := by exact (Kd.R_lower ho0 (below_size Z5_20))) : p := h
theorem Z5_27 {p : Prop} (h : p := by repeat (first | (with_reducible first | exact HB.out | apply below_alloc | apply pw_below_drewN | apply below_drew1) | exact HB.out)) : p := h
theorem Z5_18 {p : Prop} (h : p := by exact ((by rw [hg]; exact (below_size Z5_27) : w.heap.size ≤ gb210))) : p := h
theorem Z5_19 {p : Prop} (h : p := by exact (below_step Z5_20 hb)) : p := h
theorem Z5_21 {p : Prop} (h : p := by exact (below_step Z5_27 hb)) : p := h
theorem Z5_22 {p : Prop} (h : p := by (try simp only [List.map_toArray, List.map_cons, List.map_nil]); first | done | rfl | (simp only [List.length_drop, List.length_take]; rfl)) : p := h
theorem Z5_39 {p : Prop} (h : p := by (with_reducible repeat (first | apply Kd.R_alloc | apply Kd.R_drewN | apply Kd.R_drew)); exact HO214.out) : p := h
theorem Z5_23 {p : Prop} (h : p := by exact (Kd.R_elder' Z5_39 (Kd.R_base ho0) hb)) : p := h
theorem Z5_40 {p : Prop} (h : p := by (with_reducible repeat (first | apply Kd.R_alloc | apply Kd.R_drewN | apply Kd.R_drew)); exact HO217.out) : p := h
theorem Z5_24 {p : Prop} (h : p := by exact (Kd.R_elder' Z5_40 (Kd.R_base ho1) hb)) : p := h
theorem Z5_42 {p : Prop} (h : p := by (with_reducible repeat (first | apply Kd.R_alloc | apply Kd.R_drewN | apply Kd.R_drew)); exact HO225.out) : p := h
theorem Z5_25 {p : Prop} (h : p := by exact (Kd.R_elder' Z5_42 (Kd.R_base ho0) hb)) : p := h
theorem Z5_43 {p : Prop} (h : p := by (with_reducible repeat (first | apply Kd.R_alloc | apply Kd.R_drewN | apply Kd.R_drew)); exact HO228.out) : p := h
theorem Z5_26 {p : Prop} (h : p := by exact (Kd.R_elder' Z5_43 (Kd.R_base ho1) hb)) : p := h
theorem Z5_28 {p : Prop} (h : p := by repeat (first | (with_reducible first | exact HK.out | apply Kept.alloc | apply Kept.drewN | apply Kept.drew) | exact HK.out)) : p := h
theorem Z5_29 {p : Prop} (h : p := by exact (Kd.R_below Z5_39 hb)) : p := h
theorem Z5_30 {p : Prop} (h : p := by exact (Kd.R_below Z5_40 hb)) : p := h
theorem Z5_41 {p : Prop} (h : p := by (with_reducible repeat (first | apply Kd.R_alloc | apply Kd.R_drewN | apply Kd.R_drew)); exact HO222.out) : p := h
theorem Z5_31 {p : Prop} (h : p := by exact (Kd.R_below Z5_41 hb)) : p := h
theorem Z5_32 {p : Prop} (h : p := by exact (Kd.R_below Z5_42 hb)) : p := h
theorem Z5_33 {p : Prop} (h : p := by exact (Kd.R_below Z5_43 hb)) : p := h
theorem Z5_44 {p : Prop} (h : p := by (with_reducible repeat (first | apply Kd.R_alloc | apply Kd.R_drewN | apply Kd.R_drew)); exact HO234.out) : p := h
theorem Z5_34 {p : Prop} (h : p := by exact (Kd.R_below Z5_44 hb)) : p := h
theorem Z5_45 {p : Prop} (h : p := by (with_reducible repeat (first | apply Kd.R_alloc | apply Kd.R_drewN | apply Kd.R_drew)); exact HO238.out) : p := h
theorem Z5_35 {p : Prop} (h : p := by exact (Kd.R_below Z5_45 hb)) : p := h
theorem Z5_46 {p : Prop} (h : p := by (with_reducible repeat (first | apply Kd.R_alloc | apply Kd.R_drewN | apply Kd.R_drew)); exact HO241.out) : p := h
theorem Z5_36 {p : Prop} (h : p := by exact (Kd.R_below Z5_46 hb)) : p := h
theorem Z5_47 {p : Prop} (h : p := by (with_reducible repeat (first | apply Kd.R_alloc | apply Kd.R_drewN | apply Kd.R_drew)); exact HO_0.out) : p := h
theorem Z5_48 {p : Prop} (h : p := by first | rfl | (simp [errW_none, errW_some] <;> rfl) | (simp [*, errW_none, errW_some] <;> rfl)) : p := h
theorem Z5_49 {p : Prop} (h : p := by repeat (first | exact Drawn0.refl _ | apply Drawn0.step)) : p := h
theorem Z5_50 {p : Prop} (h : p := by first | (with_reducible assumption) | assumption) : p := h
theorem Z5_51 {p : Prop} (h : p := by first | rfl | (simp; done) | (simp [*]; done)) : p := h
/-! ### laws_markIntS: function 16 -/
def laws_markIntS.l0 : Nat → List Int → Int → Int → Option (Int × List Int)
  | 0, _, _, _ => none
  | k + 1, x0, x1, x5 => if x5 < (x0.length : Int) then (if 0 ≤ x5 then (laws_markIntS.l0 k (x0.set (x5 : Int).toNat x1) (wrap64 (x1 + 1)) (wrap64 (x5 + 1))) else (none)) else (some (x1, x0))
def laws_markIntS.f (k : Nat) (l0 : List Int) (a1 : Int) : Option (Int × List Int) := laws_markIntS.l0 k l0 a1 0
theorem laws_markIntS.mono_l : ∀ k, (∀ y0 y1 y2, LeO (laws_markIntS.l0 k y0 y1 y2) (laws_markIntS.l0 (k + 1) y0 y1 y2))
  | 0 => fun _ _ _ r h => by simp [laws_markIntS.l0] at h
  | k + 1 => by
    have ih0 := laws_markIntS.mono_l k
    · intro y0 y1 y2
      unfold laws_markIntS.l0
      repeat' first
      | (with_reducible exact ih0 _ _ _)
      | (with_reducible exact LeO.refl _)
      | (with_reducible exact LeO.none _)
      | (with_reducible refine LeO.ite ?_ ?_)
      | (with_reducible refine LeO.bind ?_ (fun _ => ?_))
      | exact ih0 _ _ _
      | exact LeO.none _
      | refine LeO.ite ?_ ?_
      | refine LeO.bind ?_ (fun _ => ?_)
theorem laws_markIntS.mono : ∀ a0 a1 k, LeO (laws_markIntS.f k a0 a1) (laws_markIntS.f (k + 1) a0 a1) := by
  intro a0 a1 k
  have ih0 := laws_markIntS.mono_l k
  unfold laws_markIntS.f
  repeat' first
      | (with_reducible exact ih0 _ _ _)
      | (with_reducible exact LeO.refl _)
      | (with_reducible exact LeO.none _)
      | (with_reducible refine LeO.ite ?_ ?_)
      | (with_reducible refine LeO.bind ?_ (fun _ => ?_))
      | exact ih0 _ _ _
      | exact LeO.none _
      | refine LeO.ite ?_ ?_
      | refine LeO.bind ?_ (fun _ => ?_)
set_option maxHeartbeats 8000000 in
set_option maxRecDepth 100000 in
theorem laws_markIntS.calls (k : Nat) (P0_ : Nat → Prop) (u9000_ : Value) (l0 : List Int) (a1 : Int) (r1 : Int) (r2 : List Int) (w0 w : World) (hB : Below w0.heap.size w0 w) (ho0 : Kd.R (Kd.int .i64) 3 w w0.heap.size P0_ u9000_ l0) (h : laws_markIntS.f k l0 a1 = some (r1, r2)) :
    Calls Try.prog 16 #[u9000_, .int .i64 a1] w fun e w' => e = .returned (.int .i64 r1) ∧ Kd.R (Kd.int .i64) 3 w' w0.heap.size (fun k_ => (P0_ k_ ∨ w.heap.size ≤ k_)) u9000_ r2 ∧ Below w0.heap.size w0 w' ∧ Kept w w' (fun k_ => P0_ k_) := by
  have HO0 := Aside0.mk (show Kd.R (Kd.int .i64) 3 w w0.heap.size (fun k_ => (P0_ k_ ∨ w.heap.size ≤ k_)) u9000_ l0 from Kd.R_mono ho0 (fun k_ hk => (.inl hk)))
  have HK := Aside0.mk (Kept.refl w (fun k_ => P0_ k_))
  have HW0 := Aside0.mk hB.size
  have HB := Aside0.mk hB
  clear hB
  have H : (laws_markIntS.l0 k l0 a1 0) = some (r1, r2) := h
  clear h
  have H' := Aside0.mk H
  clear H
  go_enter Try.func16, Try.ntmps16
  go_wp2
  go_loopg [1, 5] k (fun kq v1 v5 w' => ∃ (x0_1 : List Int) (x1_1 : Int) (x5_1 : Int), v1 = .int .i64 x1_1 ∧ v5 = .int .i64 x5_1 ∧ Aside0 (laws_markIntS.l0 kq x0_1 x1_1 x5_1 = some (r1, r2)) ∧ Aside0 (kq ≤ k) ∧ Aside0 (Kd.R (Kd.int .i64) 3 w' w0.heap.size (fun k_ => (P0_ k_ ∨ w.heap.size ≤ k_)) u9000_ x0_1) ∧ Aside0 (Kept w w' (fun k_ => P0_ k_)) ∧ Aside0 (Below w0.heap.size w0 w'))
  case atStart => exact ⟨(l0), (a1), (0), Z5_51, Z5_51, H', ⟨Nat.le_refl _⟩, ⟨(by (with_reducible repeat (first | apply Kd.R_alloc | apply Kd.R_drewN | apply Kd.R_drew)); exact HO0.out)⟩, ⟨Z5_28⟩, ⟨Z5_27⟩⟩
  case round =>
    clear H'
    try clear c1
    try clear p2
    obtain ⟨x0_1, x1_1, x5_1, rfl, rfl, HA, HK1, HO_0, HK, HB⟩ := hrel
    cases gk with
    | zero => exact absurd HA.out (by simp [laws_markIntS.l0])
    | succ k1 =>
      have H := HA.out
      clear HA
      simp only [laws_markIntS.l0] at H
      by_cases c3 : x5_1 < (x0_1.length : Int)
      rotate_left
      · rw [if_neg c3] at H
        have c3b0 : decide (x5_1 < (x0_1.length : Int)) = false := decide_eq_false c3
        clear c3
        simp only [Option.some.injEq, Prod.mk.injEq] at H
        obtain ⟨rfl, rfl⟩ := H
        obtain ⟨Ao9, co9, eo9⟩ := Kd.R_slice HO_0.out
        subst eo9
        go_wp2
        go_ret
        exact ⟨Z5_48, Z5_47, Z5_27, Z5_28⟩
      rw [if_pos c3] at H
      have c3b0 : decide (x5_1 < (x0_1.length : Int)) = true := decide_eq_true c3
      clear c3
      by_cases c4 : 0 ≤ x5_1
      rotate_left
      · rw [if_neg c4] at H
        exact absurd H (by simp)
      rw [if_pos c4] at H
      have c4b0 : decide (0 ≤ x5_1) = true := decide_eq_true c4
      clear c4
      obtain ⟨y208, hy208⟩ : ∃ y_ : List Int, y_ = (x0_1.set (x5_1 : Int).toNat x1_1) := ⟨_, rfl⟩
      replace H : (laws_markIntS.l0 k1 y208 (wrap64 (x1_1 + 1)) (wrap64 (x5_1 + 1))) = some (r1, r2) := by first | (rw [hy208]; with_reducible exact H) | (have H2_ := (Option.bind_some _ _).symm.trans H; rw [hy208]; with_reducible exact H2_) | (have H2_ := (Option.bind_some _ _).symm.trans H; with_reducible exact H2_) | with_reducible exact H | (rw [hy208]; exact H) | exact H
      have Ny208 := Aside0.mk hy208
      clear hy208
      have H' := Aside0.mk H
      clear H
      obtain ⟨Ao6, co6, eo6⟩ := Kd.R_slice HO_0.out
      subst eo6
      have p5 : 0 ≤ (x5_1 : Int) := of_decide_eq_true Z5_50
      have q5 : (x5_1 : Int) < ((x0_1.length : Int) : Int) := of_decide_eq_true Z5_50
      obtain ⟨go5, co5, eo5, gb5, gl5, cl5, HG5⟩ := Kd.R_form HO_0.out (by omega)
      (first | cases eo5 | (injection eo5 with ea_ en_ ec_; (first | subst ea_ | (injection ea_ with ea_; subst ea_)); subst ec_; clear en_))
      have GB5 := Aside0.mk gb5
      have GG5 := Aside0.mk HG5
      clear gb5 gl5 HG5
      have HMgo5 := Aside0.mk (show (P0_ go5 ∨ w.heap.size ≤ go5) from (HO_0.out.1 _ rfl))
      obtain ⟨hx5_0, hf5_0⟩ := Kd.R_celln 0 HO_0.out (x5_1 : Int) p5 q5
      replace p5 := eq_true p5
      replace q5 := eq_true q5
      have HP7 := Kd.R_putg HO_0.out (x5_1 : Int) x1_1
      go_wp2_with (first | ((with_reducible refine gate_store (t := 3) (p := 15) rfl ?_); refine store_event (t := 3) (p := 15) (v := ?vo_w8) (w1 := (wr.setCell ⟨go5, (x5_1 : Int).toNat, none⟩ (.int .i64 x1_1))) ?hg ?ho ?hn ?hr ?_; (case ho => rfl); (case hg => rfl); (case hn => rfl); (case hr => first | (go_simp; done) | (go_simp; rfl)); intro w8 hw; have hg : wr.grownBy w8 (some go5) := (by rw [hw]; exact HP7.2); have hp_ : Kd.R (Kd.int .i64) 3 w8 w0.heap.size (fun k_ => (P0_ k_ ∨ w.heap.size ≤ k_)) (.slice (some ⟨go5, 0, none⟩) x0_1.length co6) y208 := (by rw [hw, Ny208.out]; exact HP7.1); clear HP7; have n0_ := Aside0.mk (hp_); have n1_ := Aside0.mk ((by rw [hw]; exact below_set (HB.out) GB5.out : Below w0.heap.size w0 w8)); have n2_ := Aside0.mk (Kept.of_grown (S := (fun k_ => P0_ k_)) hg Z5_28 (fun k_ e_ => (HO_0.out.1 k_ e_))); clear HO_0; clear HB; clear HK; have HO_0 := n0_; have HB := n1_; have HK := n2_; clear n0_ n1_ n2_; clear hg hw hp_))
      go_roundg k1
      case measure => have := HK1.out; omega
      case rel => exact ⟨(y208), (wrap64 (x1_1 + 1)), (wrap64 (x5_1 + 1)), Z5_51, Z5_51, H', ⟨(by have := HK1.out; omega)⟩, ⟨Z5_47⟩, ⟨Z5_28⟩, ⟨Z5_27⟩⟩

/-! ### laws_heldIntS: function 17 -/
def laws_heldIntS.l0 : Nat → List Int → Int → Int → Option (Int)
  | 0, _, _, _ => none
  | k + 1, x0, x1, x5 => if x5 < (x0.length : Int) then (if 0 ≤ x5 then (if (rd x0 x5) = x1 then (laws_heldIntS.l0 k x0 (wrap64 (x1 + 1)) (wrap64 (x5 + 1))) else (some (-1))) else (none)) else (some x1)
def laws_heldIntS.f (k : Nat) (l0 : List Int) (a1 : Int) : Option (Int) := laws_heldIntS.l0 k l0 a1 0
theorem laws_heldIntS.mono_l : ∀ k, (∀ y0 y1 y2, LeO (laws_heldIntS.l0 k y0 y1 y2) (laws_heldIntS.l0 (k + 1) y0 y1 y2))
  | 0 => fun _ _ _ r h => by simp [laws_heldIntS.l0] at h
  | k + 1 => by
    have ih0 := laws_heldIntS.mono_l k
    · intro y0 y1 y2
      unfold laws_heldIntS.l0
      repeat' first
      | (with_reducible exact ih0 _ _ _)
      | (with_reducible exact LeO.refl _)
      | (with_reducible exact LeO.none _)
      | (with_reducible refine LeO.ite ?_ ?_)
      | (with_reducible refine LeO.bind ?_ (fun _ => ?_))
      | exact ih0 _ _ _
      | exact LeO.none _
      | refine LeO.ite ?_ ?_
      | refine LeO.bind ?_ (fun _ => ?_)
theorem laws_heldIntS.mono : ∀ a0 a1 k, LeO (laws_heldIntS.f k a0 a1) (laws_heldIntS.f (k + 1) a0 a1) := by
  intro a0 a1 k
  have ih0 := laws_heldIntS.mono_l k
  unfold laws_heldIntS.f
  repeat' first
      | (with_reducible exact ih0 _ _ _)
      | (with_reducible exact LeO.refl _)
      | (with_reducible exact LeO.none _)
      | (with_reducible refine LeO.ite ?_ ?_)
      | (with_reducible refine LeO.bind ?_ (fun _ => ?_))
      | exact ih0 _ _ _
      | exact LeO.none _
      | refine LeO.ite ?_ ?_
      | refine LeO.bind ?_ (fun _ => ?_)
set_option maxHeartbeats 8000000 in
set_option maxRecDepth 100000 in
theorem laws_heldIntS.calls (k : Nat) (A0 : Option Addr) (c0 : Nat) (l0 : List Int) (a1 : Int) (r : Int) (w : World) (hr0 : Kd.C (Kd.int .i64) w A0 l0.length l0) (hc0 : l0.length ≤ c0) (h : laws_heldIntS.f k l0 a1 = some r) :
    Calls Try.prog 17 #[.slice A0 l0.length c0, .int .i64 a1] w fun e w' => e = .returned (.int .i64 r) ∧ Drawn0 w w' := by
  have HR0 := Aside0.mk hr0
  have HC0 := Aside0.mk hc0
  clear hr0 hc0
  have H : (laws_heldIntS.l0 k l0 a1 0) = some r := h
  clear h
  have H' := Aside0.mk H
  clear H
  go_enter Try.func17, Try.ntmps17
  go_wp2
  go_loopg [1, 5] k (fun kq v1 v5 w' => ∃ (x1_1 : Int) (x5_1 : Int), v1 = .int .i64 x1_1 ∧ v5 = .int .i64 x5_1 ∧ Aside0 (laws_heldIntS.l0 kq l0 x1_1 x5_1 = some r) ∧ Aside0 (kq ≤ k) ∧ Drawn0 w w')
  case atStart => exact ⟨(a1), (0), Z5_51, Z5_51, H', ⟨Nat.le_refl _⟩, Z5_49⟩
  case round =>
    clear H'
    try clear c1
    try clear p2
    obtain ⟨x1_1, x5_1, rfl, rfl, HA, HK1, ⟨m1, rfl⟩⟩ := hrel
    cases gk with
    | zero => exact absurd HA.out (by simp [laws_heldIntS.l0])
    | succ k1 =>
      have H := HA.out
      clear HA
      simp only [laws_heldIntS.l0] at H
      by_cases c3 : x5_1 < (l0.length : Int)
      rotate_left
      · rw [if_neg c3] at H
        have c3b0 : decide (x5_1 < (l0.length : Int)) = false := decide_eq_false c3
        clear c3
        obtain rfl := Option.some.inj H
        go_wp2
        go_ret
        exact ⟨Z5_51, Z5_49⟩
      rw [if_pos c3] at H
      have c3b0 : decide (x5_1 < (l0.length : Int)) = true := decide_eq_true c3
      clear c3
      by_cases c4 : 0 ≤ x5_1
      rotate_left
      · rw [if_neg c4] at H
        exact absurd H (by simp)
      rw [if_pos c4] at H
      have c4b0 : decide (0 ≤ x5_1) = true := decide_eq_true c4
      clear c4
      by_cases c5 : (rd l0 x5_1) = x1_1
      rotate_left
      · rw [if_neg c5] at H
        have c5b0 : ((rd l0 x5_1) == x1_1) = false := beq_eq_false_iff_ne.mpr c5
        have c5b1 : ((rd l0 x5_1) != x1_1) = true := bne_iff_ne.mpr c5
        obtain rfl := Option.some.inj H
        have p209 : 0 ≤ (x5_1 : Int) := of_decide_eq_true Z5_50
        have q209 : x5_1 < (l0.length : Int) := of_decide_eq_true Z5_50
        obtain ⟨ad209, e209, hx209_0⟩ := Kd.at_int HR0.out x5_1 p209 q209
        cases e209
        replace p209 := eq_true p209
        replace q209 := eq_true q209
        go_wp2
        go_ret
        exact ⟨Z5_51, Z5_49⟩
      rw [if_pos c5] at H
      have c5b0 : ((rd l0 x5_1) == x1_1) = true := beq_iff_eq.mpr c5
      have c5b1 : ((rd l0 x5_1) != x1_1) = false := bne_eq_false_iff_eq.mpr c5
      clear c5
      have H' := Aside0.mk H
      clear H
      have p209 : 0 ≤ (x5_1 : Int) := of_decide_eq_true Z5_50
      have q209 : x5_1 < (l0.length : Int) := of_decide_eq_true Z5_50
      obtain ⟨ad209, e209, hx209_0⟩ := Kd.at_int HR0.out x5_1 p209 q209
      cases e209
      replace p209 := eq_true p209
      replace q209 := eq_true q209
      go_wp2
      go_roundg k1
      case measure => have := HK1.out; omega
      case rel => exact ⟨(wrap64 (x1_1 + 1)), (wrap64 (x5_1 + 1)), Z5_51, Z5_51, H', ⟨(by have := HK1.out; omega)⟩, Z5_49⟩

/-! ### laws_FnExactOnField: function 3 -/
def laws_FnExactOnField.f (k : Nat) (l0_0 : List (S52)) (l0_1 : List (S97)) (a0_2 : Int) (a0_3 : Int) (a1 : Int) : Option (Bool) := (laws_szState.f l0_0 l0_1 a0_2 a0_3 1048576).bind fun t211 => (if t211 < 0 then (some true) else ((laws_toState.f k l0_0 l0_1 a0_2 a0_3).bind fun bt212 => ((spec_OnField.f k bt212.1 bt212.2.1 bt212.2.2.1 bt212.2.2.2 a1).bind fun t220 => ((laws_toState.f k l0_0 l0_1 a0_2 a0_3).bind fun bt223 => ((impl_OnField.f k bt223.1 bt223.2.1 bt223.2.2.1 bt223.2.2.2 a1).bind fun t232 => ((laws_eqIntS.f k t232 t220).bind fun t235 => (if t235 = true then ((laws_toState.f k l0_0 l0_1 a0_2 a0_3).bind fun bt236 => ((laws_eqState.f k bt223.1 bt223.2.1 bt223.2.2.1 bt223.2.2.2 bt236.1 bt236.2.1 bt236.2.2.1 bt236.2.2.2).bind fun t244 => (if t244 = true then ((laws_markState.f k bt223.1 bt223.2.1 bt223.2.2.1 bt223.2.2.2 1).bind fun bt245 => (if bt245.1 < 0 then (some false) else ((laws_eqIntS.f k t232 t220).bind fun t248 => (if t248 = true then ((laws_markIntS.f k t232 1).bind fun bt249 => ((laws_heldIntS.f k bt249.2 1).bind fun t251 => (if t251 < 0 then (some false) else (if t251 = bt249.1 then ((laws_toState.f k l0_0 l0_1 a0_2 a0_3).bind fun bt252 => ((impl_OnField.f k bt252.1 bt252.2.1 bt252.2.2.1 bt252.2.2.2 a1).bind fun t260 => ((laws_eqIntS.f k t260 t220).bind fun t263 => (if t263 = true then ((laws_heldIntS.f k bt249.2 1).bind fun t264 => (if t264 < 0 then (some false) else (if t264 = bt249.1 then (some true) else (some false)))) else (some false))))) else (some false))))) else (some false))))) else (some false)))) else (some false))))))))
theorem laws_FnExactOnField.mono : ∀ a0 a1 a2 a3 a4 k, LeO (laws_FnExactOnField.f k a0 a1 a2 a3 a4) (laws_FnExactOnField.f (k + 1) a0 a1 a2 a3 a4) := by
  intro a0 a1 a2 a3 a4 k
  unfold laws_FnExactOnField.f
  repeat' first
      | (with_reducible exact impl_OnField.mono _ _ _ _ _ _)
      | (with_reducible exact laws_eqIntS.mono _ _ _)
      | (with_reducible exact laws_eqState.mono _ _ _ _ _ _ _ _ _)
      | (with_reducible exact laws_heldIntS.mono _ _ _)
      | (with_reducible exact laws_markIntS.mono _ _ _)
      | (with_reducible exact laws_markState.mono _ _ _ _ _ _)
      | (with_reducible exact laws_toState.mono _ _ _ _ _)
      | (with_reducible exact spec_OnField.mono _ _ _ _ _ _)
      | (with_reducible exact LeO.refl _)
      | (with_reducible exact LeO.none _)
      | (with_reducible refine LeO.ite ?_ ?_)
      | (with_reducible refine LeO.bind ?_ (fun _ => ?_))
      | exact impl_OnField.mono _ _ _ _ _ _
      | exact laws_eqIntS.mono _ _ _
      | exact laws_eqState.mono _ _ _ _ _ _ _ _ _
      | exact laws_heldIntS.mono _ _ _
      | exact laws_markIntS.mono _ _ _
      | exact laws_markState.mono _ _ _ _ _ _
      | exact laws_toState.mono _ _ _ _ _
      | exact spec_OnField.mono _ _ _ _ _ _
      | exact LeO.none _
      | refine LeO.ite ?_ ?_
      | refine LeO.bind ?_ (fun _ => ?_)
set_option maxHeartbeats 8000000 in
set_option maxRecDepth 100000 in
theorem laws_FnExactOnField.calls (k : Nat) (A0_0 : Option Addr) (c0_0 : Nat) (l0_0 : List (S52)) (A0_1 : Option Addr) (c0_1 : Nat) (l0_1 : List (S97)) (a0_2 : Int) (a0_3 : Int) (a1 : Int) (r : Bool) (w : World) (hr0_0 : Kd.C k52 w A0_0 l0_0.length l0_0) (hc0_0 : l0_0.length ≤ c0_0) (hr0_1 : Kd.C k97 w A0_1 l0_1.length l0_1) (hc0_1 : l0_1.length ≤ c0_1) (hrt : r = true) (h : laws_FnExactOnField.f k l0_0 l0_1 a0_2 a0_3 a1 = some r) :
    Calls Try.prog 3 #[.agg #[.slice A0_0 l0_0.length c0_0, .slice A0_1 l0_1.length c0_1, .int .i64 a0_2, .int .i64 a0_3], .int .i64 a1] w fun e w' => e = .returned (.bool r) ∧ Below w.heap.size w w' := by
  have hu25 := Try.underlying25
  have hu32 := Try.underlying32
  have HRT := Aside0.mk hrt
  clear hrt
  have HR0_0 := Aside0.mk hr0_0
  have HC0_0 := Aside0.mk hc0_0
  clear hr0_0 hc0_0
  have HR0_1 := Aside0.mk hr0_1
  have HC0_1 := Aside0.mk hc0_1
  clear hr0_1 hc0_1
  have HB := Aside0.mk (Below.refl w.heap.size w)
  have H : ((laws_szState.f l0_0 l0_1 a0_2 a0_3 1048576).bind fun t211 => (if t211 < 0 then (some true) else ((laws_toState.f k l0_0 l0_1 a0_2 a0_3).bind fun bt212 => ((spec_OnField.f k bt212.1 bt212.2.1 bt212.2.2.1 bt212.2.2.2 a1).bind fun t220 => ((laws_toState.f k l0_0 l0_1 a0_2 a0_3).bind fun bt223 => ((impl_OnField.f k bt223.1 bt223.2.1 bt223.2.2.1 bt223.2.2.2 a1).bind fun t232 => ((laws_eqIntS.f k t232 t220).bind fun t235 => (if t235 = true then ((laws_toState.f k l0_0 l0_1 a0_2 a0_3).bind fun bt236 => ((laws_eqState.f k bt223.1 bt223.2.1 bt223.2.2.1 bt223.2.2.2 bt236.1 bt236.2.1 bt236.2.2.1 bt236.2.2.2).bind fun t244 => (if t244 = true then ((laws_markState.f k bt223.1 bt223.2.1 bt223.2.2.1 bt223.2.2.2 1).bind fun bt245 => (if bt245.1 < 0 then (some false) else ((laws_eqIntS.f k t232 t220).bind fun t248 => (if t248 = true then ((laws_markIntS.f k t232 1).bind fun bt249 => ((laws_heldIntS.f k bt249.2 1).bind fun t251 => (if t251 < 0 then (some false) else (if t251 = bt249.1 then ((laws_toState.f k l0_0 l0_1 a0_2 a0_3).bind fun bt252 => ((impl_OnField.f k bt252.1 bt252.2.1 bt252.2.2.1 bt252.2.2.2 a1).bind fun t260 => ((laws_eqIntS.f k t260 t220).bind fun t263 => (if t263 = true then ((laws_heldIntS.f k bt249.2 1).bind fun t264 => (if t264 < 0 then (some false) else (if t264 = bt249.1 then (some true) else (some false)))) else (some false))))) else (some false))))) else (some false))))) else (some false)))) else (some false))))))))) = some r := h
  clear h
  replace H := Option.bind_eq_some_iff.mp H
  obtain ⟨t211, A30, H⟩ := H
  (try dsimp only at H)
  have A3 := Aside0.mk A30
  clear A30
  by_cases c4 : t211 < 0
  · rw [if_pos c4] at H
    have c4b0 : decide (t211 < 0) = true := decide_eq_true c4
    clear c4
    obtain rfl := Option.some.inj H
    go_enter Try.func3, Try.ntmps3
    go_wp2_with (first | ((with_reducible refine gate_dst (N := 2) rfl ?_); refine box_event ?hg (N := 2) ?hd (cs := #[.slice A0_0 l0_0.length c0_0, .slice A0_1 l0_1.length c0_1, .int .i64 a0_2, .int .i64 a0_3]) (t := 25) ?hr ?_; (case hd => rfl); (case hg => rfl); (case hr => first | (go_simp; done) | (go_simp; rfl)); intro gb210 hg w5 hbox hb; have n0_ := Aside0.mk Z5_21; have n1_ := Aside0.mk (hbox); have n2_ := Aside0.mk Z5_18; have n3_ := Aside0.mk Z5_18; clear HB; have HB := n0_; have BK210 := n1_; have GW210 := n2_; have GE210 := n3_; clear n0_ n1_ n2_ n3_; clear hb hbox hg; obtain ⟨⟨hcz6_0, hcz6_1, hcz6_2, hcz6_3⟩, hfz6_0, hfz6_1, hfz6_2, hfz6_3⟩ := C5_4 BK210.out) | ((with_reducible refine gate_callee (f := 9) rfl ?_); refine goesL_ (some 15) rfl rfl Try.func9 (by kernel_rfl) rfl #[.agg #[.slice A0_0 l0_0.length c0_0, .slice A0_1 l0_1.length c0_1, .int .i64 a0_2, .int .i64 a0_3], .int .i64 1048576] rfl Z5_22 ?_; (with_reducible refine (laws_szState.calls _ _ l0_0 _ _ l0_1 a0_2 a0_3 1048576 t211 _ ?side1 ?side2 ?side3 ?side4 A3.out).mono ?_); (case side1 => repeat (first | exact (Kd.C_below HR0_0.out HB.out) | (with_reducible refine Kd.C_alloc ?_ _) | (with_reducible refine Kd.C_drewN ?_ _) | (with_reducible refine Kd.C_drew ?_))); (case side2 => exact HC0_0.out); (case side3 => repeat (first | exact (Kd.C_below HR0_1.out HB.out) | (with_reducible refine Kd.C_alloc ?_ _) | (with_reducible refine Kd.C_drewN ?_ _) | (with_reducible refine Kd.C_drew ?_))); (case side4 => exact HC0_1.out); rintro e w7 ⟨rfl, hb⟩; refine ⟨_, rfl, ?_⟩; have n0_ := Aside0.mk Z5_4; have n1_ := Aside0.mk Z5_19; clear BK210; clear HB; have BK210 := n0_; have HB := n1_; clear n0_ n1_; (try clear hb); (try clear hb2); (try clear hk); (try clear hi)))
    go_ret
    exact ⟨Z5_48, Z5_20⟩
  rw [if_neg c4] at H
  have c4b0 : decide (t211 < 0) = false := decide_eq_false c4
  clear c4
  replace H := Option.bind_eq_some_iff.mp H
  obtain ⟨⟨t212, t215, t218, t219⟩, A80, H⟩ := H
  (try dsimp only at H)
  have A8 := Aside0.mk A80
  clear A80
  replace H := Option.bind_eq_some_iff.mp H
  obtain ⟨t220, A90, H⟩ := H
  (try dsimp only at H)
  have A9 := Aside0.mk A90
  clear A90
  replace H := Option.bind_eq_some_iff.mp H
  obtain ⟨⟨t223, t226, t229, t230⟩, A100, H⟩ := H
  (try dsimp only at H)
  have A10 := Aside0.mk A100
  clear A100
  replace H := Option.bind_eq_some_iff.mp H
  obtain ⟨t232, A110, H⟩ := H
  (try dsimp only at H)
  have A11 := Aside0.mk A110
  clear A110
  replace H := Option.bind_eq_some_iff.mp H
  obtain ⟨t235, A120, H⟩ := H
  (try dsimp only at H)
  have A12 := Aside0.mk A120
  clear A120
  by_cases c13 : t235 = true
  rotate_left
  · replace c13 := Bool.eq_false_iff.mpr c13
    subst c13
    have H1 : (some false) = some r := by rw [if_neg (show ¬ (false = true) by decide)] at H; exact H
    clear H
    have H := H1
    clear H1
    exact absurd (H.trans (congrArg some HRT.out)) (by simp)
  subst c13
  rw [if_pos rfl] at H
  replace H := Option.bind_eq_some_iff.mp H
  obtain ⟨⟨t236, t239, t242, t243⟩, A140, H⟩ := H
  (try dsimp only at H)
  have A14 := Aside0.mk A140
  clear A140
  replace H := Option.bind_eq_some_iff.mp H
  obtain ⟨t244, A150, H⟩ := H
  (try dsimp only at H)
  have A15 := Aside0.mk A150
  clear A150
  by_cases c16 : t244 = true
  rotate_left
  · replace c16 := Bool.eq_false_iff.mpr c16
    subst c16
    have H1 : (some false) = some r := by rw [if_neg (show ¬ (false = true) by decide)] at H; exact H
    clear H
    have H := H1
    clear H1
    exact absurd (H.trans (congrArg some HRT.out)) (by simp)
  subst c16
  rw [if_pos rfl] at H
  replace H := Option.bind_eq_some_iff.mp H
  obtain ⟨⟨t245, t246, t247⟩, A170, H⟩ := H
  (try dsimp only at H)
  have A17 := Aside0.mk A170
  clear A170
  by_cases c18 : t245 < 0
  · rw [if_pos c18] at H
    exact absurd (H.trans (congrArg some HRT.out)) (by simp)
  rw [if_neg c18] at H
  have c18b0 : decide (t245 < 0) = false := decide_eq_false c18
  clear c18
  replace H := Option.bind_eq_some_iff.mp H
  obtain ⟨t248, A190, H⟩ := H
  (try dsimp only at H)
  have A19 := Aside0.mk A190
  clear A190
  by_cases c20 : t248 = true
  rotate_left
  · replace c20 := Bool.eq_false_iff.mpr c20
    subst c20
    have H1 : (some false) = some r := by rw [if_neg (show ¬ (false = true) by decide)] at H; exact H
    clear H
    have H := H1
    clear H1
    exact absurd (H.trans (congrArg some HRT.out)) (by simp)
  subst c20
  rw [if_pos rfl] at H
  replace H := Option.bind_eq_some_iff.mp H
  obtain ⟨⟨t249, t250⟩, A210, H⟩ := H
  (try dsimp only at H)
  have A21 := Aside0.mk A210
  clear A210
  replace H := Option.bind_eq_some_iff.mp H
  obtain ⟨t251, A220, H⟩ := H
  (try dsimp only at H)
  have A22 := Aside0.mk A220
  clear A220
  by_cases c23 : t251 < 0
  · rw [if_pos c23] at H
    exact absurd (H.trans (congrArg some HRT.out)) (by simp)
  rw [if_neg c23] at H
  have c23b0 : decide (t251 < 0) = false := decide_eq_false c23
  clear c23
  by_cases c24 : t251 = t249
  rotate_left
  · rw [if_neg c24] at H
    exact absurd (H.trans (congrArg some HRT.out)) (by simp)
  rw [if_pos c24] at H
  have c24b0 : (t251 == t249) = true := beq_iff_eq.mpr c24
  have c24b1 : (t251 != t249) = false := bne_eq_false_iff_eq.mpr c24
  clear c24
  replace H := Option.bind_eq_some_iff.mp H
  obtain ⟨⟨t252, t255, t258, t259⟩, A250, H⟩ := H
  (try dsimp only at H)
  have A25 := Aside0.mk A250
  clear A250
  replace H := Option.bind_eq_some_iff.mp H
  obtain ⟨t260, A260, H⟩ := H
  (try dsimp only at H)
  have A26 := Aside0.mk A260
  clear A260
  replace H := Option.bind_eq_some_iff.mp H
  obtain ⟨t263, A270, H⟩ := H
  replace H : (if t263 = true then ((laws_heldIntS.f k t250 1).bind fun t264 => (if t264 < 0 then (some false) else (if t264 = t249 then (some true) else (some false)))) else (some false)) = some r := H
  have A27 := Aside0.mk A270
  clear A270
  by_cases c28 : t263 = true
  rotate_left
  · replace c28 := Bool.eq_false_iff.mpr c28
    subst c28
    have H1 : (some false) = some r := by rw [if_neg (show ¬ (false = true) by decide)] at H; exact H
    clear H
    have H := H1
    clear H1
    exact absurd (H.trans (congrArg some HRT.out)) (by simp)
  subst c28
  have H1 : ((laws_heldIntS.f k t250 1).bind fun t264 => (if t264 < 0 then (some false) else (if t264 = t249 then (some true) else (some false)))) = some r := by rw [if_pos rfl] at H; exact H
  clear H
  have H := H1
  clear H1
  replace H := Option.bind_eq_some_iff.mp H
  obtain ⟨t264, A290, H⟩ := H
  replace H : (if t264 < 0 then (some false) else (if t264 = t249 then (some true) else (some false))) = some r := H
  have A29 := Aside0.mk A290
  clear A290
  by_cases c30 : t264 < 0
  · rw [if_pos c30] at H
    exact absurd (H.trans (congrArg some HRT.out)) (by simp)
  rw [if_neg c30] at H
  have c30b0 : decide (t264 < 0) = false := decide_eq_false c30
  clear c30
  by_cases c31 : t264 = t249
  rotate_left
  · rw [if_neg c31] at H
    exact absurd (H.trans (congrArg some HRT.out)) (by simp)
  rw [if_pos c31] at H
  have c31b0 : (t264 == t249) = true := beq_iff_eq.mpr c31
  have c31b1 : (t264 != t249) = false := bne_eq_false_iff_eq.mpr c31
  clear c31
  obtain rfl := Option.some.inj H
  go_enter Try.func3, Try.ntmps3
  try go_wp2_with (first | ((with_reducible refine gate_dst (N := 2) rfl ?_); refine box_event ?hg (N := 2) ?hd (cs := #[.slice A0_0 l0_0.length c0_0, .slice A0_1 l0_1.length c0_1, .int .i64 a0_2, .int .i64 a0_3]) (t := 25) ?hr ?_; (case hd => rfl); (case hg => rfl); (case hr => first | (go_simp; done) | (go_simp; rfl)); intro gb210 hg w32 hbox hb; have n0_ := Aside0.mk Z5_21; have n1_ := Aside0.mk (hbox); have n2_ := Aside0.mk Z5_18; have n3_ := Aside0.mk Z5_18; clear HB; have HB := n0_; have BK210 := n1_; have GW210 := n2_; have GE210 := n3_; clear n0_ n1_ n2_ n3_; clear hb hbox hg; obtain ⟨⟨hcz33_0, hcz33_1, hcz33_2, hcz33_3⟩, hfz33_0, hfz33_1, hfz33_2, hfz33_3⟩ := C5_4 BK210.out) | ((with_reducible refine gate_callee (f := 9) rfl ?_); refine goesL_ (some 15) rfl rfl Try.func9 (by kernel_rfl) rfl #[.agg #[.slice A0_0 l0_0.length c0_0, .slice A0_1 l0_1.length c0_1, .int .i64 a0_2, .int .i64 a0_3], .int .i64 1048576] rfl Z5_22 ?_; (with_reducible refine (laws_szState.calls _ _ l0_0 _ _ l0_1 a0_2 a0_3 1048576 t211 _ ?side1 ?side2 ?side3 ?side4 A3.out).mono ?_); (case side1 => repeat (first | exact (Kd.C_below HR0_0.out HB.out) | (with_reducible refine Kd.C_alloc ?_ _) | (with_reducible refine Kd.C_drewN ?_ _) | (with_reducible refine Kd.C_drew ?_))); (case side2 => exact HC0_0.out); (case side3 => repeat (first | exact (Kd.C_below HR0_1.out HB.out) | (with_reducible refine Kd.C_alloc ?_ _) | (with_reducible refine Kd.C_drewN ?_ _) | (with_reducible refine Kd.C_drew ?_))); (case side4 => exact HC0_1.out); rintro e w34 ⟨rfl, hb⟩; refine ⟨_, rfl, ?_⟩; have n0_ := Aside0.mk Z5_4; have n1_ := Aside0.mk Z5_19; clear BK210; clear HB; have BK210 := n0_; have HB := n1_; clear n0_ n1_; (try clear hb); (try clear hb2); (try clear hk); (try clear hi); obtain ⟨⟨hcz35_0, hcz35_1, hcz35_2, hcz35_3⟩, hfz35_0, hfz35_1, hfz35_2, hfz35_3⟩ := C5_4 BK210.out) | ((with_reducible refine gate_callee (f := 11) rfl ?_); refine goesL_ (some 19) rfl rfl Try.func11 (by kernel_rfl) rfl #[.agg #[.slice A0_0 l0_0.length c0_0, .slice A0_1 l0_1.length c0_1, .int .i64 a0_2, .int .i64 a0_3]] rfl Z5_22 ?_; (with_reducible refine (laws_toState.calls k _ _ l0_0 _ _ l0_1 a0_2 a0_3 t212 t215 t218 t219 _ ?side1 ?side2 ?side3 ?side4 A8.out).mono ?_); (case side1 => repeat (first | exact (Kd.C_below HR0_0.out HB.out) | (with_reducible refine Kd.C_alloc ?_ _) | (with_reducible refine Kd.C_drewN ?_ _) | (with_reducible refine Kd.C_drew ?_))); (case side2 => exact HC0_0.out); (case side3 => repeat (first | exact (Kd.C_below HR0_1.out HB.out) | (with_reducible refine Kd.C_alloc ?_ _) | (with_reducible refine Kd.C_drewN ?_ _) | (with_reducible refine Kd.C_drew ?_))); (case side4 => exact HC0_1.out); rintro e w36 ⟨v213, v216, rfl, ho0, ho1, hb⟩; refine ⟨_, rfl, ?_⟩; have n0_ := Aside0.mk Z5_17; have n1_ := Aside0.mk (Kd.R_lower ho1 (below_size Z5_20)); have n2_ := Aside0.mk Z5_4; have n3_ := Aside0.mk Z5_19; clear BK210; clear HB; have HO214 := n0_; have HO217 := n1_; have BK210 := n2_; have HB := n3_; clear n0_ n1_ n2_ n3_; (try clear hb); (try clear hb2); (try clear hk); (try clear hi); (try clear ho0); (try clear ho1); obtain ⟨Ao37, co37, eo37⟩ := Kd.R_slice HO214.out; subst eo37; obtain ⟨Ao38, co38, eo38⟩ := Kd.R_slice HO217.out; subst eo38; clear A8) | ((with_reducible refine gate_callee (f := 10) rfl ?_); refine goesL_ (some 21) rfl rfl Try.func10 (by kernel_rfl) rfl #[.agg #[.slice Ao37 t212.length co37, .slice Ao38 t215.length co38, .int .i64 t218, .int .i64 t219], .int .i64 a1] rfl Z5_22 ?_; (with_reducible refine (spec_OnField.calls k _ _ t212 _ _ t215 t218 t219 a1 t220 _ ?side1 ?side2 ?side3 ?side4 A9.out).mono ?_); (case side1 => repeat (first | exact (Kd.R_reads' HO214.out).2.2 | (with_reducible refine Kd.C_alloc ?_ _) | (with_reducible refine Kd.C_drewN ?_ _) | (with_reducible refine Kd.C_drew ?_))); (case side2 => exact (Kd.R_reads' HO214.out).2.1); (case side3 => repeat (first | exact (Kd.R_reads' HO217.out).2.2 | (with_reducible refine Kd.C_alloc ?_ _) | (with_reducible refine Kd.C_drewN ?_ _) | (with_reducible refine Kd.C_drew ?_))); (case side4 => exact (Kd.R_reads' HO217.out).2.1); rintro e w39 ⟨v221, rfl, ho0, hb⟩; refine ⟨_, rfl, ?_⟩; have n0_ := Aside0.mk Z5_29; have n1_ := Aside0.mk Z5_30; have n2_ := Aside0.mk Z5_17; have n3_ := Aside0.mk Z5_4; have n4_ := Aside0.mk Z5_19; clear HO214; clear HO217; clear BK210; clear HB; have HO214 := n0_; have HO217 := n1_; have HO222 := n2_; have BK210 := n3_; have HB := n4_; clear n0_ n1_ n2_ n3_ n4_; (try clear hb); (try clear hb2); (try clear hk); (try clear hi); (try clear ho0); obtain ⟨⟨hcz40_0, hcz40_1, hcz40_2, hcz40_3⟩, hfz40_0, hfz40_1, hfz40_2, hfz40_3⟩ := C5_4 BK210.out) | ((with_reducible refine gate_callee (f := 11) rfl ?_); refine goesL_ (some 23) rfl rfl Try.func11 (by kernel_rfl) rfl #[.agg #[.slice A0_0 l0_0.length c0_0, .slice A0_1 l0_1.length c0_1, .int .i64 a0_2, .int .i64 a0_3]] rfl Z5_22 ?_; (with_reducible refine (laws_toState.calls k _ _ l0_0 _ _ l0_1 a0_2 a0_3 t223 t226 t229 t230 _ ?side1 ?side2 ?side3 ?side4 A10.out).mono ?_); (case side1 => repeat (first | exact (Kd.C_below HR0_0.out HB.out) | (with_reducible refine Kd.C_alloc ?_ _) | (with_reducible refine Kd.C_drewN ?_ _) | (with_reducible refine Kd.C_drew ?_))); (case side2 => exact HC0_0.out); (case side3 => repeat (first | exact (Kd.C_below HR0_1.out HB.out) | (with_reducible refine Kd.C_alloc ?_ _) | (with_reducible refine Kd.C_drewN ?_ _) | (with_reducible refine Kd.C_drew ?_))); (case side4 => exact HC0_1.out); rintro e w41 ⟨v224, v227, rfl, ho0, ho1, hb⟩; refine ⟨_, rfl, ?_⟩; have n0_ := Aside0.mk Z5_23; have n1_ := Aside0.mk Z5_24; have n2_ := Aside0.mk Z5_31; have n3_ := Aside0.mk (Kd.R_lower (Kd.R_new' ho0 (Kd.R_lt Z5_39)) (below_size Z5_20)); have n4_ := Aside0.mk (Kd.R_lower (Kd.R_new' ho1 (Kd.R_lt Z5_40)) (below_size Z5_20)); have n5_ := Aside0.mk Z5_4; have n6_ := Aside0.mk Z5_19; clear HO214; clear HO217; clear HO222; clear BK210; clear HB; have HO214 := n0_; have HO217 := n1_; have HO222 := n2_; have HO225 := n3_; have HO228 := n4_; have BK210 := n5_; have HB := n6_; clear n0_ n1_ n2_ n3_ n4_ n5_ n6_; (try clear hb); (try clear hb2); (try clear hk); (try clear hi); (try clear ho0); (try clear ho1); clear A10) | ((with_reducible refine gate_dst (N := 7) rfl ?_); refine box_event ?hg (N := 7) ?hd (cs := #[.slice none 0 0, .slice none 0 0, .int .i64 0, .int .i64 0]) (t := 32) ?hr ?_; (case hd => rfl); (case hg => rfl); (case hr => first | (go_simp; done) | (go_simp; rfl)); intro gb231 hg w42 hbox hb; have n0_ := Aside0.mk Z5_29; have n1_ := Aside0.mk Z5_30; have n2_ := Aside0.mk Z5_31; have n3_ := Aside0.mk Z5_32; have n4_ := Aside0.mk Z5_33; have n5_ := Aside0.mk Z5_4; have n6_ := Aside0.mk Z5_19; have n7_ := Aside0.mk (hbox); have n8_ := Aside0.mk Z5_11; have n9_ := Aside0.mk Z5_11; have n10_ := Aside0.mk ((by rw [hg]; exact Nat.ne_of_lt (blk_lt (g := gb210) (o := .cells #[.slice A0_0 l0_0.length c0_0, .slice A0_1 l0_1.length c0_1, .int .i64 a0_2, .int .i64 a0_3] 25 (0, 0)) Z5_37) : gb210 ≠ gb231)); have n11_ := Aside0.mk ((by rw [hg]; exact Nat.ne_of_gt (blk_lt (g := gb210) (o := .cells #[.slice A0_0 l0_0.length c0_0, .slice A0_1 l0_1.length c0_1, .int .i64 a0_2, .int .i64 a0_3] 25 (0, 0)) Z5_37) : gb231 ≠ gb210)); clear HO214; clear HO217; clear HO222; clear HO225; clear HO228; clear BK210; clear HB; have HO214 := n0_; have HO217 := n1_; have HO222 := n2_; have HO225 := n3_; have HO228 := n4_; have BK210 := n5_; have HB := n6_; have BK231 := n7_; have GW231 := n8_; have GE231 := n9_; have NB210_231 := n10_; have NB231_210 := n11_; clear n0_ n1_ n2_ n3_ n4_ n5_ n6_ n7_ n8_ n9_ n10_ n11_; clear hb hbox hg; obtain ⟨Ao43, co43, eo43⟩ := Kd.R_slice HO225.out; subst eo43; have hnb44 := NB231_210.out; have hnc44 := NB210_231.out; obtain ⟨⟨hcz45_0, hcz45_1, hcz45_2, hcz45_3⟩, hfz45_0, hfz45_1, hfz45_2, hfz45_3⟩ := C5_4 BK231.out; obtain ⟨Ao46, co46, eo46⟩ := Kd.R_slice HO228.out; subst eo46) | ((with_reducible refine gate_callee (f := 12) rfl ?_); refine goesL_ (some 26) rfl rfl Try.func12 (by kernel_rfl) rfl #[.agg #[.slice Ao43 t223.length co43, .slice Ao46 t226.length co46, .int .i64 t229, .int .i64 t230], .int .i64 a1] rfl Z5_22 ?_; (with_reducible refine (impl_OnField.calls k _ _ t223 _ _ t226 t229 t230 a1 t232 _ ?side1 ?side2 ?side3 ?side4 A11.out).mono ?_); (case side1 => refine (Kd.R_reads' (e := 42) (base := w.heap.size) (ok := fun k_ => (True ∧ some k_ ≠ (.slice Ao37 t212.length co37 : Value).ownBlock)) (n := t223.length) (c := co43) ?_).2.2; exact Z5_1); (case side2 => exact (Kd.R_reads' HO225.out).2.1); (case side3 => refine (Kd.R_reads' (e := 78) (base := w.heap.size) (ok := fun k_ => (True ∧ some k_ ≠ (.slice Ao38 t215.length co38 : Value).ownBlock)) (n := t226.length) (c := co46) ?_).2.2; exact Z5_2); (case side4 => exact (Kd.R_reads' HO228.out).2.1); rintro e w47 ⟨v233, rfl, ho0, hb⟩; refine ⟨_, rfl, ?_⟩; have n0_ := Aside0.mk (Kd.R_below (by (with_reducible repeat (first | apply Kd.R_alloc | apply Kd.R_drewN | apply Kd.R_drew)); exact (Kd.R_mono (Kd.R_far (p := ⟨gb231, 3, none⟩) (Kd.R_far (p := ⟨gb231, 2, none⟩) (Kd.R_far (p := ⟨gb231, 1, none⟩) (Kd.R_far (p := ⟨gb231, 0, none⟩) (Kd.R_types HO214.out BK231.out (by decide)) (fun _ hk => hk.2) (.slice Ao43 t223.length co43)) (fun _ hk => hk.2) (.slice Ao46 t226.length co46)) (fun _ hk => hk.2) (.int .i64 t229)) (fun _ hk => hk.2) (.int .i64 t230)) (fun _ h_ => h_.1))) hb); have n1_ := Aside0.mk (Kd.R_below (by (with_reducible repeat (first | apply Kd.R_alloc | apply Kd.R_drewN | apply Kd.R_drew)); exact (Kd.R_mono (Kd.R_far (p := ⟨gb231, 3, none⟩) (Kd.R_far (p := ⟨gb231, 2, none⟩) (Kd.R_far (p := ⟨gb231, 1, none⟩) (Kd.R_far (p := ⟨gb231, 0, none⟩) (Kd.R_types HO217.out BK231.out (by decide)) (fun _ hk => hk.2) (.slice Ao43 t223.length co43)) (fun _ hk => hk.2) (.slice Ao46 t226.length co46)) (fun _ hk => hk.2) (.int .i64 t229)) (fun _ hk => hk.2) (.int .i64 t230)) (fun _ h_ => h_.1))) hb); have n2_ := Aside0.mk (Kd.R_elder' Z5_3 (Kd.R_base ho0) hb); have n3_ := Aside0.mk (Kd.R_below Z5_1 hb); have n4_ := Aside0.mk (Kd.R_below Z5_2 hb); have n5_ := Aside0.mk (Kd.R_lower (Kd.R_new' ho0 (Kd.R_lt Z5_3)) (below_size Z5_16)); have n6_ := Aside0.mk (blk_below (g := gb210) (o := .cells #[.slice A0_0 l0_0.length c0_0, .slice A0_1 l0_1.length c0_1, .int .i64 a0_2, .int .i64 a0_3] 25 (0, 0)) (by (with_reducible repeat (first | refine blk_drewN ?_ _ | refine blk_drew ?_ | refine blk_alloc ?_ _)); refine blk_far ?_ NB210_231.out _; (with_reducible repeat (first | refine blk_drewN ?_ _ | refine blk_drew ?_ | refine blk_alloc ?_ _)); refine blk_far ?_ NB210_231.out _; (with_reducible repeat (first | refine blk_drewN ?_ _ | refine blk_drew ?_ | refine blk_alloc ?_ _)); refine blk_far ?_ NB210_231.out _; (with_reducible repeat (first | refine blk_drewN ?_ _ | refine blk_drew ?_ | refine blk_alloc ?_ _)); refine blk_far ?_ NB210_231.out _; (with_reducible repeat (first | refine blk_drewN ?_ _ | refine blk_drew ?_ | refine blk_alloc ?_ _)); exact BK210.out) hb); have n7_ := Aside0.mk (blk_below (g := gb231) (o := .cells #[.slice Ao43 t223.length co43, .slice Ao46 t226.length co46, .int .i64 t229, .int .i64 t230] 32 (0, 0)) (by (with_reducible repeat (first | refine blk_drewN ?_ _ | refine blk_drew ?_ | refine blk_alloc ?_ _)); apply E5_4; (with_reducible repeat (first | refine blk_drewN ?_ _ | refine blk_drew ?_ | refine blk_alloc ?_ _)); exact BK231.out) hb); have n8_ := Aside0.mk Z5_12; clear HO214; clear HO217; clear HO222; clear HO225; clear HO228; clear BK210; clear BK231; clear HB; have HO214 := n0_; have HO217 := n1_; have HO222 := n2_; have HO225 := n3_; have HO228 := n4_; have HO234 := n5_; have BK210 := n6_; have BK231 := n7_; have HB := n8_; clear n0_ n1_ n2_ n3_ n4_ n5_ n6_ n7_ n8_; (try clear hb); (try clear hb2); (try clear hk); (try clear hi); (try clear ho0); obtain ⟨Ao48, co48, eo48⟩ := Kd.R_slice HO234.out; subst eo48; obtain ⟨Ao49, co49, eo49⟩ := Kd.R_slice HO222.out; subst eo49) | ((with_reducible refine gate_callee (f := 13) rfl ?_); refine goesL_ (some 29) rfl rfl Try.func13 (by kernel_rfl) rfl #[.slice Ao48 t232.length co48, .slice Ao49 t220.length co49] rfl Z5_22 ?_; (with_reducible refine (laws_eqIntS.calls k _ _ t232 _ _ t220 true _ ?side1 ?side2 ?side3 ?side4 A12.out).mono ?_); (case side1 => repeat (first | exact (Kd.R_reads' HO234.out).2.2 | (with_reducible refine Kd.C_alloc ?_ _) | (with_reducible refine Kd.C_drewN ?_ _) | (with_reducible refine Kd.C_drew ?_))); (case side2 => exact (Kd.R_reads' HO234.out).2.1); (case side3 => repeat (first | exact (Kd.R_reads' HO222.out).2.2 | (with_reducible refine Kd.C_alloc ?_ _) | (with_reducible refine Kd.C_drewN ?_ _) | (with_reducible refine Kd.C_drew ?_))); (case side4 => exact (Kd.R_reads' HO222.out).2.1); rintro e w' ⟨rfl, ⟨nd, rfl⟩⟩; refine ⟨_, rfl, ?_⟩))
  (try (rw [drewN_self w47]; generalize hq_ : World.drewN w47 _ = w47; have n0_ : Aside0 (Kd.R k42 42 w47 w.heap.size (fun k_ => some k_ ≠ (.slice Ao43 t223.length co43 : Value).ownBlock) (.slice Ao37 t212.length co37) t212) := ⟨(by rw [← hq_]; exact (by (with_reducible repeat (first | apply Kd.R_alloc | apply Kd.R_drewN | apply Kd.R_drew)); exact Kd.R_mono HO214.out (fun _ hk => hk.2)))⟩; have n1_ : Aside0 (Kd.R k78 78 w47 w.heap.size (fun k_ => some k_ ≠ (.slice Ao46 t226.length co46 : Value).ownBlock) (.slice Ao38 t215.length co38) t215) := ⟨(by rw [← hq_]; exact (by (with_reducible repeat (first | apply Kd.R_alloc | apply Kd.R_drewN | apply Kd.R_drew)); exact Kd.R_mono HO217.out (fun _ hk => hk.2)))⟩; have n2_ : Aside0 (Kd.R (Kd.int .i64) 3 w47 w.heap.size (fun k_ => some k_ ≠ (.slice Ao48 t232.length co48 : Value).ownBlock) (.slice Ao49 t220.length co49) t220) := ⟨(by rw [← hq_]; exact (by (with_reducible repeat (first | apply Kd.R_alloc | apply Kd.R_drewN | apply Kd.R_drew)); exact Kd.R_mono HO222.out (fun _ hk => hk.2)))⟩; have n3_ : Aside0 (Kd.R k42 42 w47 w.heap.size (fun k_ => some k_ ≠ (.slice Ao37 t212.length co37 : Value).ownBlock) (.slice Ao43 t223.length co43) t223) := ⟨(by rw [← hq_]; exact (by (with_reducible repeat (first | apply Kd.R_alloc | apply Kd.R_drewN | apply Kd.R_drew)); exact Kd.R_mono HO225.out (fun _ hk => hk.2)))⟩; have n4_ : Aside0 (Kd.R k78 78 w47 w.heap.size (fun k_ => some k_ ≠ (.slice Ao38 t215.length co38 : Value).ownBlock) (.slice Ao46 t226.length co46) t226) := ⟨(by rw [← hq_]; exact (by (with_reducible repeat (first | apply Kd.R_alloc | apply Kd.R_drewN | apply Kd.R_drew)); exact Kd.R_mono HO228.out (fun _ hk => hk.2)))⟩; have n5_ : Aside0 (Kd.R (Kd.int .i64) 3 w47 w.heap.size (fun k_ => some k_ ≠ (.slice Ao49 t220.length co49 : Value).ownBlock) (.slice Ao48 t232.length co48) t232) := ⟨(by rw [← hq_]; exact (by (with_reducible repeat (first | apply Kd.R_alloc | apply Kd.R_drewN | apply Kd.R_drew)); exact Kd.R_mono HO234.out (fun _ hk => hk.2)))⟩; have n6_ : Aside0 (w47.heap[gb210]? = some (.cells #[.slice A0_0 l0_0.length c0_0, .slice A0_1 l0_1.length c0_1, .int .i64 a0_2, .int .i64 a0_3] 25 (0, 0))) := ⟨(by rw [← hq_]; exact Z5_37)⟩; have n7_ : Aside0 (w47.heap[gb231]? = some (.cells #[.slice Ao43 t223.length co43, .slice Ao46 t226.length co46, .int .i64 t229, .int .i64 t230] 32 (0, 0))) := ⟨(by rw [← hq_]; exact Z5_38)⟩; have n8_ : Aside0 (Below w.heap.size w w47) := ⟨(by rw [← hq_]; exact Z5_16)⟩; clear HO214 HO217 HO222 HO225 HO228 HO234 BK210 BK231 HB hq_; have HO214 := n0_; have HO217 := n1_; have HO222 := n2_; have HO225 := n3_; have HO228 := n4_; have HO234 := n5_; have BK210 := n6_; have BK231 := n7_; have HB := n8_; clear n0_ n1_ n2_ n3_ n4_ n5_ n6_ n7_ n8_))
  have n0_ := Aside0.mk (Kd.R_drew HO214.out)
  have n1_ := Aside0.mk (Kd.R_drew HO217.out)
  have n2_ := Aside0.mk (Kd.R_drew HO222.out)
  have n3_ := Aside0.mk (Kd.R_drew HO225.out)
  have n4_ := Aside0.mk (Kd.R_drew HO228.out)
  have n5_ := Aside0.mk (Kd.R_drew HO234.out)
  have n6_ := Aside0.mk (blk_drew BK210.out)
  have n7_ := Aside0.mk (blk_drew BK231.out)
  have n8_ := Aside0.mk (below_drew1 HB.out)
  clear HO214
  clear HO217
  clear HO222
  clear HO225
  clear HO228
  clear HO234
  clear BK210
  clear BK231
  clear HB
  have HO214 := n0_
  have HO217 := n1_
  have HO222 := n2_
  have HO225 := n3_
  have HO228 := n4_
  have HO234 := n5_
  have BK210 := n6_
  have BK231 := n7_
  have HB := n8_
  clear n0_ n1_ n2_ n3_ n4_ n5_ n6_ n7_ n8_
  refine start_ (n := 5) (S := fun w' => w'.cell? ⟨gb231, 0, none⟩ = some (.slice Ao43 t223.length co43) ∧ w'.cell? ⟨gb231, 1, none⟩ = some (.slice Ao46 t226.length co46) ∧ w'.cell? ⟨gb231, 2, none⟩ = some (.int .i64 t229) ∧ w'.cell? ⟨gb231, 3, none⟩ = some (.int .i64 t230) ∧ w'.cell? ⟨gb210, 0, none⟩ = some (.slice A0_0 l0_0.length c0_0) ∧ w'.cell? ⟨gb210, 1, none⟩ = some (.slice A0_1 l0_1.length c0_1) ∧ w'.cell? ⟨gb210, 2, none⟩ = some (.int .i64 a0_2) ∧ w'.cell? ⟨gb210, 3, none⟩ = some (.int .i64 a0_3)) (ds := []) #[false, false, false, false, false] (by kernel_rfl) rfl rfl ⟨(blk_cell BK231.out 0).trans rfl, (blk_cell BK231.out 1).trans rfl, (blk_cell BK231.out 2).trans rfl, (blk_cell BK231.out 3).trans rfl, (blk_cell BK210.out 0).trans rfl, (blk_cell BK210.out 1).trans rfl, (blk_cell BK210.out 2).trans rfl, (blk_cell BK210.out 3).trans rfl⟩ (fun hHeld => ?_)
  generalize w47.drew = w50 at HO214 HO217 HO222 HO225 HO228 HO234 BK210 BK231 HB hHeld ⊢
  refine take_ (i := 0) (N := some 31) (v := ?_) (a' := ?_) #[true, false, false, false, false] rfl rfl (by kernel_rfl) (fun _ _ _ h => h) (Or.inl ⟨(by rfl), ?_⟩) hHeld ?_ ?_
  rotate_left
  · rintro w' ⟨s0, s1, s2, s3, s4, s5, s6, s7⟩
    go_simp
    with_reducible rfl
  rotate_left
  · simp only [Act.put, List.setIfInBounds_toArray, List.set_cons_zero, List.set_cons_succ, i64_w, i32_w]
    rfl
  refine take_ (i := 1) (N := some 32) (v := ?_) (a' := ?_) #[true, true, false, false, false] rfl rfl (by kernel_rfl) (fun _ _ _ h => h) (Or.inl ⟨(by rfl), ?_⟩) hHeld ?_ ?_
  rotate_left
  · rintro w' ⟨s0, s1, s2, s3, s4, s5, s6, s7⟩
    go_simp
    with_reducible rfl
  rotate_left
  · simp only [Act.put, List.setIfInBounds_toArray, List.set_cons_zero, List.set_cons_succ, i64_w, i32_w]
    rfl
  refine one_ (i := 2) (N := some 33) #[true, true, true, false, false] rfl rfl (by kernel_rfl) (by decide) (fun K hK => ?_)
  refine goes_ Try.func11 (by kernel_rfl) rfl #[.agg #[.slice A0_0 l0_0.length c0_0, .slice A0_1 l0_1.length c0_1, .int .i64 a0_2, .int .i64 a0_3]] (by rfl) rfl rfl Z5_22 ?_
  with_reducible refine (laws_toState.calls k _ _ l0_0 _ _ l0_1 a0_2 a0_3 t236 t239 t242 t243 _ ?side1 ?side2 ?side3 ?side4 A14.out).mono ?_
  (case side1 => repeat (first | exact (Kd.C_below HR0_0.out HB.out) | (with_reducible refine Kd.C_alloc ?_ _) | (with_reducible refine Kd.C_drewN ?_ _) | (with_reducible refine Kd.C_drew ?_)))
  (case side2 => exact HC0_0.out)
  (case side3 => repeat (first | exact (Kd.C_below HR0_1.out HB.out) | (with_reducible refine Kd.C_alloc ?_ _) | (with_reducible refine Kd.C_drewN ?_ _) | (with_reducible refine Kd.C_drew ?_)))
  (case side4 => exact HC0_1.out)
  rintro e w51 ⟨v237, v240, rfl, ho0, ho1, hb⟩
  refine ⟨_, rfl, ?_⟩
  have n0_ := Aside0.mk Z5_23
  have n1_ := Aside0.mk Z5_24
  have n2_ := Aside0.mk Z5_31
  have n3_ := Aside0.mk Z5_25
  have n4_ := Aside0.mk Z5_26
  have n5_ := Aside0.mk Z5_34
  have n6_ := Aside0.mk (Kd.R_lower (Kd.R_new' (Kd.R_new' ho0 (Kd.R_lt Z5_39)) (Kd.R_lt Z5_42)) (below_size Z5_16))
  have n7_ := Aside0.mk (Kd.R_lower (Kd.R_new' (Kd.R_new' ho1 (Kd.R_lt Z5_40)) (Kd.R_lt Z5_43)) (below_size Z5_16))
  have n8_ := Aside0.mk Z5_4
  have n9_ := Aside0.mk Z5_5
  have n10_ := Aside0.mk Z5_12
  clear HO214
  clear HO217
  clear HO222
  clear HO225
  clear HO228
  clear HO234
  clear BK210
  clear BK231
  clear HB
  have HO214 := n0_
  have HO217 := n1_
  have HO222 := n2_
  have HO225 := n3_
  have HO228 := n4_
  have HO234 := n5_
  have HO238 := n6_
  have HO241 := n7_
  have BK210 := n8_
  have BK231 := n9_
  have HB := n10_
  clear n0_ n1_ n2_ n3_ n4_ n5_ n6_ n7_ n8_ n9_ n10_
  (try clear hb)
  (try clear hb2)
  (try clear hk)
  (try clear hi)
  (try clear ho0)
  (try clear ho1)
  obtain ⟨Ao52, co52, eo52⟩ := Kd.R_slice HO238.out
  (first | subst eo52 | (injection eo52 with f1_ f2_ f3_; have f4_ := f1_.symm; have f5_ := f3_.symm; clear f1_ f2_ f3_; subst f4_; subst f5_))
  obtain ⟨Ao53, co53, eo53⟩ := Kd.R_slice HO241.out
  (first | subst eo53 | (injection eo53 with f1_ f2_ f3_; have f4_ := f1_.symm; have f5_ := f3_.symm; clear f1_ f2_ f3_; subst f4_; subst f5_))
  refine hK.out _ _ (D5_4 BK231.out (C5_4 BK210.out).1) (fun hHeld => ?_)
  clear hK K
  refine norm_ (a' := ?_) ?_ ?_
  rotate_left
  · show Act.put _ (some 33) _ = _
    simp only [Act.put, List.setIfInBounds_toArray, List.set_cons_zero, List.set_cons_succ, i64_w, i32_w]
    rfl
  refine one_ (i := 3) (N := some 34) #[true, true, true, true, false] rfl rfl (by kernel_rfl) (by decide) (fun K hK => ?_)
  refine goes_ Try.func14 (by kernel_rfl) rfl #[.agg #[.slice Ao43 t223.length co43, .slice Ao46 t226.length co46, .int .i64 t229, .int .i64 t230], .agg #[.slice Ao52 t236.length co52, .slice Ao53 t239.length co53, .int .i64 t242, .int .i64 t243]] (by rfl) rfl rfl Z5_22 ?_
  with_reducible refine (laws_eqState.calls k _ _ t223 _ _ t226 t229 t230 _ _ t236 _ _ t239 t242 t243 true _ ?side1 ?side2 ?side3 ?side4 ?side5 ?side6 ?side7 ?side8 A15.out).mono ?_
  (case side1 => repeat (first | exact (Kd.R_reads' HO225.out).2.2 | (with_reducible refine Kd.C_alloc ?_ _) | (with_reducible refine Kd.C_drewN ?_ _) | (with_reducible refine Kd.C_drew ?_)))
  (case side2 => exact (Kd.R_reads' HO225.out).2.1)
  (case side3 => repeat (first | exact (Kd.R_reads' HO228.out).2.2 | (with_reducible refine Kd.C_alloc ?_ _) | (with_reducible refine Kd.C_drewN ?_ _) | (with_reducible refine Kd.C_drew ?_)))
  (case side4 => exact (Kd.R_reads' HO228.out).2.1)
  (case side5 => repeat (first | exact (Kd.R_reads' HO238.out).2.2 | (with_reducible refine Kd.C_alloc ?_ _) | (with_reducible refine Kd.C_drewN ?_ _) | (with_reducible refine Kd.C_drew ?_)))
  (case side6 => exact (Kd.R_reads' HO238.out).2.1)
  (case side7 => repeat (first | exact (Kd.R_reads' HO241.out).2.2 | (with_reducible refine Kd.C_alloc ?_ _) | (with_reducible refine Kd.C_drewN ?_ _) | (with_reducible refine Kd.C_drew ?_)))
  (case side8 => exact (Kd.R_reads' HO241.out).2.1)
  rintro e w54 ⟨rfl, hb⟩
  refine ⟨_, rfl, ?_⟩
  have n0_ := Aside0.mk Z5_29
  have n1_ := Aside0.mk Z5_30
  have n2_ := Aside0.mk Z5_31
  have n3_ := Aside0.mk Z5_32
  have n4_ := Aside0.mk Z5_33
  have n5_ := Aside0.mk Z5_34
  have n6_ := Aside0.mk Z5_35
  have n7_ := Aside0.mk Z5_36
  have n8_ := Aside0.mk Z5_4
  have n9_ := Aside0.mk Z5_5
  have n10_ := Aside0.mk Z5_12
  clear HO214
  clear HO217
  clear HO222
  clear HO225
  clear HO228
  clear HO234
  clear HO238
  clear HO241
  clear BK210
  clear BK231
  clear HB
  have HO214 := n0_
  have HO217 := n1_
  have HO222 := n2_
  have HO225 := n3_
  have HO228 := n4_
  have HO234 := n5_
  have HO238 := n6_
  have HO241 := n7_
  have BK210 := n8_
  have BK231 := n9_
  have HB := n10_
  clear n0_ n1_ n2_ n3_ n4_ n5_ n6_ n7_ n8_ n9_ n10_
  (try clear hb)
  (try clear hb2)
  (try clear hk)
  (try clear hi)
  refine hK.out _ _ (D5_4 BK231.out (C5_4 BK210.out).1) (fun hHeld => ?_)
  clear hK K
  refine norm_ (a' := ?_) ?_ ?_
  rotate_left
  · show Act.put _ (some 34) _ = _
    simp only [Act.put, List.setIfInBounds_toArray, List.set_cons_zero, List.set_cons_succ, i64_w, i32_w]
    rfl
  refine pure_ (i := 4) (N := some 35) (v := _) (a' := _) #[true, true, true, true, true] rfl rfl (by kernel_rfl) (fun _ _ _ h => h) (Or.inl ⟨(by rfl), (by intro w'; go_simp; with_reducible rfl)⟩) (by simp only [Act.put, List.setIfInBounds_toArray, List.set_cons_zero, List.set_cons_succ, i64_w, i32_w]; rfl) ?_
  refine done_ (by kernel_rfl) ?_
  obtain ⟨⟨hcz55_0, hcz55_1, hcz55_2, hcz55_3⟩, hfz55_0, hfz55_1, hfz55_2, hfz55_3⟩ := C5_4 BK231.out
  try go_wp2_with (first | ((with_reducible refine gate_callee (f := 15) rfl ?_); refine goesL_ (some 38) rfl rfl Try.func15 (by kernel_rfl) rfl #[.agg #[.slice Ao43 t223.length co43, .slice Ao46 t226.length co46, .int .i64 t229, .int .i64 t230], .int .i64 1] rfl Z5_22 ?_; (with_reducible refine (laws_markState.calls k (fun k_ => some k_ = (.slice Ao43 t223.length co43 : Value).ownBlock) (.slice Ao43 t223.length co43) t223 (fun k_ => some k_ = (.slice Ao46 t226.length co46 : Value).ownBlock) (.slice Ao46 t226.length co46) t226 t229 t230 1 t245 t246 t247 w _ ?side1 ?side2 ?side3 A17.out).mono ?_); (case side1 => repeat (first | (with_reducible first | exact HB.out | apply below_alloc | apply pw_below_drewN | apply below_drew1 | refine below_set ?_ GE210.out | refine below_set ?_ GE231.out) | exact HB.out)); (case side2 => exact Kd.R_tight rfl HO225.out); (case side3 => exact Kd.R_tight rfl HO228.out); rintro e w56 ⟨rfl, hy0, hy1, hb, hkp⟩; refine ⟨_, rfl, ?_⟩; have n0_ := Aside0.mk (blk_kept Z5_37 hkp (fun hs_ => Or.elim hs_ (fun e_ => (fun e_ => (Kd.R_ne HO225.out BK210.out (by decide)) e_) e_) (fun e_ => (fun e_ => (Kd.R_ne HO228.out BK210.out (by decide)) e_) e_))); have n1_ := Aside0.mk (Kd.R_mono (ok' := fun k_ => some k_ ≠ (.slice Ao43 t223.length co43 : Value).ownBlock ∧ some k_ ≠ (.slice Ao52 t236.length co52 : Value).ownBlock) (Kd.R_keptB ((Kd.R_apart' HO214.out (Kd.R_typed HO228.out) (by decide))) hkp (fun k_ hk_ hs_ => Or.elim hs_ (fun e_ => Z5_7) (fun e_ => Z5_8))) (fun k_ hk_ => ⟨Z5_13, Z5_14⟩)); have n2_ := Aside0.mk (Kd.R_mono (ok' := fun k_ => some k_ ≠ (.slice Ao46 t226.length co46 : Value).ownBlock ∧ some k_ ≠ (.slice Ao53 t239.length co53 : Value).ownBlock) (Kd.R_keptB ((Kd.R_apart' HO217.out (Kd.R_typed HO225.out) (by decide))) hkp (fun k_ hk_ hs_ => Or.elim hs_ (fun e_ => Z5_8) (fun e_ => Z5_7))) (fun k_ hk_ => ⟨Z5_13, Z5_14⟩)); have n3_ := Aside0.mk (Kd.R_mono (ok' := fun k_ => some k_ ≠ (.slice Ao48 t232.length co48 : Value).ownBlock) (Kd.R_keptB ((Kd.R_apart' (Kd.R_apart' HO222.out (Kd.R_typed HO225.out) (by decide)) (Kd.R_typed HO228.out) (by decide))) hkp (fun k_ hk_ hs_ => Or.elim hs_ (fun e_ => Z5_9) (fun e_ => Z5_8))) (fun k_ hk_ => Z5_13)); have n4_ := Aside0.mk (Kd.R_reok rfl hy0 (fun k_ e_ => HO225.out.1 k_ e_)); have n5_ := Aside0.mk (Kd.R_reok rfl hy1 (fun k_ e_ => HO228.out.1 k_ e_)); have n6_ := Aside0.mk (blk_kept Z5_38 hkp (fun hs_ => Or.elim hs_ (fun e_ => (fun e_ => (Kd.R_ne HO225.out BK231.out (by decide)) e_) e_) (fun e_ => (fun e_ => (Kd.R_ne HO228.out BK231.out (by decide)) e_) e_))); have n7_ := Aside0.mk (Kd.R_mono (ok' := fun k_ => some k_ ≠ (.slice Ao49 t220.length co49 : Value).ownBlock) (Kd.R_keptB ((Kd.R_apart' (Kd.R_apart' HO234.out (Kd.R_typed HO225.out) (by decide)) (Kd.R_typed HO228.out) (by decide))) hkp (fun k_ hk_ hs_ => Or.elim hs_ (fun e_ => Z5_9) (fun e_ => Z5_8))) (fun k_ hk_ => Z5_13)); have n8_ := Aside0.mk (Kd.R_mono (ok' := fun k_ => some k_ ≠ (.slice Ao37 t212.length co37 : Value).ownBlock ∧ some k_ ≠ (.slice Ao43 t223.length co43 : Value).ownBlock) (Kd.R_keptB ((Kd.R_apart' HO238.out (Kd.R_typed HO228.out) (by decide))) hkp (fun k_ hk_ hs_ => Or.elim hs_ (fun e_ => Z5_9) (fun e_ => Z5_8))) (fun k_ hk_ => ⟨Z5_13, Z5_14⟩)); have n9_ := Aside0.mk (Kd.R_mono (ok' := fun k_ => some k_ ≠ (.slice Ao38 t215.length co38 : Value).ownBlock ∧ some k_ ≠ (.slice Ao46 t226.length co46 : Value).ownBlock) (Kd.R_keptB ((Kd.R_apart' HO241.out (Kd.R_typed HO225.out) (by decide))) hkp (fun k_ hk_ hs_ => Or.elim hs_ (fun e_ => Z5_8) (fun e_ => Z5_9))) (fun k_ hk_ => ⟨Z5_13, Z5_14⟩)); have n10_ := Aside0.mk (hb); clear BK210; clear HO214; clear HO217; clear HO222; clear HO225; clear HO228; clear BK231; clear HO234; clear HO238; clear HO241; clear HB; have BK210 := n0_; have HO214 := n1_; have HO217 := n2_; have HO222 := n3_; have HO225 := n4_; have HO228 := n5_; have BK231 := n6_; have HO234 := n7_; have HO238 := n8_; have HO241 := n9_; have HB := n10_; clear n0_ n1_ n2_ n3_ n4_ n5_ n6_ n7_ n8_ n9_ n10_; (try clear hb); (try clear hkp); (try clear hy0); (try clear hy1)) | (go_at_call 13; (with_reducible refine (laws_eqIntS.calls k _ _ t232 _ _ t220 true _ ?side1 ?side2 ?side3 ?side4 A19.out).mono ?_); (case side1 => repeat (first | exact (Kd.R_reads' HO234.out).2.2 | (with_reducible refine Kd.C_alloc ?_ _) | (with_reducible refine Kd.C_drewN ?_ _) | (with_reducible refine Kd.C_drew ?_))); (case side2 => exact (Kd.R_reads' HO234.out).2.1); (case side3 => repeat (first | exact (Kd.R_reads' HO222.out).2.2 | (with_reducible refine Kd.C_alloc ?_ _) | (with_reducible refine Kd.C_drewN ?_ _) | (with_reducible refine Kd.C_drew ?_))); (case side4 => exact (Kd.R_reads' HO222.out).2.1); rintro e w' ⟨rfl, ⟨nd, rfl⟩⟩) | ((with_reducible refine gate_callee (f := 16) rfl ?_); refine goesL_ (some 49) rfl rfl Try.func16 (by kernel_rfl) rfl #[.slice Ao48 t232.length co48, .int .i64 1] rfl Z5_22 ?_; (with_reducible refine (laws_markIntS.calls k (fun k_ => some k_ = (.slice Ao48 t232.length co48 : Value).ownBlock) (.slice Ao48 t232.length co48) t232 1 t249 t250 w _ ?side1 ?side2 A21.out).mono ?_); (case side1 => repeat (first | (with_reducible first | exact HB.out | apply below_alloc | apply pw_below_drewN | apply below_drew1 | refine below_set ?_ GE210.out | refine below_set ?_ GE231.out) | exact HB.out)); (case side2 => exact Kd.R_tight rfl HO234.out); rintro e w57 ⟨rfl, hy0, hb, hkp⟩; refine ⟨_, rfl, ?_⟩; have n0_ := Aside0.mk (blk_kept Z5_37 hkp (fun hs_ => (fun e_ => (Kd.R_ne HO234.out BK210.out (by decide)) e_) hs_)); have n1_ := Aside0.mk (Kd.R_mono (ok' := fun k_ => some k_ ≠ (.slice Ao43 t223.length co43 : Value).ownBlock ∧ some k_ ≠ (.slice Ao52 t236.length co52 : Value).ownBlock) (Kd.R_keptB ((Kd.R_apart' HO214.out (Kd.R_typed HO234.out) (by decide))) hkp (fun k_ hk_ hs_ => Z5_6)) (fun k_ hk_ => ⟨Z5_15, Z5_14⟩)); have n2_ := Aside0.mk (Kd.R_mono (ok' := fun k_ => some k_ ≠ (.slice Ao46 t226.length co46 : Value).ownBlock ∧ some k_ ≠ (.slice Ao53 t239.length co53 : Value).ownBlock) (Kd.R_keptB ((Kd.R_apart' HO217.out (Kd.R_typed HO234.out) (by decide))) hkp (fun k_ hk_ hs_ => Z5_6)) (fun k_ hk_ => ⟨Z5_15, Z5_14⟩)); have n3_ := Aside0.mk (Kd.R_mono (ok' := fun k_ => some k_ ≠ (.slice Ao48 t232.length co48 : Value).ownBlock) (Kd.R_keptB (HO222.out) hkp (fun k_ hk_ hs_ => (hk_) hs_)) (fun k_ hk_ => (by first | exact hk_.1 | exact hk_.2 | exact hk_.1.2 | exact hk_.1.1.2 | exact hk_.1.1.1.2 | exact hk_.1.1.1.1.2 | exact hk_.1.1.1.1.1.2 | exact hk_.1.1 | exact hk_.1.1.1 | exact hk_.1.1.1.1 | exact hk_.1.1.1.1.1))); have n4_ := Aside0.mk (Kd.R_mono (ok' := fun k_ => some k_ ≠ (.slice Ao37 t212.length co37 : Value).ownBlock ∧ some k_ ≠ (.slice Ao52 t236.length co52 : Value).ownBlock) (Kd.R_keptB ((Kd.R_apart' HO225.out (Kd.R_typed HO234.out) (by decide))) hkp (fun k_ hk_ hs_ => Z5_6)) (fun k_ hk_ => ⟨Z5_13, Z5_14⟩)); have n5_ := Aside0.mk (Kd.R_mono (ok' := fun k_ => some k_ ≠ (.slice Ao38 t215.length co38 : Value).ownBlock ∧ some k_ ≠ (.slice Ao53 t239.length co53 : Value).ownBlock) (Kd.R_keptB ((Kd.R_apart' HO228.out (Kd.R_typed HO234.out) (by decide))) hkp (fun k_ hk_ hs_ => Z5_6)) (fun k_ hk_ => ⟨Z5_13, Z5_14⟩)); have n6_ := Aside0.mk (blk_kept Z5_38 hkp (fun hs_ => (fun e_ => (Kd.R_ne HO234.out BK231.out (by decide)) e_) hs_)); have n7_ := Aside0.mk (Kd.R_reok rfl hy0 (fun k_ e_ => HO234.out.1 k_ e_)); have n8_ := Aside0.mk (Kd.R_mono (ok' := fun k_ => some k_ ≠ (.slice Ao37 t212.length co37 : Value).ownBlock ∧ some k_ ≠ (.slice Ao43 t223.length co43 : Value).ownBlock) (Kd.R_keptB ((Kd.R_apart' HO238.out (Kd.R_typed HO234.out) (by decide))) hkp (fun k_ hk_ hs_ => Z5_6)) (fun k_ hk_ => ⟨Z5_15, Z5_14⟩)); have n9_ := Aside0.mk (Kd.R_mono (ok' := fun k_ => some k_ ≠ (.slice Ao38 t215.length co38 : Value).ownBlock ∧ some k_ ≠ (.slice Ao46 t226.length co46 : Value).ownBlock) (Kd.R_keptB ((Kd.R_apart' HO241.out (Kd.R_typed HO234.out) (by decide))) hkp (fun k_ hk_ hs_ => Z5_6)) (fun k_ hk_ => ⟨Z5_15, Z5_14⟩)); have n10_ := Aside0.mk (hb); clear BK210; clear HO214; clear HO217; clear HO222; clear HO225; clear HO228; clear BK231; clear HO234; clear HO238; clear HO241; clear HB; have BK210 := n0_; have HO214 := n1_; have HO217 := n2_; have HO222 := n3_; have HO225 := n4_; have HO228 := n5_; have BK231 := n6_; have HO234 := n7_; have HO238 := n8_; have HO241 := n9_; have HB := n10_; clear n0_ n1_ n2_ n3_ n4_ n5_ n6_ n7_ n8_ n9_ n10_; (try clear hb); (try clear hkp); (try clear hy0)) | ((with_reducible refine gate_callee (f := 17) rfl ?_); refine goesL_ (some 52) rfl rfl Try.func17 (by kernel_rfl) rfl #[.slice Ao48 t250.length co48, .int .i64 1] rfl Z5_10 ?_; (with_reducible refine (laws_heldIntS.calls k _ _ t250 1 t251 _ ?side1 ?side2 A22.out).mono ?_); (case side1 => repeat (first | exact (Kd.R_reads' HO234.out).2.2 | (with_reducible refine Kd.C_alloc ?_ _) | (with_reducible refine Kd.C_drewN ?_ _) | (with_reducible refine Kd.C_drew ?_))); (case side2 => rw [show t250.length = t232.length from (Kd.R_reads' HO234.out).1.symm]; exact (Kd.R_reads' HO234.out).2.1); rintro e w' ⟨rfl, ⟨nd, rfl⟩⟩; refine ⟨_, rfl, ?_⟩; obtain ⟨⟨hcz58_0, hcz58_1, hcz58_2, hcz58_3⟩, hfz58_0, hfz58_1, hfz58_2, hfz58_3⟩ := C5_4 BK210.out) | ((with_reducible refine gate_callee (f := 11) rfl ?_); refine goesL_ (some 59) rfl rfl Try.func11 (by kernel_rfl) rfl #[.agg #[.slice A0_0 l0_0.length c0_0, .slice A0_1 l0_1.length c0_1, .int .i64 a0_2, .int .i64 a0_3]] rfl Z5_22 ?_; (with_reducible refine (laws_toState.calls k _ _ l0_0 _ _ l0_1 a0_2 a0_3 t252 t255 t258 t259 _ ?side1 ?side2 ?side3 ?side4 A25.out).mono ?_); (case side1 => repeat (first | exact (Kd.C_below HR0_0.out Z5_16) | (with_reducible refine Kd.C_alloc ?_ _) | (with_reducible refine Kd.C_drewN ?_ _) | (with_reducible refine Kd.C_drew ?_))); (case side2 => exact HC0_0.out); (case side3 => repeat (first | exact (Kd.C_below HR0_1.out Z5_16) | (with_reducible refine Kd.C_alloc ?_ _) | (with_reducible refine Kd.C_drewN ?_ _) | (with_reducible refine Kd.C_drew ?_))); (case side4 => exact HC0_1.out); rintro e w59 ⟨v253, v256, rfl, ho0, ho1, hb⟩; refine ⟨_, rfl, ?_⟩; have n0_ := Aside0.mk Z5_23; have n1_ := Aside0.mk Z5_24; have n2_ := Aside0.mk Z5_31; have n3_ := Aside0.mk Z5_25; have n4_ := Aside0.mk Z5_26; have n5_ := Aside0.mk Z5_34; have n6_ := Aside0.mk (Kd.R_elder' Z5_45 (Kd.R_base ho0) hb); have n7_ := Aside0.mk (Kd.R_elder' Z5_46 (Kd.R_base ho1) hb); have n8_ := Aside0.mk (Kd.R_lower (Kd.R_new' (Kd.R_new' (Kd.R_new' ho0 (Kd.R_lt Z5_39)) (Kd.R_lt Z5_42)) (Kd.R_lt Z5_45)) (below_size Z5_16)); have n9_ := Aside0.mk (Kd.R_lower (Kd.R_new' (Kd.R_new' (Kd.R_new' ho1 (Kd.R_lt Z5_40)) (Kd.R_lt Z5_43)) (Kd.R_lt Z5_46)) (below_size Z5_16)); have n10_ := Aside0.mk Z5_4; have n11_ := Aside0.mk Z5_5; have n12_ := Aside0.mk Z5_12; clear HO214; clear HO217; clear HO222; clear HO225; clear HO228; clear HO234; clear HO238; clear HO241; clear BK210; clear BK231; clear HB; have HO214 := n0_; have HO217 := n1_; have HO222 := n2_; have HO225 := n3_; have HO228 := n4_; have HO234 := n5_; have HO238 := n6_; have HO241 := n7_; have HO254 := n8_; have HO257 := n9_; have BK210 := n10_; have BK231 := n11_; have HB := n12_; clear n0_ n1_ n2_ n3_ n4_ n5_ n6_ n7_ n8_ n9_ n10_ n11_ n12_; (try clear hb); (try clear hb2); (try clear hk); (try clear hi); (try clear ho0); (try clear ho1); obtain ⟨Ao60, co60, eo60⟩ := Kd.R_slice HO254.out; subst eo60; obtain ⟨Ao61, co61, eo61⟩ := Kd.R_slice HO257.out; subst eo61) | ((with_reducible refine gate_callee (f := 12) rfl ?_); refine goesL_ (some 61) rfl rfl Try.func12 (by kernel_rfl) rfl #[.agg #[.slice Ao60 t252.length co60, .slice Ao61 t255.length co61, .int .i64 t258, .int .i64 t259], .int .i64 a1] rfl Z5_22 ?_; (with_reducible refine (impl_OnField.calls k _ _ t252 _ _ t255 t258 t259 a1 t260 _ ?side1 ?side2 ?side3 ?side4 A26.out).mono ?_); (case side1 => repeat (first | exact (Kd.R_reads' HO254.out).2.2 | (with_reducible refine Kd.C_alloc ?_ _) | (with_reducible refine Kd.C_drewN ?_ _) | (with_reducible refine Kd.C_drew ?_))); (case side2 => exact (Kd.R_reads' HO254.out).2.1); (case side3 => repeat (first | exact (Kd.R_reads' HO257.out).2.2 | (with_reducible refine Kd.C_alloc ?_ _) | (with_reducible refine Kd.C_drewN ?_ _) | (with_reducible refine Kd.C_drew ?_))); (case side4 => exact (Kd.R_reads' HO257.out).2.1); rintro e w62 ⟨v261, rfl, ho0, hb⟩; refine ⟨_, rfl, ?_⟩; have n0_ := Aside0.mk Z5_29; have n1_ := Aside0.mk Z5_30; have n2_ := Aside0.mk (Kd.R_elder' Z5_41 (Kd.R_base ho0) hb); have n3_ := Aside0.mk Z5_32; have n4_ := Aside0.mk Z5_33; have n5_ := Aside0.mk (Kd.R_elder' Z5_44 (Kd.R_base ho0) hb); have n6_ := Aside0.mk Z5_35; have n7_ := Aside0.mk Z5_36; have n8_ := Aside0.mk (Kd.R_below (by (with_reducible repeat (first | apply Kd.R_alloc | apply Kd.R_drewN | apply Kd.R_drew)); exact HO254.out) hb); have n9_ := Aside0.mk (Kd.R_below (by (with_reducible repeat (first | apply Kd.R_alloc | apply Kd.R_drewN | apply Kd.R_drew)); exact HO257.out) hb); have n10_ := Aside0.mk (Kd.R_lower (Kd.R_new' (Kd.R_new' ho0 (Kd.R_lt Z5_41)) (Kd.R_lt Z5_44)) (below_size Z5_16)); have n11_ := Aside0.mk Z5_4; have n12_ := Aside0.mk Z5_5; have n13_ := Aside0.mk Z5_12; clear HO214; clear HO217; clear HO222; clear HO225; clear HO228; clear HO234; clear HO238; clear HO241; clear HO254; clear HO257; clear BK210; clear BK231; clear HB; have HO214 := n0_; have HO217 := n1_; have HO222 := n2_; have HO225 := n3_; have HO228 := n4_; have HO234 := n5_; have HO238 := n6_; have HO241 := n7_; have HO254 := n8_; have HO257 := n9_; have HO262 := n10_; have BK210 := n11_; have BK231 := n12_; have HB := n13_; clear n0_ n1_ n2_ n3_ n4_ n5_ n6_ n7_ n8_ n9_ n10_ n11_ n12_ n13_; (try clear hb); (try clear hb2); (try clear hk); (try clear hi); (try clear ho0); obtain ⟨Ao63, co63, eo63⟩ := Kd.R_slice HO262.out; subst eo63) | ((with_reducible refine gate_callee (f := 13) rfl ?_); refine goesL_ (some 64) rfl rfl Try.func13 (by kernel_rfl) rfl #[.slice Ao63 t260.length co63, .slice Ao49 t220.length co49] rfl Z5_22 ?_; (with_reducible refine (laws_eqIntS.calls k _ _ t260 _ _ t220 true _ ?side1 ?side2 ?side3 ?side4 A27.out).mono ?_); (case side1 => repeat (first | exact (Kd.R_reads' HO262.out).2.2 | (with_reducible refine Kd.C_alloc ?_ _) | (with_reducible refine Kd.C_drewN ?_ _) | (with_reducible refine Kd.C_drew ?_))); (case side2 => exact (Kd.R_reads' HO262.out).2.1); (case side3 => repeat (first | exact (Kd.R_reads' HO222.out).2.2 | (with_reducible refine Kd.C_alloc ?_ _) | (with_reducible refine Kd.C_drewN ?_ _) | (with_reducible refine Kd.C_drew ?_))); (case side4 => exact (Kd.R_reads' HO222.out).2.1); rintro e w' ⟨rfl, ⟨nd, rfl⟩⟩; refine ⟨_, rfl, ?_⟩) | ((with_reducible refine gate_callee (f := 17) rfl ?_); refine goesL_ (some 68) rfl rfl Try.func17 (by kernel_rfl) rfl #[.slice Ao48 t250.length co48, .int .i64 1] rfl Z5_10 ?_; (with_reducible refine (laws_heldIntS.calls k _ _ t250 1 t264 _ ?side1 ?side2 A29.out).mono ?_); (case side1 => repeat (first | exact (Kd.R_reads' HO234.out).2.2 | (with_reducible refine Kd.C_alloc ?_ _) | (with_reducible refine Kd.C_drewN ?_ _) | (with_reducible refine Kd.C_drew ?_))); (case side2 => rw [show t250.length = t232.length from (Kd.R_reads' HO234.out).1.symm]; exact (Kd.R_reads' HO234.out).2.1); rintro e w' ⟨rfl, ⟨nd, rfl⟩⟩; refine ⟨_, rfl, ?_⟩))
  go_ret
  exact ⟨Z5_48, Z5_16⟩

/-- THE ONE PURE STATEMENT of laws_FnExactOnField: yours. -/
def laws_FnExactOnField.Pure : Prop := ∀ (l0_0 : List (S52)) (l0_1 : List (S97)) (a0_2 : Int) (a0_3 : Int) (a1 : Int), l0_0.length ≤ maxLen → (∀ x ∈ l0_0, (Lit.int .i64 x.f0).wf = true ∧ (Lit.int .i64 x.f1).wf = true ∧ (Lit.int .i64 x.f2).wf = true ∧ (Lit.int .i64 x.f3).wf = true ∧ (Lit.int .i64 x.f4).wf = true ∧ (Lit.int .i64 x.f5).wf = true ∧ (Lit.int .i64 x.f6).wf = true ∧ (Lit.int .i64 x.f7).wf = true ∧ (Lit.int .i64 x.f8).wf = true ∧ (Lit.int .i64 x.f9).wf = true ∧ (Lit.int .i64 x.f10).wf = true) → l0_1.length ≤ maxLen → (∀ x ∈ l0_1, (Lit.int .i64 x.f0).wf = true ∧ (Lit.int .i64 x.f1).wf = true) → (Lit.int .i64 a0_2).wf = true → (Lit.int .i64 a0_3).wf = true → (Lit.int .i64 a1).wf = true → ∃ k, laws_FnExactOnField.f k l0_0 l0_1 a0_2 a0_3 a1 = some true
theorem laws_FnExactOnField.walk (P : laws_FnExactOnField.Pure) (A0_0 : Option Addr) (c0_0 : Nat) (l0_0 : List (S52)) (A0_1 : Option Addr) (c0_1 : Nat) (l0_1 : List (S97)) (a0_2 : Int) (a0_3 : Int) (a1 : Int) (w : World) (hr0_0 : Kd.C k52 w A0_0 l0_0.length l0_0) (hc0_0 : l0_0.length ≤ c0_0) (hm0_0 : l0_0.length ≤ maxLen) (hw0_0 : ∀ x ∈ l0_0, (Lit.int .i64 x.f0).wf = true ∧ (Lit.int .i64 x.f1).wf = true ∧ (Lit.int .i64 x.f2).wf = true ∧ (Lit.int .i64 x.f3).wf = true ∧ (Lit.int .i64 x.f4).wf = true ∧ (Lit.int .i64 x.f5).wf = true ∧ (Lit.int .i64 x.f6).wf = true ∧ (Lit.int .i64 x.f7).wf = true ∧ (Lit.int .i64 x.f8).wf = true ∧ (Lit.int .i64 x.f9).wf = true ∧ (Lit.int .i64 x.f10).wf = true) (hr0_1 : Kd.C k97 w A0_1 l0_1.length l0_1) (hc0_1 : l0_1.length ≤ c0_1) (hm0_1 : l0_1.length ≤ maxLen) (hw0_1 : ∀ x ∈ l0_1, (Lit.int .i64 x.f0).wf = true ∧ (Lit.int .i64 x.f1).wf = true) (w0_2 : (Lit.int .i64 a0_2).wf = true) (w0_3 : (Lit.int .i64 a0_3).wf = true) (w1 : (Lit.int .i64 a1).wf = true) :
    Calls Try.prog 3 #[.agg #[.slice A0_0 l0_0.length c0_0, .slice A0_1 l0_1.length c0_1, .int .i64 a0_2, .int .i64 a0_3], .int .i64 a1] w fun e w' => e = .returned (.bool true) ∧ Below w.heap.size w w' := by
  obtain ⟨k, h⟩ := P l0_0 l0_1 a0_2 a0_3 a1 hm0_0 hw0_0 hm0_1 hw0_1 w0_2 w0_3 w1
  refine (laws_FnExactOnField.calls k _ _ l0_0 _ _ l0_1 a0_2 a0_3 a1 true w hr0_0 hc0_0 hr0_1 hc0_1 rfl h).mono ?_
  rintro e w' ⟨rfl, hd⟩
  exact ⟨rfl, hd⟩

end Go.Proofs.Ytnogcdmkpbfcmaa.QFnExactOnField
