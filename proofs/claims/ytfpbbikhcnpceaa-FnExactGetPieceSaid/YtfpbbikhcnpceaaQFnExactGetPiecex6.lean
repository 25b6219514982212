-- Written by a program of this session (patch_print.py over the print).
import Derived.Test.YtfpbbikhcnpceaaQFnExactGetPiecex0
import Derived.Test.YtfpbbikhcnpceaaQFnExactGetPiecex5
namespace Go.Proofs.Ytfpbbikhcnpceaa.QFnExactGetPiece
open Go.RowKit Go.Proofs.YtfpbbikhcnpceaaW.PrintWords Go.Proofs.YtfpbbikhcnpceaaW.PrintLast Go.Proofs.YtfpbbikhcnpceaaW.PrintMore
attribute [local go_sem] max2_int min2_int max_two min_two max_three min_three max_four min_four   -- for this text's walks alone
set_option linter.unusedVariables false
set_option linter.unusedSimpArgs false

theorem Z6_1 {p : Prop} (h : p := by exact ((by rw [hg]; exact (below_size (by repeat (first | (with_reducible first | exact HB.out | apply below_alloc | apply pw_below_drewN | apply below_drew1) | exact HB.out))) : w.heap.size ≤ gb161))) : p := h
theorem Z6_2 {p : Prop} (h : p := by repeat (first | (with_reducible first | exact HB.out | apply below_alloc | apply pw_below_drewN | apply below_drew1 | refine below_set ?_ GE161.out) | exact HB.out)) : p := h
theorem Z6_3 {p : Prop} (h : p := by (try simp only [List.map_toArray, List.map_cons, List.map_nil]); first | done | rfl | (simp only [List.length_drop, List.length_take]; rfl)) : p := h
theorem Z6_4 {p : Prop} (h : p := by (with_reducible repeat (first | refine blk_drewN ?_ _ | refine blk_drew ?_ | refine blk_alloc ?_ _)); exact BK161.out) : p := h
theorem Z6_5 {p : Prop} (h : p := by first | rfl | (simp [errW_none, errW_some] <;> rfl) | (simp [*, errW_none, errW_some] <;> rfl)) : p := h
theorem Z6_6 {p : Prop} (h : p := by first | rfl | (simp; done) | (simp [*]; done)) : p := h
/-! ### impl_PieceOk: function 69 -/
def impl_PieceOk.j0 : Nat → Bool → Int → Int → Int → Int → Int → Int → Int → Int → Int → Int → Int → Bool → Bool → Option (Bool)
  | 0, _, _, _, _, _, _, _, _, _, _, _, _, _, _ => none
  | k + 1, x48, x162000, x162001, x162002, x162003, x162004, x162005, x162006, x162007, x162008, x162009, x162010, x162011, x162012 => if x48 = true then (some false) else (if x162003 = 2 then ((impl_isAmount.f x162008).bind fun t170 => (if t170 = true then ((impl_isAmount.f x162009).bind fun t171 => (if t171 = true then ((impl_isAmount.f x162010).bind fun t172 => (some t172)) else (some false))) else (some false))) else (if x162002 = x162001 then (if x162008 = 0 then (if x162009 = 0 then (if x162010 = 0 then (if x162011 = true then (some false) else (some (!x162012))) else (some false)) else (some false)) else (some false)) else (some false)))
def impl_PieceOk.f (k : Nat) (a0_0 : Int) (a0_1 : Int) (a0_2 : Int) (a0_3 : Int) (a0_4 : Int) (a0_5 : Int) (a0_6 : Int) (a0_7 : Int) (a0_8 : Int) (a0_9 : Int) (a0_10 : Int) (a0_11 : Bool) (a0_12 : Bool) : Option (Bool) := (impl_isId.f a0_0).bind fun t162 => (if t162 = true then ((impl_isPlayer.f a0_1).bind fun t163 => (if t163 = true then ((impl_isPlayer.f a0_2).bind fun t164 => (if t164 = true then ((impl_isZone.f a0_3).bind fun t165 => (if t165 = true then ((impl_isTime.f a0_4).bind fun t166 => (if t166 = true then ((impl_from.f a0_5 0 999).bind fun t167 => (if t167 = true then ((impl_from.f a0_6 0 999).bind fun t168 => (if t168 = true then ((impl_isTraits.f a0_7).bind fun t169 => (impl_PieceOk.j0 k (!t169) a0_0 a0_1 a0_2 a0_3 a0_4 a0_5 a0_6 a0_7 a0_8 a0_9 a0_10 a0_11 a0_12)) else (impl_PieceOk.j0 k true a0_0 a0_1 a0_2 a0_3 a0_4 a0_5 a0_6 a0_7 a0_8 a0_9 a0_10 a0_11 a0_12))) else (impl_PieceOk.j0 k true a0_0 a0_1 a0_2 a0_3 a0_4 a0_5 a0_6 a0_7 a0_8 a0_9 a0_10 a0_11 a0_12))) else (impl_PieceOk.j0 k true a0_0 a0_1 a0_2 a0_3 a0_4 a0_5 a0_6 a0_7 a0_8 a0_9 a0_10 a0_11 a0_12))) else (impl_PieceOk.j0 k true a0_0 a0_1 a0_2 a0_3 a0_4 a0_5 a0_6 a0_7 a0_8 a0_9 a0_10 a0_11 a0_12))) else (impl_PieceOk.j0 k true a0_0 a0_1 a0_2 a0_3 a0_4 a0_5 a0_6 a0_7 a0_8 a0_9 a0_10 a0_11 a0_12))) else (impl_PieceOk.j0 k true a0_0 a0_1 a0_2 a0_3 a0_4 a0_5 a0_6 a0_7 a0_8 a0_9 a0_10 a0_11 a0_12))) else (impl_PieceOk.j0 k true a0_0 a0_1 a0_2 a0_3 a0_4 a0_5 a0_6 a0_7 a0_8 a0_9 a0_10 a0_11 a0_12))
theorem impl_PieceOk.mono_l : ∀ k, (∀ y0 y1 y2 y3 y4 y5 y6 y7 y8 y9 y10 y11 y12 y13, LeO (impl_PieceOk.j0 k y0 y1 y2 y3 y4 y5 y6 y7 y8 y9 y10 y11 y12 y13) (impl_PieceOk.j0 (k + 1) y0 y1 y2 y3 y4 y5 y6 y7 y8 y9 y10 y11 y12 y13))
  | 0 => fun _ _ _ _ _ _ _ _ _ _ _ _ _ _ r h => by simp [impl_PieceOk.j0] at h
  | k + 1 => by
    have ih0 := impl_PieceOk.mono_l k
    · intro y0 y1 y2 y3 y4 y5 y6 y7 y8 y9 y10 y11 y12 y13
      unfold impl_PieceOk.j0
      repeat' first
      | (with_reducible exact ih0 _ _ _ _ _ _ _ _ _ _ _ _ _ _)
      | (with_reducible exact LeO.refl _)
      | (with_reducible exact LeO.none _)
      | (with_reducible refine LeO.ite ?_ ?_)
      | (with_reducible refine LeO.bind ?_ (fun _ => ?_))
      | exact ih0 _ _ _ _ _ _ _ _ _ _ _ _ _ _
      | exact LeO.none _
      | refine LeO.ite ?_ ?_
      | refine LeO.bind ?_ (fun _ => ?_)
theorem impl_PieceOk.mono : ∀ a0 a1 a2 a3 a4 a5 a6 a7 a8 a9 a10 a11 a12 k, LeO (impl_PieceOk.f k a0 a1 a2 a3 a4 a5 a6 a7 a8 a9 a10 a11 a12) (impl_PieceOk.f (k + 1) a0 a1 a2 a3 a4 a5 a6 a7 a8 a9 a10 a11 a12) := by
  intro a0 a1 a2 a3 a4 a5 a6 a7 a8 a9 a10 a11 a12 k
  have ih0 := impl_PieceOk.mono_l k
  unfold impl_PieceOk.f
  repeat' first
      | (with_reducible exact ih0 _ _ _ _ _ _ _ _ _ _ _ _ _ _)
      | (with_reducible exact LeO.refl _)
      | (with_reducible exact LeO.none _)
      | (with_reducible refine LeO.ite ?_ ?_)
      | (with_reducible refine LeO.bind ?_ (fun _ => ?_))
      | exact ih0 _ _ _ _ _ _ _ _ _ _ _ _ _ _
      | exact LeO.none _
      | refine LeO.ite ?_ ?_
      | refine LeO.bind ?_ (fun _ => ?_)
set_option maxHeartbeats 8000000 in
set_option maxRecDepth 100000 in
theorem impl_PieceOk.calls (k : Nat) (a0_0 : Int) (a0_1 : Int) (a0_2 : Int) (a0_3 : Int) (a0_4 : Int) (a0_5 : Int) (a0_6 : Int) (a0_7 : Int) (a0_8 : Int) (a0_9 : Int) (a0_10 : Int) (a0_11 : Bool) (a0_12 : Bool) (r : Bool) (w : World) (h : impl_PieceOk.f k a0_0 a0_1 a0_2 a0_3 a0_4 a0_5 a0_6 a0_7 a0_8 a0_9 a0_10 a0_11 a0_12 = some r) :
    Calls Try.prog 69 #[.agg #[.int .i64 a0_0, .int .i64 a0_1, .int .i64 a0_2, .int .i64 a0_3, .int .i64 a0_4, .int .i64 a0_5, .int .i64 a0_6, .int .i64 a0_7, .int .i64 a0_8, .int .i64 a0_9, .int .i64 a0_10, .bool a0_11, .bool a0_12]] w fun e w' => e = .returned (.bool r) ∧ Below w.heap.size w w' := by
  have hu54 := Try.underlying54
  have HB := Aside0.mk (Below.refl w.heap.size w)
  have H : ((impl_isId.f a0_0).bind fun t162 => (if t162 = true then ((impl_isPlayer.f a0_1).bind fun t163 => (if t163 = true then ((impl_isPlayer.f a0_2).bind fun t164 => (if t164 = true then ((impl_isZone.f a0_3).bind fun t165 => (if t165 = true then ((impl_isTime.f a0_4).bind fun t166 => (if t166 = true then ((impl_from.f a0_5 0 999).bind fun t167 => (if t167 = true then ((impl_from.f a0_6 0 999).bind fun t168 => (if t168 = true then ((impl_isTraits.f a0_7).bind fun t169 => (impl_PieceOk.j0 k (!t169) a0_0 a0_1 a0_2 a0_3 a0_4 a0_5 a0_6 a0_7 a0_8 a0_9 a0_10 a0_11 a0_12)) else (impl_PieceOk.j0 k true a0_0 a0_1 a0_2 a0_3 a0_4 a0_5 a0_6 a0_7 a0_8 a0_9 a0_10 a0_11 a0_12))) else (impl_PieceOk.j0 k true a0_0 a0_1 a0_2 a0_3 a0_4 a0_5 a0_6 a0_7 a0_8 a0_9 a0_10 a0_11 a0_12))) else (impl_PieceOk.j0 k true a0_0 a0_1 a0_2 a0_3 a0_4 a0_5 a0_6 a0_7 a0_8 a0_9 a0_10 a0_11 a0_12))) else (impl_PieceOk.j0 k true a0_0 a0_1 a0_2 a0_3 a0_4 a0_5 a0_6 a0_7 a0_8 a0_9 a0_10 a0_11 a0_12))) else (impl_PieceOk.j0 k true a0_0 a0_1 a0_2 a0_3 a0_4 a0_5 a0_6 a0_7 a0_8 a0_9 a0_10 a0_11 a0_12))) else (impl_PieceOk.j0 k true a0_0 a0_1 a0_2 a0_3 a0_4 a0_5 a0_6 a0_7 a0_8 a0_9 a0_10 a0_11 a0_12))) else (impl_PieceOk.j0 k true a0_0 a0_1 a0_2 a0_3 a0_4 a0_5 a0_6 a0_7 a0_8 a0_9 a0_10 a0_11 a0_12))) = some r := h
  clear h
  have HC2 := Aside0.mk H
  clear H
  go_enter Try.func69, Try.ntmps69
  go_upto_region 1 with (first | ((with_reducible refine gate_dst (N := 1) rfl ?_); refine box_event ?hg (N := 1) ?hd (cs := #[.int .i64 a0_0, .int .i64 a0_1, .int .i64 a0_2, .int .i64 a0_3, .int .i64 a0_4, .int .i64 a0_5, .int .i64 a0_6, .int .i64 a0_7, .int .i64 a0_8, .int .i64 a0_9, .int .i64 a0_10, .bool a0_11, .bool a0_12]) (t := 54) ?hr ?_; (case hd => rfl); (case hg => rfl); (case hr => first | (go_simp; done) | (go_simp; rfl)); intro gb161 hg w3 hbox hb; have n0_ := Aside0.mk (below_step (by repeat (first | (with_reducible first | exact HB.out | apply below_alloc | apply pw_below_drewN | apply below_drew1) | exact HB.out)) hb); have n1_ := Aside0.mk (hbox); have n2_ := Aside0.mk Z6_1; have n3_ := Aside0.mk Z6_1; clear HB; have HB := n0_; have BK161 := n1_; have GW161 := n2_; have GE161 := n3_; clear n0_ n1_ n2_ n3_; clear hb hbox hg))
  (try simp only [Act.put, List.setIfInBounds_toArray, List.set_cons_zero, List.set_cons_succ])
  go_cut [48] (fun v48 wc => ∃ (kq : Nat) (x48_1 : Bool), v48 = .bool x48_1 ∧ Aside0 (impl_PieceOk.j0 kq x48_1 a0_0 a0_1 a0_2 a0_3 a0_4 a0_5 a0_6 a0_7 a0_8 a0_9 a0_10 a0_11 a0_12 = some r) ∧ Aside0 (kq ≤ k) ∧ Aside0 (wc.heap[gb161]? = some (.cells #[.int .i64 a0_0, .int .i64 a0_1, .int .i64 a0_2, .int .i64 a0_3, .int .i64 a0_4, .int .i64 a0_5, .int .i64 a0_6, .int .i64 a0_7, .int .i64 a0_8, .int .i64 a0_9, .int .i64 a0_10, .bool a0_11, .bool a0_12] 54 (0, 0))) ∧ Aside0 (Below w.heap.size w wc))
  case first =>
    have H := HC2.out
    clear HC2
    replace H := Option.bind_eq_some_iff.mp H
    obtain ⟨t162, A40, H⟩ := H
    replace H : (if t162 = true then ((impl_isPlayer.f a0_1).bind fun t163 => (if t163 = true then ((impl_isPlayer.f a0_2).bind fun t164 => (if t164 = true then ((impl_isZone.f a0_3).bind fun t165 => (if t165 = true then ((impl_isTime.f a0_4).bind fun t166 => (if t166 = true then ((impl_from.f a0_5 0 999).bind fun t167 => (if t167 = true then ((impl_from.f a0_6 0 999).bind fun t168 => (if t168 = true then ((impl_isTraits.f a0_7).bind fun t169 => (impl_PieceOk.j0 k (!t169) a0_0 a0_1 a0_2 a0_3 a0_4 a0_5 a0_6 a0_7 a0_8 a0_9 a0_10 a0_11 a0_12)) else (impl_PieceOk.j0 k true a0_0 a0_1 a0_2 a0_3 a0_4 a0_5 a0_6 a0_7 a0_8 a0_9 a0_10 a0_11 a0_12))) else (impl_PieceOk.j0 k true a0_0 a0_1 a0_2 a0_3 a0_4 a0_5 a0_6 a0_7 a0_8 a0_9 a0_10 a0_11 a0_12))) else (impl_PieceOk.j0 k true a0_0 a0_1 a0_2 a0_3 a0_4 a0_5 a0_6 a0_7 a0_8 a0_9 a0_10 a0_11 a0_12))) else (impl_PieceOk.j0 k true a0_0 a0_1 a0_2 a0_3 a0_4 a0_5 a0_6 a0_7 a0_8 a0_9 a0_10 a0_11 a0_12))) else (impl_PieceOk.j0 k true a0_0 a0_1 a0_2 a0_3 a0_4 a0_5 a0_6 a0_7 a0_8 a0_9 a0_10 a0_11 a0_12))) else (impl_PieceOk.j0 k true a0_0 a0_1 a0_2 a0_3 a0_4 a0_5 a0_6 a0_7 a0_8 a0_9 a0_10 a0_11 a0_12))) else (impl_PieceOk.j0 k true a0_0 a0_1 a0_2 a0_3 a0_4 a0_5 a0_6 a0_7 a0_8 a0_9 a0_10 a0_11 a0_12)) = some r := H
    have A4 := Aside0.mk A40
    clear A40
    by_cases c5 : t162 = true
    rotate_left
    · replace c5 := Bool.eq_false_iff.mpr c5
      subst c5
      have H1 : (impl_PieceOk.j0 k true a0_0 a0_1 a0_2 a0_3 a0_4 a0_5 a0_6 a0_7 a0_8 a0_9 a0_10 a0_11 a0_12) = some r := by rw [if_neg (show ¬ (false = true) by decide)] at H; exact H
      clear H
      have H := H1
      clear H1
      have H' := Aside0.mk H
      clear H
      have hcz26_0 : w3.cell? ⟨gb161, 0, none⟩ = some (.int .i64 a0_0) := (blk_cell BK161.out 0).trans rfl
      have hcz26_1 : w3.cell? ⟨gb161, 1, none⟩ = some (.int .i64 a0_1) := (blk_cell BK161.out 1).trans rfl
      have hcz26_2 : w3.cell? ⟨gb161, 2, none⟩ = some (.int .i64 a0_2) := (blk_cell BK161.out 2).trans rfl
      have hcz26_3 : w3.cell? ⟨gb161, 3, none⟩ = some (.int .i64 a0_3) := (blk_cell BK161.out 3).trans rfl
      have hcz26_4 : w3.cell? ⟨gb161, 4, none⟩ = some (.int .i64 a0_4) := (blk_cell BK161.out 4).trans rfl
      have hcz26_5 : w3.cell? ⟨gb161, 5, none⟩ = some (.int .i64 a0_5) := (blk_cell BK161.out 5).trans rfl
      have hcz26_6 : w3.cell? ⟨gb161, 6, none⟩ = some (.int .i64 a0_6) := (blk_cell BK161.out 6).trans rfl
      have hcz26_7 : w3.cell? ⟨gb161, 7, none⟩ = some (.int .i64 a0_7) := (blk_cell BK161.out 7).trans rfl
      have hcz26_8 : w3.cell? ⟨gb161, 8, none⟩ = some (.int .i64 a0_8) := (blk_cell BK161.out 8).trans rfl
      have hcz26_9 : w3.cell? ⟨gb161, 9, none⟩ = some (.int .i64 a0_9) := (blk_cell BK161.out 9).trans rfl
      have hcz26_10 : w3.cell? ⟨gb161, 10, none⟩ = some (.int .i64 a0_10) := (blk_cell BK161.out 10).trans rfl
      have hcz26_11 : w3.cell? ⟨gb161, 11, none⟩ = some (.bool a0_11) := (blk_cell BK161.out 11).trans rfl
      have hcz26_12 : w3.cell? ⟨gb161, 12, none⟩ = some (.bool a0_12) := (blk_cell BK161.out 12).trans rfl
      have hfz26_0 := blk_frozen BK161.out 0
      have hfz26_1 := blk_frozen BK161.out 1
      have hfz26_2 := blk_frozen BK161.out 2
      have hfz26_3 := blk_frozen BK161.out 3
      have hfz26_4 := blk_frozen BK161.out 4
      have hfz26_5 := blk_frozen BK161.out 5
      have hfz26_6 := blk_frozen BK161.out 6
      have hfz26_7 := blk_frozen BK161.out 7
      have hfz26_8 := blk_frozen BK161.out 8
      have hfz26_9 := blk_frozen BK161.out 9
      have hfz26_10 := blk_frozen BK161.out 10
      have hfz26_11 := blk_frozen BK161.out 11
      have hfz26_12 := blk_frozen BK161.out 12
      go_wp2_with (first | ((with_reducible refine gate_callee (f := 115) rfl ?_); refine goesL_ (some 5) rfl rfl Try.func115 (by kernel_rfl) rfl #[.int .i64 a0_0] rfl Z6_3 ?_; (with_reducible refine (impl_isId.calls a0_0 false _ A4.out).mono ?_); rintro e w' ⟨rfl, ⟨nd, rfl⟩⟩; refine ⟨_, rfl, ?_⟩))
      go_meet
      case rel => exact ⟨_, (true), Z6_6, H', ⟨(by first | omega | exact Nat.le_refl _)⟩, ⟨Z6_4⟩, ⟨Z6_2⟩⟩
    subst c5
    have H1 : ((impl_isPlayer.f a0_1).bind fun t163 => (if t163 = true then ((impl_isPlayer.f a0_2).bind fun t164 => (if t164 = true then ((impl_isZone.f a0_3).bind fun t165 => (if t165 = true then ((impl_isTime.f a0_4).bind fun t166 => (if t166 = true then ((impl_from.f a0_5 0 999).bind fun t167 => (if t167 = true then ((impl_from.f a0_6 0 999).bind fun t168 => (if t168 = true then ((impl_isTraits.f a0_7).bind fun t169 => (impl_PieceOk.j0 k (!t169) a0_0 a0_1 a0_2 a0_3 a0_4 a0_5 a0_6 a0_7 a0_8 a0_9 a0_10 a0_11 a0_12)) else (impl_PieceOk.j0 k true a0_0 a0_1 a0_2 a0_3 a0_4 a0_5 a0_6 a0_7 a0_8 a0_9 a0_10 a0_11 a0_12))) else (impl_PieceOk.j0 k true a0_0 a0_1 a0_2 a0_3 a0_4 a0_5 a0_6 a0_7 a0_8 a0_9 a0_10 a0_11 a0_12))) else (impl_PieceOk.j0 k true a0_0 a0_1 a0_2 a0_3 a0_4 a0_5 a0_6 a0_7 a0_8 a0_9 a0_10 a0_11 a0_12))) else (impl_PieceOk.j0 k true a0_0 a0_1 a0_2 a0_3 a0_4 a0_5 a0_6 a0_7 a0_8 a0_9 a0_10 a0_11 a0_12))) else (impl_PieceOk.j0 k true a0_0 a0_1 a0_2 a0_3 a0_4 a0_5 a0_6 a0_7 a0_8 a0_9 a0_10 a0_11 a0_12))) else (impl_PieceOk.j0 k true a0_0 a0_1 a0_2 a0_3 a0_4 a0_5 a0_6 a0_7 a0_8 a0_9 a0_10 a0_11 a0_12))) = some r := by rw [if_pos rfl] at H; exact H
    clear H
    have H := H1
    clear H1
    replace H := Option.bind_eq_some_iff.mp H
    obtain ⟨t163, A60, H⟩ := H
    replace H : (if t163 = true then ((impl_isPlayer.f a0_2).bind fun t164 => (if t164 = true then ((impl_isZone.f a0_3).bind fun t165 => (if t165 = true then ((impl_isTime.f a0_4).bind fun t166 => (if t166 = true then ((impl_from.f a0_5 0 999).bind fun t167 => (if t167 = true then ((impl_from.f a0_6 0 999).bind fun t168 => (if t168 = true then ((impl_isTraits.f a0_7).bind fun t169 => (impl_PieceOk.j0 k (!t169) a0_0 a0_1 a0_2 a0_3 a0_4 a0_5 a0_6 a0_7 a0_8 a0_9 a0_10 a0_11 a0_12)) else (impl_PieceOk.j0 k true a0_0 a0_1 a0_2 a0_3 a0_4 a0_5 a0_6 a0_7 a0_8 a0_9 a0_10 a0_11 a0_12))) else (impl_PieceOk.j0 k true a0_0 a0_1 a0_2 a0_3 a0_4 a0_5 a0_6 a0_7 a0_8 a0_9 a0_10 a0_11 a0_12))) else (impl_PieceOk.j0 k true a0_0 a0_1 a0_2 a0_3 a0_4 a0_5 a0_6 a0_7 a0_8 a0_9 a0_10 a0_11 a0_12))) else (impl_PieceOk.j0 k true a0_0 a0_1 a0_2 a0_3 a0_4 a0_5 a0_6 a0_7 a0_8 a0_9 a0_10 a0_11 a0_12))) else (impl_PieceOk.j0 k true a0_0 a0_1 a0_2 a0_3 a0_4 a0_5 a0_6 a0_7 a0_8 a0_9 a0_10 a0_11 a0_12))) else (impl_PieceOk.j0 k true a0_0 a0_1 a0_2 a0_3 a0_4 a0_5 a0_6 a0_7 a0_8 a0_9 a0_10 a0_11 a0_12)) = some r := H
    have A6 := Aside0.mk A60
    clear A60
    by_cases c7 : t163 = true
    rotate_left
    · replace c7 := Bool.eq_false_iff.mpr c7
      subst c7
      have H1 : (impl_PieceOk.j0 k true a0_0 a0_1 a0_2 a0_3 a0_4 a0_5 a0_6 a0_7 a0_8 a0_9 a0_10 a0_11 a0_12) = some r := by rw [if_neg (show ¬ (false = true) by decide)] at H; exact H
      clear H
      have H := H1
      clear H1
      have H' := Aside0.mk H
      clear H
      have hcz25_0 : w3.cell? ⟨gb161, 0, none⟩ = some (.int .i64 a0_0) := (blk_cell BK161.out 0).trans rfl
      have hcz25_1 : w3.cell? ⟨gb161, 1, none⟩ = some (.int .i64 a0_1) := (blk_cell BK161.out 1).trans rfl
      have hcz25_2 : w3.cell? ⟨gb161, 2, none⟩ = some (.int .i64 a0_2) := (blk_cell BK161.out 2).trans rfl
      have hcz25_3 : w3.cell? ⟨gb161, 3, none⟩ = some (.int .i64 a0_3) := (blk_cell BK161.out 3).trans rfl
      have hcz25_4 : w3.cell? ⟨gb161, 4, none⟩ = some (.int .i64 a0_4) := (blk_cell BK161.out 4).trans rfl
      have hcz25_5 : w3.cell? ⟨gb161, 5, none⟩ = some (.int .i64 a0_5) := (blk_cell BK161.out 5).trans rfl
      have hcz25_6 : w3.cell? ⟨gb161, 6, none⟩ = some (.int .i64 a0_6) := (blk_cell BK161.out 6).trans rfl
      have hcz25_7 : w3.cell? ⟨gb161, 7, none⟩ = some (.int .i64 a0_7) := (blk_cell BK161.out 7).trans rfl
      have hcz25_8 : w3.cell? ⟨gb161, 8, none⟩ = some (.int .i64 a0_8) := (blk_cell BK161.out 8).trans rfl
      have hcz25_9 : w3.cell? ⟨gb161, 9, none⟩ = some (.int .i64 a0_9) := (blk_cell BK161.out 9).trans rfl
      have hcz25_10 : w3.cell? ⟨gb161, 10, none⟩ = some (.int .i64 a0_10) := (blk_cell BK161.out 10).trans rfl
      have hcz25_11 : w3.cell? ⟨gb161, 11, none⟩ = some (.bool a0_11) := (blk_cell BK161.out 11).trans rfl
      have hcz25_12 : w3.cell? ⟨gb161, 12, none⟩ = some (.bool a0_12) := (blk_cell BK161.out 12).trans rfl
      have hfz25_0 := blk_frozen BK161.out 0
      have hfz25_1 := blk_frozen BK161.out 1
      have hfz25_2 := blk_frozen BK161.out 2
      have hfz25_3 := blk_frozen BK161.out 3
      have hfz25_4 := blk_frozen BK161.out 4
      have hfz25_5 := blk_frozen BK161.out 5
      have hfz25_6 := blk_frozen BK161.out 6
      have hfz25_7 := blk_frozen BK161.out 7
      have hfz25_8 := blk_frozen BK161.out 8
      have hfz25_9 := blk_frozen BK161.out 9
      have hfz25_10 := blk_frozen BK161.out 10
      have hfz25_11 := blk_frozen BK161.out 11
      have hfz25_12 := blk_frozen BK161.out 12
      go_wp2_with (first | ((with_reducible refine gate_callee (f := 115) rfl ?_); refine goesL_ (some 5) rfl rfl Try.func115 (by kernel_rfl) rfl #[.int .i64 a0_0] rfl Z6_3 ?_; (with_reducible refine (impl_isId.calls a0_0 true _ A4.out).mono ?_); rintro e w' ⟨rfl, ⟨nd, rfl⟩⟩; refine ⟨_, rfl, ?_⟩) | (go_at_call 116; (with_reducible refine (impl_isPlayer.calls a0_1 false _ A6.out).mono ?_); rintro e w' ⟨rfl, ⟨nd, rfl⟩⟩))
      go_meet
      case rel => exact ⟨_, (true), Z6_6, H', ⟨(by first | omega | exact Nat.le_refl _)⟩, ⟨Z6_4⟩, ⟨Z6_2⟩⟩
    subst c7
    have H1 : ((impl_isPlayer.f a0_2).bind fun t164 => (if t164 = true then ((impl_isZone.f a0_3).bind fun t165 => (if t165 = true then ((impl_isTime.f a0_4).bind fun t166 => (if t166 = true then ((impl_from.f a0_5 0 999).bind fun t167 => (if t167 = true then ((impl_from.f a0_6 0 999).bind fun t168 => (if t168 = true then ((impl_isTraits.f a0_7).bind fun t169 => (impl_PieceOk.j0 k (!t169) a0_0 a0_1 a0_2 a0_3 a0_4 a0_5 a0_6 a0_7 a0_8 a0_9 a0_10 a0_11 a0_12)) else (impl_PieceOk.j0 k true a0_0 a0_1 a0_2 a0_3 a0_4 a0_5 a0_6 a0_7 a0_8 a0_9 a0_10 a0_11 a0_12))) else (impl_PieceOk.j0 k true a0_0 a0_1 a0_2 a0_3 a0_4 a0_5 a0_6 a0_7 a0_8 a0_9 a0_10 a0_11 a0_12))) else (impl_PieceOk.j0 k true a0_0 a0_1 a0_2 a0_3 a0_4 a0_5 a0_6 a0_7 a0_8 a0_9 a0_10 a0_11 a0_12))) else (impl_PieceOk.j0 k true a0_0 a0_1 a0_2 a0_3 a0_4 a0_5 a0_6 a0_7 a0_8 a0_9 a0_10 a0_11 a0_12))) else (impl_PieceOk.j0 k true a0_0 a0_1 a0_2 a0_3 a0_4 a0_5 a0_6 a0_7 a0_8 a0_9 a0_10 a0_11 a0_12))) = some r := by rw [if_pos rfl] at H; exact H
    clear H
    have H := H1
    clear H1
    replace H := Option.bind_eq_some_iff.mp H
    obtain ⟨t164, A80, H⟩ := H
    replace H : (if t164 = true then ((impl_isZone.f a0_3).bind fun t165 => (if t165 = true then ((impl_isTime.f a0_4).bind fun t166 => (if t166 = true then ((impl_from.f a0_5 0 999).bind fun t167 => (if t167 = true then ((impl_from.f a0_6 0 999).bind fun t168 => (if t168 = true then ((impl_isTraits.f a0_7).bind fun t169 => (impl_PieceOk.j0 k (!t169) a0_0 a0_1 a0_2 a0_3 a0_4 a0_5 a0_6 a0_7 a0_8 a0_9 a0_10 a0_11 a0_12)) else (impl_PieceOk.j0 k true a0_0 a0_1 a0_2 a0_3 a0_4 a0_5 a0_6 a0_7 a0_8 a0_9 a0_10 a0_11 a0_12))) else (impl_PieceOk.j0 k true a0_0 a0_1 a0_2 a0_3 a0_4 a0_5 a0_6 a0_7 a0_8 a0_9 a0_10 a0_11 a0_12))) else (impl_PieceOk.j0 k true a0_0 a0_1 a0_2 a0_3 a0_4 a0_5 a0_6 a0_7 a0_8 a0_9 a0_10 a0_11 a0_12))) else (impl_PieceOk.j0 k true a0_0 a0_1 a0_2 a0_3 a0_4 a0_5 a0_6 a0_7 a0_8 a0_9 a0_10 a0_11 a0_12))) else (impl_PieceOk.j0 k true a0_0 a0_1 a0_2 a0_3 a0_4 a0_5 a0_6 a0_7 a0_8 a0_9 a0_10 a0_11 a0_12)) = some r := H
    have A8 := Aside0.mk A80
    clear A80
    by_cases c9 : t164 = true
    rotate_left
    · replace c9 := Bool.eq_false_iff.mpr c9
      subst c9
      have H1 : (impl_PieceOk.j0 k true a0_0 a0_1 a0_2 a0_3 a0_4 a0_5 a0_6 a0_7 a0_8 a0_9 a0_10 a0_11 a0_12) = some r := by rw [if_neg (show ¬ (false = true) by decide)] at H; exact H
      clear H
      have H := H1
      clear H1
      have H' := Aside0.mk H
      clear H
      have hcz24_0 : w3.cell? ⟨gb161, 0, none⟩ = some (.int .i64 a0_0) := (blk_cell BK161.out 0).trans rfl
      have hcz24_1 : w3.cell? ⟨gb161, 1, none⟩ = some (.int .i64 a0_1) := (blk_cell BK161.out 1).trans rfl
      have hcz24_2 : w3.cell? ⟨gb161, 2, none⟩ = some (.int .i64 a0_2) := (blk_cell BK161.out 2).trans rfl
      have hcz24_3 : w3.cell? ⟨gb161, 3, none⟩ = some (.int .i64 a0_3) := (blk_cell BK161.out 3).trans rfl
      have hcz24_4 : w3.cell? ⟨gb161, 4, none⟩ = some (.int .i64 a0_4) := (blk_cell BK161.out 4).trans rfl
      have hcz24_5 : w3.cell? ⟨gb161, 5, none⟩ = some (.int .i64 a0_5) := (blk_cell BK161.out 5).trans rfl
      have hcz24_6 : w3.cell? ⟨gb161, 6, none⟩ = some (.int .i64 a0_6) := (blk_cell BK161.out 6).trans rfl
      have hcz24_7 : w3.cell? ⟨gb161, 7, none⟩ = some (.int .i64 a0_7) := (blk_cell BK161.out 7).trans rfl
      have hcz24_8 : w3.cell? ⟨gb161, 8, none⟩ = some (.int .i64 a0_8) := (blk_cell BK161.out 8).trans rfl
      have hcz24_9 : w3.cell? ⟨gb161, 9, none⟩ = some (.int .i64 a0_9) := (blk_cell BK161.out 9).trans rfl
      have hcz24_10 : w3.cell? ⟨gb161, 10, none⟩ = some (.int .i64 a0_10) := (blk_cell BK161.out 10).trans rfl
      have hcz24_11 : w3.cell? ⟨gb161, 11, none⟩ = some (.bool a0_11) := (blk_cell BK161.out 11).trans rfl
      have hcz24_12 : w3.cell? ⟨gb161, 12, none⟩ = some (.bool a0_12) := (blk_cell BK161.out 12).trans rfl
      have hfz24_0 := blk_frozen BK161.out 0
      have hfz24_1 := blk_frozen BK161.out 1
      have hfz24_2 := blk_frozen BK161.out 2
      have hfz24_3 := blk_frozen BK161.out 3
      have hfz24_4 := blk_frozen BK161.out 4
      have hfz24_5 := blk_frozen BK161.out 5
      have hfz24_6 := blk_frozen BK161.out 6
      have hfz24_7 := blk_frozen BK161.out 7
      have hfz24_8 := blk_frozen BK161.out 8
      have hfz24_9 := blk_frozen BK161.out 9
      have hfz24_10 := blk_frozen BK161.out 10
      have hfz24_11 := blk_frozen BK161.out 11
      have hfz24_12 := blk_frozen BK161.out 12
      go_wp2_with (first | ((with_reducible refine gate_callee (f := 115) rfl ?_); refine goesL_ (some 5) rfl rfl Try.func115 (by kernel_rfl) rfl #[.int .i64 a0_0] rfl Z6_3 ?_; (with_reducible refine (impl_isId.calls a0_0 true _ A4.out).mono ?_); rintro e w' ⟨rfl, ⟨nd, rfl⟩⟩; refine ⟨_, rfl, ?_⟩) | (go_at_call 116; (with_reducible refine (impl_isPlayer.calls a0_1 true _ A6.out).mono ?_); rintro e w' ⟨rfl, ⟨nd, rfl⟩⟩) | (go_at_call 116; (with_reducible refine (impl_isPlayer.calls a0_2 false _ A8.out).mono ?_); rintro e w' ⟨rfl, ⟨nd, rfl⟩⟩))
      go_meet
      case rel => exact ⟨_, (true), Z6_6, H', ⟨(by first | omega | exact Nat.le_refl _)⟩, ⟨Z6_4⟩, ⟨Z6_2⟩⟩
    subst c9
    have H1 : ((impl_isZone.f a0_3).bind fun t165 => (if t165 = true then ((impl_isTime.f a0_4).bind fun t166 => (if t166 = true then ((impl_from.f a0_5 0 999).bind fun t167 => (if t167 = true then ((impl_from.f a0_6 0 999).bind fun t168 => (if t168 = true then ((impl_isTraits.f a0_7).bind fun t169 => (impl_PieceOk.j0 k (!t169) a0_0 a0_1 a0_2 a0_3 a0_4 a0_5 a0_6 a0_7 a0_8 a0_9 a0_10 a0_11 a0_12)) else (impl_PieceOk.j0 k true a0_0 a0_1 a0_2 a0_3 a0_4 a0_5 a0_6 a0_7 a0_8 a0_9 a0_10 a0_11 a0_12))) else (impl_PieceOk.j0 k true a0_0 a0_1 a0_2 a0_3 a0_4 a0_5 a0_6 a0_7 a0_8 a0_9 a0_10 a0_11 a0_12))) else (impl_PieceOk.j0 k true a0_0 a0_1 a0_2 a0_3 a0_4 a0_5 a0_6 a0_7 a0_8 a0_9 a0_10 a0_11 a0_12))) else (impl_PieceOk.j0 k true a0_0 a0_1 a0_2 a0_3 a0_4 a0_5 a0_6 a0_7 a0_8 a0_9 a0_10 a0_11 a0_12))) = some r := by rw [if_pos rfl] at H; exact H
    clear H
    have H := H1
    clear H1
    replace H := Option.bind_eq_some_iff.mp H
    obtain ⟨t165, A100, H⟩ := H
    replace H : (if t165 = true then ((impl_isTime.f a0_4).bind fun t166 => (if t166 = true then ((impl_from.f a0_5 0 999).bind fun t167 => (if t167 = true then ((impl_from.f a0_6 0 999).bind fun t168 => (if t168 = true then ((impl_isTraits.f a0_7).bind fun t169 => (impl_PieceOk.j0 k (!t169) a0_0 a0_1 a0_2 a0_3 a0_4 a0_5 a0_6 a0_7 a0_8 a0_9 a0_10 a0_11 a0_12)) else (impl_PieceOk.j0 k true a0_0 a0_1 a0_2 a0_3 a0_4 a0_5 a0_6 a0_7 a0_8 a0_9 a0_10 a0_11 a0_12))) else (impl_PieceOk.j0 k true a0_0 a0_1 a0_2 a0_3 a0_4 a0_5 a0_6 a0_7 a0_8 a0_9 a0_10 a0_11 a0_12))) else (impl_PieceOk.j0 k true a0_0 a0_1 a0_2 a0_3 a0_4 a0_5 a0_6 a0_7 a0_8 a0_9 a0_10 a0_11 a0_12))) else (impl_PieceOk.j0 k true a0_0 a0_1 a0_2 a0_3 a0_4 a0_5 a0_6 a0_7 a0_8 a0_9 a0_10 a0_11 a0_12)) = some r := H
    have A10 := Aside0.mk A100
    clear A100
    by_cases c11 : t165 = true
    rotate_left
    · replace c11 := Bool.eq_false_iff.mpr c11
      subst c11
      have H1 : (impl_PieceOk.j0 k true a0_0 a0_1 a0_2 a0_3 a0_4 a0_5 a0_6 a0_7 a0_8 a0_9 a0_10 a0_11 a0_12) = some r := by rw [if_neg (show ¬ (false = true) by decide)] at H; exact H
      clear H
      have H := H1
      clear H1
      have H' := Aside0.mk H
      clear H
      have hcz23_0 : w3.cell? ⟨gb161, 0, none⟩ = some (.int .i64 a0_0) := (blk_cell BK161.out 0).trans rfl
      have hcz23_1 : w3.cell? ⟨gb161, 1, none⟩ = some (.int .i64 a0_1) := (blk_cell BK161.out 1).trans rfl
      have hcz23_2 : w3.cell? ⟨gb161, 2, none⟩ = some (.int .i64 a0_2) := (blk_cell BK161.out 2).trans rfl
      have hcz23_3 : w3.cell? ⟨gb161, 3, none⟩ = some (.int .i64 a0_3) := (blk_cell BK161.out 3).trans rfl
      have hcz23_4 : w3.cell? ⟨gb161, 4, none⟩ = some (.int .i64 a0_4) := (blk_cell BK161.out 4).trans rfl
      have hcz23_5 : w3.cell? ⟨gb161, 5, none⟩ = some (.int .i64 a0_5) := (blk_cell BK161.out 5).trans rfl
      have hcz23_6 : w3.cell? ⟨gb161, 6, none⟩ = some (.int .i64 a0_6) := (blk_cell BK161.out 6).trans rfl
      have hcz23_7 : w3.cell? ⟨gb161, 7, none⟩ = some (.int .i64 a0_7) := (blk_cell BK161.out 7).trans rfl
      have hcz23_8 : w3.cell? ⟨gb161, 8, none⟩ = some (.int .i64 a0_8) := (blk_cell BK161.out 8).trans rfl
      have hcz23_9 : w3.cell? ⟨gb161, 9, none⟩ = some (.int .i64 a0_9) := (blk_cell BK161.out 9).trans rfl
      have hcz23_10 : w3.cell? ⟨gb161, 10, none⟩ = some (.int .i64 a0_10) := (blk_cell BK161.out 10).trans rfl
      have hcz23_11 : w3.cell? ⟨gb161, 11, none⟩ = some (.bool a0_11) := (blk_cell BK161.out 11).trans rfl
      have hcz23_12 : w3.cell? ⟨gb161, 12, none⟩ = some (.bool a0_12) := (blk_cell BK161.out 12).trans rfl
      have hfz23_0 := blk_frozen BK161.out 0
      have hfz23_1 := blk_frozen BK161.out 1
      have hfz23_2 := blk_frozen BK161.out 2
      have hfz23_3 := blk_frozen BK161.out 3
      have hfz23_4 := blk_frozen BK161.out 4
      have hfz23_5 := blk_frozen BK161.out 5
      have hfz23_6 := blk_frozen BK161.out 6
      have hfz23_7 := blk_frozen BK161.out 7
      have hfz23_8 := blk_frozen BK161.out 8
      have hfz23_9 := blk_frozen BK161.out 9
      have hfz23_10 := blk_frozen BK161.out 10
      have hfz23_11 := blk_frozen BK161.out 11
      have hfz23_12 := blk_frozen BK161.out 12
      go_wp2_with (first | ((with_reducible refine gate_callee (f := 115) rfl ?_); refine goesL_ (some 5) rfl rfl Try.func115 (by kernel_rfl) rfl #[.int .i64 a0_0] rfl Z6_3 ?_; (with_reducible refine (impl_isId.calls a0_0 true _ A4.out).mono ?_); rintro e w' ⟨rfl, ⟨nd, rfl⟩⟩; refine ⟨_, rfl, ?_⟩) | (go_at_call 116; (with_reducible refine (impl_isPlayer.calls a0_1 true _ A6.out).mono ?_); rintro e w' ⟨rfl, ⟨nd, rfl⟩⟩) | (go_at_call 116; (with_reducible refine (impl_isPlayer.calls a0_2 true _ A8.out).mono ?_); rintro e w' ⟨rfl, ⟨nd, rfl⟩⟩) | (go_at_call 117; (with_reducible refine (impl_isZone.calls a0_3 false _ A10.out).mono ?_); rintro e w' ⟨rfl, ⟨nd, rfl⟩⟩))
      go_meet
      case rel => exact ⟨_, (true), Z6_6, H', ⟨(by first | omega | exact Nat.le_refl _)⟩, ⟨Z6_4⟩, ⟨Z6_2⟩⟩
    subst c11
    have H1 : ((impl_isTime.f a0_4).bind fun t166 => (if t166 = true then ((impl_from.f a0_5 0 999).bind fun t167 => (if t167 = true then ((impl_from.f a0_6 0 999).bind fun t168 => (if t168 = true then ((impl_isTraits.f a0_7).bind fun t169 => (impl_PieceOk.j0 k (!t169) a0_0 a0_1 a0_2 a0_3 a0_4 a0_5 a0_6 a0_7 a0_8 a0_9 a0_10 a0_11 a0_12)) else (impl_PieceOk.j0 k true a0_0 a0_1 a0_2 a0_3 a0_4 a0_5 a0_6 a0_7 a0_8 a0_9 a0_10 a0_11 a0_12))) else (impl_PieceOk.j0 k true a0_0 a0_1 a0_2 a0_3 a0_4 a0_5 a0_6 a0_7 a0_8 a0_9 a0_10 a0_11 a0_12))) else (impl_PieceOk.j0 k true a0_0 a0_1 a0_2 a0_3 a0_4 a0_5 a0_6 a0_7 a0_8 a0_9 a0_10 a0_11 a0_12))) = some r := by rw [if_pos rfl] at H; exact H
    clear H
    have H := H1
    clear H1
    replace H := Option.bind_eq_some_iff.mp H
    obtain ⟨t166, A120, H⟩ := H
    replace H : (if t166 = true then ((impl_from.f a0_5 0 999).bind fun t167 => (if t167 = true then ((impl_from.f a0_6 0 999).bind fun t168 => (if t168 = true then ((impl_isTraits.f a0_7).bind fun t169 => (impl_PieceOk.j0 k (!t169) a0_0 a0_1 a0_2 a0_3 a0_4 a0_5 a0_6 a0_7 a0_8 a0_9 a0_10 a0_11 a0_12)) else (impl_PieceOk.j0 k true a0_0 a0_1 a0_2 a0_3 a0_4 a0_5 a0_6 a0_7 a0_8 a0_9 a0_10 a0_11 a0_12))) else (impl_PieceOk.j0 k true a0_0 a0_1 a0_2 a0_3 a0_4 a0_5 a0_6 a0_7 a0_8 a0_9 a0_10 a0_11 a0_12))) else (impl_PieceOk.j0 k true a0_0 a0_1 a0_2 a0_3 a0_4 a0_5 a0_6 a0_7 a0_8 a0_9 a0_10 a0_11 a0_12)) = some r := H
    have A12 := Aside0.mk A120
    clear A120
    by_cases c13 : t166 = true
    rotate_left
    · replace c13 := Bool.eq_false_iff.mpr c13
      subst c13
      have H1 : (impl_PieceOk.j0 k true a0_0 a0_1 a0_2 a0_3 a0_4 a0_5 a0_6 a0_7 a0_8 a0_9 a0_10 a0_11 a0_12) = some r := by rw [if_neg (show ¬ (false = true) by decide)] at H; exact H
      clear H
      have H := H1
      clear H1
      have H' := Aside0.mk H
      clear H
      have hcz22_0 : w3.cell? ⟨gb161, 0, none⟩ = some (.int .i64 a0_0) := (blk_cell BK161.out 0).trans rfl
      have hcz22_1 : w3.cell? ⟨gb161, 1, none⟩ = some (.int .i64 a0_1) := (blk_cell BK161.out 1).trans rfl
      have hcz22_2 : w3.cell? ⟨gb161, 2, none⟩ = some (.int .i64 a0_2) := (blk_cell BK161.out 2).trans rfl
      have hcz22_3 : w3.cell? ⟨gb161, 3, none⟩ = some (.int .i64 a0_3) := (blk_cell BK161.out 3).trans rfl
      have hcz22_4 : w3.cell? ⟨gb161, 4, none⟩ = some (.int .i64 a0_4) := (blk_cell BK161.out 4).trans rfl
      have hcz22_5 : w3.cell? ⟨gb161, 5, none⟩ = some (.int .i64 a0_5) := (blk_cell BK161.out 5).trans rfl
      have hcz22_6 : w3.cell? ⟨gb161, 6, none⟩ = some (.int .i64 a0_6) := (blk_cell BK161.out 6).trans rfl
      have hcz22_7 : w3.cell? ⟨gb161, 7, none⟩ = some (.int .i64 a0_7) := (blk_cell BK161.out 7).trans rfl
      have hcz22_8 : w3.cell? ⟨gb161, 8, none⟩ = some (.int .i64 a0_8) := (blk_cell BK161.out 8).trans rfl
      have hcz22_9 : w3.cell? ⟨gb161, 9, none⟩ = some (.int .i64 a0_9) := (blk_cell BK161.out 9).trans rfl
      have hcz22_10 : w3.cell? ⟨gb161, 10, none⟩ = some (.int .i64 a0_10) := (blk_cell BK161.out 10).trans rfl
      have hcz22_11 : w3.cell? ⟨gb161, 11, none⟩ = some (.bool a0_11) := (blk_cell BK161.out 11).trans rfl
      have hcz22_12 : w3.cell? ⟨gb161, 12, none⟩ = some (.bool a0_12) := (blk_cell BK161.out 12).trans rfl
      have hfz22_0 := blk_frozen BK161.out 0
      have hfz22_1 := blk_frozen BK161.out 1
      have hfz22_2 := blk_frozen BK161.out 2
      have hfz22_3 := blk_frozen BK161.out 3
      have hfz22_4 := blk_frozen BK161.out 4
      have hfz22_5 := blk_frozen BK161.out 5
      have hfz22_6 := blk_frozen BK161.out 6
      have hfz22_7 := blk_frozen BK161.out 7
      have hfz22_8 := blk_frozen BK161.out 8
      have hfz22_9 := blk_frozen BK161.out 9
      have hfz22_10 := blk_frozen BK161.out 10
      have hfz22_11 := blk_frozen BK161.out 11
      have hfz22_12 := blk_frozen BK161.out 12
      go_wp2_with (first | ((with_reducible refine gate_callee (f := 115) rfl ?_); refine goesL_ (some 5) rfl rfl Try.func115 (by kernel_rfl) rfl #[.int .i64 a0_0] rfl Z6_3 ?_; (with_reducible refine (impl_isId.calls a0_0 true _ A4.out).mono ?_); rintro e w' ⟨rfl, ⟨nd, rfl⟩⟩; refine ⟨_, rfl, ?_⟩) | (go_at_call 116; (with_reducible refine (impl_isPlayer.calls a0_1 true _ A6.out).mono ?_); rintro e w' ⟨rfl, ⟨nd, rfl⟩⟩) | (go_at_call 116; (with_reducible refine (impl_isPlayer.calls a0_2 true _ A8.out).mono ?_); rintro e w' ⟨rfl, ⟨nd, rfl⟩⟩) | (go_at_call 117; (with_reducible refine (impl_isZone.calls a0_3 true _ A10.out).mono ?_); rintro e w' ⟨rfl, ⟨nd, rfl⟩⟩) | (go_at_call 118; (with_reducible refine (impl_isTime.calls a0_4 false _ A12.out).mono ?_); rintro e w' ⟨rfl, ⟨nd, rfl⟩⟩))
      go_meet
      case rel => exact ⟨_, (true), Z6_6, H', ⟨(by first | omega | exact Nat.le_refl _)⟩, ⟨Z6_4⟩, ⟨Z6_2⟩⟩
    subst c13
    have H1 : ((impl_from.f a0_5 0 999).bind fun t167 => (if t167 = true then ((impl_from.f a0_6 0 999).bind fun t168 => (if t168 = true then ((impl_isTraits.f a0_7).bind fun t169 => (impl_PieceOk.j0 k (!t169) a0_0 a0_1 a0_2 a0_3 a0_4 a0_5 a0_6 a0_7 a0_8 a0_9 a0_10 a0_11 a0_12)) else (impl_PieceOk.j0 k true a0_0 a0_1 a0_2 a0_3 a0_4 a0_5 a0_6 a0_7 a0_8 a0_9 a0_10 a0_11 a0_12))) else (impl_PieceOk.j0 k true a0_0 a0_1 a0_2 a0_3 a0_4 a0_5 a0_6 a0_7 a0_8 a0_9 a0_10 a0_11 a0_12))) = some r := by rw [if_pos rfl] at H; exact H
    clear H
    have H := H1
    clear H1
    replace H := Option.bind_eq_some_iff.mp H
    obtain ⟨t167, A140, H⟩ := H
    replace H : (if t167 = true then ((impl_from.f a0_6 0 999).bind fun t168 => (if t168 = true then ((impl_isTraits.f a0_7).bind fun t169 => (impl_PieceOk.j0 k (!t169) a0_0 a0_1 a0_2 a0_3 a0_4 a0_5 a0_6 a0_7 a0_8 a0_9 a0_10 a0_11 a0_12)) else (impl_PieceOk.j0 k true a0_0 a0_1 a0_2 a0_3 a0_4 a0_5 a0_6 a0_7 a0_8 a0_9 a0_10 a0_11 a0_12))) else (impl_PieceOk.j0 k true a0_0 a0_1 a0_2 a0_3 a0_4 a0_5 a0_6 a0_7 a0_8 a0_9 a0_10 a0_11 a0_12)) = some r := H
    have A14 := Aside0.mk A140
    clear A140
    by_cases c15 : t167 = true
    rotate_left
    · replace c15 := Bool.eq_false_iff.mpr c15
      subst c15
      have H1 : (impl_PieceOk.j0 k true a0_0 a0_1 a0_2 a0_3 a0_4 a0_5 a0_6 a0_7 a0_8 a0_9 a0_10 a0_11 a0_12) = some r := by rw [if_neg (show ¬ (false = true) by decide)] at H; exact H
      clear H
      have H := H1
      clear H1
      have H' := Aside0.mk H
      clear H
      have hcz21_0 : w3.cell? ⟨gb161, 0, none⟩ = some (.int .i64 a0_0) := (blk_cell BK161.out 0).trans rfl
      have hcz21_1 : w3.cell? ⟨gb161, 1, none⟩ = some (.int .i64 a0_1) := (blk_cell BK161.out 1).trans rfl
      have hcz21_2 : w3.cell? ⟨gb161, 2, none⟩ = some (.int .i64 a0_2) := (blk_cell BK161.out 2).trans rfl
      have hcz21_3 : w3.cell? ⟨gb161, 3, none⟩ = some (.int .i64 a0_3) := (blk_cell BK161.out 3).trans rfl
      have hcz21_4 : w3.cell? ⟨gb161, 4, none⟩ = some (.int .i64 a0_4) := (blk_cell BK161.out 4).trans rfl
      have hcz21_5 : w3.cell? ⟨gb161, 5, none⟩ = some (.int .i64 a0_5) := (blk_cell BK161.out 5).trans rfl
      have hcz21_6 : w3.cell? ⟨gb161, 6, none⟩ = some (.int .i64 a0_6) := (blk_cell BK161.out 6).trans rfl
      have hcz21_7 : w3.cell? ⟨gb161, 7, none⟩ = some (.int .i64 a0_7) := (blk_cell BK161.out 7).trans rfl
      have hcz21_8 : w3.cell? ⟨gb161, 8, none⟩ = some (.int .i64 a0_8) := (blk_cell BK161.out 8).trans rfl
      have hcz21_9 : w3.cell? ⟨gb161, 9, none⟩ = some (.int .i64 a0_9) := (blk_cell BK161.out 9).trans rfl
      have hcz21_10 : w3.cell? ⟨gb161, 10, none⟩ = some (.int .i64 a0_10) := (blk_cell BK161.out 10).trans rfl
      have hcz21_11 : w3.cell? ⟨gb161, 11, none⟩ = some (.bool a0_11) := (blk_cell BK161.out 11).trans rfl
      have hcz21_12 : w3.cell? ⟨gb161, 12, none⟩ = some (.bool a0_12) := (blk_cell BK161.out 12).trans rfl
      have hfz21_0 := blk_frozen BK161.out 0
      have hfz21_1 := blk_frozen BK161.out 1
      have hfz21_2 := blk_frozen BK161.out 2
      have hfz21_3 := blk_frozen BK161.out 3
      have hfz21_4 := blk_frozen BK161.out 4
      have hfz21_5 := blk_frozen BK161.out 5
      have hfz21_6 := blk_frozen BK161.out 6
      have hfz21_7 := blk_frozen BK161.out 7
      have hfz21_8 := blk_frozen BK161.out 8
      have hfz21_9 := blk_frozen BK161.out 9
      have hfz21_10 := blk_frozen BK161.out 10
      have hfz21_11 := blk_frozen BK161.out 11
      have hfz21_12 := blk_frozen BK161.out 12
      go_wp2_with (first | ((with_reducible refine gate_callee (f := 115) rfl ?_); refine goesL_ (some 5) rfl rfl Try.func115 (by kernel_rfl) rfl #[.int .i64 a0_0] rfl Z6_3 ?_; (with_reducible refine (impl_isId.calls a0_0 true _ A4.out).mono ?_); rintro e w' ⟨rfl, ⟨nd, rfl⟩⟩; refine ⟨_, rfl, ?_⟩) | (go_at_call 116; (with_reducible refine (impl_isPlayer.calls a0_1 true _ A6.out).mono ?_); rintro e w' ⟨rfl, ⟨nd, rfl⟩⟩) | (go_at_call 116; (with_reducible refine (impl_isPlayer.calls a0_2 true _ A8.out).mono ?_); rintro e w' ⟨rfl, ⟨nd, rfl⟩⟩) | (go_at_call 117; (with_reducible refine (impl_isZone.calls a0_3 true _ A10.out).mono ?_); rintro e w' ⟨rfl, ⟨nd, rfl⟩⟩) | (go_at_call 118; (with_reducible refine (impl_isTime.calls a0_4 true _ A12.out).mono ?_); rintro e w' ⟨rfl, ⟨nd, rfl⟩⟩) | (go_at_call 112; (with_reducible refine (impl_from.calls a0_5 0 999 false _ A14.out).mono ?_); rintro e w' ⟨rfl, ⟨nd, rfl⟩⟩))
      go_meet
      case rel => exact ⟨_, (true), Z6_6, H', ⟨(by first | omega | exact Nat.le_refl _)⟩, ⟨Z6_4⟩, ⟨Z6_2⟩⟩
    subst c15
    have H1 : ((impl_from.f a0_6 0 999).bind fun t168 => (if t168 = true then ((impl_isTraits.f a0_7).bind fun t169 => (impl_PieceOk.j0 k (!t169) a0_0 a0_1 a0_2 a0_3 a0_4 a0_5 a0_6 a0_7 a0_8 a0_9 a0_10 a0_11 a0_12)) else (impl_PieceOk.j0 k true a0_0 a0_1 a0_2 a0_3 a0_4 a0_5 a0_6 a0_7 a0_8 a0_9 a0_10 a0_11 a0_12))) = some r := by rw [if_pos rfl] at H; exact H
    clear H
    have H := H1
    clear H1
    replace H := Option.bind_eq_some_iff.mp H
    obtain ⟨t168, A160, H⟩ := H
    replace H : (if t168 = true then ((impl_isTraits.f a0_7).bind fun t169 => (impl_PieceOk.j0 k (!t169) a0_0 a0_1 a0_2 a0_3 a0_4 a0_5 a0_6 a0_7 a0_8 a0_9 a0_10 a0_11 a0_12)) else (impl_PieceOk.j0 k true a0_0 a0_1 a0_2 a0_3 a0_4 a0_5 a0_6 a0_7 a0_8 a0_9 a0_10 a0_11 a0_12)) = some r := H
    have A16 := Aside0.mk A160
    clear A160
    by_cases c17 : t168 = true
    rotate_left
    · replace c17 := Bool.eq_false_iff.mpr c17
      subst c17
      have H1 : (impl_PieceOk.j0 k true a0_0 a0_1 a0_2 a0_3 a0_4 a0_5 a0_6 a0_7 a0_8 a0_9 a0_10 a0_11 a0_12) = some r := by rw [if_neg (show ¬ (false = true) by decide)] at H; exact H
      clear H
      have H := H1
      clear H1
      have H' := Aside0.mk H
      clear H
      have hcz20_0 : w3.cell? ⟨gb161, 0, none⟩ = some (.int .i64 a0_0) := (blk_cell BK161.out 0).trans rfl
      have hcz20_1 : w3.cell? ⟨gb161, 1, none⟩ = some (.int .i64 a0_1) := (blk_cell BK161.out 1).trans rfl
      have hcz20_2 : w3.cell? ⟨gb161, 2, none⟩ = some (.int .i64 a0_2) := (blk_cell BK161.out 2).trans rfl
      have hcz20_3 : w3.cell? ⟨gb161, 3, none⟩ = some (.int .i64 a0_3) := (blk_cell BK161.out 3).trans rfl
      have hcz20_4 : w3.cell? ⟨gb161, 4, none⟩ = some (.int .i64 a0_4) := (blk_cell BK161.out 4).trans rfl
      have hcz20_5 : w3.cell? ⟨gb161, 5, none⟩ = some (.int .i64 a0_5) := (blk_cell BK161.out 5).trans rfl
      have hcz20_6 : w3.cell? ⟨gb161, 6, none⟩ = some (.int .i64 a0_6) := (blk_cell BK161.out 6).trans rfl
      have hcz20_7 : w3.cell? ⟨gb161, 7, none⟩ = some (.int .i64 a0_7) := (blk_cell BK161.out 7).trans rfl
      have hcz20_8 : w3.cell? ⟨gb161, 8, none⟩ = some (.int .i64 a0_8) := (blk_cell BK161.out 8).trans rfl
      have hcz20_9 : w3.cell? ⟨gb161, 9, none⟩ = some (.int .i64 a0_9) := (blk_cell BK161.out 9).trans rfl
      have hcz20_10 : w3.cell? ⟨gb161, 10, none⟩ = some (.int .i64 a0_10) := (blk_cell BK161.out 10).trans rfl
      have hcz20_11 : w3.cell? ⟨gb161, 11, none⟩ = some (.bool a0_11) := (blk_cell BK161.out 11).trans rfl
      have hcz20_12 : w3.cell? ⟨gb161, 12, none⟩ = some (.bool a0_12) := (blk_cell BK161.out 12).trans rfl
      have hfz20_0 := blk_frozen BK161.out 0
      have hfz20_1 := blk_frozen BK161.out 1
      have hfz20_2 := blk_frozen BK161.out 2
      have hfz20_3 := blk_frozen BK161.out 3
      have hfz20_4 := blk_frozen BK161.out 4
      have hfz20_5 := blk_frozen BK161.out 5
      have hfz20_6 := blk_frozen BK161.out 6
      have hfz20_7 := blk_frozen BK161.out 7
      have hfz20_8 := blk_frozen BK161.out 8
      have hfz20_9 := blk_frozen BK161.out 9
      have hfz20_10 := blk_frozen BK161.out 10
      have hfz20_11 := blk_frozen BK161.out 11
      have hfz20_12 := blk_frozen BK161.out 12
      go_wp2_with (first | ((with_reducible refine gate_callee (f := 115) rfl ?_); refine goesL_ (some 5) rfl rfl Try.func115 (by kernel_rfl) rfl #[.int .i64 a0_0] rfl Z6_3 ?_; (with_reducible refine (impl_isId.calls a0_0 true _ A4.out).mono ?_); rintro e w' ⟨rfl, ⟨nd, rfl⟩⟩; refine ⟨_, rfl, ?_⟩) | (go_at_call 116; (with_reducible refine (impl_isPlayer.calls a0_1 true _ A6.out).mono ?_); rintro e w' ⟨rfl, ⟨nd, rfl⟩⟩) | (go_at_call 116; (with_reducible refine (impl_isPlayer.calls a0_2 true _ A8.out).mono ?_); rintro e w' ⟨rfl, ⟨nd, rfl⟩⟩) | (go_at_call 117; (with_reducible refine (impl_isZone.calls a0_3 true _ A10.out).mono ?_); rintro e w' ⟨rfl, ⟨nd, rfl⟩⟩) | (go_at_call 118; (with_reducible refine (impl_isTime.calls a0_4 true _ A12.out).mono ?_); rintro e w' ⟨rfl, ⟨nd, rfl⟩⟩) | (go_at_call 112; (with_reducible refine (impl_from.calls a0_5 0 999 true _ A14.out).mono ?_); rintro e w' ⟨rfl, ⟨nd, rfl⟩⟩) | (go_at_call 112; (with_reducible refine (impl_from.calls a0_6 0 999 false _ A16.out).mono ?_); rintro e w' ⟨rfl, ⟨nd, rfl⟩⟩))
      go_meet
      case rel => exact ⟨_, (true), Z6_6, H', ⟨(by first | omega | exact Nat.le_refl _)⟩, ⟨Z6_4⟩, ⟨Z6_2⟩⟩
    subst c17
    have H1 : ((impl_isTraits.f a0_7).bind fun t169 => (impl_PieceOk.j0 k (!t169) a0_0 a0_1 a0_2 a0_3 a0_4 a0_5 a0_6 a0_7 a0_8 a0_9 a0_10 a0_11 a0_12)) = some r := by rw [if_pos rfl] at H; exact H
    clear H
    have H := H1
    clear H1
    replace H := Option.bind_eq_some_iff.mp H
    obtain ⟨t169, A180, H⟩ := H
    replace H : (impl_PieceOk.j0 k (!t169) a0_0 a0_1 a0_2 a0_3 a0_4 a0_5 a0_6 a0_7 a0_8 a0_9 a0_10 a0_11 a0_12) = some r := H
    have A18 := Aside0.mk A180
    clear A180
    have H' := Aside0.mk H
    clear H
    have hcz19_0 : w3.cell? ⟨gb161, 0, none⟩ = some (.int .i64 a0_0) := (blk_cell BK161.out 0).trans rfl
    have hcz19_1 : w3.cell? ⟨gb161, 1, none⟩ = some (.int .i64 a0_1) := (blk_cell BK161.out 1).trans rfl
    have hcz19_2 : w3.cell? ⟨gb161, 2, none⟩ = some (.int .i64 a0_2) := (blk_cell BK161.out 2).trans rfl
    have hcz19_3 : w3.cell? ⟨gb161, 3, none⟩ = some (.int .i64 a0_3) := (blk_cell BK161.out 3).trans rfl
    have hcz19_4 : w3.cell? ⟨gb161, 4, none⟩ = some (.int .i64 a0_4) := (blk_cell BK161.out 4).trans rfl
    have hcz19_5 : w3.cell? ⟨gb161, 5, none⟩ = some (.int .i64 a0_5) := (blk_cell BK161.out 5).trans rfl
    have hcz19_6 : w3.cell? ⟨gb161, 6, none⟩ = some (.int .i64 a0_6) := (blk_cell BK161.out 6).trans rfl
    have hcz19_7 : w3.cell? ⟨gb161, 7, none⟩ = some (.int .i64 a0_7) := (blk_cell BK161.out 7).trans rfl
    have hcz19_8 : w3.cell? ⟨gb161, 8, none⟩ = some (.int .i64 a0_8) := (blk_cell BK161.out 8).trans rfl
    have hcz19_9 : w3.cell? ⟨gb161, 9, none⟩ = some (.int .i64 a0_9) := (blk_cell BK161.out 9).trans rfl
    have hcz19_10 : w3.cell? ⟨gb161, 10, none⟩ = some (.int .i64 a0_10) := (blk_cell BK161.out 10).trans rfl
    have hcz19_11 : w3.cell? ⟨gb161, 11, none⟩ = some (.bool a0_11) := (blk_cell BK161.out 11).trans rfl
    have hcz19_12 : w3.cell? ⟨gb161, 12, none⟩ = some (.bool a0_12) := (blk_cell BK161.out 12).trans rfl
    have hfz19_0 := blk_frozen BK161.out 0
    have hfz19_1 := blk_frozen BK161.out 1
    have hfz19_2 := blk_frozen BK161.out 2
    have hfz19_3 := blk_frozen BK161.out 3
    have hfz19_4 := blk_frozen BK161.out 4
    have hfz19_5 := blk_frozen BK161.out 5
    have hfz19_6 := blk_frozen BK161.out 6
    have hfz19_7 := blk_frozen BK161.out 7
    have hfz19_8 := blk_frozen BK161.out 8
    have hfz19_9 := blk_frozen BK161.out 9
    have hfz19_10 := blk_frozen BK161.out 10
    have hfz19_11 := blk_frozen BK161.out 11
    have hfz19_12 := blk_frozen BK161.out 12
    go_wp2_with (first | ((with_reducible refine gate_callee (f := 115) rfl ?_); refine goesL_ (some 5) rfl rfl Try.func115 (by kernel_rfl) rfl #[.int .i64 a0_0] rfl Z6_3 ?_; (with_reducible refine (impl_isId.calls a0_0 true _ A4.out).mono ?_); rintro e w' ⟨rfl, ⟨nd, rfl⟩⟩; refine ⟨_, rfl, ?_⟩) | (go_at_call 116; (with_reducible refine (impl_isPlayer.calls a0_1 true _ A6.out).mono ?_); rintro e w' ⟨rfl, ⟨nd, rfl⟩⟩) | (go_at_call 116; (with_reducible refine (impl_isPlayer.calls a0_2 true _ A8.out).mono ?_); rintro e w' ⟨rfl, ⟨nd, rfl⟩⟩) | (go_at_call 117; (with_reducible refine (impl_isZone.calls a0_3 true _ A10.out).mono ?_); rintro e w' ⟨rfl, ⟨nd, rfl⟩⟩) | (go_at_call 118; (with_reducible refine (impl_isTime.calls a0_4 true _ A12.out).mono ?_); rintro e w' ⟨rfl, ⟨nd, rfl⟩⟩) | (go_at_call 112; (with_reducible refine (impl_from.calls a0_5 0 999 true _ A14.out).mono ?_); rintro e w' ⟨rfl, ⟨nd, rfl⟩⟩) | (go_at_call 112; (with_reducible refine (impl_from.calls a0_6 0 999 true _ A16.out).mono ?_); rintro e w' ⟨rfl, ⟨nd, rfl⟩⟩) | (go_at_call 119; (with_reducible refine (impl_isTraits.calls a0_7 t169 _ A18.out).mono ?_); rintro e w' ⟨rfl, ⟨nd, rfl⟩⟩))
    go_meet
    case rel => exact ⟨_, (!t169), Z6_6, H', ⟨(by first | omega | exact Nat.le_refl _)⟩, ⟨Z6_4⟩, ⟨Z6_2⟩⟩
  case rest =>
    clear HC2
    try clear c1
    try clear p2
    try clear c5
    try clear c6
    try clear c7
    try clear c9
    try clear c11
    try clear c13
    try clear c15
    try clear c17
    try clear hcz19_0
    try clear hcz19_1
    try clear hcz19_10
    try clear hcz19_11
    try clear hcz19_12
    try clear hcz19_2
    try clear hcz19_3
    try clear hcz19_4
    try clear hcz19_5
    try clear hcz19_6
    try clear hcz19_7
    try clear hcz19_8
    try clear hcz19_9
    try clear hcz20_0
    try clear hcz20_1
    try clear hcz20_10
    try clear hcz20_11
    try clear hcz20_12
    try clear hcz20_2
    try clear hcz20_3
    try clear hcz20_4
    try clear hcz20_5
    try clear hcz20_6
    try clear hcz20_7
    try clear hcz20_8
    try clear hcz20_9
    try clear hcz21_0
    try clear hcz21_1
    try clear hcz21_10
    try clear hcz21_11
    try clear hcz21_12
    try clear hcz21_2
    try clear hcz21_3
    try clear hcz21_4
    try clear hcz21_5
    try clear hcz21_6
    try clear hcz21_7
    try clear hcz21_8
    try clear hcz21_9
    try clear hcz22_0
    try clear hcz22_1
    try clear hcz22_10
    try clear hcz22_11
    try clear hcz22_12
    try clear hcz22_2
    try clear hcz22_3
    try clear hcz22_4
    try clear hcz22_5
    try clear hcz22_6
    try clear hcz22_7
    try clear hcz22_8
    try clear hcz22_9
    try clear hcz23_0
    try clear hcz23_1
    try clear hcz23_10
    try clear hcz23_11
    try clear hcz23_12
    try clear hcz23_2
    try clear hcz23_3
    try clear hcz23_4
    try clear hcz23_5
    try clear hcz23_6
    try clear hcz23_7
    try clear hcz23_8
    try clear hcz23_9
    try clear hcz24_0
    try clear hcz24_1
    try clear hcz24_10
    try clear hcz24_11
    try clear hcz24_12
    try clear hcz24_2
    try clear hcz24_3
    try clear hcz24_4
    try clear hcz24_5
    try clear hcz24_6
    try clear hcz24_7
    try clear hcz24_8
    try clear hcz24_9
    try clear hcz25_0
    try clear hcz25_1
    try clear hcz25_10
    try clear hcz25_11
    try clear hcz25_12
    try clear hcz25_2
    try clear hcz25_3
    try clear hcz25_4
    try clear hcz25_5
    try clear hcz25_6
    try clear hcz25_7
    try clear hcz25_8
    try clear hcz25_9
    try clear hcz26_0
    try clear hcz26_1
    try clear hcz26_10
    try clear hcz26_11
    try clear hcz26_12
    try clear hcz26_2
    try clear hcz26_3
    try clear hcz26_4
    try clear hcz26_5
    try clear hcz26_6
    try clear hcz26_7
    try clear hcz26_8
    try clear hcz26_9
    try clear hfz19_0
    try clear hfz19_1
    try clear hfz19_10
    try clear hfz19_11
    try clear hfz19_12
    try clear hfz19_2
    try clear hfz19_3
    try clear hfz19_4
    try clear hfz19_5
    try clear hfz19_6
    try clear hfz19_7
    try clear hfz19_8
    try clear hfz19_9
    try clear hfz20_0
    try clear hfz20_1
    try clear hfz20_10
    try clear hfz20_11
    try clear hfz20_12
    try clear hfz20_2
    try clear hfz20_3
    try clear hfz20_4
    try clear hfz20_5
    try clear hfz20_6
    try clear hfz20_7
    try clear hfz20_8
    try clear hfz20_9
    try clear hfz21_0
    try clear hfz21_1
    try clear hfz21_10
    try clear hfz21_11
    try clear hfz21_12
    try clear hfz21_2
    try clear hfz21_3
    try clear hfz21_4
    try clear hfz21_5
    try clear hfz21_6
    try clear hfz21_7
    try clear hfz21_8
    try clear hfz21_9
    try clear hfz22_0
    try clear hfz22_1
    try clear hfz22_10
    try clear hfz22_11
    try clear hfz22_12
    try clear hfz22_2
    try clear hfz22_3
    try clear hfz22_4
    try clear hfz22_5
    try clear hfz22_6
    try clear hfz22_7
    try clear hfz22_8
    try clear hfz22_9
    try clear hfz23_0
    try clear hfz23_1
    try clear hfz23_10
    try clear hfz23_11
    try clear hfz23_12
    try clear hfz23_2
    try clear hfz23_3
    try clear hfz23_4
    try clear hfz23_5
    try clear hfz23_6
    try clear hfz23_7
    try clear hfz23_8
    try clear hfz23_9
    try clear hfz24_0
    try clear hfz24_1
    try clear hfz24_10
    try clear hfz24_11
    try clear hfz24_12
    try clear hfz24_2
    try clear hfz24_3
    try clear hfz24_4
    try clear hfz24_5
    try clear hfz24_6
    try clear hfz24_7
    try clear hfz24_8
    try clear hfz24_9
    try clear hfz25_0
    try clear hfz25_1
    try clear hfz25_10
    try clear hfz25_11
    try clear hfz25_12
    try clear hfz25_2
    try clear hfz25_3
    try clear hfz25_4
    try clear hfz25_5
    try clear hfz25_6
    try clear hfz25_7
    try clear hfz25_8
    try clear hfz25_9
    try clear hfz26_0
    try clear hfz26_1
    try clear hfz26_10
    try clear hfz26_11
    try clear hfz26_12
    try clear hfz26_2
    try clear hfz26_3
    try clear hfz26_4
    try clear hfz26_5
    try clear hfz26_6
    try clear hfz26_7
    try clear hfz26_8
    try clear hfz26_9
    obtain ⟨kq, x48_1, rfl, HA, HJ1, BK161, HB⟩ := hcut
    cases kq with
    | zero => exact absurd HA.out (by simp [impl_PieceOk.j0])
    | succ kj1 =>
      have H := HA.out
      clear HA
      simp only [impl_PieceOk.j0] at H
      by_cases c27 : x48_1 = true
      · subst c27
        have H1 : (some false) = some r := by rw [if_pos rfl] at H; exact H
        clear H
        have H := H1
        clear H1
        obtain rfl := Option.some.inj H
        go_wp2
        go_ret
        exact ⟨Z6_5, Z6_2⟩
      replace c27 := Bool.eq_false_iff.mpr c27
      subst c27
      have H1 : (if a0_3 = 2 then ((impl_isAmount.f a0_8).bind fun t170 => (if t170 = true then ((impl_isAmount.f a0_9).bind fun t171 => (if t171 = true then ((impl_isAmount.f a0_10).bind fun t172 => (some t172)) else (some false))) else (some false))) else (if a0_2 = a0_1 then (if a0_8 = 0 then (if a0_9 = 0 then (if a0_10 = 0 then (if a0_11 = true then (some false) else (some (!a0_12))) else (some false)) else (some false)) else (some false)) else (some false))) = some r := by rw [if_neg (show ¬ (false = true) by decide)] at H; exact H
      clear H
      have H := H1
      clear H1
      by_cases c28 : a0_3 = 2
      · rw [if_pos c28] at H
        have c28b0 : (a0_3 == 2) = true := beq_iff_eq.mpr c28
        have c28b1 : (a0_3 != 2) = false := bne_eq_false_iff_eq.mpr c28
        clear c28
        replace H := Option.bind_eq_some_iff.mp H
        obtain ⟨t170, A290, H⟩ := H
        replace H : (if t170 = true then ((impl_isAmount.f a0_9).bind fun t171 => (if t171 = true then ((impl_isAmount.f a0_10).bind fun t172 => (some t172)) else (some false))) else (some false)) = some r := H
        have A29 := Aside0.mk A290
        clear A290
        by_cases c30 : t170 = true
        rotate_left
        · replace c30 := Bool.eq_false_iff.mpr c30
          subst c30
          have H1 : (some false) = some r := by rw [if_neg (show ¬ (false = true) by decide)] at H; exact H
          clear H
          have H := H1
          clear H1
          obtain rfl := Option.some.inj H
          have hcz36_0 : wc.cell? ⟨gb161, 0, none⟩ = some (.int .i64 a0_0) := (blk_cell BK161.out 0).trans rfl
          have hcz36_1 : wc.cell? ⟨gb161, 1, none⟩ = some (.int .i64 a0_1) := (blk_cell BK161.out 1).trans rfl
          have hcz36_2 : wc.cell? ⟨gb161, 2, none⟩ = some (.int .i64 a0_2) := (blk_cell BK161.out 2).trans rfl
          have hcz36_3 : wc.cell? ⟨gb161, 3, none⟩ = some (.int .i64 a0_3) := (blk_cell BK161.out 3).trans rfl
          have hcz36_4 : wc.cell? ⟨gb161, 4, none⟩ = some (.int .i64 a0_4) := (blk_cell BK161.out 4).trans rfl
          have hcz36_5 : wc.cell? ⟨gb161, 5, none⟩ = some (.int .i64 a0_5) := (blk_cell BK161.out 5).trans rfl
          have hcz36_6 : wc.cell? ⟨gb161, 6, none⟩ = some (.int .i64 a0_6) := (blk_cell BK161.out 6).trans rfl
          have hcz36_7 : wc.cell? ⟨gb161, 7, none⟩ = some (.int .i64 a0_7) := (blk_cell BK161.out 7).trans rfl
          have hcz36_8 : wc.cell? ⟨gb161, 8, none⟩ = some (.int .i64 a0_8) := (blk_cell BK161.out 8).trans rfl
          have hcz36_9 : wc.cell? ⟨gb161, 9, none⟩ = some (.int .i64 a0_9) := (blk_cell BK161.out 9).trans rfl
          have hcz36_10 : wc.cell? ⟨gb161, 10, none⟩ = some (.int .i64 a0_10) := (blk_cell BK161.out 10).trans rfl
          have hcz36_11 : wc.cell? ⟨gb161, 11, none⟩ = some (.bool a0_11) := (blk_cell BK161.out 11).trans rfl
          have hcz36_12 : wc.cell? ⟨gb161, 12, none⟩ = some (.bool a0_12) := (blk_cell BK161.out 12).trans rfl
          have hfz36_0 := blk_frozen BK161.out 0
          have hfz36_1 := blk_frozen BK161.out 1
          have hfz36_2 := blk_frozen BK161.out 2
          have hfz36_3 := blk_frozen BK161.out 3
          have hfz36_4 := blk_frozen BK161.out 4
          have hfz36_5 := blk_frozen BK161.out 5
          have hfz36_6 := blk_frozen BK161.out 6
          have hfz36_7 := blk_frozen BK161.out 7
          have hfz36_8 := blk_frozen BK161.out 8
          have hfz36_9 := blk_frozen BK161.out 9
          have hfz36_10 := blk_frozen BK161.out 10
          have hfz36_11 := blk_frozen BK161.out 11
          have hfz36_12 := blk_frozen BK161.out 12
          go_wp2_with (first | ((with_reducible refine gate_callee (f := 120) rfl ?_); refine goesL_ (some 84) rfl rfl Try.func120 (by kernel_rfl) rfl #[.int .i64 a0_8] rfl Z6_3 ?_; (with_reducible refine (impl_isAmount.calls a0_8 false _ A29.out).mono ?_); rintro e w' ⟨rfl, ⟨nd, rfl⟩⟩; refine ⟨_, rfl, ?_⟩))
          go_ret
          exact ⟨Z6_5, Z6_2⟩
        subst c30
        have H1 : ((impl_isAmount.f a0_9).bind fun t171 => (if t171 = true then ((impl_isAmount.f a0_10).bind fun t172 => (some t172)) else (some false))) = some r := by rw [if_pos rfl] at H; exact H
        clear H
        have H := H1
        clear H1
        replace H := Option.bind_eq_some_iff.mp H
        obtain ⟨t171, A310, H⟩ := H
        replace H : (if t171 = true then ((impl_isAmount.f a0_10).bind fun t172 => (some t172)) else (some false)) = some r := H
        have A31 := Aside0.mk A310
        clear A310
        by_cases c32 : t171 = true
        rotate_left
        · replace c32 := Bool.eq_false_iff.mpr c32
          subst c32
          have H1 : (some false) = some r := by rw [if_neg (show ¬ (false = true) by decide)] at H; exact H
          clear H
          have H := H1
          clear H1
          obtain rfl := Option.some.inj H
          have hcz35_0 : wc.cell? ⟨gb161, 0, none⟩ = some (.int .i64 a0_0) := (blk_cell BK161.out 0).trans rfl
          have hcz35_1 : wc.cell? ⟨gb161, 1, none⟩ = some (.int .i64 a0_1) := (blk_cell BK161.out 1).trans rfl
          have hcz35_2 : wc.cell? ⟨gb161, 2, none⟩ = some (.int .i64 a0_2) := (blk_cell BK161.out 2).trans rfl
          have hcz35_3 : wc.cell? ⟨gb161, 3, none⟩ = some (.int .i64 a0_3) := (blk_cell BK161.out 3).trans rfl
          have hcz35_4 : wc.cell? ⟨gb161, 4, none⟩ = some (.int .i64 a0_4) := (blk_cell BK161.out 4).trans rfl
          have hcz35_5 : wc.cell? ⟨gb161, 5, none⟩ = some (.int .i64 a0_5) := (blk_cell BK161.out 5).trans rfl
          have hcz35_6 : wc.cell? ⟨gb161, 6, none⟩ = some (.int .i64 a0_6) := (blk_cell BK161.out 6).trans rfl
          have hcz35_7 : wc.cell? ⟨gb161, 7, none⟩ = some (.int .i64 a0_7) := (blk_cell BK161.out 7).trans rfl
          have hcz35_8 : wc.cell? ⟨gb161, 8, none⟩ = some (.int .i64 a0_8) := (blk_cell BK161.out 8).trans rfl
          have hcz35_9 : wc.cell? ⟨gb161, 9, none⟩ = some (.int .i64 a0_9) := (blk_cell BK161.out 9).trans rfl
          have hcz35_10 : wc.cell? ⟨gb161, 10, none⟩ = some (.int .i64 a0_10) := (blk_cell BK161.out 10).trans rfl
          have hcz35_11 : wc.cell? ⟨gb161, 11, none⟩ = some (.bool a0_11) := (blk_cell BK161.out 11).trans rfl
          have hcz35_12 : wc.cell? ⟨gb161, 12, none⟩ = some (.bool a0_12) := (blk_cell BK161.out 12).trans rfl
          have hfz35_0 := blk_frozen BK161.out 0
          have hfz35_1 := blk_frozen BK161.out 1
          have hfz35_2 := blk_frozen BK161.out 2
          have hfz35_3 := blk_frozen BK161.out 3
          have hfz35_4 := blk_frozen BK161.out 4
          have hfz35_5 := blk_frozen BK161.out 5
          have hfz35_6 := blk_frozen BK161.out 6
          have hfz35_7 := blk_frozen BK161.out 7
          have hfz35_8 := blk_frozen BK161.out 8
          have hfz35_9 := blk_frozen BK161.out 9
          have hfz35_10 := blk_frozen BK161.out 10
          have hfz35_11 := blk_frozen BK161.out 11
          have hfz35_12 := blk_frozen BK161.out 12
          go_wp2_with (first | ((with_reducible refine gate_callee (f := 120) rfl ?_); refine goesL_ (some 84) rfl rfl Try.func120 (by kernel_rfl) rfl #[.int .i64 a0_8] rfl Z6_3 ?_; (with_reducible refine (impl_isAmount.calls a0_8 true _ A29.out).mono ?_); rintro e w' ⟨rfl, ⟨nd, rfl⟩⟩; refine ⟨_, rfl, ?_⟩) | (go_at_call 120; (with_reducible refine (impl_isAmount.calls a0_9 false _ A31.out).mono ?_); rintro e w' ⟨rfl, ⟨nd, rfl⟩⟩))
          go_ret
          exact ⟨Z6_5, Z6_2⟩
        subst c32
        have H1 : ((impl_isAmount.f a0_10).bind fun t172 => (some t172)) = some r := by rw [if_pos rfl] at H; exact H
        clear H
        have H := H1
        clear H1
        replace H := Option.bind_eq_some_iff.mp H
        obtain ⟨t172, A330, H⟩ := H
        replace H : (some t172) = some r := H
        have A33 := Aside0.mk A330
        clear A330
        obtain rfl := Option.some.inj H
        have hcz34_0 : wc.cell? ⟨gb161, 0, none⟩ = some (.int .i64 a0_0) := (blk_cell BK161.out 0).trans rfl
        have hcz34_1 : wc.cell? ⟨gb161, 1, none⟩ = some (.int .i64 a0_1) := (blk_cell BK161.out 1).trans rfl
        have hcz34_2 : wc.cell? ⟨gb161, 2, none⟩ = some (.int .i64 a0_2) := (blk_cell BK161.out 2).trans rfl
        have hcz34_3 : wc.cell? ⟨gb161, 3, none⟩ = some (.int .i64 a0_3) := (blk_cell BK161.out 3).trans rfl
        have hcz34_4 : wc.cell? ⟨gb161, 4, none⟩ = some (.int .i64 a0_4) := (blk_cell BK161.out 4).trans rfl
        have hcz34_5 : wc.cell? ⟨gb161, 5, none⟩ = some (.int .i64 a0_5) := (blk_cell BK161.out 5).trans rfl
        have hcz34_6 : wc.cell? ⟨gb161, 6, none⟩ = some (.int .i64 a0_6) := (blk_cell BK161.out 6).trans rfl
        have hcz34_7 : wc.cell? ⟨gb161, 7, none⟩ = some (.int .i64 a0_7) := (blk_cell BK161.out 7).trans rfl
        have hcz34_8 : wc.cell? ⟨gb161, 8, none⟩ = some (.int .i64 a0_8) := (blk_cell BK161.out 8).trans rfl
        have hcz34_9 : wc.cell? ⟨gb161, 9, none⟩ = some (.int .i64 a0_9) := (blk_cell BK161.out 9).trans rfl
        have hcz34_10 : wc.cell? ⟨gb161, 10, none⟩ = some (.int .i64 a0_10) := (blk_cell BK161.out 10).trans rfl
        have hcz34_11 : wc.cell? ⟨gb161, 11, none⟩ = some (.bool a0_11) := (blk_cell BK161.out 11).trans rfl
        have hcz34_12 : wc.cell? ⟨gb161, 12, none⟩ = some (.bool a0_12) := (blk_cell BK161.out 12).trans rfl
        have hfz34_0 := blk_frozen BK161.out 0
        have hfz34_1 := blk_frozen BK161.out 1
        have hfz34_2 := blk_frozen BK161.out 2
        have hfz34_3 := blk_frozen BK161.out 3
        have hfz34_4 := blk_frozen BK161.out 4
        have hfz34_5 := blk_frozen BK161.out 5
        have hfz34_6 := blk_frozen BK161.out 6
        have hfz34_7 := blk_frozen BK161.out 7
        have hfz34_8 := blk_frozen BK161.out 8
        have hfz34_9 := blk_frozen BK161.out 9
        have hfz34_10 := blk_frozen BK161.out 10
        have hfz34_11 := blk_frozen BK161.out 11
        have hfz34_12 := blk_frozen BK161.out 12
        go_wp2_with (first | ((with_reducible refine gate_callee (f := 120) rfl ?_); refine goesL_ (some 84) rfl rfl Try.func120 (by kernel_rfl) rfl #[.int .i64 a0_8] rfl Z6_3 ?_; (with_reducible refine (impl_isAmount.calls a0_8 true _ A29.out).mono ?_); rintro e w' ⟨rfl, ⟨nd, rfl⟩⟩; refine ⟨_, rfl, ?_⟩) | (go_at_call 120; (with_reducible refine (impl_isAmount.calls a0_9 true _ A31.out).mono ?_); rintro e w' ⟨rfl, ⟨nd, rfl⟩⟩) | (go_at_call 120; (with_reducible refine (impl_isAmount.calls a0_10 t172 _ A33.out).mono ?_); rintro e w' ⟨rfl, ⟨nd, rfl⟩⟩))
        go_ret
        exact ⟨Z6_5, Z6_2⟩
      rw [if_neg c28] at H
      have c28b0 : (a0_3 == 2) = false := beq_eq_false_iff_ne.mpr c28
      have c28b1 : (a0_3 != 2) = true := bne_iff_ne.mpr c28
      by_cases c37 : a0_2 = a0_1
      rotate_left
      · rw [if_neg c37] at H
        have c37b0 : (a0_2 == a0_1) = false := beq_eq_false_iff_ne.mpr c37
        have c37b1 : (a0_2 != a0_1) = true := bne_iff_ne.mpr c37
        obtain rfl := Option.some.inj H
        have hcz47_0 : wc.cell? ⟨gb161, 0, none⟩ = some (.int .i64 a0_0) := (blk_cell BK161.out 0).trans rfl
        have hcz47_1 : wc.cell? ⟨gb161, 1, none⟩ = some (.int .i64 a0_1) := (blk_cell BK161.out 1).trans rfl
        have hcz47_2 : wc.cell? ⟨gb161, 2, none⟩ = some (.int .i64 a0_2) := (blk_cell BK161.out 2).trans rfl
        have hcz47_3 : wc.cell? ⟨gb161, 3, none⟩ = some (.int .i64 a0_3) := (blk_cell BK161.out 3).trans rfl
        have hcz47_4 : wc.cell? ⟨gb161, 4, none⟩ = some (.int .i64 a0_4) := (blk_cell BK161.out 4).trans rfl
        have hcz47_5 : wc.cell? ⟨gb161, 5, none⟩ = some (.int .i64 a0_5) := (blk_cell BK161.out 5).trans rfl
        have hcz47_6 : wc.cell? ⟨gb161, 6, none⟩ = some (.int .i64 a0_6) := (blk_cell BK161.out 6).trans rfl
        have hcz47_7 : wc.cell? ⟨gb161, 7, none⟩ = some (.int .i64 a0_7) := (blk_cell BK161.out 7).trans rfl
        have hcz47_8 : wc.cell? ⟨gb161, 8, none⟩ = some (.int .i64 a0_8) := (blk_cell BK161.out 8).trans rfl
        have hcz47_9 : wc.cell? ⟨gb161, 9, none⟩ = some (.int .i64 a0_9) := (blk_cell BK161.out 9).trans rfl
        have hcz47_10 : wc.cell? ⟨gb161, 10, none⟩ = some (.int .i64 a0_10) := (blk_cell BK161.out 10).trans rfl
        have hcz47_11 : wc.cell? ⟨gb161, 11, none⟩ = some (.bool a0_11) := (blk_cell BK161.out 11).trans rfl
        have hcz47_12 : wc.cell? ⟨gb161, 12, none⟩ = some (.bool a0_12) := (blk_cell BK161.out 12).trans rfl
        have hfz47_0 := blk_frozen BK161.out 0
        have hfz47_1 := blk_frozen BK161.out 1
        have hfz47_2 := blk_frozen BK161.out 2
        have hfz47_3 := blk_frozen BK161.out 3
        have hfz47_4 := blk_frozen BK161.out 4
        have hfz47_5 := blk_frozen BK161.out 5
        have hfz47_6 := blk_frozen BK161.out 6
        have hfz47_7 := blk_frozen BK161.out 7
        have hfz47_8 := blk_frozen BK161.out 8
        have hfz47_9 := blk_frozen BK161.out 9
        have hfz47_10 := blk_frozen BK161.out 10
        have hfz47_11 := blk_frozen BK161.out 11
        have hfz47_12 := blk_frozen BK161.out 12
        go_wp2
        go_ret
        exact ⟨Z6_5, Z6_2⟩
      rw [if_pos c37] at H
      have c37b0 : (a0_2 == a0_1) = true := beq_iff_eq.mpr c37
      have c37b1 : (a0_2 != a0_1) = false := bne_eq_false_iff_eq.mpr c37
      clear c37
      by_cases c38 : a0_8 = 0
      rotate_left
      · rw [if_neg c38] at H
        have c38b0 : (a0_8 == 0) = false := beq_eq_false_iff_ne.mpr c38
        have c38b1 : (a0_8 != 0) = true := bne_iff_ne.mpr c38
        obtain rfl := Option.some.inj H
        have hcz46_0 : wc.cell? ⟨gb161, 0, none⟩ = some (.int .i64 a0_0) := (blk_cell BK161.out 0).trans rfl
        have hcz46_1 : wc.cell? ⟨gb161, 1, none⟩ = some (.int .i64 a0_1) := (blk_cell BK161.out 1).trans rfl
        have hcz46_2 : wc.cell? ⟨gb161, 2, none⟩ = some (.int .i64 a0_2) := (blk_cell BK161.out 2).trans rfl
        have hcz46_3 : wc.cell? ⟨gb161, 3, none⟩ = some (.int .i64 a0_3) := (blk_cell BK161.out 3).trans rfl
        have hcz46_4 : wc.cell? ⟨gb161, 4, none⟩ = some (.int .i64 a0_4) := (blk_cell BK161.out 4).trans rfl
        have hcz46_5 : wc.cell? ⟨gb161, 5, none⟩ = some (.int .i64 a0_5) := (blk_cell BK161.out 5).trans rfl
        have hcz46_6 : wc.cell? ⟨gb161, 6, none⟩ = some (.int .i64 a0_6) := (blk_cell BK161.out 6).trans rfl
        have hcz46_7 : wc.cell? ⟨gb161, 7, none⟩ = some (.int .i64 a0_7) := (blk_cell BK161.out 7).trans rfl
        have hcz46_8 : wc.cell? ⟨gb161, 8, none⟩ = some (.int .i64 a0_8) := (blk_cell BK161.out 8).trans rfl
        have hcz46_9 : wc.cell? ⟨gb161, 9, none⟩ = some (.int .i64 a0_9) := (blk_cell BK161.out 9).trans rfl
        have hcz46_10 : wc.cell? ⟨gb161, 10, none⟩ = some (.int .i64 a0_10) := (blk_cell BK161.out 10).trans rfl
        have hcz46_11 : wc.cell? ⟨gb161, 11, none⟩ = some (.bool a0_11) := (blk_cell BK161.out 11).trans rfl
        have hcz46_12 : wc.cell? ⟨gb161, 12, none⟩ = some (.bool a0_12) := (blk_cell BK161.out 12).trans rfl
        have hfz46_0 := blk_frozen BK161.out 0
        have hfz46_1 := blk_frozen BK161.out 1
        have hfz46_2 := blk_frozen BK161.out 2
        have hfz46_3 := blk_frozen BK161.out 3
        have hfz46_4 := blk_frozen BK161.out 4
        have hfz46_5 := blk_frozen BK161.out 5
        have hfz46_6 := blk_frozen BK161.out 6
        have hfz46_7 := blk_frozen BK161.out 7
        have hfz46_8 := blk_frozen BK161.out 8
        have hfz46_9 := blk_frozen BK161.out 9
        have hfz46_10 := blk_frozen BK161.out 10
        have hfz46_11 := blk_frozen BK161.out 11
        have hfz46_12 := blk_frozen BK161.out 12
        go_wp2
        go_ret
        exact ⟨Z6_5, Z6_2⟩
      rw [if_pos c38] at H
      have c38b0 : (a0_8 == 0) = true := beq_iff_eq.mpr c38
      have c38b1 : (a0_8 != 0) = false := bne_eq_false_iff_eq.mpr c38
      clear c38
      by_cases c39 : a0_9 = 0
      rotate_left
      · rw [if_neg c39] at H
        have c39b0 : (a0_9 == 0) = false := beq_eq_false_iff_ne.mpr c39
        have c39b1 : (a0_9 != 0) = true := bne_iff_ne.mpr c39
        obtain rfl := Option.some.inj H
        have hcz45_0 : wc.cell? ⟨gb161, 0, none⟩ = some (.int .i64 a0_0) := (blk_cell BK161.out 0).trans rfl
        have hcz45_1 : wc.cell? ⟨gb161, 1, none⟩ = some (.int .i64 a0_1) := (blk_cell BK161.out 1).trans rfl
        have hcz45_2 : wc.cell? ⟨gb161, 2, none⟩ = some (.int .i64 a0_2) := (blk_cell BK161.out 2).trans rfl
        have hcz45_3 : wc.cell? ⟨gb161, 3, none⟩ = some (.int .i64 a0_3) := (blk_cell BK161.out 3).trans rfl
        have hcz45_4 : wc.cell? ⟨gb161, 4, none⟩ = some (.int .i64 a0_4) := (blk_cell BK161.out 4).trans rfl
        have hcz45_5 : wc.cell? ⟨gb161, 5, none⟩ = some (.int .i64 a0_5) := (blk_cell BK161.out 5).trans rfl
        have hcz45_6 : wc.cell? ⟨gb161, 6, none⟩ = some (.int .i64 a0_6) := (blk_cell BK161.out 6).trans rfl
        have hcz45_7 : wc.cell? ⟨gb161, 7, none⟩ = some (.int .i64 a0_7) := (blk_cell BK161.out 7).trans rfl
        have hcz45_8 : wc.cell? ⟨gb161, 8, none⟩ = some (.int .i64 a0_8) := (blk_cell BK161.out 8).trans rfl
        have hcz45_9 : wc.cell? ⟨gb161, 9, none⟩ = some (.int .i64 a0_9) := (blk_cell BK161.out 9).trans rfl
        have hcz45_10 : wc.cell? ⟨gb161, 10, none⟩ = some (.int .i64 a0_10) := (blk_cell BK161.out 10).trans rfl
        have hcz45_11 : wc.cell? ⟨gb161, 11, none⟩ = some (.bool a0_11) := (blk_cell BK161.out 11).trans rfl
        have hcz45_12 : wc.cell? ⟨gb161, 12, none⟩ = some (.bool a0_12) := (blk_cell BK161.out 12).trans rfl
        have hfz45_0 := blk_frozen BK161.out 0
        have hfz45_1 := blk_frozen BK161.out 1
        have hfz45_2 := blk_frozen BK161.out 2
        have hfz45_3 := blk_frozen BK161.out 3
        have hfz45_4 := blk_frozen BK161.out 4
        have hfz45_5 := blk_frozen BK161.out 5
        have hfz45_6 := blk_frozen BK161.out 6
        have hfz45_7 := blk_frozen BK161.out 7
        have hfz45_8 := blk_frozen BK161.out 8
        have hfz45_9 := blk_frozen BK161.out 9
        have hfz45_10 := blk_frozen BK161.out 10
        have hfz45_11 := blk_frozen BK161.out 11
        have hfz45_12 := blk_frozen BK161.out 12
        go_wp2
        go_ret
        exact ⟨Z6_5, Z6_2⟩
      rw [if_pos c39] at H
      have c39b0 : (a0_9 == 0) = true := beq_iff_eq.mpr c39
      have c39b1 : (a0_9 != 0) = false := bne_eq_false_iff_eq.mpr c39
      clear c39
      by_cases c40 : a0_10 = 0
      rotate_left
      · rw [if_neg c40] at H
        have c40b0 : (a0_10 == 0) = false := beq_eq_false_iff_ne.mpr c40
        have c40b1 : (a0_10 != 0) = true := bne_iff_ne.mpr c40
        obtain rfl := Option.some.inj H
        have hcz44_0 : wc.cell? ⟨gb161, 0, none⟩ = some (.int .i64 a0_0) := (blk_cell BK161.out 0).trans rfl
        have hcz44_1 : wc.cell? ⟨gb161, 1, none⟩ = some (.int .i64 a0_1) := (blk_cell BK161.out 1).trans rfl
        have hcz44_2 : wc.cell? ⟨gb161, 2, none⟩ = some (.int .i64 a0_2) := (blk_cell BK161.out 2).trans rfl
        have hcz44_3 : wc.cell? ⟨gb161, 3, none⟩ = some (.int .i64 a0_3) := (blk_cell BK161.out 3).trans rfl
        have hcz44_4 : wc.cell? ⟨gb161, 4, none⟩ = some (.int .i64 a0_4) := (blk_cell BK161.out 4).trans rfl
        have hcz44_5 : wc.cell? ⟨gb161, 5, none⟩ = some (.int .i64 a0_5) := (blk_cell BK161.out 5).trans rfl
        have hcz44_6 : wc.cell? ⟨gb161, 6, none⟩ = some (.int .i64 a0_6) := (blk_cell BK161.out 6).trans rfl
        have hcz44_7 : wc.cell? ⟨gb161, 7, none⟩ = some (.int .i64 a0_7) := (blk_cell BK161.out 7).trans rfl
        have hcz44_8 : wc.cell? ⟨gb161, 8, none⟩ = some (.int .i64 a0_8) := (blk_cell BK161.out 8).trans rfl
        have hcz44_9 : wc.cell? ⟨gb161, 9, none⟩ = some (.int .i64 a0_9) := (blk_cell BK161.out 9).trans rfl
        have hcz44_10 : wc.cell? ⟨gb161, 10, none⟩ = some (.int .i64 a0_10) := (blk_cell BK161.out 10).trans rfl
        have hcz44_11 : wc.cell? ⟨gb161, 11, none⟩ = some (.bool a0_11) := (blk_cell BK161.out 11).trans rfl
        have hcz44_12 : wc.cell? ⟨gb161, 12, none⟩ = some (.bool a0_12) := (blk_cell BK161.out 12).trans rfl
        have hfz44_0 := blk_frozen BK161.out 0
        have hfz44_1 := blk_frozen BK161.out 1
        have hfz44_2 := blk_frozen BK161.out 2
        have hfz44_3 := blk_frozen BK161.out 3
        have hfz44_4 := blk_frozen BK161.out 4
        have hfz44_5 := blk_frozen BK161.out 5
        have hfz44_6 := blk_frozen BK161.out 6
        have hfz44_7 := blk_frozen BK161.out 7
        have hfz44_8 := blk_frozen BK161.out 8
        have hfz44_9 := blk_frozen BK161.out 9
        have hfz44_10 := blk_frozen BK161.out 10
        have hfz44_11 := blk_frozen BK161.out 11
        have hfz44_12 := blk_frozen BK161.out 12
        go_wp2
        go_ret
        exact ⟨Z6_5, Z6_2⟩
      rw [if_pos c40] at H
      have c40b0 : (a0_10 == 0) = true := beq_iff_eq.mpr c40
      have c40b1 : (a0_10 != 0) = false := bne_eq_false_iff_eq.mpr c40
      clear c40
      by_cases c41 : a0_11 = true
      · subst c41
        have H1 : (some false) = some r := by rw [if_pos rfl] at H; exact H
        clear H
        have H := H1
        clear H1
        obtain rfl := Option.some.inj H
        have hcz42_0 : wc.cell? ⟨gb161, 0, none⟩ = some (.int .i64 a0_0) := (blk_cell BK161.out 0).trans rfl
        have hcz42_1 : wc.cell? ⟨gb161, 1, none⟩ = some (.int .i64 a0_1) := (blk_cell BK161.out 1).trans rfl
        have hcz42_2 : wc.cell? ⟨gb161, 2, none⟩ = some (.int .i64 a0_2) := (blk_cell BK161.out 2).trans rfl
        have hcz42_3 : wc.cell? ⟨gb161, 3, none⟩ = some (.int .i64 a0_3) := (blk_cell BK161.out 3).trans rfl
        have hcz42_4 : wc.cell? ⟨gb161, 4, none⟩ = some (.int .i64 a0_4) := (blk_cell BK161.out 4).trans rfl
        have hcz42_5 : wc.cell? ⟨gb161, 5, none⟩ = some (.int .i64 a0_5) := (blk_cell BK161.out 5).trans rfl
        have hcz42_6 : wc.cell? ⟨gb161, 6, none⟩ = some (.int .i64 a0_6) := (blk_cell BK161.out 6).trans rfl
        have hcz42_7 : wc.cell? ⟨gb161, 7, none⟩ = some (.int .i64 a0_7) := (blk_cell BK161.out 7).trans rfl
        have hcz42_8 : wc.cell? ⟨gb161, 8, none⟩ = some (.int .i64 a0_8) := (blk_cell BK161.out 8).trans rfl
        have hcz42_9 : wc.cell? ⟨gb161, 9, none⟩ = some (.int .i64 a0_9) := (blk_cell BK161.out 9).trans rfl
        have hcz42_10 : wc.cell? ⟨gb161, 10, none⟩ = some (.int .i64 a0_10) := (blk_cell BK161.out 10).trans rfl
        have hcz42_11 : wc.cell? ⟨gb161, 11, none⟩ = some (.bool true) := (blk_cell BK161.out 11).trans rfl
        have hcz42_12 : wc.cell? ⟨gb161, 12, none⟩ = some (.bool a0_12) := (blk_cell BK161.out 12).trans rfl
        have hfz42_0 := blk_frozen BK161.out 0
        have hfz42_1 := blk_frozen BK161.out 1
        have hfz42_2 := blk_frozen BK161.out 2
        have hfz42_3 := blk_frozen BK161.out 3
        have hfz42_4 := blk_frozen BK161.out 4
        have hfz42_5 := blk_frozen BK161.out 5
        have hfz42_6 := blk_frozen BK161.out 6
        have hfz42_7 := blk_frozen BK161.out 7
        have hfz42_8 := blk_frozen BK161.out 8
        have hfz42_9 := blk_frozen BK161.out 9
        have hfz42_10 := blk_frozen BK161.out 10
        have hfz42_11 := blk_frozen BK161.out 11
        have hfz42_12 := blk_frozen BK161.out 12
        go_wp2
        go_ret
        exact ⟨Z6_5, Z6_2⟩
      replace c41 := Bool.eq_false_iff.mpr c41
      subst c41
      have H1 : (some (!a0_12)) = some r := by rw [if_neg (show ¬ (false = true) by decide)] at H; exact H
      clear H
      have H := H1
      clear H1
      obtain rfl := Option.some.inj H
      have hcz43_0 : wc.cell? ⟨gb161, 0, none⟩ = some (.int .i64 a0_0) := (blk_cell BK161.out 0).trans rfl
      have hcz43_1 : wc.cell? ⟨gb161, 1, none⟩ = some (.int .i64 a0_1) := (blk_cell BK161.out 1).trans rfl
      have hcz43_2 : wc.cell? ⟨gb161, 2, none⟩ = some (.int .i64 a0_2) := (blk_cell BK161.out 2).trans rfl
      have hcz43_3 : wc.cell? ⟨gb161, 3, none⟩ = some (.int .i64 a0_3) := (blk_cell BK161.out 3).trans rfl
      have hcz43_4 : wc.cell? ⟨gb161, 4, none⟩ = some (.int .i64 a0_4) := (blk_cell BK161.out 4).trans rfl
      have hcz43_5 : wc.cell? ⟨gb161, 5, none⟩ = some (.int .i64 a0_5) := (blk_cell BK161.out 5).trans rfl
      have hcz43_6 : wc.cell? ⟨gb161, 6, none⟩ = some (.int .i64 a0_6) := (blk_cell BK161.out 6).trans rfl
      have hcz43_7 : wc.cell? ⟨gb161, 7, none⟩ = some (.int .i64 a0_7) := (blk_cell BK161.out 7).trans rfl
      have hcz43_8 : wc.cell? ⟨gb161, 8, none⟩ = some (.int .i64 a0_8) := (blk_cell BK161.out 8).trans rfl
      have hcz43_9 : wc.cell? ⟨gb161, 9, none⟩ = some (.int .i64 a0_9) := (blk_cell BK161.out 9).trans rfl
      have hcz43_10 : wc.cell? ⟨gb161, 10, none⟩ = some (.int .i64 a0_10) := (blk_cell BK161.out 10).trans rfl
      have hcz43_11 : wc.cell? ⟨gb161, 11, none⟩ = some (.bool false) := (blk_cell BK161.out 11).trans rfl
      have hcz43_12 : wc.cell? ⟨gb161, 12, none⟩ = some (.bool a0_12) := (blk_cell BK161.out 12).trans rfl
      have hfz43_0 := blk_frozen BK161.out 0
      have hfz43_1 := blk_frozen BK161.out 1
      have hfz43_2 := blk_frozen BK161.out 2
      have hfz43_3 := blk_frozen BK161.out 3
      have hfz43_4 := blk_frozen BK161.out 4
      have hfz43_5 := blk_frozen BK161.out 5
      have hfz43_6 := blk_frozen BK161.out 6
      have hfz43_7 := blk_frozen BK161.out 7
      have hfz43_8 := blk_frozen BK161.out 8
      have hfz43_9 := blk_frozen BK161.out 9
      have hfz43_10 := blk_frozen BK161.out 10
      have hfz43_11 := blk_frozen BK161.out 11
      have hfz43_12 := blk_frozen BK161.out 12
      go_wp2
      go_ret
      exact ⟨Z6_5, Z6_2⟩

end Go.Proofs.Ytfpbbikhcnpceaa.QFnExactGetPiece
