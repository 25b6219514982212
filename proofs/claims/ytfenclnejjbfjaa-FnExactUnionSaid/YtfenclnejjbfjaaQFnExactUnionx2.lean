-- Written by a program of this session (patch_print.py over the print).
import Derived.Test.YtfenclnejjbfjaaQFnExactUnionx0
import Derived.Test.YtfenclnejjbfjaaQFnExactUnionx1
namespace Go.Proofs.Ytfenclnejjbfjaa.QFnExactUnion
open Go.RowKit Go.Proofs.YtfenclnejjbfjaaW.PrintWords Go.Proofs.YtfenclnejjbfjaaW.PrintLast Go.Proofs.YtfenclnejjbfjaaW.PrintMore
attribute [local go_sem] max2_int min2_int max_two min_two max_three min_three max_four min_four   -- for this text's walks alone
set_option linter.unusedVariables false
set_option linter.unusedSimpArgs false

def M2_14 (k : Nat) : Array Bool := ((List.range 14).map fun j => k.testBit j).toArray
def M2_16 (k : Nat) : Array Bool := ((List.range 16).map fun j => k.testBit j).toArray
theorem Z2_37 {p : Prop} (h : p := by (with_reducible repeat (first | apply Kd.R_alloc | apply Kd.R_drewN | apply Kd.R_drew)); exact HO_3.out) : p := h
theorem Z2_29 {p : Prop} (h : p := by repeat (first | (with_reducible first | exact HB.out | apply below_alloc | apply pw_below_drewN | apply below_drew1) | exact HB.out)) : p := h
theorem Z2_1 {p : Prop} (h : p := by exact (Kd.R_lower (Kd.R_new' ho52 (Kd.R_lt Z2_37)) (below_size Z2_29))) : p := h
theorem Z2_2 {p : Prop} (h : p := by exact (Kd.R_lower (Kd.R_new' ho30 (Kd.R_lt Z2_37)) (below_size Z2_29))) : p := h
theorem Z2_3 {p : Prop} (h : p := by exact (Kd.R_after (ok := (fun k_ => some k_ ≠ (.slice (some ad116) x3_1.length co9 : Value).ownBlock)) (by (with_reducible repeat (first | apply Kd.R_alloc | apply Kd.R_drewN | apply Kd.R_drew)); exact Kd.R_mono HO131.out (fun _ hk => ⟨hk.1.2, hk.2⟩)) hg hat)) : p := h
theorem Z2_4 {p : Prop} (h : p := by exact (Kd.R_after (ok := (fun k_ => some k_ ≠ (.slice Ao9 x3_1.length co9 : Value).ownBlock)) (by (with_reducible repeat (first | apply Kd.R_alloc | apply Kd.R_drewN | apply Kd.R_drew)); exact Kd.R_mono HO155.out (fun _ hk => ⟨hk.1.2, hk.2⟩)) hg hat)) : p := h
theorem Z2_9 {p : Prop} (h : p := by repeat (first | (with_reducible exact HR148.out) | (with_reducible refine Kd.C_alloc ?_ _) | (with_reducible refine Kd.C_drewN ?_ _) | (with_reducible refine Kd.C_drew ?_) | exact HR148.out)) : p := h
theorem Z2_5 {p : Prop} (h : p := by exact (Kd.C_below Z2_9 hb)) : p := h
theorem Z2_10 {p : Prop} (h : p := by repeat (first | (with_reducible exact HR162.out) | (with_reducible refine Kd.C_alloc ?_ _) | (with_reducible refine Kd.C_drewN ?_ _) | (with_reducible refine Kd.C_drew ?_) | exact HR162.out)) : p := h
theorem Z2_6 {p : Prop} (h : p := by exact (Kd.C_below Z2_10 hb)) : p := h
theorem Z2_11 {p : Prop} (h : p := by repeat (first | (with_reducible exact HR124.out) | (with_reducible refine Kd.C_alloc ?_ _) | (with_reducible refine Kd.C_drewN ?_ _) | (with_reducible refine Kd.C_drew ?_) | exact HR124.out)) : p := h
theorem Z2_7 {p : Prop} (h : p := by exact (Kd.C_below Z2_11 hb)) : p := h
theorem Z2_12 {p : Prop} (h : p := by repeat (first | (with_reducible exact HR138.out) | (with_reducible refine Kd.C_alloc ?_ _) | (with_reducible refine Kd.C_drewN ?_ _) | (with_reducible refine Kd.C_drew ?_) | exact HR138.out)) : p := h
theorem Z2_8 {p : Prop} (h : p := by exact (Kd.C_below Z2_12 hb)) : p := h
theorem Z2_13 {p : Prop} (h : p := by exact (below_step Z2_29 hb)) : p := h
theorem Z2_14 {p : Prop} (h : p := by exact (Kd.R_after (ok := (fun _ => True)) Z2_37 hg hat)) : p := h
theorem Z2_15 {p : Prop} (h : p := by (with_reducible repeat (first | apply Kd.R_alloc | apply Kd.R_drewN | apply Kd.R_drew)); exact Kd.R_mono HO144.out (fun _ hk => ⟨hk.1.2, hk.2⟩)) : p := h
theorem Z2_16 {p : Prop} (h : p := by (with_reducible repeat (first | apply Kd.R_alloc | apply Kd.R_drewN | apply Kd.R_drew)); exact Kd.R_mono HO120.out (fun _ hk => ⟨hk.1.2, hk.2⟩)) : p := h
theorem Z2_17 {p : Prop} (h : p := by (with_reducible repeat (first | apply Kd.R_alloc | apply Kd.R_drewN | apply Kd.R_drew)); exact Kd.R_mono HO_3.out (fun _ hk => ⟨hk.1.2, hk.2⟩)) : p := h
theorem Z2_18 {p : Prop} (h : p := by (with_reducible repeat (first | apply Kd.R_alloc | apply Kd.R_drewN | apply Kd.R_drew)); exact Kd.R_mono HO_3.out (fun _ hk => ⟨hk.2, hk.1.2⟩)) : p := h
theorem Z2_19 {p : Prop} (h : p := by (with_reducible repeat (first | apply Kd.R_alloc | apply Kd.R_drewN | apply Kd.R_drew)); exact Kd.R_mono HO151.out (fun _ hk => ⟨hk.2, hk.1⟩)) : p := h
theorem Z2_20 {p : Prop} (h : p := by (with_reducible repeat (first | apply Kd.R_alloc | apply Kd.R_drewN | apply Kd.R_drew)); exact Kd.R_mono HO155.out (fun _ hk => ⟨hk.2, hk.1⟩)) : p := h
theorem Z2_21 {p : Prop} (h : p := by (with_reducible repeat (first | apply Kd.R_alloc | apply Kd.R_drewN | apply Kd.R_drew)); exact Kd.R_mono HO127.out (fun _ hk => ⟨hk.2, hk.1⟩)) : p := h
theorem Z2_22 {p : Prop} (h : p := by (with_reducible repeat (first | apply Kd.R_alloc | apply Kd.R_drewN | apply Kd.R_drew)); exact Kd.R_mono HO131.out (fun _ hk => ⟨hk.2, hk.1⟩)) : p := h
theorem Z2_23 {p : Prop} (h : p := by (with_reducible repeat (first | apply Kd.R_alloc | apply Kd.R_drewN | apply Kd.R_drew)); exact Kd.R_mono HO_3.out (fun _ hk => ⟨hk.2, hk.1⟩)) : p := h
theorem Z2_24 {p : Prop} (h : p := by (try simp only [List.map_toArray, List.map_cons, List.map_nil]); first | done | rfl | (simp only [List.length_drop, List.length_take]; rfl)) : p := h
theorem Z2_25 {p : Prop} (h : p := by exact (Kd.R_elder' Z2_37 (Kd.R_base ho52) hb)) : p := h
theorem Z2_26 {p : Prop} (h : p := by exact (Kd.R_elder' Z2_37 (Kd.R_base ho54) hb)) : p := h
theorem Z2_27 {p : Prop} (h : p := by exact (Kd.R_elder' Z2_37 (Kd.R_base ho30) hb)) : p := h
theorem Z2_28 {p : Prop} (h : p := by exact (Kd.R_elder' Z2_37 (Kd.R_base ho32) hb)) : p := h
theorem Z2_30 {p : Prop} (h : p := by simp only [Act.put, List.setIfInBounds_toArray, List.set_cons_zero, List.set_cons_succ, i64_w, i32_w]; rfl) : p := h
theorem Z2_31 {p : Prop} (h : p := by (with_reducible repeat (first | apply Kd.R_alloc | apply Kd.R_drewN | apply Kd.R_drew)); exact HO151.out) : p := h
theorem Z2_32 {p : Prop} (h : p := by (with_reducible repeat (first | apply Kd.R_alloc | apply Kd.R_drewN | apply Kd.R_drew)); exact HO144.out) : p := h
theorem Z2_33 {p : Prop} (h : p := by (with_reducible repeat (first | apply Kd.R_alloc | apply Kd.R_drewN | apply Kd.R_drew)); exact HO155.out) : p := h
theorem Z2_34 {p : Prop} (h : p := by (with_reducible repeat (first | apply Kd.R_alloc | apply Kd.R_drewN | apply Kd.R_drew)); exact HO127.out) : p := h
theorem Z2_35 {p : Prop} (h : p := by (with_reducible repeat (first | apply Kd.R_alloc | apply Kd.R_drewN | apply Kd.R_drew)); exact HO120.out) : p := h
theorem Z2_36 {p : Prop} (h : p := by (with_reducible repeat (first | apply Kd.R_alloc | apply Kd.R_drewN | apply Kd.R_drew)); exact HO131.out) : p := h
theorem Z2_38 {p : Prop} (h : p := by simp only [putAll, Act.put, List.setIfInBounds_toArray, List.set_cons_zero, List.set_cons_succ]) : p := h
theorem Z2_39 {p : Prop} (h : p := by first | (with_reducible assumption) | assumption) : p := h
theorem Z2_40 {p : Prop} (h : p := by exact (show (x5_2 : Int).toNat ≤ x3_1.length from by omega)) : p := h
theorem Z2_41 {p : Prop} (h : p := by first | rfl | (simp; done) | (simp [*]; done)) : p := h
/-! ### spec_SetOf: function 13 -/
mutual
def spec_SetOf.l0 : Nat → List Int → List Int → Int → Option (List Int)
  | 0, _, _, _ => none
  | k + 1, x0, x3, x4 => if x4 < (x0.length : Int) then (if 0 ≤ x4 then ((spec_Has.f k x3 (rd x0 x4)).bind fun t115 => (if t115 = true then (spec_SetOf.l0 k x0 x3 (wrap64 (x4 + 1))) else (spec_SetOf.l1 k x0 x3 x4 (x3.length : Int)))) else (none)) else (some x3)
def spec_SetOf.l1 : Nat → List Int → List Int → Int → Int → Option (List Int)
  | 0, _, _, _, _ => none
  | k + 1, x0, x3, x4, x5 => if x5 > 0 then (if 0 ≤ (wrap64 (x5 - 1)) then (if (wrap64 (x5 - 1)) < (x3.length : Int) then (if 0 ≤ x4 then (if x4 < (x0.length : Int) then (if (rd x3 (wrap64 (x5 - 1))) > (rd x0 x4) then (spec_SetOf.l1 k x0 x3 x4 (wrap64 (x5 - 1))) else ((some (([] : List Int) : List Int)).bind fun y118 => (if 0 ≤ x5 then (if x5 ≤ (x3.length : Int) then ((some (x3.take (x5 : Int).toNat : List Int)).bind fun y121 => (if y118.length + y121.length < 17592186044416 then ((some (y118 ++ y121 : List Int)).bind fun y125 => ((some (([rd x0 x4] : List Int) : List Int)).bind fun y129 => (if y125.length + y129.length < 17592186044416 then ((some (y125 ++ y129 : List Int)).bind fun y132 => ((some (x3.drop (x5 : Int).toNat : List Int)).bind fun y135 => (if y132.length + y135.length < 17592186044416 then (spec_SetOf.l0 k x0 (y132 ++ y135) (wrap64 (x4 + 1))) else (none)))) else (none)))) else (none))) else (none)) else (none)))) else (none)) else (none)) else (none)) else (none)) else ((some (([] : List Int) : List Int)).bind fun y142 => (if 0 ≤ x5 then (if x5 ≤ (x3.length : Int) then ((some (x3.take (x5 : Int).toNat : List Int)).bind fun y145 => (if y142.length + y145.length < 17592186044416 then ((some (y142 ++ y145 : List Int)).bind fun y149 => (if 0 ≤ x4 then (if x4 < (x0.length : Int) then ((some (([rd x0 x4] : List Int) : List Int)).bind fun y153 => (if y149.length + y153.length < 17592186044416 then ((some (y149 ++ y153 : List Int)).bind fun y156 => ((some (x3.drop (x5 : Int).toNat : List Int)).bind fun y159 => (if y156.length + y159.length < 17592186044416 then (spec_SetOf.l0 k x0 (y156 ++ y159) (wrap64 (x4 + 1))) else (none)))) else (none))) else (none)) else (none))) else (none))) else (none)) else (none)))
end
def spec_SetOf.f (k : Nat) (l0 : List Int) : Option (List Int) := spec_SetOf.l0 k l0 (([] : List Int)) 0
theorem spec_SetOf.mono_l : ∀ k, (∀ y0 y1 y2, LeO (spec_SetOf.l0 k y0 y1 y2) (spec_SetOf.l0 (k + 1) y0 y1 y2)) ∧ (∀ y0 y1 y2 y3, LeO (spec_SetOf.l1 k y0 y1 y2 y3) (spec_SetOf.l1 (k + 1) y0 y1 y2 y3))
  | 0 => ⟨fun _ _ _ r h => by simp [spec_SetOf.l0] at h, fun _ _ _ _ r h => by simp [spec_SetOf.l1] at h⟩
  | k + 1 => by
    obtain ⟨ih0, ih1⟩ := spec_SetOf.mono_l k
    refine ⟨?_, ?_⟩
    · intro y0 y1 y2
      unfold spec_SetOf.l0
      repeat' first
      | (with_reducible exact ih0 _ _ _)
      | (with_reducible exact ih1 _ _ _ _)
      | (with_reducible exact spec_Has.mono _ _ _)
      | (with_reducible exact LeO.refl _)
      | (with_reducible exact LeO.none _)
      | (with_reducible refine LeO.ite ?_ ?_)
      | (with_reducible refine LeO.bind ?_ (fun _ => ?_))
      | exact ih0 _ _ _
      | exact ih1 _ _ _ _
      | exact spec_Has.mono _ _ _
      | exact LeO.none _
      | refine LeO.ite ?_ ?_
      | refine LeO.bind ?_ (fun _ => ?_)
    · intro y0 y1 y2 y3
      unfold spec_SetOf.l1
      repeat' first
      | (with_reducible exact ih0 _ _ _)
      | (with_reducible exact ih1 _ _ _ _)
      | (with_reducible exact spec_Has.mono _ _ _)
      | (with_reducible exact LeO.refl _)
      | (with_reducible exact LeO.none _)
      | (with_reducible refine LeO.ite ?_ ?_)
      | (with_reducible refine LeO.bind ?_ (fun _ => ?_))
      | exact ih0 _ _ _
      | exact ih1 _ _ _ _
      | exact spec_Has.mono _ _ _
      | exact LeO.none _
      | refine LeO.ite ?_ ?_
      | refine LeO.bind ?_ (fun _ => ?_)
theorem spec_SetOf.mono : ∀ a0 k, LeO (spec_SetOf.f k a0) (spec_SetOf.f (k + 1) a0) := by
  intro a0 k
  obtain ⟨ih0, ih1⟩ := spec_SetOf.mono_l k
  unfold spec_SetOf.f
  repeat' first
      | (with_reducible exact ih0 _ _ _)
      | (with_reducible exact ih1 _ _ _ _)
      | (with_reducible exact spec_Has.mono _ _ _)
      | (with_reducible exact LeO.refl _)
      | (with_reducible exact LeO.none _)
      | (with_reducible refine LeO.ite ?_ ?_)
      | (with_reducible refine LeO.bind ?_ (fun _ => ?_))
      | exact ih0 _ _ _
      | exact ih1 _ _ _ _
      | exact spec_Has.mono _ _ _
      | exact LeO.none _
      | refine LeO.ite ?_ ?_
      | refine LeO.bind ?_ (fun _ => ?_)
def spec_SetOf.T7 : Bool × List (List Nat × List Nat) := (true, [([], []), ([0], [0]), ([1], [1]), ([2], [2]), ([2], [2]), ([4, 2], [2, 4]), ([3, 5, 2], [2, 3, 5]), ([6, 2], [2, 6]), ([2], [2]), ([2], [2]), ([8, 9, 2], [2, 8, 9]), ([10, 2], [2, 10]), ([7, 11, 2], [2, 7, 11]), ([2, 12], [2, 12])])
def spec_SetOf.B7 : List Nat := [0, 1, 3, 7, 7, 23, 63, 127, 7, 7, 775, 1799, 4095, 8191]
theorem spec_SetOf.tab7 : rtab .any (opsOf Try.f13 7) = spec_SetOf.T7 := by kernel_rfl
theorem spec_SetOf.bits7 : waitsOk spec_SetOf.T7.2 spec_SetOf.B7 = true := by kernel_rfl
def spec_SetOf.T9 : Bool × List (List Nat × List Nat) := (true, [([], []), ([], []), ([], []), ([1, 2], [1, 2]), ([0, 3], [0, 3]), ([], []), ([], []), ([5, 6], [5, 6]), ([7], [7]), ([8], [8]), ([4, 9, 4], [4, 9]), ([], []), ([], []), ([11, 12], [11, 12]), ([10, 13, 10], [10, 13]), ([14, 14, 0, 1, 2, 3, 4, 5, 6, 7, 8, 9, 10, 11, 12, 13, 14], [1, 11, 14])])
def spec_SetOf.B9 : List Nat := [0, 0, 0, 6, 15, 0, 0, 96, 224, 480, 1023, 0, 0, 6144, 16383, 32767]
theorem spec_SetOf.tab9 : rtab .any (opsOf Try.f13 9) = spec_SetOf.T9 := by kernel_rfl
theorem spec_SetOf.bits9 : waitsOk spec_SetOf.T9.2 spec_SetOf.B9 = true := by kernel_rfl
set_option maxHeartbeats 8000000 in
set_option maxRecDepth 100000 in
theorem spec_SetOf.calls (k : Nat) (A0 : Option Addr) (c0 : Nat) (l0 : List Int) (r : List Int) (w : World) (hr0 : Kd.C (Kd.int .i64) w A0 l0.length l0) (hc0 : l0.length ≤ c0) (h : spec_SetOf.f k l0 = some r) :
    Calls Try.prog 13 #[.slice A0 l0.length c0] w fun e w' => ∃ v0_ : Value, e = .returned (v0_) ∧ Kd.R (Kd.int .i64) 3 w' w.heap.size (fun _ => True) v0_ r ∧ Below w.heap.size w w' := by
  have HR0 := Aside0.mk hr0
  have HC0 := Aside0.mk hc0
  clear hr0 hc0
  have HB := Aside0.mk (Below.refl w.heap.size w)
  have H : (spec_SetOf.l0 k l0 (([] : List Int)) 0) = some r := h
  clear h
  obtain ⟨y111, hy111⟩ : ∃ y_ : List Int, y_ = (([] : List Int)) := ⟨_, rfl⟩
  replace H : (spec_SetOf.l0 k l0 y111 0) = some r := by first | (rw [hy111]; with_reducible exact H) | (have H2_ := (Option.bind_some _ _).symm.trans H; rw [hy111]; with_reducible exact H2_) | (have H2_ := (Option.bind_some _ _).symm.trans H; with_reducible exact H2_) | with_reducible exact H | (rw [hy111]; exact H) | exact H
  have Ny111 := Aside0.mk hy111
  clear hy111
  have H' := Aside0.mk H
  clear H
  go_enter Try.func13, Try.ntmps13
  go_wp2_with (first | ((with_reducible refine gate_dst (N := 6) rfl ?_); refine Kd.R_lit (Kd.int .i64) _ 3 ?hg (N := 6) ?hd (xs := ([] : List Int)) (inner := []) (ok := fun _ => True) (okp := fun _ => True) ?hr ?hp (fun _ hk => hk) trivial (Below.refl _ _) (Nat.le_refl _) (by simp) ?_; (case hd => rfl); (case hg => rfl); (case hr => first | (go_simp; done) | (go_simp; rfl)); (case hp => exact (Reps.none _ _)); intro v112 w2 ho3 hb hg_ hnew_; clear hg_ hnew_; (first | rw [← Ny111.out] at ho3 | (simp only [Int.reduceToNat] at ho3; rw [← Ny111.out] at ho3)); have n0_ := Aside0.mk (Kd.R_lower ho3 (below_size Z2_29)); have n1_ := Aside0.mk Z2_13; clear HB; have HO113 := n0_; have HB := n1_; clear n0_ n1_; clear hb ho3))
  go_loopg [3, 4] k (fun kq v3 v4 w' => ∃ (x3_1 : List Int) (x4_1 : Int), v4 = .int .i64 x4_1 ∧ Aside0 (spec_SetOf.l0 kq l0 x3_1 x4_1 = some r) ∧ Aside0 (kq ≤ k) ∧ Aside0 (Kd.R (Kd.int .i64) 3 w' w.heap.size (fun _ => True) v3 x3_1) ∧ Aside0 (Below w.heap.size w w'))
  case atStart => exact ⟨(y111), (0), Z2_41, H', ⟨Nat.le_refl _⟩, ⟨(by (with_reducible repeat (first | apply Kd.R_alloc | apply Kd.R_drewN | apply Kd.R_drew)); exact HO113.out)⟩, ⟨Z2_29⟩⟩
  case round =>
    clear H'
    try clear c1
    try clear p2
    obtain ⟨x3_1, x4_1, rfl, HA, HK1, HO_3, HB⟩ := hrel
    cases gk with
    | zero => exact absurd HA.out (by simp [spec_SetOf.l0])
    | succ k1 =>
      have H := HA.out
      clear HA
      simp only [spec_SetOf.l0] at H
      by_cases c4 : x4_1 < (l0.length : Int)
      rotate_left
      · rw [if_neg c4] at H
        have c4b0 : decide (x4_1 < (l0.length : Int)) = false := decide_eq_false c4
        clear c4
        obtain rfl := Option.some.inj H
        go_wp2
        go_ret
        exact ⟨_, (by first | rfl | (simp [errW_none, errW_some] <;> rfl) | (simp [*, errW_none, errW_some] <;> rfl)), Z2_37, Z2_29⟩
      rw [if_pos c4] at H
      have c4b0 : decide (x4_1 < (l0.length : Int)) = true := decide_eq_true c4
      clear c4
      by_cases c5 : 0 ≤ x4_1
      rotate_left
      · rw [if_neg c5] at H
        exact absurd H (by simp)
      rw [if_pos c5] at H
      have c5b0 : decide (0 ≤ x4_1) = true := decide_eq_true c5
      clear c5
      replace H := Option.bind_eq_some_iff.mp H
      obtain ⟨t115, A60, H⟩ := H
      replace H : (if t115 = true then (spec_SetOf.l0 k1 l0 x3_1 (wrap64 (x4_1 + 1))) else (spec_SetOf.l1 k1 l0 x3_1 x4_1 (x3_1.length : Int))) = some r := H
      have A6 := Aside0.mk A60
      clear A60
      by_cases c7 : t115 = true
      · subst c7
        have H1 : (spec_SetOf.l0 k1 l0 x3_1 (wrap64 (x4_1 + 1))) = some r := by rw [if_pos rfl] at H; exact H
        clear H
        have H := H1
        clear H1
        have H' := Aside0.mk H
        clear H
        have p114 : 0 ≤ (x4_1 : Int) := of_decide_eq_true Z2_39
        have q114 : x4_1 < (l0.length : Int) := of_decide_eq_true Z2_39
        obtain ⟨ad114, e114, hx114_0⟩ := Kd.at_int HR0.out x4_1 p114 q114
        cases e114
        replace hx114_0 := (HB.out.cell (World.block_lt_of_cell? w _ hx114_0)).trans hx114_0
        replace p114 := eq_true p114
        replace q114 := eq_true q114
        obtain ⟨Ao8, co8, eo8⟩ := Kd.R_slice HO_3.out
        subst eo8
        go_wp2_with (first | ((with_reducible refine gate_callee (f := 51) rfl ?_); refine goesL_ (some 18) rfl rfl Try.func51 (by kernel_rfl) rfl #[.slice Ao8 x3_1.length co8, .int .i64 (rd l0 x4_1)] rfl Z2_24 ?_; (with_reducible refine (spec_Has.calls k1 _ _ x3_1 (rd l0 x4_1) true _ ?side1 ?side2 A6.out).mono ?_); (case side1 => repeat (first | exact (Kd.R_reads' HO_3.out).2.2 | (with_reducible refine Kd.C_alloc ?_ _) | (with_reducible refine Kd.C_drewN ?_ _) | (with_reducible refine Kd.C_drew ?_))); (case side2 => exact (Kd.R_reads' HO_3.out).2.1); rintro e w' ⟨rfl, ⟨nd, rfl⟩⟩; refine ⟨_, rfl, ?_⟩))
        go_roundg k1
        case measure => have := HK1.out; omega
        case rel => exact ⟨(x3_1), (wrap64 (x4_1 + 1)), Z2_41, H', ⟨(by have := HK1.out; omega)⟩, ⟨Z2_37⟩, ⟨Z2_29⟩⟩
      replace c7 := Bool.eq_false_iff.mpr c7
      subst c7
      have H1 : (spec_SetOf.l1 k1 l0 x3_1 x4_1 (x3_1.length : Int)) = some r := by rw [if_neg (show ¬ (false = true) by decide)] at H; exact H
      clear H
      have H := H1
      clear H1
      have H' := Aside0.mk H
      clear H
      have p114 : 0 ≤ (x4_1 : Int) := of_decide_eq_true Z2_39
      have q114 : x4_1 < (l0.length : Int) := of_decide_eq_true Z2_39
      obtain ⟨ad114, e114, hx114_0⟩ := Kd.at_int HR0.out x4_1 p114 q114
      cases e114
      replace hx114_0 := (HB.out.cell (World.block_lt_of_cell? w _ hx114_0)).trans hx114_0
      replace p114 := eq_true p114
      replace q114 := eq_true q114
      obtain ⟨Ao9, co9, eo9⟩ := Kd.R_slice HO_3.out
      subst eo9
      go_wp2_with (first | ((with_reducible refine gate_callee (f := 51) rfl ?_); refine goesL_ (some 18) rfl rfl Try.func51 (by kernel_rfl) rfl #[.slice Ao9 x3_1.length co9, .int .i64 (rd l0 x4_1)] rfl Z2_24 ?_; (with_reducible refine (spec_Has.calls k1 _ _ x3_1 (rd l0 x4_1) false _ ?side1 ?side2 A6.out).mono ?_); (case side1 => repeat (first | exact (Kd.R_reads' HO_3.out).2.2 | (with_reducible refine Kd.C_alloc ?_ _) | (with_reducible refine Kd.C_drewN ?_ _) | (with_reducible refine Kd.C_drew ?_))); (case side2 => exact (Kd.R_reads' HO_3.out).2.1); rintro e w' ⟨rfl, ⟨nd, rfl⟩⟩; refine ⟨_, rfl, ?_⟩))
      go_loopg [5] k1 (fun kq v5 w' => ∃ (x5_2 : Int), v5 = .int .i64 x5_2 ∧ Aside0 (spec_SetOf.l1 kq l0 x3_1 x4_1 x5_2 = some r) ∧ Aside0 (kq ≤ k1) ∧ Aside0 (Kd.R (Kd.int .i64) 3 w' w.heap.size (fun _ => True) (.slice Ao9 x3_1.length co9) x3_1) ∧ Aside0 (Below w.heap.size w w'))
      case atStart => exact ⟨((x3_1.length : Int)), Z2_41, H', ⟨Nat.le_refl _⟩, ⟨Z2_37⟩, ⟨Z2_29⟩⟩
      case round =>
        clear H'
        try clear c1
        try clear p1
        try clear q1
        try clear hx1
        try clear p2
        try clear c4
        try clear c4b0
        try clear c5
        try clear c5b0
        try clear p6
        try clear c7
        try clear hx114_0
        try clear p114
        try clear p2
        try clear q114
        obtain ⟨x5_2, rfl, HA, HK2, HO_3, HB⟩ := hrel
        cases gk with
        | zero => exact absurd HA.out (by simp [spec_SetOf.l1])
        | succ k2 =>
          have H := HA.out
          clear HA
          simp only [spec_SetOf.l1] at H
          by_cases c10 : x5_2 > 0
          rotate_left
          · rw [if_neg c10] at H
            have c10b0 : decide (0 < x5_2) = false := decide_eq_false c10
            clear c10
            obtain ⟨y142, hy142⟩ : ∃ y_ : List Int, y_ = (([] : List Int)) := ⟨_, rfl⟩
            replace H : (if 0 ≤ x5_2 then (if x5_2 ≤ (x3_1.length : Int) then ((some (x3_1.take (x5_2 : Int).toNat : List Int)).bind fun y145 => (if y142.length + y145.length < 17592186044416 then ((some (y142 ++ y145 : List Int)).bind fun y149 => (if 0 ≤ x4_1 then (if x4_1 < (l0.length : Int) then ((some (([rd l0 x4_1] : List Int) : List Int)).bind fun y153 => (if y149.length + y153.length < 17592186044416 then ((some (y149 ++ y153 : List Int)).bind fun y156 => ((some (x3_1.drop (x5_2 : Int).toNat : List Int)).bind fun y159 => (if y156.length + y159.length < 17592186044416 then (spec_SetOf.l0 k2 l0 (y156 ++ y159) (wrap64 (x4_1 + 1))) else (none)))) else (none))) else (none)) else (none))) else (none))) else (none)) else (none)) = some r := by first | (rw [hy142]; with_reducible exact H) | (have H2_ := (Option.bind_some _ _).symm.trans H; rw [hy142]; with_reducible exact H2_) | (have H2_ := (Option.bind_some _ _).symm.trans H; with_reducible exact H2_) | with_reducible exact H | (rw [hy142]; exact H) | exact H
            have Ny142 := Aside0.mk hy142
            clear hy142
            by_cases c38 : 0 ≤ x5_2
            rotate_left
            · rw [if_neg c38] at H
              exact absurd H (by simp)
            rw [if_pos c38] at H
            have c38b0 := eq_true c38
            have c38b1 : decide (0 ≤ x5_2) = true := decide_eq_true c38
            clear c38
            by_cases c39 : x5_2 ≤ (x3_1.length : Int)
            rotate_left
            · rw [if_neg c39] at H
              exact absurd H (by simp)
            rw [if_pos c39] at H
            have c39b0 := eq_true c39
            have c39b1 : decide (x5_2 ≤ (x3_1.length : Int)) = true := decide_eq_true c39
            clear c39
            obtain ⟨y145, hy145⟩ : ∃ y_ : List Int, y_ = (x3_1.take (x5_2 : Int).toNat) := ⟨_, rfl⟩
            replace H : (if y142.length + y145.length < 17592186044416 then ((some (y142 ++ y145 : List Int)).bind fun y149 => (if 0 ≤ x4_1 then (if x4_1 < (l0.length : Int) then ((some (([rd l0 x4_1] : List Int) : List Int)).bind fun y153 => (if y149.length + y153.length < 17592186044416 then ((some (y149 ++ y153 : List Int)).bind fun y156 => ((some (x3_1.drop (x5_2 : Int).toNat : List Int)).bind fun y159 => (if y156.length + y159.length < 17592186044416 then (spec_SetOf.l0 k2 l0 (y156 ++ y159) (wrap64 (x4_1 + 1))) else (none)))) else (none))) else (none)) else (none))) else (none)) = some r := by first | (rw [hy145]; with_reducible exact H) | (have H2_ := (Option.bind_some _ _).symm.trans H; rw [hy145]; with_reducible exact H2_) | (have H2_ := (Option.bind_some _ _).symm.trans H; with_reducible exact H2_) | with_reducible exact H | (rw [hy145]; exact H) | exact H
            have Ny145 := Aside0.mk hy145
            clear hy145
            by_cases c40 : y142.length + y145.length < 17592186044416
            rotate_left
            · rw [if_neg c40] at H
              exact absurd H (by simp)
            rw [if_pos c40] at H
            have LMc40 := Aside0.mk c40
            clear c40
            obtain ⟨y149, hy149⟩ : ∃ y_ : List Int, y_ = (y142 ++ y145) := ⟨_, rfl⟩
            replace H : (if 0 ≤ x4_1 then (if x4_1 < (l0.length : Int) then ((some (([rd l0 x4_1] : List Int) : List Int)).bind fun y153 => (if y149.length + y153.length < 17592186044416 then ((some (y149 ++ y153 : List Int)).bind fun y156 => ((some (x3_1.drop (x5_2 : Int).toNat : List Int)).bind fun y159 => (if y156.length + y159.length < 17592186044416 then (spec_SetOf.l0 k2 l0 (y156 ++ y159) (wrap64 (x4_1 + 1))) else (none)))) else (none))) else (none)) else (none)) = some r := by first | (rw [hy149]; with_reducible exact H) | (have H2_ := (Option.bind_some _ _).symm.trans H; rw [hy149]; with_reducible exact H2_) | (have H2_ := (Option.bind_some _ _).symm.trans H; with_reducible exact H2_) | with_reducible exact H | (rw [hy149]; exact H) | exact H
            have Ny149 := Aside0.mk hy149
            clear hy149
            by_cases c41 : 0 ≤ x4_1
            rotate_left
            · rw [if_neg c41] at H
              exact absurd H (by simp)
            rw [if_pos c41] at H
            have c41b0 : decide (0 ≤ x4_1) = true := decide_eq_true c41
            clear c41
            by_cases c42 : x4_1 < (l0.length : Int)
            rotate_left
            · rw [if_neg c42] at H
              exact absurd H (by simp)
            rw [if_pos c42] at H
            have c42b0 : decide (x4_1 < (l0.length : Int)) = true := decide_eq_true c42
            clear c42
            obtain ⟨y153, hy153⟩ : ∃ y_ : List Int, y_ = (([rd l0 x4_1] : List Int)) := ⟨_, rfl⟩
            replace H : (if y149.length + y153.length < 17592186044416 then ((some (y149 ++ y153 : List Int)).bind fun y156 => ((some (x3_1.drop (x5_2 : Int).toNat : List Int)).bind fun y159 => (if y156.length + y159.length < 17592186044416 then (spec_SetOf.l0 k2 l0 (y156 ++ y159) (wrap64 (x4_1 + 1))) else (none)))) else (none)) = some r := by first | (rw [hy153]; with_reducible exact H) | (have H2_ := (Option.bind_some _ _).symm.trans H; rw [hy153]; with_reducible exact H2_) | (have H2_ := (Option.bind_some _ _).symm.trans H; with_reducible exact H2_) | with_reducible exact H | (rw [hy153]; exact H) | exact H
            have Ny153 := Aside0.mk hy153
            clear hy153
            by_cases c43 : y149.length + y153.length < 17592186044416
            rotate_left
            · rw [if_neg c43] at H
              exact absurd H (by simp)
            rw [if_pos c43] at H
            have LMc43 := Aside0.mk c43
            clear c43
            obtain ⟨y156, hy156⟩ : ∃ y_ : List Int, y_ = (y149 ++ y153) := ⟨_, rfl⟩
            replace H : ((some (x3_1.drop (x5_2 : Int).toNat : List Int)).bind fun y159 => (if y156.length + y159.length < 17592186044416 then (spec_SetOf.l0 k2 l0 (y156 ++ y159) (wrap64 (x4_1 + 1))) else (none))) = some r := by first | (rw [hy156]; with_reducible exact H) | (have H2_ := (Option.bind_some _ _).symm.trans H; rw [hy156]; with_reducible exact H2_) | (have H2_ := (Option.bind_some _ _).symm.trans H; with_reducible exact H2_) | with_reducible exact H | (rw [hy156]; exact H) | exact H
            have Ny156 := Aside0.mk hy156
            clear hy156
            have c44b0 := eq_true (of_decide_eq_true Z2_39 : 0 ≤ x5_2)
            have c45b0 := eq_true (of_decide_eq_true Z2_39 : x5_2 ≤ (x3_1.length : Int))
            obtain ⟨y159, hy159⟩ : ∃ y_ : List Int, y_ = (x3_1.drop (x5_2 : Int).toNat) := ⟨_, rfl⟩
            replace H : (if y156.length + y159.length < 17592186044416 then (spec_SetOf.l0 k2 l0 (y156 ++ y159) (wrap64 (x4_1 + 1))) else (none)) = some r := by first | (rw [hy159]; with_reducible exact H) | (have H2_ := (Option.bind_some _ _).symm.trans H; rw [hy159]; with_reducible exact H2_) | (have H2_ := (Option.bind_some _ _).symm.trans H; with_reducible exact H2_) | with_reducible exact H | (rw [hy159]; exact H) | exact H
            have Ny159 := Aside0.mk hy159
            clear hy159
            by_cases c46 : y156.length + y159.length < 17592186044416
            rotate_left
            · rw [if_neg c46] at H
              exact absurd H (by simp)
            rw [if_pos c46] at H
            have LMc46 := Aside0.mk c46
            clear c46
            obtain ⟨y163, hy163⟩ : ∃ y_ : List Int, y_ = (y156 ++ y159) := ⟨_, rfl⟩
            replace H : (spec_SetOf.l0 k2 l0 y163 (wrap64 (x4_1 + 1))) = some r := by first | (rw [hy163]; with_reducible exact H) | (have H2_ := (Option.bind_some _ _).symm.trans H; rw [hy163]; with_reducible exact H2_) | (have H2_ := (Option.bind_some _ _).symm.trans H; with_reducible exact H2_) | with_reducible exact H | (rw [hy163]; exact H) | exact H
            have Ny163 := Aside0.mk hy163
            clear hy163
            have H' := Aside0.mk H
            clear H
            try go_wp2
            have n0_ := Aside0.mk (Kd.R_drew HO_3.out)
            have n1_ := Aside0.mk (below_drew1 HB.out)
            clear HO_3
            clear HB
            have HO_3 := n0_
            have HB := n1_
            clear n0_ n1_
            refine start_ (n := 14) (S := fun w' => True) (ds := []) #[false, false, false, false, false, false, false, false, false, false, false, false, false, false] (by kernel_rfl) rfl rfl trivial (fun hHeld => ?_); refine with_tabW spec_SetOf.tab7 spec_SetOf.bits7 (fun HT_ HW_ => ?_)
            generalize wr.drew = w47 at HO_3 HB hHeld ⊢
            refine pure_ (i := 0) (N := some 21) (v := _) (a' := _) (M2_14 1) rfl rfl (any_of HT_.out (by kernel_rfl)) (fun _ _ _ h => h) (Or.inl ⟨(by rfl), (by intro w'; go_simp; with_reducible rfl)⟩) Z2_30 ?_
            refine pure_ (i := 1) (N := some 22) (v := _) (a' := _) (M2_14 3) rfl rfl (any_of HT_.out (by kernel_rfl)) (fun _ _ _ h => h) (Or.inl ⟨(by rfl), (by intro w'; go_simp; with_reducible rfl)⟩) Z2_30 ?_
            refine pure_ (i := 2) (N := some 23) (v := _) (a' := _) (M2_14 7) rfl rfl (any_of HT_.out (by kernel_rfl)) (fun _ _ _ h => h) (Or.inl ⟨(by rfl), (by intro w'; go_simp; with_reducible rfl)⟩) Z2_30 ?_
            refine pure_ (i := 3) (N := some 24) (v := undef) (a' := ?_) (M2_14 15) rfl rfl (any_of HT_.out (by kernel_rfl)) (fun _ _ _ h => h) (Or.inr ⟨(by rfl), rfl⟩) ?_ ?_
            rotate_left
            · simp only [Act.put, List.setIfInBounds_toArray, List.set_cons_zero, List.set_cons_succ, i64_w, i32_w]
              rfl
            refine pure_ (i := 4) (N := some 25) (v := undef) (a' := ?_) (M2_14 31) rfl rfl (any_of HT_.out (by kernel_rfl)) (fun _ _ _ h => h) (Or.inr ⟨(by rfl), rfl⟩) ?_ ?_
            rotate_left
            · simp only [Act.put, List.setIfInBounds_toArray, List.set_cons_zero, List.set_cons_succ, i64_w, i32_w]
              rfl
            refine pure_ (i := 5) (N := some 26) (v := undef) (a' := ?_) (M2_14 63) rfl rfl (any_of HT_.out (by kernel_rfl)) (fun _ _ _ h => h) (Or.inr ⟨(by rfl), rfl⟩) ?_ ?_
            rotate_left
            · simp only [Act.put, List.setIfInBounds_toArray, List.set_cons_zero, List.set_cons_succ, i64_w, i32_w]
              rfl
            refine pure_ (i := 6) (N := some 27) (v := undef) (a' := ?_) (M2_14 127) rfl rfl (any_of HT_.out (by kernel_rfl)) (fun _ _ _ h => h) (Or.inr ⟨(by rfl), rfl⟩) ?_ ?_
            rotate_left
            · simp only [Act.put, List.setIfInBounds_toArray, List.set_cons_zero, List.set_cons_succ, i64_w, i32_w]
              rfl
            refine pure_ (i := 7) (N := some 28) (v := undef) (a' := ?_) (M2_14 255) rfl rfl (any_of HT_.out (by kernel_rfl)) (fun _ _ _ h => h) (Or.inr ⟨(by rfl), rfl⟩) ?_ ?_
            rotate_left
            · simp only [Act.put, List.setIfInBounds_toArray, List.set_cons_zero, List.set_cons_succ, i64_w, i32_w]
              rfl
            refine pure_ (i := 8) (N := some 29) (v := undef) (a' := ?_) (M2_14 511) rfl rfl (any_of HT_.out (by kernel_rfl)) (fun _ _ _ h => h) (Or.inr ⟨(by rfl), rfl⟩) ?_ ?_
            rotate_left
            · simp only [Act.put, List.setIfInBounds_toArray, List.set_cons_zero, List.set_cons_succ, i64_w, i32_w]
              rfl
            refine pure_ (i := 9) (N := some 30) (v := undef) (a' := ?_) (M2_14 1023) rfl rfl (any_of HT_.out (by kernel_rfl)) (fun _ _ _ h => h) (Or.inr ⟨(by rfl), rfl⟩) ?_ ?_
            rotate_left
            · simp only [Act.put, List.setIfInBounds_toArray, List.set_cons_zero, List.set_cons_succ, i64_w, i32_w]
              rfl
            refine pure_ (i := 10) (N := some 31) (v := undef) (a' := ?_) (M2_14 2047) rfl rfl (any_of HT_.out (by kernel_rfl)) (fun _ _ _ h => h) (Or.inr ⟨(by rfl), rfl⟩) ?_ ?_
            rotate_left
            · simp only [Act.put, List.setIfInBounds_toArray, List.set_cons_zero, List.set_cons_succ, i64_w, i32_w]
              rfl
            refine pure_ (i := 11) (N := some 32) (v := undef) (a' := ?_) (M2_14 4095) rfl rfl (any_of HT_.out (by kernel_rfl)) (fun _ _ _ h => h) (Or.inr ⟨(by rfl), rfl⟩) ?_ ?_
            rotate_left
            · simp only [Act.put, List.setIfInBounds_toArray, List.set_cons_zero, List.set_cons_succ, i64_w, i32_w]
              rfl
            refine pure_ (i := 12) (N := some 33) (v := undef) (a' := ?_) (M2_14 8191) rfl rfl (any_of HT_.out (by kernel_rfl)) (fun _ _ _ h => h) (Or.inr ⟨(by rfl), rfl⟩) ?_ ?_
            rotate_left
            · simp only [Act.put, List.setIfInBounds_toArray, List.set_cons_zero, List.set_cons_succ, i64_w, i32_w]
              rfl
            refine pure_ (i := 13) (N := some 34) (v := _) (a' := _) (M2_14 16383) rfl rfl (any_of HT_.out (by kernel_rfl)) (fun _ _ _ h => h) (Or.inl ⟨(by rfl), (by intro w'; go_simp; with_reducible rfl)⟩) Z2_30 ?_
            refine done_ (done_of HT_.out (by kernel_rfl)) ?_
            try go_wp2
            have n0_ := Aside0.mk (Kd.R_drew HO_3.out)
            have n1_ := Aside0.mk (below_drew1 HB.out)
            clear HO_3
            clear HB
            have HO_3 := n0_
            have HB := n1_
            clear n0_ n1_
            have q49 : (x5_2 : Int) ≤ ((x3_1.length : Int) : Int) := of_decide_eq_true Z2_39
            obtain ⟨i049, hi049, _, hsz49, _⟩ := info_parts info3
            have hroom49 : x3_1.length ≤ co9 := (Kd.R_reads' HO_3.out).2.1
            have hC49 : Kd.C (Kd.int .i64) _ Ao9 x3_1.length x3_1 := (Kd.R_reads' HO_3.out).2.2
            have hcut49 := cut_to (P := Try.prog) 22 3 .i64 Try.underlying22 hi049 Ao9 x3_1.length co9 x5_2 (of_decide_eq_true Z2_39) q49 hroom49
            have hr49 := Kd.C_take (m := (x5_2 : Int).toNat) hC49 (by omega)
            have hy49 : y145.length = (x5_2 : Int).toNat := (by rw [Ny145.out, List.length_take]; omega)
            rw [← Ny145.out] at hr49
            rw [← hy49] at hcut49
            have HR148 := Aside0.mk hr49
            have HC148 := Aside0.mk (show y145.length ≤ co9 from by omega)
            clear hr49 hC49 hroom49 hi049 hsz49
            have KY49 := Aside0.mk hy49
            clear hy49
            have KL49 := Aside0.mk Z2_40
            replace q49 := eq_true q49
            have p152 : 0 ≤ (x4_1 : Int) := of_decide_eq_true Z2_39
            have q152 : x4_1 < (l0.length : Int) := of_decide_eq_true Z2_39
            obtain ⟨ad152, e152, hx152_0⟩ := Kd.at_int HR0.out x4_1 p152 q152
            have hw152_0 := hx152_0
            obtain rfl : ad114 = ad152 := (by injection e152)
            replace hx152_0 := (HB.out.cell (World.block_lt_of_cell? w _ hx152_0)).trans hx152_0
            replace p152 := eq_true p152
            replace q152 := eq_true q152
            have q50 : (x5_2 : Int) ≤ ((x3_1.length : Int) : Int) := of_decide_eq_true Z2_39
            obtain ⟨i050, hi050, _, hsz50, _⟩ := info_parts info3
            have hroom50 : x3_1.length ≤ co9 := (Kd.R_reads' HO_3.out).2.1
            have hC50 : Kd.C (Kd.int .i64) _ Ao9 x3_1.length x3_1 := (Kd.R_reads' HO_3.out).2.2
            have q050 : (0 : Int) ≤ (x5_2 : Int) := of_decide_eq_true Z2_39
            have hcut50 := cut_from (P := Try.prog) 22 3 .i64 Try.underlying22 hi050 1 hsz50 Ao9 x3_1.length co9 x5_2 q050 q50
            have hr50 := Kd.C_drop (m := (x5_2 : Int).toNat) (c := co9) hC50 (by omega) hroom50
            obtain ⟨A50, hA50⟩ : ∃ A1, A1 = (if co9 = (x5_2 : Int).toNat then Ao9 else (Ao9 : Option Addr).map (·.add ((x5_2 : Int).toNat * 1))) := ⟨_, rfl⟩
            obtain ⟨c50, hc50⟩ : ∃ c1, c1 = co9 - (x5_2 : Int).toNat := ⟨_, rfl⟩
            have hy50 : y159.length = x3_1.length - (x5_2 : Int).toNat := (by rw [Ny159.out, List.length_drop] <;> omega)
            rw [show (x3_1).drop (x5_2 : Int).toNat = y159 from Ny159.out.symm] at hr50
            replace hr50 : Kd.C (Kd.int .i64) _ A50 y159.length y159 := (by rw [hA50]; exact hr50)
            rw [← hy50, ← hA50, ← hc50] at hcut50
            have HR162 := Aside0.mk hr50
            have HC162 := Aside0.mk (show y159.length ≤ c50 from by rw [hy50, hc50]; exact Nat.sub_le_sub_right hroom50 _)
            clear hr50 hC50 hroom50 hi050 hsz50 hc50
            have KY50 := Aside0.mk hy50
            have KA50 := Aside0.mk hA50
            clear hy50 hA50
            have KL50 := Aside0.mk Z2_40
            replace q50 := eq_true q50
            refine start_ (n := 16) (S := fun w' => w'.cell? (ad114.add (x4_1).toNat) = some (.int .i64 (rd l0 x4_1))) (ds := []) #[false, false, false, false, false, false, false, false, false, false, false, false, false, false, false, false] (by kernel_rfl) rfl rfl (((HB.out.cell (World.block_lt_of_cell? w _ hw152_0)).trans hw152_0)) (fun hHeld => ?_); refine with_tabW spec_SetOf.tab9 spec_SetOf.bits9 (fun HT_ HW_ => ?_)
            generalize w47.drew = w48 at HO_3 HB HR148 HR162 hx152_0 hHeld ⊢
            refine pure_ (i := 1) (N := some 38) (v := _) (a' := _) (M2_16 2) rfl rfl (any_of HT_.out (by kernel_rfl)) (fun _ _ _ h => h) (Or.inl ⟨(by rfl), (by intro w'; go_simp; with_reducible rfl)⟩) Z2_30 ?_
            refine pure_ (i := 2) (N := some 39) (v := _) (a' := _) (M2_16 6) rfl rfl (any_of HT_.out (by kernel_rfl)) (fun _ _ _ h => h) (Or.inl ⟨(by rfl), (by intro w'; go_simp; with_reducible rfl)⟩) Z2_30 ?_
            refine pure_ (i := 3) (N := some 40) (v := _) (a' := _) (M2_16 14) rfl rfl (any_of HT_.out (by kernel_rfl)) (fun _ _ _ h => h) (Or.inl ⟨(by rfl), (by intro w'; go_simp; with_reducible rfl)⟩) Z2_30 ?_
            refine pure_ (i := 5) (N := some 42) (v := _) (a' := _) (M2_16 46) rfl rfl (any_of HT_.out (by kernel_rfl)) (fun _ _ _ h => h) (Or.inl ⟨(by rfl), (by intro w'; go_simp; with_reducible rfl)⟩) Z2_30 ?_
            refine pure_ (i := 6) (N := some 43) (v := _) (a' := _) (M2_16 110) rfl rfl (any_of HT_.out (by kernel_rfl)) (fun _ _ _ h => h) (Or.inl ⟨(by rfl), (by intro w'; go_simp; with_reducible rfl)⟩) Z2_30 ?_
            refine pure_ (i := 7) (N := some 44) (v := _) (a' := _) (M2_16 238) rfl rfl (any_of HT_.out (by kernel_rfl)) (fun _ _ _ h => h) (Or.inl ⟨(by rfl), (by intro w'; go_simp; with_reducible rfl)⟩) Z2_30 ?_
            refine pure_ (i := 11) (N := some 48) (v := _) (a' := _) (M2_16 2286) rfl rfl (any_of HT_.out (by kernel_rfl)) (fun _ _ _ h => h) (Or.inl ⟨(by rfl), (by intro w'; go_simp; with_reducible rfl)⟩) Z2_30 ?_
            refine pure_ (i := 12) (N := some 49) (v := _) (a' := _) (M2_16 6382) rfl rfl (any_of HT_.out (by kernel_rfl)) (fun _ _ _ h => h) (Or.inl ⟨(by rfl), (by intro w'; go_simp; with_reducible rfl)⟩) Z2_30 ?_
            refine pure_ (i := 13) (N := some 50) (v := _) (a' := _) (M2_16 14574) rfl rfl (any_of HT_.out (by kernel_rfl)) (fun _ _ _ h => h) (Or.inl ⟨(by rfl), (by intro w'; go_simp; with_reducible rfl)⟩) Z2_30 ?_
            refine take_ (i := 8) (N := some 45) (v := ?_) (a' := ?_) (M2_16 14830) rfl rfl (take_ofW HT_.out HW_.out (by kernel_rfl)) (fun _ _ _ h => h) (Or.inl ⟨(by rfl), ?_⟩) hHeld ?_ ?_
            rotate_left
            · intro w' s0
              go_simp
              with_reducible rfl
            rotate_left
            · simp only [Act.put, List.setIfInBounds_toArray, List.set_cons_zero, List.set_cons_succ, i64_w, i32_w]
              rfl
            refine join_ (σ := Value × Value × Value) 3 (M2_16 15359) (fun s_ => [(37, s_.1), (41, s_.2.1), (46, s_.2.2)]) (fun s_ w' => (w'.cell? (ad114.add (x4_1).toNat) = some (.int .i64 (rd l0 x4_1))) ∧ (Kd.R (Kd.int .i64) 3 w' w.heap.size (fun k_ => some k_ ≠ (s_.2.2 : Value).ownBlock ∧ some k_ ≠ (.slice Ao9 x3_1.length co9 : Value).ownBlock) s_.2.1 y149) ∧ (Kd.R (Kd.int .i64) 3 w' w.heap.size (fun k_ => some k_ ≠ (s_.2.1 : Value).ownBlock ∧ some k_ ≠ (.slice Ao9 x3_1.length co9 : Value).ownBlock) s_.2.2 y153) ∧ (Kd.R (Kd.int .i64) 3 w' w.heap.size (fun k_ => some k_ ≠ (s_.2.1 : Value).ownBlock ∧ some k_ ≠ (s_.2.2 : Value).ownBlock) (.slice Ao9 x3_1.length co9) x3_1) ∧ (Kd.C (Kd.int .i64) w' Ao9 y145.length y145) ∧ (Kd.C (Kd.int .i64) w' A50 y159.length y159) ∧ (Below w.heap.size w w')) ?_ ?_
            rotate_left
            · intro hCont
              refine two_ (i := 0) (j := 9) (Ni := some 37) (Nj := some 46) (M2_16 14831) (M2_16 15342) rfl rfl rfl rfl (two_of HT_.out (by kernel_rfl)) (by decide) (by decide) (fun K hK => ?_) (fun K hK => ?_)
              · skip
                refine Kd.R_lit_step (Kd.int .i64) _ 3 ?hg (N := 37) ?hd (xs := ([] : List Int)) (inner := []) (ok := fun _ => True) (okp := fun _ => True) ?hr ?hp (fun _ hk => hk) trivial (Below.refl _ _) (Nat.le_refl _) (by simp) ?_; (case hd => rfl); (case hg => rfl); (case hr => first | (go_simp; done) | (go_simp; rfl)); (case hp => exact (Reps.none _ _))
                intro v143 w51 ho52 hb hg_ hnew_
                clear hg_ hnew_
                (first | rw [← Ny142.out] at ho52 | (simp only [Int.reduceToNat] at ho52; rw [← Ny142.out] at ho52))
                have n0_ := Aside0.mk Z2_25
                have n1_ := Aside0.mk Z2_1
                have n2_ := Aside0.mk Z2_5
                have n3_ := Aside0.mk Z2_6
                have n4_ := Aside0.mk Z2_13
                clear HO_3
                clear HR148
                clear HR162
                clear HB
                have HO_3 := n0_
                have HO144 := n1_
                have HR148 := n2_
                have HR162 := n3_
                have HB := n4_
                clear n0_ n1_ n2_ n3_ n4_
                clear hb ho52
                refine hK.out _ _ (((HB.out.cell (World.block_lt_of_cell? w _ hw152_0)).trans hw152_0)) (fun hHeld => ?_)
                clear hK K
                refine norm_ (a' := ?_) ?_ ?_
                rotate_left
                · show Act.put _ (some 37) _ = _
                  simp only [Act.put, List.setIfInBounds_toArray, List.set_cons_zero, List.set_cons_succ, i64_w, i32_w]
                  rfl
                refine two_ (i := 4) (j := 9) (Ni := some 41) (Nj := some 46) (M2_16 14847) (M2_16 15343) rfl rfl rfl rfl (two_of HT_.out (by kernel_rfl)) (by decide) (by decide) (fun K hK => ?_) (fun K hK => ?_)
                · skip
                  refine Kd.R_append_rows_step (Kd.int .i64) (w0 := w) w.heap.size (by rfl) (.tmp 37) (.tmp 40) 22 3 (.int .i64 0) 8 rfl Try.underlying22 info3 rfl (by decide) (by omega) v143 y142 y145 _ _ _ (fun k_ => some k_ ≠ (.slice Ao9 x3_1.length co9 : Value).ownBlock) (fun _ => False) rfl rfl ?aO ?aR (fun _ _ h => h) (fun _ h => h.elim) ?aF ?aB ?aS ?aL ?_
                  (case aR => repeat (first | exact Z2_9 | (with_reducible refine Kd.C_alloc ?_ _) | (with_reducible refine Kd.C_drewN ?_ _) | (with_reducible refine Kd.C_drew ?_)))
                  (case aB => exact Z2_29)
                  (case aF => exact (fun k_ hk => Kd.fresh' (Kd.R_lt Z2_37) k_ hk))
                  (case aO => exact (by (with_reducible repeat (first | apply Kd.R_alloc | apply Kd.R_drewN | apply Kd.R_drew)); exact Kd.R_mono HO144.out (fun _ hk => hk.2)))
                  (case aS => exact (below_size Z2_29))
                  (case aL => have := LMc40.out; omega)
                  intro v150 w53 ho hb hg hat
                  rw [← Ny149.out] at ho
                  have n0_ := Aside0.mk Z2_14
                  have n1_ := Aside0.mk (hb)
                  have n2_ := Aside0.mk ((show Kd.C (Kd.int .i64) w53 Ao9 y145.length y145 from by rw [Ny145.out]; exact Kd.C_take (m := (x5_2 : Int).toNat) ((Kd.R_reads' Z2_14).2.2) KL49.out))
                  have n3_ := Aside0.mk ((show Kd.C (Kd.int .i64) w53 A50 y159.length y159 from by rw [Ny159.out, KA50.out]; exact Kd.C_drop (m := (x5_2 : Int).toNat) (c := co9) ((Kd.R_reads' Z2_14).2.2) KL50.out ((Kd.R_reads' Z2_14).2.1)))
                  have n4_ := Aside0.mk (ho)
                  clear HO_3
                  clear HB
                  clear HR148
                  clear HR162
                  clear HO144
                  have HO_3 := n0_
                  have HB := n1_
                  have HR148 := n2_
                  have HR162 := n3_
                  have HO151 := n4_
                  clear n0_ n1_ n2_ n3_ n4_
                  clear ho hb hg hat
                  refine hK.out _ _ (((HB.out.cell (World.block_lt_of_cell? w _ hw152_0)).trans hw152_0)) (fun hHeld => ?_)
                  clear hK K
                  refine norm_ (a' := ?_) ?_ ?_
                  rotate_left
                  · show Act.put _ (some 41) _ = _
                    simp only [Act.put, List.setIfInBounds_toArray, List.set_cons_zero, List.set_cons_succ, i64_w, i32_w]
                    rfl
                  refine one_ (i := 9) (N := some 46) (M2_16 15359) rfl rfl (one_of HT_.out (by kernel_rfl)) (by decide) (fun K hK => ?_)
                  refine Kd.R_lit_step (Kd.int .i64) _ 3 ?hg (N := 46) ?hd (xs := ([rd l0 x4_1] : List Int)) (inner := [.int .i64 (rd l0 x4_1)]) (ok := fun _ => True) (okp := fun _ => True) ?hr ?hp (fun _ hk => hk) trivial (Below.refl _ _) (Nat.le_refl _) (by simp) ?_; (case hd => rfl); (case hg => rfl); (case hr => first | (go_simp; done) | (go_simp; rfl)); (case hp => exact (Reps.one (show Kd.M (Kd.int .i64) _ _ _ (rd l0 x4_1) [.int .i64 (rd l0 x4_1)] from rfl) (Reps.none _ _)))
                  intro v154 w54 ho55 hb hg_ hnew_
                  clear hg_ hnew_
                  (first | rw [← Ny153.out] at ho55 | (simp only [Int.reduceToNat] at ho55; rw [← Ny153.out] at ho55))
                  have n0_ := Aside0.mk (Kd.R_elder' Z2_37 (Kd.R_base ho55) hb)
                  have n1_ := Aside0.mk (Kd.R_elder' Z2_31 (Kd.R_base ho55) hb)
                  have n2_ := Aside0.mk (Kd.R_lower (Kd.R_new' (Kd.R_new' ho55 (Kd.R_lt Z2_37)) (Kd.R_lt Z2_31)) (below_size Z2_29))
                  have n3_ := Aside0.mk Z2_5
                  have n4_ := Aside0.mk Z2_6
                  have n5_ := Aside0.mk Z2_13
                  clear HO_3
                  clear HO151
                  clear HR148
                  clear HR162
                  clear HB
                  have HO_3 := n0_
                  have HO151 := n1_
                  have HO155 := n2_
                  have HR148 := n3_
                  have HR162 := n4_
                  have HB := n5_
                  clear n0_ n1_ n2_ n3_ n4_ n5_
                  clear hb ho55
                  refine hK.out _ _ (((HB.out.cell (World.block_lt_of_cell? w _ hw152_0)).trans hw152_0)) (fun hHeld => ?_)
                  clear hK K
                  refine norm_ (a' := ?_) ?_ ?_
                  rotate_left
                  · show Act.put _ (some 46) _ = _
                    simp only [Act.put, List.setIfInBounds_toArray, List.set_cons_zero, List.set_cons_succ, i64_w, i32_w]
                    rfl
                  exact norm_ Z2_38 (hCont (v143, v150, v154) _ ⟨hHeld, Z2_19, (by (with_reducible repeat (first | apply Kd.R_alloc | apply Kd.R_drewN | apply Kd.R_drew)); exact Kd.R_mono HO155.out (fun _ hk => ⟨hk.2, hk.1.2⟩)), Z2_17, Z2_9, Z2_10, Z2_29⟩)
                · skip
                  refine Kd.R_lit_step (Kd.int .i64) _ 3 ?hg (N := 46) ?hd (xs := ([rd l0 x4_1] : List Int)) (inner := [.int .i64 (rd l0 x4_1)]) (ok := fun _ => True) (okp := fun _ => True) ?hr ?hp (fun _ hk => hk) trivial (Below.refl _ _) (Nat.le_refl _) (by simp) ?_; (case hd => rfl); (case hg => rfl); (case hr => first | (go_simp; done) | (go_simp; rfl)); (case hp => exact (Reps.one (show Kd.M (Kd.int .i64) _ _ _ (rd l0 x4_1) [.int .i64 (rd l0 x4_1)] from rfl) (Reps.none _ _)))
                  intro v154 w53 ho54 hb hg_ hnew_
                  clear hg_ hnew_
                  (first | rw [← Ny153.out] at ho54 | (simp only [Int.reduceToNat] at ho54; rw [← Ny153.out] at ho54))
                  have n0_ := Aside0.mk Z2_26
                  have n1_ := Aside0.mk (Kd.R_elder' Z2_32 (Kd.R_base ho54) hb)
                  have n2_ := Aside0.mk (Kd.R_lower (Kd.R_new' (Kd.R_new' ho54 (Kd.R_lt Z2_37)) (Kd.R_lt Z2_32)) (below_size Z2_29))
                  have n3_ := Aside0.mk Z2_5
                  have n4_ := Aside0.mk Z2_6
                  have n5_ := Aside0.mk Z2_13
                  clear HO_3
                  clear HO144
                  clear HR148
                  clear HR162
                  clear HB
                  have HO_3 := n0_
                  have HO144 := n1_
                  have HO155 := n2_
                  have HR148 := n3_
                  have HR162 := n4_
                  have HB := n5_
                  clear n0_ n1_ n2_ n3_ n4_ n5_
                  clear hb ho54
                  refine hK.out _ _ (((HB.out.cell (World.block_lt_of_cell? w _ hw152_0)).trans hw152_0)) (fun hHeld => ?_)
                  clear hK K
                  refine norm_ (a' := ?_) ?_ ?_
                  rotate_left
                  · show Act.put _ (some 46) _ = _
                    simp only [Act.put, List.setIfInBounds_toArray, List.set_cons_zero, List.set_cons_succ, i64_w, i32_w]
                    rfl
                  refine one_ (i := 4) (N := some 41) (M2_16 15359) rfl rfl (one_of HT_.out (by kernel_rfl)) (by decide) (fun K hK => ?_)
                  refine Kd.R_append_rows_step (Kd.int .i64) (w0 := w) w.heap.size (by rfl) (.tmp 37) (.tmp 40) 22 3 (.int .i64 0) 8 rfl Try.underlying22 info3 rfl (by decide) (by omega) v143 y142 y145 _ _ _ (fun k_ => some k_ ≠ (.slice Ao9 x3_1.length co9 : Value).ownBlock ∧ some k_ ≠ (v154 : Value).ownBlock) (fun _ => False) rfl rfl ?aO ?aR (fun _ _ h => h) (fun _ h => h.elim) ?aF ?aB ?aS ?aL ?_
                  (case aR => repeat (first | exact Z2_9 | (with_reducible refine Kd.C_alloc ?_ _) | (with_reducible refine Kd.C_drewN ?_ _) | (with_reducible refine Kd.C_drew ?_)))
                  (case aB => exact Z2_29)
                  (case aF => exact (fun k_ hk => ⟨Kd.fresh' (Kd.R_lt Z2_37) k_ hk, Kd.fresh' (Kd.R_lt Z2_33) k_ hk⟩))
                  (case aO => exact Z2_15)
                  (case aS => exact (below_size Z2_29))
                  (case aL => have := LMc40.out; omega)
                  intro v150 w55 ho hb hg hat
                  rw [← Ny149.out] at ho
                  have n0_ := Aside0.mk (Kd.R_after (ok := (fun k_ => some k_ ≠ (v154 : Value).ownBlock)) Z2_18 hg hat)
                  have n1_ := Aside0.mk Z2_4
                  have n2_ := Aside0.mk (hb)
                  have n3_ := Aside0.mk ((show Kd.C (Kd.int .i64) w55 Ao9 y145.length y145 from by rw [Ny145.out]; exact Kd.C_take (m := (x5_2 : Int).toNat) ((Kd.R_reads' (Kd.R_after (ok := (fun k_ => some k_ ≠ (v154 : Value).ownBlock)) Z2_18 hg hat)).2.2) KL49.out))
                  have n4_ := Aside0.mk ((show Kd.C (Kd.int .i64) w55 A50 y159.length y159 from by rw [Ny159.out, KA50.out]; exact Kd.C_drop (m := (x5_2 : Int).toNat) (c := co9) ((Kd.R_reads' (Kd.R_after (ok := (fun k_ => some k_ ≠ (v154 : Value).ownBlock)) Z2_18 hg hat)).2.2) KL50.out ((Kd.R_reads' (Kd.R_after (ok := (fun k_ => some k_ ≠ (v154 : Value).ownBlock)) Z2_18 hg hat)).2.1)))
                  have n5_ := Aside0.mk (ho)
                  clear HO_3
                  clear HO155
                  clear HB
                  clear HR148
                  clear HR162
                  clear HO144
                  have HO_3 := n0_
                  have HO155 := n1_
                  have HB := n2_
                  have HR148 := n3_
                  have HR162 := n4_
                  have HO151 := n5_
                  clear n0_ n1_ n2_ n3_ n4_ n5_
                  clear ho hb hg hat
                  refine hK.out _ _ (((HB.out.cell (World.block_lt_of_cell? w _ hw152_0)).trans hw152_0)) (fun hHeld => ?_)
                  clear hK K
                  refine norm_ (a' := ?_) ?_ ?_
                  rotate_left
                  · show Act.put _ (some 41) _ = _
                    simp only [Act.put, List.setIfInBounds_toArray, List.set_cons_zero, List.set_cons_succ, i64_w, i32_w]
                    rfl
                  exact norm_ Z2_38 (hCont (v143, v150, v154) _ ⟨hHeld, Z2_19, Z2_20, Z2_23, Z2_9, Z2_10, Z2_29⟩)
              · skip
                refine Kd.R_lit_step (Kd.int .i64) _ 3 ?hg (N := 46) ?hd (xs := ([rd l0 x4_1] : List Int)) (inner := [.int .i64 (rd l0 x4_1)]) (ok := fun _ => True) (okp := fun _ => True) ?hr ?hp (fun _ hk => hk) trivial (Below.refl _ _) (Nat.le_refl _) (by simp) ?_; (case hd => rfl); (case hg => rfl); (case hr => first | (go_simp; done) | (go_simp; rfl)); (case hp => exact (Reps.one (show Kd.M (Kd.int .i64) _ _ _ (rd l0 x4_1) [.int .i64 (rd l0 x4_1)] from rfl) (Reps.none _ _)))
                intro v154 w51 ho52 hb hg_ hnew_
                clear hg_ hnew_
                (first | rw [← Ny153.out] at ho52 | (simp only [Int.reduceToNat] at ho52; rw [← Ny153.out] at ho52))
                have n0_ := Aside0.mk Z2_25
                have n1_ := Aside0.mk Z2_1
                have n2_ := Aside0.mk Z2_5
                have n3_ := Aside0.mk Z2_6
                have n4_ := Aside0.mk Z2_13
                clear HO_3
                clear HR148
                clear HR162
                clear HB
                have HO_3 := n0_
                have HO155 := n1_
                have HR148 := n2_
                have HR162 := n3_
                have HB := n4_
                clear n0_ n1_ n2_ n3_ n4_
                clear hb ho52
                refine hK.out _ _ (((HB.out.cell (World.block_lt_of_cell? w _ hw152_0)).trans hw152_0)) (fun hHeld => ?_)
                clear hK K
                refine norm_ (a' := ?_) ?_ ?_
                rotate_left
                · show Act.put _ (some 46) _ = _
                  simp only [Act.put, List.setIfInBounds_toArray, List.set_cons_zero, List.set_cons_succ, i64_w, i32_w]
                  rfl
                refine one_ (i := 0) (N := some 37) (M2_16 15343) rfl rfl (one_of HT_.out (by kernel_rfl)) (by decide) (fun K hK => ?_)
                refine Kd.R_lit_step (Kd.int .i64) _ 3 ?hg (N := 37) ?hd (xs := ([] : List Int)) (inner := []) (ok := fun _ => True) (okp := fun _ => True) ?hr ?hp (fun _ hk => hk) trivial (Below.refl _ _) (Nat.le_refl _) (by simp) ?_; (case hd => rfl); (case hg => rfl); (case hr => first | (go_simp; done) | (go_simp; rfl)); (case hp => exact (Reps.none _ _))
                intro v143 w53 ho54 hb hg_ hnew_
                clear hg_ hnew_
                (first | rw [← Ny142.out] at ho54 | (simp only [Int.reduceToNat] at ho54; rw [← Ny142.out] at ho54))
                have n0_ := Aside0.mk Z2_26
                have n1_ := Aside0.mk (Kd.R_elder' Z2_33 (Kd.R_base ho54) hb)
                have n2_ := Aside0.mk (Kd.R_lower (Kd.R_new' (Kd.R_new' ho54 (Kd.R_lt Z2_37)) (Kd.R_lt Z2_33)) (below_size Z2_29))
                have n3_ := Aside0.mk Z2_5
                have n4_ := Aside0.mk Z2_6
                have n5_ := Aside0.mk Z2_13
                clear HO_3
                clear HO155
                clear HR148
                clear HR162
                clear HB
                have HO_3 := n0_
                have HO155 := n1_
                have HO144 := n2_
                have HR148 := n3_
                have HR162 := n4_
                have HB := n5_
                clear n0_ n1_ n2_ n3_ n4_ n5_
                clear hb ho54
                refine hK.out _ _ (((HB.out.cell (World.block_lt_of_cell? w _ hw152_0)).trans hw152_0)) (fun hHeld => ?_)
                clear hK K
                refine norm_ (a' := ?_) ?_ ?_
                rotate_left
                · show Act.put _ (some 37) _ = _
                  simp only [Act.put, List.setIfInBounds_toArray, List.set_cons_zero, List.set_cons_succ, i64_w, i32_w]
                  rfl
                refine one_ (i := 4) (N := some 41) (M2_16 15359) rfl rfl (one_of HT_.out (by kernel_rfl)) (by decide) (fun K hK => ?_)
                refine Kd.R_append_rows_step (Kd.int .i64) (w0 := w) w.heap.size (by rfl) (.tmp 37) (.tmp 40) 22 3 (.int .i64 0) 8 rfl Try.underlying22 info3 rfl (by decide) (by omega) v143 y142 y145 _ _ _ (fun k_ => some k_ ≠ (.slice Ao9 x3_1.length co9 : Value).ownBlock ∧ some k_ ≠ (v154 : Value).ownBlock) (fun _ => False) rfl rfl ?aO ?aR (fun _ _ h => h) (fun _ h => h.elim) ?aF ?aB ?aS ?aL ?_
                (case aR => repeat (first | exact Z2_9 | (with_reducible refine Kd.C_alloc ?_ _) | (with_reducible refine Kd.C_drewN ?_ _) | (with_reducible refine Kd.C_drew ?_)))
                (case aB => exact Z2_29)
                (case aF => exact (fun k_ hk => ⟨Kd.fresh' (Kd.R_lt Z2_37) k_ hk, Kd.fresh' (Kd.R_lt Z2_33) k_ hk⟩))
                (case aO => exact Z2_15)
                (case aS => exact (below_size Z2_29))
                (case aL => have := LMc40.out; omega)
                intro v150 w55 ho hb hg hat
                rw [← Ny149.out] at ho
                have n0_ := Aside0.mk (Kd.R_after (ok := (fun k_ => some k_ ≠ (v154 : Value).ownBlock)) Z2_17 hg hat)
                have n1_ := Aside0.mk Z2_4
                have n2_ := Aside0.mk (hb)
                have n3_ := Aside0.mk ((show Kd.C (Kd.int .i64) w55 Ao9 y145.length y145 from by rw [Ny145.out]; exact Kd.C_take (m := (x5_2 : Int).toNat) ((Kd.R_reads' (Kd.R_after (ok := (fun k_ => some k_ ≠ (v154 : Value).ownBlock)) Z2_17 hg hat)).2.2) KL49.out))
                have n4_ := Aside0.mk ((show Kd.C (Kd.int .i64) w55 A50 y159.length y159 from by rw [Ny159.out, KA50.out]; exact Kd.C_drop (m := (x5_2 : Int).toNat) (c := co9) ((Kd.R_reads' (Kd.R_after (ok := (fun k_ => some k_ ≠ (v154 : Value).ownBlock)) Z2_17 hg hat)).2.2) KL50.out ((Kd.R_reads' (Kd.R_after (ok := (fun k_ => some k_ ≠ (v154 : Value).ownBlock)) Z2_17 hg hat)).2.1)))
                have n5_ := Aside0.mk (ho)
                clear HO_3
                clear HO155
                clear HB
                clear HR148
                clear HR162
                clear HO144
                have HO_3 := n0_
                have HO155 := n1_
                have HB := n2_
                have HR148 := n3_
                have HR162 := n4_
                have HO151 := n5_
                clear n0_ n1_ n2_ n3_ n4_ n5_
                clear ho hb hg hat
                refine hK.out _ _ (((HB.out.cell (World.block_lt_of_cell? w _ hw152_0)).trans hw152_0)) (fun hHeld => ?_)
                clear hK K
                refine norm_ (a' := ?_) ?_ ?_
                rotate_left
                · show Act.put _ (some 41) _ = _
                  simp only [Act.put, List.setIfInBounds_toArray, List.set_cons_zero, List.set_cons_succ, i64_w, i32_w]
                  rfl
                exact norm_ Z2_38 (hCont (v143, v150, v154) _ ⟨hHeld, Z2_19, Z2_20, Z2_23, Z2_9, Z2_10, Z2_29⟩)
            rintro ⟨v143, v150, v154⟩ w56 ⟨hS_, h0_, h1_, h2_, h3_, h4_, h5_⟩
            have n0_ : Aside0 (Kd.R (Kd.int .i64) 3 w56 w.heap.size (fun k_ => some k_ ≠ (v154 : Value).ownBlock ∧ some k_ ≠ (.slice Ao9 x3_1.length co9 : Value).ownBlock) v150 y149) := ⟨h0_⟩
            have n1_ : Aside0 (Kd.R (Kd.int .i64) 3 w56 w.heap.size (fun k_ => some k_ ≠ (v150 : Value).ownBlock ∧ some k_ ≠ (.slice Ao9 x3_1.length co9 : Value).ownBlock) v154 y153) := ⟨h1_⟩
            have n2_ : Aside0 (Kd.R (Kd.int .i64) 3 w56 w.heap.size (fun k_ => some k_ ≠ (v150 : Value).ownBlock ∧ some k_ ≠ (v154 : Value).ownBlock) (.slice Ao9 x3_1.length co9) x3_1) := ⟨h2_⟩
            have n3_ : Aside0 (Kd.C (Kd.int .i64) w56 Ao9 y145.length y145) := ⟨h3_⟩
            have n4_ : Aside0 (Kd.C (Kd.int .i64) w56 A50 y159.length y159) := ⟨h4_⟩
            have n5_ : Aside0 (Below w.heap.size w w56) := ⟨h5_⟩
            clear HO_3
            clear HB
            clear h0_ h1_ h2_ h3_ h4_ h5_
            have HO151 := n0_
            have HO155 := n1_
            have HO_3 := n2_
            have HR148 := n3_
            have HR162 := n4_
            have HB := n5_
            clear n0_ n1_ n2_ n3_ n4_ n5_
            have hHeld : w56.cell? (ad114.add (x4_1).toNat) = some (.int .i64 (rd l0 x4_1)) := hS_
            obtain ⟨Ao58, co58, eo58⟩ := Kd.R_slice HO155.out
            (first | subst eo58 | (injection eo58 with f1_ f2_ f3_; have f4_ := f1_.symm; have f5_ := f3_.symm; clear f1_ f2_ f3_; subst f4_; subst f5_))
            refine norm_ (a' := ?_) ?_ ?_
            rotate_left
            · simp only [putAll, Act.put, List.setIfInBounds_toArray, List.set_cons_zero, List.set_cons_succ]
              rfl
            refine one_ (i := 10) (N := some 47) (M2_16 16383) rfl rfl (one_of HT_.out (by kernel_rfl)) (by decide) (fun K hK => ?_)
            refine Kd.R_append_rows_step (Kd.int .i64) (w0 := w) w.heap.size (by rfl) (.tmp 41) (.tmp 46) 22 3 (.int .i64 0) 8 rfl Try.underlying22 info3 rfl (by decide) (by omega) v150 y149 y153 _ _ _ (fun k_ => some k_ ≠ (.slice Ao9 x3_1.length co9 : Value).ownBlock ∧ some k_ ≠ (.slice Ao58 y153.length co58 : Value).ownBlock) (fun _ => False) rfl rfl ?aO ?aR (fun _ _ h => h) (fun _ h => h.elim) ?aF ?aB ?aS ?aL ?_
            (case aR => repeat (first | exact (Kd.R_reads' HO155.out).2.2 | (with_reducible refine Kd.C_alloc ?_ _) | (with_reducible refine Kd.C_drewN ?_ _) | (with_reducible refine Kd.C_drew ?_)))
            (case aB => exact Z2_29)
            (case aF => exact (fun k_ hk => ⟨Kd.fresh' (Kd.R_lt Z2_37) k_ hk, Kd.fresh' (Kd.R_lt Z2_33) k_ hk⟩))
            (case aO => exact Z2_19)
            (case aS => exact (below_size Z2_29))
            (case aL => have := LMc43.out; omega)
            intro v157 w57 ho hb hg hat
            rw [← Ny156.out] at ho
            have n0_ := Aside0.mk (Kd.R_after (ok := (fun k_ => some k_ ≠ (.slice Ao58 y153.length co58 : Value).ownBlock)) Z2_23 hg hat)
            have n1_ := Aside0.mk (Kd.R_after (ok := (fun k_ => some k_ ≠ (.slice Ao9 x3_1.length co9 : Value).ownBlock)) Z2_20 hg hat)
            have n2_ := Aside0.mk (hb)
            have n3_ := Aside0.mk ((show Kd.C (Kd.int .i64) w57 Ao9 y145.length y145 from by rw [Ny145.out]; exact Kd.C_take (m := (x5_2 : Int).toNat) ((Kd.R_reads' (Kd.R_after (ok := (fun k_ => some k_ ≠ (.slice Ao58 y153.length co58 : Value).ownBlock)) Z2_23 hg hat)).2.2) KL49.out))
            have n4_ := Aside0.mk ((show Kd.C (Kd.int .i64) w57 A50 y159.length y159 from by rw [Ny159.out, KA50.out]; exact Kd.C_drop (m := (x5_2 : Int).toNat) (c := co9) ((Kd.R_reads' (Kd.R_after (ok := (fun k_ => some k_ ≠ (.slice Ao58 y153.length co58 : Value).ownBlock)) Z2_23 hg hat)).2.2) KL50.out ((Kd.R_reads' (Kd.R_after (ok := (fun k_ => some k_ ≠ (.slice Ao58 y153.length co58 : Value).ownBlock)) Z2_23 hg hat)).2.1)))
            have n5_ := Aside0.mk (ho)
            clear HO_3
            clear HO155
            clear HB
            clear HR148
            clear HR162
            clear HO151
            have HO_3 := n0_
            have HO155 := n1_
            have HB := n2_
            have HR148 := n3_
            have HR162 := n4_
            have HO158 := n5_
            clear n0_ n1_ n2_ n3_ n4_ n5_
            clear ho hb hg hat
            refine hK.out _ _ (((HB.out.cell (World.block_lt_of_cell? w _ hw152_0)).trans hw152_0)) (fun hHeld => ?_)
            clear hK K
            refine norm_ (a' := ?_) ?_ ?_
            rotate_left
            · show Act.put _ (some 47) _ = _
              simp only [Act.put, List.setIfInBounds_toArray, List.set_cons_zero, List.set_cons_succ, i64_w, i32_w]
              rfl
            refine one_ (i := 14) (N := some 51) (M2_16 32767) rfl rfl (one_of HT_.out (by kernel_rfl)) (by decide) (fun K hK => ?_)
            refine Kd.R_append_rows_step (Kd.int .i64) (w0 := w) w.heap.size (by rfl) (.tmp 47) (.tmp 50) 22 3 (.int .i64 0) 8 rfl Try.underlying22 info3 rfl (by decide) (by omega) v157 y156 y159 _ _ _ (fun k_ => some k_ ≠ (.slice Ao9 x3_1.length co9 : Value).ownBlock ∧ some k_ ≠ (.slice Ao58 y153.length co58 : Value).ownBlock) (fun _ => False) rfl rfl ?aO ?aR (fun _ _ h => h) (fun _ h => h.elim) ?aF ?aB ?aS ?aL ?_
            (case aR => repeat (first | exact Z2_10 | (with_reducible refine Kd.C_alloc ?_ _) | (with_reducible refine Kd.C_drewN ?_ _) | (with_reducible refine Kd.C_drew ?_)))
            (case aB => exact Z2_29)
            (case aF => exact (fun k_ hk => ⟨Kd.fresh' (Kd.R_lt Z2_37) k_ hk, Kd.fresh' (Kd.R_lt Z2_33) k_ hk⟩))
            (case aO => exact (by (with_reducible repeat (first | apply Kd.R_alloc | apply Kd.R_drewN | apply Kd.R_drew)); exact HO158.out))
            (case aS => exact (below_size Z2_29))
            (case aL => have := LMc46.out; omega)
            intro v164 w59 ho hb hg hat
            rw [← Ny163.out] at ho
            have n0_ := Aside0.mk (Kd.R_after (ok := (fun k_ => some k_ ≠ (.slice Ao58 y153.length co58 : Value).ownBlock)) Z2_37 hg hat)
            have n1_ := Aside0.mk (Kd.R_after (ok := (fun k_ => some k_ ≠ (.slice Ao9 x3_1.length co9 : Value).ownBlock)) Z2_33 hg hat)
            have n2_ := Aside0.mk (hb)
            have n3_ := Aside0.mk ((show Kd.C (Kd.int .i64) w59 Ao9 y145.length y145 from by rw [Ny145.out]; exact Kd.C_take (m := (x5_2 : Int).toNat) ((Kd.R_reads' (Kd.R_after (ok := (fun k_ => some k_ ≠ (.slice Ao58 y153.length co58 : Value).ownBlock)) Z2_37 hg hat)).2.2) KL49.out))
            have n4_ := Aside0.mk ((show Kd.C (Kd.int .i64) w59 A50 y159.length y159 from by rw [Ny159.out, KA50.out]; exact Kd.C_drop (m := (x5_2 : Int).toNat) (c := co9) ((Kd.R_reads' (Kd.R_after (ok := (fun k_ => some k_ ≠ (.slice Ao58 y153.length co58 : Value).ownBlock)) Z2_37 hg hat)).2.2) KL50.out ((Kd.R_reads' (Kd.R_after (ok := (fun k_ => some k_ ≠ (.slice Ao58 y153.length co58 : Value).ownBlock)) Z2_37 hg hat)).2.1)))
            have n5_ := Aside0.mk (ho)
            clear HO_3
            clear HO155
            clear HB
            clear HR148
            clear HR162
            clear HO158
            have HO_3 := n0_
            have HO155 := n1_
            have HB := n2_
            have HR148 := n3_
            have HR162 := n4_
            have HO165 := n5_
            clear n0_ n1_ n2_ n3_ n4_ n5_
            clear ho hb hg hat
            refine hK.out _ _ (((HB.out.cell (World.block_lt_of_cell? w _ hw152_0)).trans hw152_0)) (fun hHeld => ?_)
            clear hK K
            refine norm_ (a' := ?_) ?_ ?_
            rotate_left
            · show Act.put _ (some 51) _ = _
              simp only [Act.put, List.setIfInBounds_toArray, List.set_cons_zero, List.set_cons_succ, i64_w, i32_w]
              rfl
            refine pure_ (i := 15) (N := some 3) (v := _) (a' := _) (M2_16 65535) rfl rfl (any_of HT_.out (by kernel_rfl)) (fun _ _ _ h => h) (Or.inl ⟨(by rfl), (by intro w'; go_simp; with_reducible rfl)⟩) Z2_30 ?_
            refine done_ (done_of HT_.out (by kernel_rfl)) ?_
            try go_wp2
            go_roundg k2
            case measure => have := HK1.out; have := HK2.out; omega
            case rel => exact ⟨(y163), (wrap64 (x4_1 + 1)), Z2_41, H', ⟨(by have := HK1.out; have := HK2.out; omega)⟩, ⟨(by (with_reducible repeat (first | apply Kd.R_alloc | apply Kd.R_drewN | apply Kd.R_drew)); exact Kd.R_mono HO165.out (fun _ hk => trivial))⟩, ⟨Z2_29⟩⟩
          rw [if_pos c10] at H
          have c10b0 : decide (0 < x5_2) = true := decide_eq_true c10
          clear c10
          obtain ⟨ji11, hji11⟩ : ∃ j_ : Int, (wrap64 (x5_2 - 1)) = j_ := ⟨_, rfl⟩
          replace H : (if 0 ≤ (ji11) then (if (ji11) < (x3_1.length : Int) then (if 0 ≤ x4_1 then (if x4_1 < (l0.length : Int) then (if (rd x3_1 (ji11)) > (rd l0 x4_1) then (spec_SetOf.l1 k2 l0 x3_1 x4_1 ji11) else ((some (([] : List Int) : List Int)).bind fun y118 => (if 0 ≤ x5_2 then (if x5_2 ≤ (x3_1.length : Int) then ((some (x3_1.take (x5_2 : Int).toNat : List Int)).bind fun y121 => (if y118.length + y121.length < 17592186044416 then ((some (y118 ++ y121 : List Int)).bind fun y125 => ((some (([rd l0 x4_1] : List Int) : List Int)).bind fun y129 => (if y125.length + y129.length < 17592186044416 then ((some (y125 ++ y129 : List Int)).bind fun y132 => ((some (x3_1.drop (x5_2 : Int).toNat : List Int)).bind fun y135 => (if y132.length + y135.length < 17592186044416 then (spec_SetOf.l0 k2 l0 (y132 ++ y135) (wrap64 (x4_1 + 1))) else (none)))) else (none)))) else (none))) else (none)) else (none)))) else (none)) else (none)) else (none)) else (none)) = some r := by first | (rw [hji11] at H; exact H) | (simp only [hji11] at H ⊢; exact H)
          have hji11w : (IntKind.i64.wrap (x5_2 - 1)) = ji11 := (i64_w _).trans hji11
          by_cases c12 : 0 ≤ (ji11)
          rotate_left
          · rw [if_neg c12] at H
            exact absurd H (by simp)
          rw [if_pos c12] at H
          have c12b0 : decide (0 ≤ (ji11)) = true := decide_eq_true c12
          clear c12
          by_cases c13 : (ji11) < (x3_1.length : Int)
          rotate_left
          · rw [if_neg c13] at H
            exact absurd H (by simp)
          rw [if_pos c13] at H
          have c13b0 : decide ((ji11) < (x3_1.length : Int)) = true := decide_eq_true c13
          clear c13
          by_cases c14 : 0 ≤ x4_1
          rotate_left
          · rw [if_neg c14] at H
            exact absurd H (by simp)
          rw [if_pos c14] at H
          have c14b0 : decide (0 ≤ x4_1) = true := decide_eq_true c14
          clear c14
          by_cases c15 : x4_1 < (l0.length : Int)
          rotate_left
          · rw [if_neg c15] at H
            exact absurd H (by simp)
          rw [if_pos c15] at H
          have c15b0 : decide (x4_1 < (l0.length : Int)) = true := decide_eq_true c15
          clear c15
          by_cases c16 : (rd x3_1 (ji11)) > (rd l0 x4_1)
          · rw [if_pos c16] at H
            have c16b0 : decide ((rd l0 x4_1) < (rd x3_1 (ji11))) = true := decide_eq_true c16
            clear c16
            have H' := Aside0.mk H
            clear H
            try go_wp2
            have n0_ := Aside0.mk (Kd.R_drew HO_3.out)
            have n1_ := Aside0.mk (below_drew1 HB.out)
            clear HO_3
            clear HB
            have HO_3 := n0_
            have HB := n1_
            clear n0_ n1_
            have p116 : 0 ≤ ((ji11) : Int) := of_decide_eq_true Z2_39
            have q116 : (ji11) < (x3_1.length : Int) := of_decide_eq_true Z2_39
            obtain ⟨ad116, e116, hx116_0⟩ := Kd.at_int (Kd.R_reads' HO_3.out).2.2 (ji11) p116 q116
            cases e116
            replace p116 := eq_true p116
            replace q116 := eq_true q116
            have p117 : 0 ≤ (x4_1 : Int) := of_decide_eq_true Z2_39
            have q117 : x4_1 < (l0.length : Int) := of_decide_eq_true Z2_39
            obtain ⟨ad117, e117, hx117_0⟩ := Kd.at_int HR0.out x4_1 p117 q117
            have hw117_0 := hx117_0
            obtain rfl : ad114 = ad117 := (by injection e117)
            replace hx117_0 := (HB.out.cell (World.block_lt_of_cell? w _ hx117_0)).trans hx117_0
            replace p117 := eq_true p117
            replace q117 := eq_true q117
            refine start_ (n := 14) (S := fun w' => w'.cell? (ad116.add ((ji11)).toNat) = some (.int .i64 (rd x3_1 (ji11))) ∧ w'.cell? (ad114.add (x4_1).toNat) = some (.int .i64 (rd l0 x4_1))) (ds := []) #[false, false, false, false, false, false, false, false, false, false, false, false, false, false] (by kernel_rfl) rfl rfl ⟨hx116_0, ((HB.out.cell (World.block_lt_of_cell? w _ hw117_0)).trans hw117_0)⟩ (fun hHeld => ?_); refine with_tabW spec_SetOf.tab7 spec_SetOf.bits7 (fun HT_ HW_ => ?_)
            generalize wr.drew = w17 at HO_3 HB hx116_0 hx117_0 hHeld ⊢
            refine pure_ (i := 0) (N := some 21) (v := _) (a' := _) (M2_14 1) rfl rfl (any_of HT_.out (by kernel_rfl)) (fun _ _ _ h => h) (Or.inl ⟨(by rfl), (by intro w'; go_simp; with_reducible rfl)⟩) Z2_30 ?_
            refine pure_ (i := 1) (N := some 22) (v := _) (a' := _) (M2_14 3) rfl rfl (any_of HT_.out (by kernel_rfl)) (fun _ _ _ h => h) (Or.inl ⟨(by rfl), (by intro w'; go_simp; with_reducible rfl)⟩) Z2_30 ?_
            refine pure_ (i := 2) (N := some 23) (v := _) (a' := _) (M2_14 7) rfl rfl (any_of HT_.out (by kernel_rfl)) (fun _ _ _ h => h) (Or.inl ⟨(by rfl), (by intro w'; go_simp; with_reducible rfl)⟩) Z2_30 ?_
            refine pure_ (i := 3) (N := some 24) (v := _) (a' := _) (M2_14 15) rfl rfl (any_of HT_.out (by kernel_rfl)) (fun _ _ _ h => h) (Or.inl ⟨(by rfl), (by intro w'; go_simp; with_reducible rfl)⟩) Z2_30 ?_
            refine pure_ (i := 4) (N := some 25) (v := _) (a' := _) (M2_14 31) rfl rfl (any_of HT_.out (by kernel_rfl)) (fun _ _ _ h => h) (Or.inl ⟨(by rfl), (by intro w'; go_simp; with_reducible rfl)⟩) Z2_30 ?_
            refine pure_ (i := 5) (N := some 26) (v := _) (a' := _) (M2_14 63) rfl rfl (any_of HT_.out (by kernel_rfl)) (fun _ _ _ h => h) (Or.inl ⟨(by rfl), (by intro w'; go_simp; with_reducible rfl)⟩) Z2_30 ?_
            refine pure_ (i := 6) (N := some 27) (v := _) (a' := _) (M2_14 127) rfl rfl (any_of HT_.out (by kernel_rfl)) (fun _ _ _ h => h) (Or.inl ⟨(by rfl), (by intro w'; go_simp; with_reducible rfl)⟩) Z2_30 ?_
            refine pure_ (i := 8) (N := some 29) (v := _) (a' := _) (M2_14 383) rfl rfl (any_of HT_.out (by kernel_rfl)) (fun _ _ _ h => h) (Or.inl ⟨(by rfl), (by intro w'; go_simp; with_reducible rfl)⟩) Z2_30 ?_
            refine pure_ (i := 9) (N := some 30) (v := _) (a' := _) (M2_14 895) rfl rfl (any_of HT_.out (by kernel_rfl)) (fun _ _ _ h => h) (Or.inl ⟨(by rfl), (by intro w'; go_simp; with_reducible rfl)⟩) Z2_30 ?_
            refine pure_ (i := 10) (N := some 31) (v := _) (a' := _) (M2_14 1919) rfl rfl (any_of HT_.out (by kernel_rfl)) (fun _ _ _ h => h) (Or.inl ⟨(by rfl), (by intro w'; go_simp; with_reducible rfl)⟩) Z2_30 ?_
            refine take_ (i := 7) (N := some 28) (v := ?_) (a' := ?_) (M2_14 2047) rfl rfl (take_ofW HT_.out HW_.out (by kernel_rfl)) (fun _ _ _ h => h) (Or.inl ⟨(by rfl), ?_⟩) hHeld ?_ ?_
            rotate_left
            · rintro w' ⟨s0, s1⟩
              go_simp
              with_reducible rfl
            rotate_left
            · simp only [Act.put, List.setIfInBounds_toArray, List.set_cons_zero, List.set_cons_succ, i64_w, i32_w]
              rfl
            refine take_ (i := 11) (N := some 32) (v := ?_) (a' := ?_) (M2_14 4095) rfl rfl (take_ofW HT_.out HW_.out (by kernel_rfl)) (fun _ _ _ h => h) (Or.inl ⟨(by rfl), ?_⟩) hHeld ?_ ?_
            rotate_left
            · rintro w' ⟨s0, s1⟩
              go_simp
              with_reducible rfl
            rotate_left
            · simp only [Act.put, List.setIfInBounds_toArray, List.set_cons_zero, List.set_cons_succ, i64_w, i32_w]
              rfl
            refine pure_ (i := 12) (N := some 33) (v := _) (a' := _) (M2_14 8191) rfl rfl (any_of HT_.out (by kernel_rfl)) (fun _ _ _ h => h) (Or.inl ⟨(by rfl), (by intro w'; go_simp; with_reducible rfl)⟩) Z2_30 ?_
            refine pure_ (i := 13) (N := some 34) (v := _) (a' := _) (M2_14 16383) rfl rfl (any_of HT_.out (by kernel_rfl)) (fun _ _ _ h => h) (Or.inl ⟨(by rfl), (by intro w'; go_simp; with_reducible rfl)⟩) Z2_30 ?_
            refine done_ (done_of HT_.out (by kernel_rfl)) ?_
            try go_wp2
            go_roundg k2
            case measure => have := HK1.out; have := HK2.out; omega
            case rel => exact ⟨(ji11), (by first | rfl | (simp; done) | (simp only [← hji11] <;> (first | rfl | simp)) | (simp [*]; done)), H', ⟨(by have := HK1.out; have := HK2.out; omega)⟩, ⟨Z2_37⟩, ⟨Z2_29⟩⟩
          rw [if_neg c16] at H
          have c16b0 : decide ((rd l0 x4_1) < (rd x3_1 (ji11))) = false := decide_eq_false c16
          clear c16
          obtain ⟨y118, hy118⟩ : ∃ y_ : List Int, y_ = (([] : List Int)) := ⟨_, rfl⟩
          replace H : (if 0 ≤ x5_2 then (if x5_2 ≤ (x3_1.length : Int) then ((some (x3_1.take (x5_2 : Int).toNat : List Int)).bind fun y121 => (if y118.length + y121.length < 17592186044416 then ((some (y118 ++ y121 : List Int)).bind fun y125 => ((some (([rd l0 x4_1] : List Int) : List Int)).bind fun y129 => (if y125.length + y129.length < 17592186044416 then ((some (y125 ++ y129 : List Int)).bind fun y132 => ((some (x3_1.drop (x5_2 : Int).toNat : List Int)).bind fun y135 => (if y132.length + y135.length < 17592186044416 then (spec_SetOf.l0 k2 l0 (y132 ++ y135) (wrap64 (x4_1 + 1))) else (none)))) else (none)))) else (none))) else (none)) else (none)) = some r := by first | (rw [hy118]; with_reducible exact H) | (have H2_ := (Option.bind_some _ _).symm.trans H; rw [hy118]; with_reducible exact H2_) | (have H2_ := (Option.bind_some _ _).symm.trans H; with_reducible exact H2_) | with_reducible exact H | (rw [hy118]; exact H) | exact H
          have Ny118 := Aside0.mk hy118
          clear hy118
          by_cases c18 : 0 ≤ x5_2
          rotate_left
          · rw [if_neg c18] at H
            exact absurd H (by simp)
          rw [if_pos c18] at H
          have c18b0 := eq_true c18
          have c18b1 : decide (0 ≤ x5_2) = true := decide_eq_true c18
          clear c18
          by_cases c19 : x5_2 ≤ (x3_1.length : Int)
          rotate_left
          · rw [if_neg c19] at H
            exact absurd H (by simp)
          rw [if_pos c19] at H
          have c19b0 := eq_true c19
          have c19b1 : decide (x5_2 ≤ (x3_1.length : Int)) = true := decide_eq_true c19
          clear c19
          obtain ⟨y121, hy121⟩ : ∃ y_ : List Int, y_ = (x3_1.take (x5_2 : Int).toNat) := ⟨_, rfl⟩
          replace H : (if y118.length + y121.length < 17592186044416 then ((some (y118 ++ y121 : List Int)).bind fun y125 => ((some (([rd l0 x4_1] : List Int) : List Int)).bind fun y129 => (if y125.length + y129.length < 17592186044416 then ((some (y125 ++ y129 : List Int)).bind fun y132 => ((some (x3_1.drop (x5_2 : Int).toNat : List Int)).bind fun y135 => (if y132.length + y135.length < 17592186044416 then (spec_SetOf.l0 k2 l0 (y132 ++ y135) (wrap64 (x4_1 + 1))) else (none)))) else (none)))) else (none)) = some r := by first | (rw [hy121]; with_reducible exact H) | (have H2_ := (Option.bind_some _ _).symm.trans H; rw [hy121]; with_reducible exact H2_) | (have H2_ := (Option.bind_some _ _).symm.trans H; with_reducible exact H2_) | with_reducible exact H | (rw [hy121]; exact H) | exact H
          have Ny121 := Aside0.mk hy121
          clear hy121
          by_cases c20 : y118.length + y121.length < 17592186044416
          rotate_left
          · rw [if_neg c20] at H
            exact absurd H (by simp)
          rw [if_pos c20] at H
          have LMc20 := Aside0.mk c20
          clear c20
          obtain ⟨y125, hy125⟩ : ∃ y_ : List Int, y_ = (y118 ++ y121) := ⟨_, rfl⟩
          replace H : ((some (([rd l0 x4_1] : List Int) : List Int)).bind fun y129 => (if y125.length + y129.length < 17592186044416 then ((some (y125 ++ y129 : List Int)).bind fun y132 => ((some (x3_1.drop (x5_2 : Int).toNat : List Int)).bind fun y135 => (if y132.length + y135.length < 17592186044416 then (spec_SetOf.l0 k2 l0 (y132 ++ y135) (wrap64 (x4_1 + 1))) else (none)))) else (none))) = some r := by first | (rw [hy125]; with_reducible exact H) | (have H2_ := (Option.bind_some _ _).symm.trans H; rw [hy125]; with_reducible exact H2_) | (have H2_ := (Option.bind_some _ _).symm.trans H; with_reducible exact H2_) | with_reducible exact H | (rw [hy125]; exact H) | exact H
          have Ny125 := Aside0.mk hy125
          clear hy125
          obtain ⟨y129, hy129⟩ : ∃ y_ : List Int, y_ = (([rd l0 x4_1] : List Int)) := ⟨_, rfl⟩
          replace H : (if y125.length + y129.length < 17592186044416 then ((some (y125 ++ y129 : List Int)).bind fun y132 => ((some (x3_1.drop (x5_2 : Int).toNat : List Int)).bind fun y135 => (if y132.length + y135.length < 17592186044416 then (spec_SetOf.l0 k2 l0 (y132 ++ y135) (wrap64 (x4_1 + 1))) else (none)))) else (none)) = some r := by first | (rw [hy129]; with_reducible exact H) | (have H2_ := (Option.bind_some _ _).symm.trans H; rw [hy129]; with_reducible exact H2_) | (have H2_ := (Option.bind_some _ _).symm.trans H; with_reducible exact H2_) | with_reducible exact H | (rw [hy129]; exact H) | exact H
          have Ny129 := Aside0.mk hy129
          clear hy129
          by_cases c21 : y125.length + y129.length < 17592186044416
          rotate_left
          · rw [if_neg c21] at H
            exact absurd H (by simp)
          rw [if_pos c21] at H
          have LMc21 := Aside0.mk c21
          clear c21
          obtain ⟨y132, hy132⟩ : ∃ y_ : List Int, y_ = (y125 ++ y129) := ⟨_, rfl⟩
          replace H : ((some (x3_1.drop (x5_2 : Int).toNat : List Int)).bind fun y135 => (if y132.length + y135.length < 17592186044416 then (spec_SetOf.l0 k2 l0 (y132 ++ y135) (wrap64 (x4_1 + 1))) else (none))) = some r := by first | (rw [hy132]; with_reducible exact H) | (have H2_ := (Option.bind_some _ _).symm.trans H; rw [hy132]; with_reducible exact H2_) | (have H2_ := (Option.bind_some _ _).symm.trans H; with_reducible exact H2_) | with_reducible exact H | (rw [hy132]; exact H) | exact H
          have Ny132 := Aside0.mk hy132
          clear hy132
          have c22b0 := eq_true (of_decide_eq_true Z2_39 : 0 ≤ x5_2)
          have c23b0 := eq_true (of_decide_eq_true Z2_39 : x5_2 ≤ (x3_1.length : Int))
          obtain ⟨y135, hy135⟩ : ∃ y_ : List Int, y_ = (x3_1.drop (x5_2 : Int).toNat) := ⟨_, rfl⟩
          replace H : (if y132.length + y135.length < 17592186044416 then (spec_SetOf.l0 k2 l0 (y132 ++ y135) (wrap64 (x4_1 + 1))) else (none)) = some r := by first | (rw [hy135]; with_reducible exact H) | (have H2_ := (Option.bind_some _ _).symm.trans H; rw [hy135]; with_reducible exact H2_) | (have H2_ := (Option.bind_some _ _).symm.trans H; with_reducible exact H2_) | with_reducible exact H | (rw [hy135]; exact H) | exact H
          have Ny135 := Aside0.mk hy135
          clear hy135
          by_cases c24 : y132.length + y135.length < 17592186044416
          rotate_left
          · rw [if_neg c24] at H
            exact absurd H (by simp)
          rw [if_pos c24] at H
          have LMc24 := Aside0.mk c24
          clear c24
          obtain ⟨y139, hy139⟩ : ∃ y_ : List Int, y_ = (y132 ++ y135) := ⟨_, rfl⟩
          replace H : (spec_SetOf.l0 k2 l0 y139 (wrap64 (x4_1 + 1))) = some r := by first | (rw [hy139]; with_reducible exact H) | (have H2_ := (Option.bind_some _ _).symm.trans H; rw [hy139]; with_reducible exact H2_) | (have H2_ := (Option.bind_some _ _).symm.trans H; with_reducible exact H2_) | with_reducible exact H | (rw [hy139]; exact H) | exact H
          have Ny139 := Aside0.mk hy139
          clear hy139
          have H' := Aside0.mk H
          clear H
          try go_wp2
          have n0_ := Aside0.mk (Kd.R_drew HO_3.out)
          have n1_ := Aside0.mk (below_drew1 HB.out)
          clear HO_3
          clear HB
          have HO_3 := n0_
          have HB := n1_
          clear n0_ n1_
          have p116 : 0 ≤ ((ji11) : Int) := of_decide_eq_true Z2_39
          have q116 : (ji11) < (x3_1.length : Int) := of_decide_eq_true Z2_39
          obtain ⟨ad116, e116, hx116_0⟩ := Kd.at_int (Kd.R_reads' HO_3.out).2.2 (ji11) p116 q116
          cases e116
          replace p116 := eq_true p116
          replace q116 := eq_true q116
          have p117 : 0 ≤ (x4_1 : Int) := of_decide_eq_true Z2_39
          have q117 : x4_1 < (l0.length : Int) := of_decide_eq_true Z2_39
          obtain ⟨ad117, e117, hx117_0⟩ := Kd.at_int HR0.out x4_1 p117 q117
          have hw117_0 := hx117_0
          obtain rfl : ad114 = ad117 := (by injection e117)
          replace hx117_0 := (HB.out.cell (World.block_lt_of_cell? w _ hx117_0)).trans hx117_0
          replace p117 := eq_true p117
          replace q117 := eq_true q117
          refine start_ (n := 14) (S := fun w' => w'.cell? (ad116.add ((ji11)).toNat) = some (.int .i64 (rd x3_1 (ji11))) ∧ w'.cell? (ad114.add (x4_1).toNat) = some (.int .i64 (rd l0 x4_1))) (ds := []) #[false, false, false, false, false, false, false, false, false, false, false, false, false, false] (by kernel_rfl) rfl rfl ⟨hx116_0, ((HB.out.cell (World.block_lt_of_cell? w _ hw117_0)).trans hw117_0)⟩ (fun hHeld => ?_); refine with_tabW spec_SetOf.tab7 spec_SetOf.bits7 (fun HT_ HW_ => ?_)
          generalize wr.drew = w25 at HO_3 HB hx116_0 hx117_0 hHeld ⊢
          refine pure_ (i := 0) (N := some 21) (v := _) (a' := _) (M2_14 1) rfl rfl (any_of HT_.out (by kernel_rfl)) (fun _ _ _ h => h) (Or.inl ⟨(by rfl), (by intro w'; go_simp; with_reducible rfl)⟩) Z2_30 ?_
          refine pure_ (i := 1) (N := some 22) (v := _) (a' := _) (M2_14 3) rfl rfl (any_of HT_.out (by kernel_rfl)) (fun _ _ _ h => h) (Or.inl ⟨(by rfl), (by intro w'; go_simp; with_reducible rfl)⟩) Z2_30 ?_
          refine pure_ (i := 2) (N := some 23) (v := _) (a' := _) (M2_14 7) rfl rfl (any_of HT_.out (by kernel_rfl)) (fun _ _ _ h => h) (Or.inl ⟨(by rfl), (by intro w'; go_simp; with_reducible rfl)⟩) Z2_30 ?_
          refine pure_ (i := 3) (N := some 24) (v := _) (a' := _) (M2_14 15) rfl rfl (any_of HT_.out (by kernel_rfl)) (fun _ _ _ h => h) (Or.inl ⟨(by rfl), (by intro w'; go_simp; with_reducible rfl)⟩) Z2_30 ?_
          refine pure_ (i := 4) (N := some 25) (v := _) (a' := _) (M2_14 31) rfl rfl (any_of HT_.out (by kernel_rfl)) (fun _ _ _ h => h) (Or.inl ⟨(by rfl), (by intro w'; go_simp; with_reducible rfl)⟩) Z2_30 ?_
          refine pure_ (i := 5) (N := some 26) (v := _) (a' := _) (M2_14 63) rfl rfl (any_of HT_.out (by kernel_rfl)) (fun _ _ _ h => h) (Or.inl ⟨(by rfl), (by intro w'; go_simp; with_reducible rfl)⟩) Z2_30 ?_
          refine pure_ (i := 6) (N := some 27) (v := _) (a' := _) (M2_14 127) rfl rfl (any_of HT_.out (by kernel_rfl)) (fun _ _ _ h => h) (Or.inl ⟨(by rfl), (by intro w'; go_simp; with_reducible rfl)⟩) Z2_30 ?_
          refine pure_ (i := 8) (N := some 29) (v := _) (a' := _) (M2_14 383) rfl rfl (any_of HT_.out (by kernel_rfl)) (fun _ _ _ h => h) (Or.inl ⟨(by rfl), (by intro w'; go_simp; with_reducible rfl)⟩) Z2_30 ?_
          refine pure_ (i := 9) (N := some 30) (v := _) (a' := _) (M2_14 895) rfl rfl (any_of HT_.out (by kernel_rfl)) (fun _ _ _ h => h) (Or.inl ⟨(by rfl), (by intro w'; go_simp; with_reducible rfl)⟩) Z2_30 ?_
          refine pure_ (i := 10) (N := some 31) (v := _) (a' := _) (M2_14 1919) rfl rfl (any_of HT_.out (by kernel_rfl)) (fun _ _ _ h => h) (Or.inl ⟨(by rfl), (by intro w'; go_simp; with_reducible rfl)⟩) Z2_30 ?_
          refine take_ (i := 7) (N := some 28) (v := ?_) (a' := ?_) (M2_14 2047) rfl rfl (take_ofW HT_.out HW_.out (by kernel_rfl)) (fun _ _ _ h => h) (Or.inl ⟨(by rfl), ?_⟩) hHeld ?_ ?_
          rotate_left
          · rintro w' ⟨s0, s1⟩
            go_simp
            with_reducible rfl
          rotate_left
          · simp only [Act.put, List.setIfInBounds_toArray, List.set_cons_zero, List.set_cons_succ, i64_w, i32_w]
            rfl
          refine take_ (i := 11) (N := some 32) (v := ?_) (a' := ?_) (M2_14 4095) rfl rfl (take_ofW HT_.out HW_.out (by kernel_rfl)) (fun _ _ _ h => h) (Or.inl ⟨(by rfl), ?_⟩) hHeld ?_ ?_
          rotate_left
          · rintro w' ⟨s0, s1⟩
            go_simp
            with_reducible rfl
          rotate_left
          · simp only [Act.put, List.setIfInBounds_toArray, List.set_cons_zero, List.set_cons_succ, i64_w, i32_w]
            rfl
          refine pure_ (i := 12) (N := some 33) (v := _) (a' := _) (M2_14 8191) rfl rfl (any_of HT_.out (by kernel_rfl)) (fun _ _ _ h => h) (Or.inl ⟨(by rfl), (by intro w'; go_simp; with_reducible rfl)⟩) Z2_30 ?_
          refine pure_ (i := 13) (N := some 34) (v := _) (a' := _) (M2_14 16383) rfl rfl (any_of HT_.out (by kernel_rfl)) (fun _ _ _ h => h) (Or.inl ⟨(by rfl), (by intro w'; go_simp; with_reducible rfl)⟩) Z2_30 ?_
          refine done_ (done_of HT_.out (by kernel_rfl)) ?_
          try go_wp2
          have n0_ := Aside0.mk (Kd.R_drew HO_3.out)
          have n1_ := Aside0.mk (below_drew1 HB.out)
          clear HO_3
          clear HB
          have HO_3 := n0_
          have HB := n1_
          clear n0_ n1_
          have q27 : (x5_2 : Int) ≤ ((x3_1.length : Int) : Int) := of_decide_eq_true Z2_39
          obtain ⟨i027, hi027, _, hsz27, _⟩ := info_parts info3
          have hroom27 : x3_1.length ≤ co9 := (Kd.R_reads' HO_3.out).2.1
          have hC27 : Kd.C (Kd.int .i64) _ (some ad116) x3_1.length x3_1 := (Kd.R_reads' HO_3.out).2.2
          have hcut27 := cut_to (P := Try.prog) 22 3 .i64 Try.underlying22 hi027 (some ad116) x3_1.length co9 x5_2 (of_decide_eq_true Z2_39) q27 hroom27
          have hr27 := Kd.C_take (m := (x5_2 : Int).toNat) hC27 (by omega)
          have hy27 : y121.length = (x5_2 : Int).toNat := (by rw [Ny121.out, List.length_take]; omega)
          rw [← Ny121.out] at hr27
          rw [← hy27] at hcut27
          have HR124 := Aside0.mk hr27
          have HC124 := Aside0.mk (show y121.length ≤ co9 from by omega)
          clear hr27 hC27 hroom27 hi027 hsz27
          have KY27 := Aside0.mk hy27
          clear hy27
          have KL27 := Aside0.mk Z2_40
          replace q27 := eq_true q27
          have p128 : 0 ≤ (x4_1 : Int) := of_decide_eq_true Z2_39
          have q128 : x4_1 < (l0.length : Int) := of_decide_eq_true Z2_39
          obtain ⟨ad128, e128, hx128_0⟩ := Kd.at_int HR0.out x4_1 p128 q128
          have hw128_0 := hx128_0
          obtain rfl : ad114 = ad128 := (by injection e128)
          replace hx128_0 := (HB.out.cell (World.block_lt_of_cell? w _ hx128_0)).trans hx128_0
          replace p128 := eq_true p128
          replace q128 := eq_true q128
          have q28 : (x5_2 : Int) ≤ ((x3_1.length : Int) : Int) := of_decide_eq_true Z2_39
          obtain ⟨i028, hi028, _, hsz28, _⟩ := info_parts info3
          have hroom28 : x3_1.length ≤ co9 := (Kd.R_reads' HO_3.out).2.1
          have hC28 : Kd.C (Kd.int .i64) _ (some ad116) x3_1.length x3_1 := (Kd.R_reads' HO_3.out).2.2
          have q028 : (0 : Int) ≤ (x5_2 : Int) := of_decide_eq_true Z2_39
          have hcut28 := cut_from (P := Try.prog) 22 3 .i64 Try.underlying22 hi028 1 hsz28 (some ad116) x3_1.length co9 x5_2 q028 q28
          have hr28 := Kd.C_drop (m := (x5_2 : Int).toNat) (c := co9) hC28 (by omega) hroom28
          obtain ⟨A28, hA28⟩ : ∃ A1, A1 = (if co9 = (x5_2 : Int).toNat then (some ad116) else ((some ad116) : Option Addr).map (·.add ((x5_2 : Int).toNat * 1))) := ⟨_, rfl⟩
          obtain ⟨c28, hc28⟩ : ∃ c1, c1 = co9 - (x5_2 : Int).toNat := ⟨_, rfl⟩
          have hy28 : y135.length = x3_1.length - (x5_2 : Int).toNat := (by rw [Ny135.out, List.length_drop] <;> omega)
          rw [show (x3_1).drop (x5_2 : Int).toNat = y135 from Ny135.out.symm] at hr28
          replace hr28 : Kd.C (Kd.int .i64) _ A28 y135.length y135 := (by rw [hA28]; exact hr28)
          rw [← hy28, ← hA28, ← hc28] at hcut28
          have HR138 := Aside0.mk hr28
          have HC138 := Aside0.mk (show y135.length ≤ c28 from by rw [hy28, hc28]; exact Nat.sub_le_sub_right hroom28 _)
          clear hr28 hC28 hroom28 hi028 hsz28 hc28
          have KY28 := Aside0.mk hy28
          have KA28 := Aside0.mk hA28
          clear hy28 hA28
          have KL28 := Aside0.mk Z2_40
          replace q28 := eq_true q28
          refine start_ (n := 16) (S := fun w' => w'.cell? (ad114.add (x4_1).toNat) = some (.int .i64 (rd l0 x4_1))) (ds := []) #[false, false, false, false, false, false, false, false, false, false, false, false, false, false, false, false] (by kernel_rfl) rfl rfl (((HB.out.cell (World.block_lt_of_cell? w _ hw128_0)).trans hw128_0)) (fun hHeld => ?_); refine with_tabW spec_SetOf.tab9 spec_SetOf.bits9 (fun HT_ HW_ => ?_)
          generalize w25.drew = w26 at HO_3 HB HR124 HR138 hx128_0 hHeld ⊢
          refine pure_ (i := 1) (N := some 38) (v := _) (a' := _) (M2_16 2) rfl rfl (any_of HT_.out (by kernel_rfl)) (fun _ _ _ h => h) (Or.inl ⟨(by rfl), (by intro w'; go_simp; with_reducible rfl)⟩) Z2_30 ?_
          refine pure_ (i := 2) (N := some 39) (v := _) (a' := _) (M2_16 6) rfl rfl (any_of HT_.out (by kernel_rfl)) (fun _ _ _ h => h) (Or.inl ⟨(by rfl), (by intro w'; go_simp; with_reducible rfl)⟩) Z2_30 ?_
          refine pure_ (i := 3) (N := some 40) (v := _) (a' := _) (M2_16 14) rfl rfl (any_of HT_.out (by kernel_rfl)) (fun _ _ _ h => h) (Or.inl ⟨(by rfl), (by intro w'; go_simp; with_reducible rfl)⟩) Z2_30 ?_
          refine pure_ (i := 5) (N := some 42) (v := _) (a' := _) (M2_16 46) rfl rfl (any_of HT_.out (by kernel_rfl)) (fun _ _ _ h => h) (Or.inl ⟨(by rfl), (by intro w'; go_simp; with_reducible rfl)⟩) Z2_30 ?_
          refine pure_ (i := 6) (N := some 43) (v := _) (a' := _) (M2_16 110) rfl rfl (any_of HT_.out (by kernel_rfl)) (fun _ _ _ h => h) (Or.inl ⟨(by rfl), (by intro w'; go_simp; with_reducible rfl)⟩) Z2_30 ?_
          refine pure_ (i := 7) (N := some 44) (v := _) (a' := _) (M2_16 238) rfl rfl (any_of HT_.out (by kernel_rfl)) (fun _ _ _ h => h) (Or.inl ⟨(by rfl), (by intro w'; go_simp; with_reducible rfl)⟩) Z2_30 ?_
          refine pure_ (i := 11) (N := some 48) (v := _) (a' := _) (M2_16 2286) rfl rfl (any_of HT_.out (by kernel_rfl)) (fun _ _ _ h => h) (Or.inl ⟨(by rfl), (by intro w'; go_simp; with_reducible rfl)⟩) Z2_30 ?_
          refine pure_ (i := 12) (N := some 49) (v := _) (a' := _) (M2_16 6382) rfl rfl (any_of HT_.out (by kernel_rfl)) (fun _ _ _ h => h) (Or.inl ⟨(by rfl), (by intro w'; go_simp; with_reducible rfl)⟩) Z2_30 ?_
          refine pure_ (i := 13) (N := some 50) (v := _) (a' := _) (M2_16 14574) rfl rfl (any_of HT_.out (by kernel_rfl)) (fun _ _ _ h => h) (Or.inl ⟨(by rfl), (by intro w'; go_simp; with_reducible rfl)⟩) Z2_30 ?_
          refine take_ (i := 8) (N := some 45) (v := ?_) (a' := ?_) (M2_16 14830) rfl rfl (take_ofW HT_.out HW_.out (by kernel_rfl)) (fun _ _ _ h => h) (Or.inl ⟨(by rfl), ?_⟩) hHeld ?_ ?_
          rotate_left
          · intro w' s0
            go_simp
            with_reducible rfl
          rotate_left
          · simp only [Act.put, List.setIfInBounds_toArray, List.set_cons_zero, List.set_cons_succ, i64_w, i32_w]
            rfl
          refine join_ (σ := Value × Value × Value) 3 (M2_16 15359) (fun s_ => [(37, s_.1), (41, s_.2.1), (46, s_.2.2)]) (fun s_ w' => (w'.cell? (ad114.add (x4_1).toNat) = some (.int .i64 (rd l0 x4_1))) ∧ (Kd.R (Kd.int .i64) 3 w' w.heap.size (fun k_ => some k_ ≠ (s_.2.2 : Value).ownBlock ∧ some k_ ≠ (.slice (some ad116) x3_1.length co9 : Value).ownBlock) s_.2.1 y125) ∧ (Kd.R (Kd.int .i64) 3 w' w.heap.size (fun k_ => some k_ ≠ (s_.2.1 : Value).ownBlock ∧ some k_ ≠ (.slice (some ad116) x3_1.length co9 : Value).ownBlock) s_.2.2 y129) ∧ (Kd.R (Kd.int .i64) 3 w' w.heap.size (fun k_ => some k_ ≠ (s_.2.1 : Value).ownBlock ∧ some k_ ≠ (s_.2.2 : Value).ownBlock) (.slice (some ad116) x3_1.length co9) x3_1) ∧ (Kd.C (Kd.int .i64) w' (some ad116) y121.length y121) ∧ (Kd.C (Kd.int .i64) w' A28 y135.length y135) ∧ (Below w.heap.size w w')) ?_ ?_
          rotate_left
          · intro hCont
            refine two_ (i := 0) (j := 9) (Ni := some 37) (Nj := some 46) (M2_16 14831) (M2_16 15342) rfl rfl rfl rfl (two_of HT_.out (by kernel_rfl)) (by decide) (by decide) (fun K hK => ?_) (fun K hK => ?_)
            · skip
              refine Kd.R_lit_step (Kd.int .i64) _ 3 ?hg (N := 37) ?hd (xs := ([] : List Int)) (inner := []) (ok := fun _ => True) (okp := fun _ => True) ?hr ?hp (fun _ hk => hk) trivial (Below.refl _ _) (Nat.le_refl _) (by simp) ?_; (case hd => rfl); (case hg => rfl); (case hr => first | (go_simp; done) | (go_simp; rfl)); (case hp => exact (Reps.none _ _))
              intro v119 w29 ho30 hb hg_ hnew_
              clear hg_ hnew_
              (first | rw [← Ny118.out] at ho30 | (simp only [Int.reduceToNat] at ho30; rw [← Ny118.out] at ho30))
              have n0_ := Aside0.mk Z2_27
              have n1_ := Aside0.mk Z2_2
              have n2_ := Aside0.mk Z2_7
              have n3_ := Aside0.mk Z2_8
              have n4_ := Aside0.mk Z2_13
              clear HO_3
              clear HR124
              clear HR138
              clear HB
              have HO_3 := n0_
              have HO120 := n1_
              have HR124 := n2_
              have HR138 := n3_
              have HB := n4_
              clear n0_ n1_ n2_ n3_ n4_
              clear hb ho30
              refine hK.out _ _ (((HB.out.cell (World.block_lt_of_cell? w _ hw128_0)).trans hw128_0)) (fun hHeld => ?_)
              clear hK K
              refine norm_ (a' := ?_) ?_ ?_
              rotate_left
              · show Act.put _ (some 37) _ = _
                simp only [Act.put, List.setIfInBounds_toArray, List.set_cons_zero, List.set_cons_succ, i64_w, i32_w]
                rfl
              refine two_ (i := 4) (j := 9) (Ni := some 41) (Nj := some 46) (M2_16 14847) (M2_16 15343) rfl rfl rfl rfl (two_of HT_.out (by kernel_rfl)) (by decide) (by decide) (fun K hK => ?_) (fun K hK => ?_)
              · skip
                refine Kd.R_append_rows_step (Kd.int .i64) (w0 := w) w.heap.size (by rfl) (.tmp 37) (.tmp 40) 22 3 (.int .i64 0) 8 rfl Try.underlying22 info3 rfl (by decide) (by omega) v119 y118 y121 _ _ _ (fun k_ => some k_ ≠ (.slice (some ad116) x3_1.length co9 : Value).ownBlock) (fun _ => False) rfl rfl ?aO ?aR (fun _ _ h => h) (fun _ h => h.elim) ?aF ?aB ?aS ?aL ?_
                (case aR => repeat (first | exact Z2_11 | (with_reducible refine Kd.C_alloc ?_ _) | (with_reducible refine Kd.C_drewN ?_ _) | (with_reducible refine Kd.C_drew ?_)))
                (case aB => exact Z2_29)
                (case aF => exact (fun k_ hk => Kd.fresh' (Kd.R_lt Z2_37) k_ hk))
                (case aO => exact (by (with_reducible repeat (first | apply Kd.R_alloc | apply Kd.R_drewN | apply Kd.R_drew)); exact Kd.R_mono HO120.out (fun _ hk => hk.2)))
                (case aS => exact (below_size Z2_29))
                (case aL => have := LMc20.out; omega)
                intro v126 w31 ho hb hg hat
                rw [← Ny125.out] at ho
                have n0_ := Aside0.mk Z2_14
                have n1_ := Aside0.mk (hb)
                have n2_ := Aside0.mk ((show Kd.C (Kd.int .i64) w31 (some ad116) y121.length y121 from by rw [Ny121.out]; exact Kd.C_take (m := (x5_2 : Int).toNat) ((Kd.R_reads' Z2_14).2.2) KL27.out))
                have n3_ := Aside0.mk ((show Kd.C (Kd.int .i64) w31 A28 y135.length y135 from by rw [Ny135.out, KA28.out]; exact Kd.C_drop (m := (x5_2 : Int).toNat) (c := co9) ((Kd.R_reads' Z2_14).2.2) KL28.out ((Kd.R_reads' Z2_14).2.1)))
                have n4_ := Aside0.mk (ho)
                clear HO_3
                clear HB
                clear HR124
                clear HR138
                clear HO120
                have HO_3 := n0_
                have HB := n1_
                have HR124 := n2_
                have HR138 := n3_
                have HO127 := n4_
                clear n0_ n1_ n2_ n3_ n4_
                clear ho hb hg hat
                refine hK.out _ _ (((HB.out.cell (World.block_lt_of_cell? w _ hw128_0)).trans hw128_0)) (fun hHeld => ?_)
                clear hK K
                refine norm_ (a' := ?_) ?_ ?_
                rotate_left
                · show Act.put _ (some 41) _ = _
                  simp only [Act.put, List.setIfInBounds_toArray, List.set_cons_zero, List.set_cons_succ, i64_w, i32_w]
                  rfl
                refine one_ (i := 9) (N := some 46) (M2_16 15359) rfl rfl (one_of HT_.out (by kernel_rfl)) (by decide) (fun K hK => ?_)
                refine Kd.R_lit_step (Kd.int .i64) _ 3 ?hg (N := 46) ?hd (xs := ([rd l0 x4_1] : List Int)) (inner := [.int .i64 (rd l0 x4_1)]) (ok := fun _ => True) (okp := fun _ => True) ?hr ?hp (fun _ hk => hk) trivial (Below.refl _ _) (Nat.le_refl _) (by simp) ?_; (case hd => rfl); (case hg => rfl); (case hr => first | (go_simp; done) | (go_simp; rfl)); (case hp => exact (Reps.one (show Kd.M (Kd.int .i64) _ _ _ (rd l0 x4_1) [.int .i64 (rd l0 x4_1)] from rfl) (Reps.none _ _)))
                intro v130 w32 ho33 hb hg_ hnew_
                clear hg_ hnew_
                (first | rw [← Ny129.out] at ho33 | (simp only [Int.reduceToNat] at ho33; rw [← Ny129.out] at ho33))
                have n0_ := Aside0.mk (Kd.R_elder' Z2_37 (Kd.R_base ho33) hb)
                have n1_ := Aside0.mk (Kd.R_elder' Z2_34 (Kd.R_base ho33) hb)
                have n2_ := Aside0.mk (Kd.R_lower (Kd.R_new' (Kd.R_new' ho33 (Kd.R_lt Z2_37)) (Kd.R_lt Z2_34)) (below_size Z2_29))
                have n3_ := Aside0.mk Z2_7
                have n4_ := Aside0.mk Z2_8
                have n5_ := Aside0.mk Z2_13
                clear HO_3
                clear HO127
                clear HR124
                clear HR138
                clear HB
                have HO_3 := n0_
                have HO127 := n1_
                have HO131 := n2_
                have HR124 := n3_
                have HR138 := n4_
                have HB := n5_
                clear n0_ n1_ n2_ n3_ n4_ n5_
                clear hb ho33
                refine hK.out _ _ (((HB.out.cell (World.block_lt_of_cell? w _ hw128_0)).trans hw128_0)) (fun hHeld => ?_)
                clear hK K
                refine norm_ (a' := ?_) ?_ ?_
                rotate_left
                · show Act.put _ (some 46) _ = _
                  simp only [Act.put, List.setIfInBounds_toArray, List.set_cons_zero, List.set_cons_succ, i64_w, i32_w]
                  rfl
                exact norm_ Z2_38 (hCont (v119, v126, v130) _ ⟨hHeld, Z2_21, (by (with_reducible repeat (first | apply Kd.R_alloc | apply Kd.R_drewN | apply Kd.R_drew)); exact Kd.R_mono HO131.out (fun _ hk => ⟨hk.2, hk.1.2⟩)), Z2_17, Z2_11, Z2_12, Z2_29⟩)
              · skip
                refine Kd.R_lit_step (Kd.int .i64) _ 3 ?hg (N := 46) ?hd (xs := ([rd l0 x4_1] : List Int)) (inner := [.int .i64 (rd l0 x4_1)]) (ok := fun _ => True) (okp := fun _ => True) ?hr ?hp (fun _ hk => hk) trivial (Below.refl _ _) (Nat.le_refl _) (by simp) ?_; (case hd => rfl); (case hg => rfl); (case hr => first | (go_simp; done) | (go_simp; rfl)); (case hp => exact (Reps.one (show Kd.M (Kd.int .i64) _ _ _ (rd l0 x4_1) [.int .i64 (rd l0 x4_1)] from rfl) (Reps.none _ _)))
                intro v130 w31 ho32 hb hg_ hnew_
                clear hg_ hnew_
                (first | rw [← Ny129.out] at ho32 | (simp only [Int.reduceToNat] at ho32; rw [← Ny129.out] at ho32))
                have n0_ := Aside0.mk Z2_28
                have n1_ := Aside0.mk (Kd.R_elder' Z2_35 (Kd.R_base ho32) hb)
                have n2_ := Aside0.mk (Kd.R_lower (Kd.R_new' (Kd.R_new' ho32 (Kd.R_lt Z2_37)) (Kd.R_lt Z2_35)) (below_size Z2_29))
                have n3_ := Aside0.mk Z2_7
                have n4_ := Aside0.mk Z2_8
                have n5_ := Aside0.mk Z2_13
                clear HO_3
                clear HO120
                clear HR124
                clear HR138
                clear HB
                have HO_3 := n0_
                have HO120 := n1_
                have HO131 := n2_
                have HR124 := n3_
                have HR138 := n4_
                have HB := n5_
                clear n0_ n1_ n2_ n3_ n4_ n5_
                clear hb ho32
                refine hK.out _ _ (((HB.out.cell (World.block_lt_of_cell? w _ hw128_0)).trans hw128_0)) (fun hHeld => ?_)
                clear hK K
                refine norm_ (a' := ?_) ?_ ?_
                rotate_left
                · show Act.put _ (some 46) _ = _
                  simp only [Act.put, List.setIfInBounds_toArray, List.set_cons_zero, List.set_cons_succ, i64_w, i32_w]
                  rfl
                refine one_ (i := 4) (N := some 41) (M2_16 15359) rfl rfl (one_of HT_.out (by kernel_rfl)) (by decide) (fun K hK => ?_)
                refine Kd.R_append_rows_step (Kd.int .i64) (w0 := w) w.heap.size (by rfl) (.tmp 37) (.tmp 40) 22 3 (.int .i64 0) 8 rfl Try.underlying22 info3 rfl (by decide) (by omega) v119 y118 y121 _ _ _ (fun k_ => some k_ ≠ (.slice (some ad116) x3_1.length co9 : Value).ownBlock ∧ some k_ ≠ (v130 : Value).ownBlock) (fun _ => False) rfl rfl ?aO ?aR (fun _ _ h => h) (fun _ h => h.elim) ?aF ?aB ?aS ?aL ?_
                (case aR => repeat (first | exact Z2_11 | (with_reducible refine Kd.C_alloc ?_ _) | (with_reducible refine Kd.C_drewN ?_ _) | (with_reducible refine Kd.C_drew ?_)))
                (case aB => exact Z2_29)
                (case aF => exact (fun k_ hk => ⟨Kd.fresh' (Kd.R_lt Z2_37) k_ hk, Kd.fresh' (Kd.R_lt Z2_36) k_ hk⟩))
                (case aO => exact Z2_16)
                (case aS => exact (below_size Z2_29))
                (case aL => have := LMc20.out; omega)
                intro v126 w33 ho hb hg hat
                rw [← Ny125.out] at ho
                have n0_ := Aside0.mk (Kd.R_after (ok := (fun k_ => some k_ ≠ (v130 : Value).ownBlock)) Z2_18 hg hat)
                have n1_ := Aside0.mk Z2_3
                have n2_ := Aside0.mk (hb)
                have n3_ := Aside0.mk ((show Kd.C (Kd.int .i64) w33 (some ad116) y121.length y121 from by rw [Ny121.out]; exact Kd.C_take (m := (x5_2 : Int).toNat) ((Kd.R_reads' (Kd.R_after (ok := (fun k_ => some k_ ≠ (v130 : Value).ownBlock)) Z2_18 hg hat)).2.2) KL27.out))
                have n4_ := Aside0.mk ((show Kd.C (Kd.int .i64) w33 A28 y135.length y135 from by rw [Ny135.out, KA28.out]; exact Kd.C_drop (m := (x5_2 : Int).toNat) (c := co9) ((Kd.R_reads' (Kd.R_after (ok := (fun k_ => some k_ ≠ (v130 : Value).ownBlock)) Z2_18 hg hat)).2.2) KL28.out ((Kd.R_reads' (Kd.R_after (ok := (fun k_ => some k_ ≠ (v130 : Value).ownBlock)) Z2_18 hg hat)).2.1)))
                have n5_ := Aside0.mk (ho)
                clear HO_3
                clear HO131
                clear HB
                clear HR124
                clear HR138
                clear HO120
                have HO_3 := n0_
                have HO131 := n1_
                have HB := n2_
                have HR124 := n3_
                have HR138 := n4_
                have HO127 := n5_
                clear n0_ n1_ n2_ n3_ n4_ n5_
                clear ho hb hg hat
                refine hK.out _ _ (((HB.out.cell (World.block_lt_of_cell? w _ hw128_0)).trans hw128_0)) (fun hHeld => ?_)
                clear hK K
                refine norm_ (a' := ?_) ?_ ?_
                rotate_left
                · show Act.put _ (some 41) _ = _
                  simp only [Act.put, List.setIfInBounds_toArray, List.set_cons_zero, List.set_cons_succ, i64_w, i32_w]
                  rfl
                exact norm_ Z2_38 (hCont (v119, v126, v130) _ ⟨hHeld, Z2_21, Z2_22, Z2_23, Z2_11, Z2_12, Z2_29⟩)
            · skip
              refine Kd.R_lit_step (Kd.int .i64) _ 3 ?hg (N := 46) ?hd (xs := ([rd l0 x4_1] : List Int)) (inner := [.int .i64 (rd l0 x4_1)]) (ok := fun _ => True) (okp := fun _ => True) ?hr ?hp (fun _ hk => hk) trivial (Below.refl _ _) (Nat.le_refl _) (by simp) ?_; (case hd => rfl); (case hg => rfl); (case hr => first | (go_simp; done) | (go_simp; rfl)); (case hp => exact (Reps.one (show Kd.M (Kd.int .i64) _ _ _ (rd l0 x4_1) [.int .i64 (rd l0 x4_1)] from rfl) (Reps.none _ _)))
              intro v130 w29 ho30 hb hg_ hnew_
              clear hg_ hnew_
              (first | rw [← Ny129.out] at ho30 | (simp only [Int.reduceToNat] at ho30; rw [← Ny129.out] at ho30))
              have n0_ := Aside0.mk Z2_27
              have n1_ := Aside0.mk Z2_2
              have n2_ := Aside0.mk Z2_7
              have n3_ := Aside0.mk Z2_8
              have n4_ := Aside0.mk Z2_13
              clear HO_3
              clear HR124
              clear HR138
              clear HB
              have HO_3 := n0_
              have HO131 := n1_
              have HR124 := n2_
              have HR138 := n3_
              have HB := n4_
              clear n0_ n1_ n2_ n3_ n4_
              clear hb ho30
              refine hK.out _ _ (((HB.out.cell (World.block_lt_of_cell? w _ hw128_0)).trans hw128_0)) (fun hHeld => ?_)
              clear hK K
              refine norm_ (a' := ?_) ?_ ?_
              rotate_left
              · show Act.put _ (some 46) _ = _
                simp only [Act.put, List.setIfInBounds_toArray, List.set_cons_zero, List.set_cons_succ, i64_w, i32_w]
                rfl
              refine one_ (i := 0) (N := some 37) (M2_16 15343) rfl rfl (one_of HT_.out (by kernel_rfl)) (by decide) (fun K hK => ?_)
              refine Kd.R_lit_step (Kd.int .i64) _ 3 ?hg (N := 37) ?hd (xs := ([] : List Int)) (inner := []) (ok := fun _ => True) (okp := fun _ => True) ?hr ?hp (fun _ hk => hk) trivial (Below.refl _ _) (Nat.le_refl _) (by simp) ?_; (case hd => rfl); (case hg => rfl); (case hr => first | (go_simp; done) | (go_simp; rfl)); (case hp => exact (Reps.none _ _))
              intro v119 w31 ho32 hb hg_ hnew_
              clear hg_ hnew_
              (first | rw [← Ny118.out] at ho32 | (simp only [Int.reduceToNat] at ho32; rw [← Ny118.out] at ho32))
              have n0_ := Aside0.mk Z2_28
              have n1_ := Aside0.mk (Kd.R_elder' Z2_36 (Kd.R_base ho32) hb)
              have n2_ := Aside0.mk (Kd.R_lower (Kd.R_new' (Kd.R_new' ho32 (Kd.R_lt Z2_37)) (Kd.R_lt Z2_36)) (below_size Z2_29))
              have n3_ := Aside0.mk Z2_7
              have n4_ := Aside0.mk Z2_8
              have n5_ := Aside0.mk Z2_13
              clear HO_3
              clear HO131
              clear HR124
              clear HR138
              clear HB
              have HO_3 := n0_
              have HO131 := n1_
              have HO120 := n2_
              have HR124 := n3_
              have HR138 := n4_
              have HB := n5_
              clear n0_ n1_ n2_ n3_ n4_ n5_
              clear hb ho32
              refine hK.out _ _ (((HB.out.cell (World.block_lt_of_cell? w _ hw128_0)).trans hw128_0)) (fun hHeld => ?_)
              clear hK K
              refine norm_ (a' := ?_) ?_ ?_
              rotate_left
              · show Act.put _ (some 37) _ = _
                simp only [Act.put, List.setIfInBounds_toArray, List.set_cons_zero, List.set_cons_succ, i64_w, i32_w]
                rfl
              refine one_ (i := 4) (N := some 41) (M2_16 15359) rfl rfl (one_of HT_.out (by kernel_rfl)) (by decide) (fun K hK => ?_)
              refine Kd.R_append_rows_step (Kd.int .i64) (w0 := w) w.heap.size (by rfl) (.tmp 37) (.tmp 40) 22 3 (.int .i64 0) 8 rfl Try.underlying22 info3 rfl (by decide) (by omega) v119 y118 y121 _ _ _ (fun k_ => some k_ ≠ (.slice (some ad116) x3_1.length co9 : Value).ownBlock ∧ some k_ ≠ (v130 : Value).ownBlock) (fun _ => False) rfl rfl ?aO ?aR (fun _ _ h => h) (fun _ h => h.elim) ?aF ?aB ?aS ?aL ?_
              (case aR => repeat (first | exact Z2_11 | (with_reducible refine Kd.C_alloc ?_ _) | (with_reducible refine Kd.C_drewN ?_ _) | (with_reducible refine Kd.C_drew ?_)))
              (case aB => exact Z2_29)
              (case aF => exact (fun k_ hk => ⟨Kd.fresh' (Kd.R_lt Z2_37) k_ hk, Kd.fresh' (Kd.R_lt Z2_36) k_ hk⟩))
              (case aO => exact Z2_16)
              (case aS => exact (below_size Z2_29))
              (case aL => have := LMc20.out; omega)
              intro v126 w33 ho hb hg hat
              rw [← Ny125.out] at ho
              have n0_ := Aside0.mk (Kd.R_after (ok := (fun k_ => some k_ ≠ (v130 : Value).ownBlock)) Z2_17 hg hat)
              have n1_ := Aside0.mk Z2_3
              have n2_ := Aside0.mk (hb)
              have n3_ := Aside0.mk ((show Kd.C (Kd.int .i64) w33 (some ad116) y121.length y121 from by rw [Ny121.out]; exact Kd.C_take (m := (x5_2 : Int).toNat) ((Kd.R_reads' (Kd.R_after (ok := (fun k_ => some k_ ≠ (v130 : Value).ownBlock)) Z2_17 hg hat)).2.2) KL27.out))
              have n4_ := Aside0.mk ((show Kd.C (Kd.int .i64) w33 A28 y135.length y135 from by rw [Ny135.out, KA28.out]; exact Kd.C_drop (m := (x5_2 : Int).toNat) (c := co9) ((Kd.R_reads' (Kd.R_after (ok := (fun k_ => some k_ ≠ (v130 : Value).ownBlock)) Z2_17 hg hat)).2.2) KL28.out ((Kd.R_reads' (Kd.R_after (ok := (fun k_ => some k_ ≠ (v130 : Value).ownBlock)) Z2_17 hg hat)).2.1)))
              have n5_ := Aside0.mk (ho)
              clear HO_3
              clear HO131
              clear HB
              clear HR124
              clear HR138
              clear HO120
              have HO_3 := n0_
              have HO131 := n1_
              have HB := n2_
              have HR124 := n3_
              have HR138 := n4_
              have HO127 := n5_
              clear n0_ n1_ n2_ n3_ n4_ n5_
              clear ho hb hg hat
              refine hK.out _ _ (((HB.out.cell (World.block_lt_of_cell? w _ hw128_0)).trans hw128_0)) (fun hHeld => ?_)
              clear hK K
              refine norm_ (a' := ?_) ?_ ?_
              rotate_left
              · show Act.put _ (some 41) _ = _
                simp only [Act.put, List.setIfInBounds_toArray, List.set_cons_zero, List.set_cons_succ, i64_w, i32_w]
                rfl
              exact norm_ Z2_38 (hCont (v119, v126, v130) _ ⟨hHeld, Z2_21, Z2_22, Z2_23, Z2_11, Z2_12, Z2_29⟩)
          rintro ⟨v119, v126, v130⟩ w34 ⟨hS_, h0_, h1_, h2_, h3_, h4_, h5_⟩
          have n0_ : Aside0 (Kd.R (Kd.int .i64) 3 w34 w.heap.size (fun k_ => some k_ ≠ (v130 : Value).ownBlock ∧ some k_ ≠ (.slice (some ad116) x3_1.length co9 : Value).ownBlock) v126 y125) := ⟨h0_⟩
          have n1_ : Aside0 (Kd.R (Kd.int .i64) 3 w34 w.heap.size (fun k_ => some k_ ≠ (v126 : Value).ownBlock ∧ some k_ ≠ (.slice (some ad116) x3_1.length co9 : Value).ownBlock) v130 y129) := ⟨h1_⟩
          have n2_ : Aside0 (Kd.R (Kd.int .i64) 3 w34 w.heap.size (fun k_ => some k_ ≠ (v126 : Value).ownBlock ∧ some k_ ≠ (v130 : Value).ownBlock) (.slice (some ad116) x3_1.length co9) x3_1) := ⟨h2_⟩
          have n3_ : Aside0 (Kd.C (Kd.int .i64) w34 (some ad116) y121.length y121) := ⟨h3_⟩
          have n4_ : Aside0 (Kd.C (Kd.int .i64) w34 A28 y135.length y135) := ⟨h4_⟩
          have n5_ : Aside0 (Below w.heap.size w w34) := ⟨h5_⟩
          clear HO_3
          clear HB
          clear h0_ h1_ h2_ h3_ h4_ h5_
          have HO127 := n0_
          have HO131 := n1_
          have HO_3 := n2_
          have HR124 := n3_
          have HR138 := n4_
          have HB := n5_
          clear n0_ n1_ n2_ n3_ n4_ n5_
          have hHeld : w34.cell? (ad114.add (x4_1).toNat) = some (.int .i64 (rd l0 x4_1)) := hS_
          obtain ⟨Ao36, co36, eo36⟩ := Kd.R_slice HO131.out
          (first | subst eo36 | (injection eo36 with f1_ f2_ f3_; have f4_ := f1_.symm; have f5_ := f3_.symm; clear f1_ f2_ f3_; subst f4_; subst f5_))
          refine norm_ (a' := ?_) ?_ ?_
          rotate_left
          · simp only [putAll, Act.put, List.setIfInBounds_toArray, List.set_cons_zero, List.set_cons_succ]
            rfl
          refine one_ (i := 10) (N := some 47) (M2_16 16383) rfl rfl (one_of HT_.out (by kernel_rfl)) (by decide) (fun K hK => ?_)
          refine Kd.R_append_rows_step (Kd.int .i64) (w0 := w) w.heap.size (by rfl) (.tmp 41) (.tmp 46) 22 3 (.int .i64 0) 8 rfl Try.underlying22 info3 rfl (by decide) (by omega) v126 y125 y129 _ _ _ (fun k_ => some k_ ≠ (.slice (some ad116) x3_1.length co9 : Value).ownBlock ∧ some k_ ≠ (.slice Ao36 y129.length co36 : Value).ownBlock) (fun _ => False) rfl rfl ?aO ?aR (fun _ _ h => h) (fun _ h => h.elim) ?aF ?aB ?aS ?aL ?_
          (case aR => repeat (first | exact (Kd.R_reads' HO131.out).2.2 | (with_reducible refine Kd.C_alloc ?_ _) | (with_reducible refine Kd.C_drewN ?_ _) | (with_reducible refine Kd.C_drew ?_)))
          (case aB => exact Z2_29)
          (case aF => exact (fun k_ hk => ⟨Kd.fresh' (Kd.R_lt Z2_37) k_ hk, Kd.fresh' (Kd.R_lt Z2_36) k_ hk⟩))
          (case aO => exact Z2_21)
          (case aS => exact (below_size Z2_29))
          (case aL => have := LMc21.out; omega)
          intro v133 w35 ho hb hg hat
          rw [← Ny132.out] at ho
          have n0_ := Aside0.mk (Kd.R_after (ok := (fun k_ => some k_ ≠ (.slice Ao36 y129.length co36 : Value).ownBlock)) Z2_23 hg hat)
          have n1_ := Aside0.mk (Kd.R_after (ok := (fun k_ => some k_ ≠ (.slice (some ad116) x3_1.length co9 : Value).ownBlock)) Z2_22 hg hat)
          have n2_ := Aside0.mk (hb)
          have n3_ := Aside0.mk ((show Kd.C (Kd.int .i64) w35 (some ad116) y121.length y121 from by rw [Ny121.out]; exact Kd.C_take (m := (x5_2 : Int).toNat) ((Kd.R_reads' (Kd.R_after (ok := (fun k_ => some k_ ≠ (.slice Ao36 y129.length co36 : Value).ownBlock)) Z2_23 hg hat)).2.2) KL27.out))
          have n4_ := Aside0.mk ((show Kd.C (Kd.int .i64) w35 A28 y135.length y135 from by rw [Ny135.out, KA28.out]; exact Kd.C_drop (m := (x5_2 : Int).toNat) (c := co9) ((Kd.R_reads' (Kd.R_after (ok := (fun k_ => some k_ ≠ (.slice Ao36 y129.length co36 : Value).ownBlock)) Z2_23 hg hat)).2.2) KL28.out ((Kd.R_reads' (Kd.R_after (ok := (fun k_ => some k_ ≠ (.slice Ao36 y129.length co36 : Value).ownBlock)) Z2_23 hg hat)).2.1)))
          have n5_ := Aside0.mk (ho)
          clear HO_3
          clear HO131
          clear HB
          clear HR124
          clear HR138
          clear HO127
          have HO_3 := n0_
          have HO131 := n1_
          have HB := n2_
          have HR124 := n3_
          have HR138 := n4_
          have HO134 := n5_
          clear n0_ n1_ n2_ n3_ n4_ n5_
          clear ho hb hg hat
          refine hK.out _ _ (((HB.out.cell (World.block_lt_of_cell? w _ hw128_0)).trans hw128_0)) (fun hHeld => ?_)
          clear hK K
          refine norm_ (a' := ?_) ?_ ?_
          rotate_left
          · show Act.put _ (some 47) _ = _
            simp only [Act.put, List.setIfInBounds_toArray, List.set_cons_zero, List.set_cons_succ, i64_w, i32_w]
            rfl
          refine one_ (i := 14) (N := some 51) (M2_16 32767) rfl rfl (one_of HT_.out (by kernel_rfl)) (by decide) (fun K hK => ?_)
          refine Kd.R_append_rows_step (Kd.int .i64) (w0 := w) w.heap.size (by rfl) (.tmp 47) (.tmp 50) 22 3 (.int .i64 0) 8 rfl Try.underlying22 info3 rfl (by decide) (by omega) v133 y132 y135 _ _ _ (fun k_ => some k_ ≠ (.slice (some ad116) x3_1.length co9 : Value).ownBlock ∧ some k_ ≠ (.slice Ao36 y129.length co36 : Value).ownBlock) (fun _ => False) rfl rfl ?aO ?aR (fun _ _ h => h) (fun _ h => h.elim) ?aF ?aB ?aS ?aL ?_
          (case aR => repeat (first | exact Z2_12 | (with_reducible refine Kd.C_alloc ?_ _) | (with_reducible refine Kd.C_drewN ?_ _) | (with_reducible refine Kd.C_drew ?_)))
          (case aB => exact Z2_29)
          (case aF => exact (fun k_ hk => ⟨Kd.fresh' (Kd.R_lt Z2_37) k_ hk, Kd.fresh' (Kd.R_lt Z2_36) k_ hk⟩))
          (case aO => exact (by (with_reducible repeat (first | apply Kd.R_alloc | apply Kd.R_drewN | apply Kd.R_drew)); exact HO134.out))
          (case aS => exact (below_size Z2_29))
          (case aL => have := LMc24.out; omega)
          intro v140 w37 ho hb hg hat
          rw [← Ny139.out] at ho
          have n0_ := Aside0.mk (Kd.R_after (ok := (fun k_ => some k_ ≠ (.slice Ao36 y129.length co36 : Value).ownBlock)) Z2_37 hg hat)
          have n1_ := Aside0.mk (Kd.R_after (ok := (fun k_ => some k_ ≠ (.slice (some ad116) x3_1.length co9 : Value).ownBlock)) Z2_36 hg hat)
          have n2_ := Aside0.mk (hb)
          have n3_ := Aside0.mk ((show Kd.C (Kd.int .i64) w37 (some ad116) y121.length y121 from by rw [Ny121.out]; exact Kd.C_take (m := (x5_2 : Int).toNat) ((Kd.R_reads' (Kd.R_after (ok := (fun k_ => some k_ ≠ (.slice Ao36 y129.length co36 : Value).ownBlock)) Z2_37 hg hat)).2.2) KL27.out))
          have n4_ := Aside0.mk ((show Kd.C (Kd.int .i64) w37 A28 y135.length y135 from by rw [Ny135.out, KA28.out]; exact Kd.C_drop (m := (x5_2 : Int).toNat) (c := co9) ((Kd.R_reads' (Kd.R_after (ok := (fun k_ => some k_ ≠ (.slice Ao36 y129.length co36 : Value).ownBlock)) Z2_37 hg hat)).2.2) KL28.out ((Kd.R_reads' (Kd.R_after (ok := (fun k_ => some k_ ≠ (.slice Ao36 y129.length co36 : Value).ownBlock)) Z2_37 hg hat)).2.1)))
          have n5_ := Aside0.mk (ho)
          clear HO_3
          clear HO131
          clear HB
          clear HR124
          clear HR138
          clear HO134
          have HO_3 := n0_
          have HO131 := n1_
          have HB := n2_
          have HR124 := n3_
          have HR138 := n4_
          have HO141 := n5_
          clear n0_ n1_ n2_ n3_ n4_ n5_
          clear ho hb hg hat
          refine hK.out _ _ (((HB.out.cell (World.block_lt_of_cell? w _ hw128_0)).trans hw128_0)) (fun hHeld => ?_)
          clear hK K
          refine norm_ (a' := ?_) ?_ ?_
          rotate_left
          · show Act.put _ (some 51) _ = _
            simp only [Act.put, List.setIfInBounds_toArray, List.set_cons_zero, List.set_cons_succ, i64_w, i32_w]
            rfl
          refine pure_ (i := 15) (N := some 3) (v := _) (a' := _) (M2_16 65535) rfl rfl (any_of HT_.out (by kernel_rfl)) (fun _ _ _ h => h) (Or.inl ⟨(by rfl), (by intro w'; go_simp; with_reducible rfl)⟩) Z2_30 ?_
          refine done_ (done_of HT_.out (by kernel_rfl)) ?_
          try go_wp2
          go_roundg k2
          case measure => have := HK1.out; have := HK2.out; omega
          case rel => exact ⟨(y139), (wrap64 (x4_1 + 1)), Z2_41, H', ⟨(by have := HK1.out; have := HK2.out; omega)⟩, ⟨(by (with_reducible repeat (first | apply Kd.R_alloc | apply Kd.R_drewN | apply Kd.R_drew)); exact Kd.R_mono HO141.out (fun _ hk => trivial))⟩, ⟨Z2_29⟩⟩

end Go.Proofs.Ytfenclnejjbfjaa.QFnExactUnion
