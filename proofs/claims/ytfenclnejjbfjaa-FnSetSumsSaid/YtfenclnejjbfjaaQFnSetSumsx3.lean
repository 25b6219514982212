-- Written by a program of this session (patch_print.py over the print).
import Derived.Test.YtfenclnejjbfjaaQFnSetSumsx0
import Derived.Test.YtfenclnejjbfjaaQFnSetSumsx1
namespace Go.Proofs.Ytfenclnejjbfjaa.QFnSetSums
open Go.RowKit Go.Proofs.YtfenclnejjbfjaaW.PrintWords Go.Proofs.YtfenclnejjbfjaaW.PrintLast Go.Proofs.YtfenclnejjbfjaaW.PrintMore
attribute [local go_sem] max2_int min2_int max_two min_two max_three min_three max_four min_four   -- for this text's walks alone
set_option linter.unusedVariables false
set_option linter.unusedSimpArgs false

def M3_14 (k : Nat) : Array Bool := ((List.range 14).map fun j => k.testBit j).toArray
def M3_16 (k : Nat) : Array Bool := ((List.range 16).map fun j => k.testBit j).toArray
theorem Z3_37 {p : Prop} (h : p := by (with_reducible repeat (first | apply Kd.R_alloc | apply Kd.R_drewN | apply Kd.R_drew)); exact HO_3.out) : p := h
theorem Z3_29 {p : Prop} (h : p := by repeat (first | (with_reducible first | exact HB.out | apply below_alloc | apply pw_below_drewN | apply below_drew1) | exact HB.out)) : p := h
theorem Z3_1 {p : Prop} (h : p := by exact (Kd.R_lower (Kd.R_new' ho52 (Kd.R_lt Z3_37)) (below_size Z3_29))) : p := h
theorem Z3_2 {p : Prop} (h : p := by exact (Kd.R_lower (Kd.R_new' ho30 (Kd.R_lt Z3_37)) (below_size Z3_29))) : p := h
theorem Z3_3 {p : Prop} (h : p := by exact (Kd.R_after (ok := (fun k_ => some k_ ≠ (.slice (some ad135) x3_1.length co9 : Value).ownBlock)) (by (with_reducible repeat (first | apply Kd.R_alloc | apply Kd.R_drewN | apply Kd.R_drew)); exact Kd.R_mono HO150.out (fun _ hk => ⟨hk.1.2, hk.2⟩)) hg hat)) : p := h
theorem Z3_4 {p : Prop} (h : p := by exact (Kd.R_after (ok := (fun k_ => some k_ ≠ (.slice Ao9 x3_1.length co9 : Value).ownBlock)) (by (with_reducible repeat (first | apply Kd.R_alloc | apply Kd.R_drewN | apply Kd.R_drew)); exact Kd.R_mono HO174.out (fun _ hk => ⟨hk.1.2, hk.2⟩)) hg hat)) : p := h
theorem Z3_9 {p : Prop} (h : p := by repeat (first | (with_reducible exact HR167.out) | (with_reducible refine Kd.C_alloc ?_ _) | (with_reducible refine Kd.C_drewN ?_ _) | (with_reducible refine Kd.C_drew ?_) | exact HR167.out)) : p := h
theorem Z3_5 {p : Prop} (h : p := by exact (Kd.C_below Z3_9 hb)) : p := h
theorem Z3_10 {p : Prop} (h : p := by repeat (first | (with_reducible exact HR181.out) | (with_reducible refine Kd.C_alloc ?_ _) | (with_reducible refine Kd.C_drewN ?_ _) | (with_reducible refine Kd.C_drew ?_) | exact HR181.out)) : p := h
theorem Z3_6 {p : Prop} (h : p := by exact (Kd.C_below Z3_10 hb)) : p := h
theorem Z3_11 {p : Prop} (h : p := by repeat (first | (with_reducible exact HR143.out) | (with_reducible refine Kd.C_alloc ?_ _) | (with_reducible refine Kd.C_drewN ?_ _) | (with_reducible refine Kd.C_drew ?_) | exact HR143.out)) : p := h
theorem Z3_7 {p : Prop} (h : p := by exact (Kd.C_below Z3_11 hb)) : p := h
theorem Z3_12 {p : Prop} (h : p := by repeat (first | (with_reducible exact HR157.out) | (with_reducible refine Kd.C_alloc ?_ _) | (with_reducible refine Kd.C_drewN ?_ _) | (with_reducible refine Kd.C_drew ?_) | exact HR157.out)) : p := h
theorem Z3_8 {p : Prop} (h : p := by exact (Kd.C_below Z3_12 hb)) : p := h
theorem Z3_13 {p : Prop} (h : p := by exact (below_step Z3_29 hb)) : p := h
theorem Z3_14 {p : Prop} (h : p := by exact (Kd.R_after (ok := (fun _ => True)) Z3_37 hg hat)) : p := h
theorem Z3_15 {p : Prop} (h : p := by (with_reducible repeat (first | apply Kd.R_alloc | apply Kd.R_drewN | apply Kd.R_drew)); exact Kd.R_mono HO163.out (fun _ hk => ⟨hk.1.2, hk.2⟩)) : p := h
theorem Z3_16 {p : Prop} (h : p := by (with_reducible repeat (first | apply Kd.R_alloc | apply Kd.R_drewN | apply Kd.R_drew)); exact Kd.R_mono HO139.out (fun _ hk => ⟨hk.1.2, hk.2⟩)) : p := h
theorem Z3_17 {p : Prop} (h : p := by (with_reducible repeat (first | apply Kd.R_alloc | apply Kd.R_drewN | apply Kd.R_drew)); exact Kd.R_mono HO_3.out (fun _ hk => ⟨hk.1.2, hk.2⟩)) : p := h
theorem Z3_18 {p : Prop} (h : p := by (with_reducible repeat (first | apply Kd.R_alloc | apply Kd.R_drewN | apply Kd.R_drew)); exact Kd.R_mono HO_3.out (fun _ hk => ⟨hk.2, hk.1.2⟩)) : p := h
theorem Z3_19 {p : Prop} (h : p := by (with_reducible repeat (first | apply Kd.R_alloc | apply Kd.R_drewN | apply Kd.R_drew)); exact Kd.R_mono HO170.out (fun _ hk => ⟨hk.2, hk.1⟩)) : p := h
theorem Z3_20 {p : Prop} (h : p := by (with_reducible repeat (first | apply Kd.R_alloc | apply Kd.R_drewN | apply Kd.R_drew)); exact Kd.R_mono HO174.out (fun _ hk => ⟨hk.2, hk.1⟩)) : p := h
theorem Z3_21 {p : Prop} (h : p := by (with_reducible repeat (first | apply Kd.R_alloc | apply Kd.R_drewN | apply Kd.R_drew)); exact Kd.R_mono HO146.out (fun _ hk => ⟨hk.2, hk.1⟩)) : p := h
theorem Z3_22 {p : Prop} (h : p := by (with_reducible repeat (first | apply Kd.R_alloc | apply Kd.R_drewN | apply Kd.R_drew)); exact Kd.R_mono HO150.out (fun _ hk => ⟨hk.2, hk.1⟩)) : p := h
theorem Z3_23 {p : Prop} (h : p := by (with_reducible repeat (first | apply Kd.R_alloc | apply Kd.R_drewN | apply Kd.R_drew)); exact Kd.R_mono HO_3.out (fun _ hk => ⟨hk.2, hk.1⟩)) : p := h
theorem Z3_24 {p : Prop} (h : p := by (try simp only [List.map_toArray, List.map_cons, List.map_nil]); first | done | rfl | (simp only [List.length_drop, List.length_take]; rfl)) : p := h
theorem Z3_25 {p : Prop} (h : p := by exact (Kd.R_elder' Z3_37 (Kd.R_base ho52) hb)) : p := h
theorem Z3_26 {p : Prop} (h : p := by exact (Kd.R_elder' Z3_37 (Kd.R_base ho54) hb)) : p := h
theorem Z3_27 {p : Prop} (h : p := by exact (Kd.R_elder' Z3_37 (Kd.R_base ho30) hb)) : p := h
theorem Z3_28 {p : Prop} (h : p := by exact (Kd.R_elder' Z3_37 (Kd.R_base ho32) hb)) : p := h
theorem Z3_30 {p : Prop} (h : p := by simp only [Act.put, List.setIfInBounds_toArray, List.set_cons_zero, List.set_cons_succ, i64_w, i32_w]; rfl) : p := h
theorem Z3_31 {p : Prop} (h : p := by (with_reducible repeat (first | apply Kd.R_alloc | apply Kd.R_drewN | apply Kd.R_drew)); exact HO170.out) : p := h
theorem Z3_32 {p : Prop} (h : p := by (with_reducible repeat (first | apply Kd.R_alloc | apply Kd.R_drewN | apply Kd.R_drew)); exact HO163.out) : p := h
theorem Z3_33 {p : Prop} (h : p := by (with_reducible repeat (first | apply Kd.R_alloc | apply Kd.R_drewN | apply Kd.R_drew)); exact HO174.out) : p := h
theorem Z3_34 {p : Prop} (h : p := by (with_reducible repeat (first | apply Kd.R_alloc | apply Kd.R_drewN | apply Kd.R_drew)); exact HO146.out) : p := h
theorem Z3_35 {p : Prop} (h : p := by (with_reducible repeat (first | apply Kd.R_alloc | apply Kd.R_drewN | apply Kd.R_drew)); exact HO139.out) : p := h
theorem Z3_36 {p : Prop} (h : p := by (with_reducible repeat (first | apply Kd.R_alloc | apply Kd.R_drewN | apply Kd.R_drew)); exact HO150.out) : p := h
theorem Z3_38 {p : Prop} (h : p := by simp only [putAll, Act.put, List.setIfInBounds_toArray, List.set_cons_zero, List.set_cons_succ]) : p := h
theorem Z3_39 {p : Prop} (h : p := by first | (with_reducible assumption) | assumption) : p := h
theorem Z3_40 {p : Prop} (h : p := by exact (show (x5_2 : Int).toNat ≤ x3_1.length from by omega)) : p := h
theorem Z3_41 {p : Prop} (h : p := by first | rfl | (simp; done) | (simp [*]; done)) : p := h
/-! ### spec_SetOf: function 13 -/
mutual
def spec_SetOf.l0 : Nat → List Int → List Int → Int → Option (List Int)
  | 0, _, _, _ => none
  | k + 1, x0, x3, x4 => if x4 < (x0.length : Int) then (if 0 ≤ x4 then ((spec_Has.f k x3 (rd x0 x4)).bind fun t134 => (if t134 = true then (spec_SetOf.l0 k x0 x3 (wrap64 (x4 + 1))) else (spec_SetOf.l1 k x0 x3 x4 (x3.length : Int)))) else (none)) else (some x3)
def spec_SetOf.l1 : Nat → List Int → List Int → Int → Int → Option (List Int)
  | 0, _, _, _, _ => none
  | k + 1, x0, x3, x4, x5 => if x5 > 0 then (if 0 ≤ (wrap64 (x5 - 1)) then (if (wrap64 (x5 - 1)) < (x3.length : Int) then (if 0 ≤ x4 then (if x4 < (x0.length : Int) then (if (rd x3 (wrap64 (x5 - 1))) > (rd x0 x4) then (spec_SetOf.l1 k x0 x3 x4 (wrap64 (x5 - 1))) else ((some (([] : List Int) : List Int)).bind fun y137 => (if 0 ≤ x5 then (if x5 ≤ (x3.length : Int) then ((some (x3.take (x5 : Int).toNat : List Int)).bind fun y140 => (if y137.length + y140.length < 17592186044416 then ((some (y137 ++ y140 : List Int)).bind fun y144 => ((some (([rd x0 x4] : List Int) : List Int)).bind fun y148 => (if y144.length + y148.length < 17592186044416 then ((some (y144 ++ y148 : List Int)).bind fun y151 => ((some (x3.drop (x5 : Int).toNat : List Int)).bind fun y154 => (if y151.length + y154.length < 17592186044416 then (spec_SetOf.l0 k x0 (y151 ++ y154) (wrap64 (x4 + 1))) else (none)))) else (none)))) else (none))) else (none)) else (none)))) else (none)) else (none)) else (none)) else (none)) else ((some (([] : List Int) : List Int)).bind fun y161 => (if 0 ≤ x5 then (if x5 ≤ (x3.length : Int) then ((some (x3.take (x5 : Int).toNat : List Int)).bind fun y164 => (if y161.length + y164.length < 17592186044416 then ((some (y161 ++ y164 : List Int)).bind fun y168 => (if 0 ≤ x4 then (if x4 < (x0.length : Int) then ((some (([rd x0 x4] : List Int) : List Int)).bind fun y172 => (if y168.length + y172.length < 17592186044416 then ((some (y168 ++ y172 : List Int)).bind fun y175 => ((some (x3.drop (x5 : Int).toNat : List Int)).bind fun y178 => (if y175.length + y178.length < 17592186044416 then (spec_SetOf.l0 k x0 (y175 ++ y178) (wrap64 (x4 + 1))) else (none)))) else (none))) else (none)) else (none))) else (none))) else (none)) else (none)))
end
def spec_SetOf.f (k : Nat) (l0 : List Int) : Option (List Int) := spec_SetOf.l0 k l0 (([] : List Int)) 0
theorem spec_SetOf.mono_l : ∀ k, (∀ y0 y1 y2, LeO (spec_SetOf.l0 k y0 y1 y2) (spec_SetOf.l0 (k + 1) y0 y1 y2)) ∧ (∀ y0 y1 y2 y3, LeO (spec_SetOf.l1 k y0 y1 y2 y3) (spec_SetOf.l1 (k + 1) y0 y1 y2 y3))
  | 0 => ⟨fun _ _ _ r h => by simp [spec_SetOf.l0] at h, fun _ _ _ _ r h => by simp [spec_SetOf.l1] at h⟩
  | k + 1 => by
    obtain ⟨ih0, ih1⟩ := spec_SetOf.mono_l k
    refine ⟨?_, ?_⟩
    · intro y0 y1 y2
      unfold spec_SetOf.l0
      repeat' first
      | (with_reducible exact ih0 _ _ _)
      | (with_reducible exact ih1 _ _ _ _)
      | (with_reducible exact spec_Has.mono _ _ _)
      | (with_reducible exact LeO.refl _)
      | (with_reducible exact LeO.none _)
      | (with_reducible refine LeO.ite ?_ ?_)
      | (with_reducible refine LeO.bind ?_ (fun _ => ?_))
      | exact ih0 _ _ _
      | exact ih1 _ _ _ _
      | exact spec_Has.mono _ _ _
      | exact LeO.none _
      | refine LeO.ite ?_ ?_
      | refine LeO.bind ?_ (fun _ => ?_)
    · intro y0 y1 y2 y3
      unfold spec_SetOf.l1
      repeat' first
      | (with_reducible exact ih0 _ _ _)
      | (with_reducible exact ih1 _ _ _ _)
      | (with_reducible exact spec_Has.mono _ _ _)
      | (with_reducible exact LeO.refl _)
      | (with_reducible exact LeO.none _)
      | (with_reducible refine LeO.ite ?_ ?_)
      | (with_reducible refine LeO.bind ?_ (fun _ => ?_))
      | exact ih0 _ _ _
      | exact ih1 _ _ _ _
      | exact spec_Has.mono _ _ _
      | exact LeO.none _
      | refine LeO.ite ?_ ?_
      | refine LeO.bind ?_ (fun _ => ?_)
theorem spec_SetOf.mono : ∀ a0 k, LeO (spec_SetOf.f k a0) (spec_SetOf.f (k + 1) a0) := by
  intro a0 k
  obtain ⟨ih0, ih1⟩ := spec_SetOf.mono_l k
  unfold spec_SetOf.f
  repeat' first
      | (with_reducible exact ih0 _ _ _)
      | (with_reducible exact ih1 _ _ _ _)
      | (with_reducible exact spec_Has.mono _ _ _)
      | (with_reducible exact LeO.refl _)
      | (with_reducible exact LeO.none _)
      | (with_reducible refine LeO.ite ?_ ?_)
      | (with_reducible refine LeO.bind ?_ (fun _ => ?_))
      | exact ih0 _ _ _
      | exact ih1 _ _ _ _
      | exact spec_Has.mono _ _ _
      | exact LeO.none _
      | refine LeO.ite ?_ ?_
      | refine LeO.bind ?_ (fun _ => ?_)
def spec_SetOf.T7 : Bool × List (List Nat × List Nat) := (true, [([], []), ([0], [0]), ([1], [1]), ([2], [2]), ([2], [2]), ([4, 2], [2, 4]), ([3, 5, 2], [2, 3, 5]), ([6, 2], [2, 6]), ([2], [2]), ([2], [2]), ([8, 9, 2], [2, 8, 9]), ([10, 2], [2, 10]), ([7, 11, 2], [2, 7, 11]), ([2, 12], [2, 12])])
def spec_SetOf.B7 : List Nat := [0, 1, 3, 7, 7, 23, 63, 127, 7, 7, 775, 1799, 4095, 8191]
theorem spec_SetOf.tab7 : rtab .any (opsOf Try.f13 7) = spec_SetOf.T7 := by kernel_rfl
theorem spec_SetOf.bits7 : waitsOk spec_SetOf.T7.2 spec_SetOf.B7 = true := by kernel_rfl
def spec_SetOf.T9 : Bool × List (List Nat × List Nat) := (true, [([], []), ([], []), ([], []), ([1, 2], [1, 2]), ([0, 3], [0, 3]), ([], []), ([], []), ([5, 6], [5, 6]), ([7], [7]), ([8], [8]), ([4, 9, 4], [4, 9]), ([], []), ([], []), ([11, 12], [11, 12]), ([10, 13, 10], [10, 13]), ([14, 14, 0, 1, 2, 3, 4, 5, 6, 7, 8, 9, 10, 11, 12, 13, 14], [1, 11, 14])])
def spec_SetOf.B9 : List Nat := [0, 0, 0, 6, 15, 0, 0, 96, 224, 480, 1023, 0, 0, 6144, 16383, 32767]
theorem spec_SetOf.tab9 : rtab .any (opsOf Try.f13 9) = spec_SetOf.T9 := by kernel_rfl
theorem spec_SetOf.bits9 : waitsOk spec_SetOf.T9.2 spec_SetOf.B9 = true := by kernel_rfl
set_option maxHeartbeats 8000000 in
set_option maxRecDepth 100000 in
theorem spec_SetOf.calls (k : Nat) (A0 : Option Addr) (c0 : Nat) (l0 : List Int) (r : List Int) (w : World) (hr0 : Kd.C (Kd.int .i64) w A0 l0.length l0) (hc0 : l0.length ≤ c0) (h : spec_SetOf.f k l0 = some r) :
    Calls Try.prog 13 #[.slice A0 l0.length c0] w fun e w' => ∃ v0_ : Value, e = .returned (v0_) ∧ Kd.R (Kd.int .i64) 3 w' w.heap.size (fun _ => True) v0_ r ∧ Below w.heap.size w w' := by
  have HR0 := Aside0.mk hr0
  have HC0 := Aside0.mk hc0
  clear hr0 hc0
  have HB := Aside0.mk (Below.refl w.heap.size w)
  have H : (spec_SetOf.l0 k l0 (([] : List Int)) 0) = some r := h
  clear h
  obtain ⟨y130, hy130⟩ : ∃ y_ : List Int, y_ = (([] : List Int)) := ⟨_, rfl⟩
  replace H : (spec_SetOf.l0 k l0 y130 0) = some r := by first | (rw [hy130]; with_reducible exact H) | (have H2_ := (Option.bind_some _ _).symm.trans H; rw [hy130]; with_reducible exact H2_) | (have H2_ := (Option.bind_some _ _).symm.trans H; with_reducible exact H2_) | with_reducible exact H | (rw [hy130]; exact H) | exact H
  have Ny130 := Aside0.mk hy130
  clear hy130
  have H' := Aside0.mk H
  clear H
  go_enter Try.func13, Try.ntmps13
  go_wp2_with (first | ((with_reducible refine gate_dst (N := 6) rfl ?_); refine Kd.R_lit (Kd.int .i64) _ 3 ?hg (N := 6) ?hd (xs := ([] : List Int)) (inner := []) (ok := fun _ => True) (okp := fun _ => True) ?hr ?hp (fun _ hk => hk) trivial (Below.refl _ _) (Nat.le_refl _) (by simp) ?_; (case hd => rfl); (case hg => rfl); (case hr => first | (go_simp; done) | (go_simp; rfl)); (case hp => exact (Reps.none _ _)); intro v131 w2 ho3 hb hg_ hnew_; clear hg_ hnew_; (first | rw [← Ny130.out] at ho3 | (simp only [Int.reduceToNat] at ho3; rw [← Ny130.out] at ho3)); have n0_ := Aside0.mk (Kd.R_lower ho3 (below_size Z3_29)); have n1_ := Aside0.mk Z3_13; clear HB; have HO132 := n0_; have HB := n1_; clear n0_ n1_; clear hb ho3))
  go_loopg [3, 4] k (fun kq v3 v4 w' => ∃ (x3_1 : List Int) (x4_1 : Int), v4 = .int .i64 x4_1 ∧ Aside0 (spec_SetOf.l0 kq l0 x3_1 x4_1 = some r) ∧ Aside0 (kq ≤ k) ∧ Aside0 (Kd.R (Kd.int .i64) 3 w' w.heap.size (fun _ => True) v3 x3_1) ∧ Aside0 (Below w.heap.size w w'))
  case atStart => exact ⟨(y130), (0), Z3_41, H', ⟨Nat.le_refl _⟩, ⟨(by (with_reducible repeat (first | apply Kd.R_alloc | apply Kd.R_drewN | apply Kd.R_drew)); exact HO132.out)⟩, ⟨Z3_29⟩⟩
  case round =>
    clear H'
    try clear c1
    try clear p2
    obtain ⟨x3_1, x4_1, rfl, HA, HK1, HO_3, HB⟩ := hrel
    cases gk with
    | zero => exact absurd HA.out (by simp [spec_SetOf.l0])
    | succ k1 =>
      have H := HA.out
      clear HA
      simp only [spec_SetOf.l0] at H
      by_cases c4 : x4_1 < (l0.length : Int)
      rotate_left
      · rw [if_neg c4] at H
        have c4b0 : decide (x4_1 < (l0.length : Int)) = false := decide_eq_false c4
        clear c4
        obtain rfl := Option.some.inj H
        go_wp2
        go_ret
        exact ⟨_, (by first | rfl | (simp [errW_none, errW_some] <;> rfl) | (simp [*, errW_none, errW_some] <;> rfl)), Z3_37, Z3_29⟩
      rw [if_pos c4] at H
      have c4b0 : decide (x4_1 < (l0.length : Int)) = true := decide_eq_true c4
      clear c4
      by_cases c5 : 0 ≤ x4_1
      rotate_left
      · rw [if_neg c5] at H
        exact absurd H (by simp)
      rw [if_pos c5] at H
      have c5b0 : decide (0 ≤ x4_1) = true := decide_eq_true c5
      clear c5
      replace H := Option.bind_eq_some_iff.mp H
      obtain ⟨t134, A60, H⟩ := H
      replace H : (if t134 = true then (spec_SetOf.l0 k1 l0 x3_1 (wrap64 (x4_1 + 1))) else (spec_SetOf.l1 k1 l0 x3_1 x4_1 (x3_1.length : Int))) = some r := H
      have A6 := Aside0.mk A60
      clear A60
      by_cases c7 : t134 = true
      · subst c7
        have H1 : (spec_SetOf.l0 k1 l0 x3_1 (wrap64 (x4_1 + 1))) = some r := by rw [if_pos rfl] at H; exact H
        clear H
        have H := H1
        clear H1
        have H' := Aside0.mk H
        clear H
        have p133 : 0 ≤ (x4_1 : Int) := of_decide_eq_true Z3_39
        have q133 : x4_1 < (l0.length : Int) := of_decide_eq_true Z3_39
        obtain ⟨ad133, e133, hx133_0⟩ := Kd.at_int HR0.out x4_1 p133 q133
        cases e133
        replace hx133_0 := (HB.out.cell (World.block_lt_of_cell? w _ hx133_0)).trans hx133_0
        replace p133 := eq_true p133
        replace q133 := eq_true q133
        obtain ⟨Ao8, co8, eo8⟩ := Kd.R_slice HO_3.out
        subst eo8
        go_wp2_with (first | ((with_reducible refine gate_callee (f := 51) rfl ?_); refine goesL_ (some 18) rfl rfl Try.func51 (by kernel_rfl) rfl #[.slice Ao8 x3_1.length co8, .int .i64 (rd l0 x4_1)] rfl Z3_24 ?_; (with_reducible refine (spec_Has.calls k1 _ _ x3_1 (rd l0 x4_1) true _ ?side1 ?side2 A6.out).mono ?_); (case side1 => repeat (first | exact (Kd.R_reads' HO_3.out).2.2 | (with_reducible refine Kd.C_alloc ?_ _) | (with_reducible refine Kd.C_drewN ?_ _) | (with_reducible refine Kd.C_drew ?_))); (case side2 => exact (Kd.R_reads' HO_3.out).2.1); rintro e w' ⟨rfl, ⟨nd, rfl⟩⟩; refine ⟨_, rfl, ?_⟩))
        go_roundg k1
        case measure => have := HK1.out; omega
        case rel => exact ⟨(x3_1), (wrap64 (x4_1 + 1)), Z3_41, H', ⟨(by have := HK1.out; omega)⟩, ⟨Z3_37⟩, ⟨Z3_29⟩⟩
      replace c7 := Bool.eq_false_iff.mpr c7
      subst c7
      have H1 : (spec_SetOf.l1 k1 l0 x3_1 x4_1 (x3_1.length : Int)) = some r := by rw [if_neg (show ¬ (false = true) by decide)] at H; exact H
      clear H
      have H := H1
      clear H1
      have H' := Aside0.mk H
      clear H
      have p133 : 0 ≤ (x4_1 : Int) := of_decide_eq_true Z3_39
      have q133 : x4_1 < (l0.length : Int) := of_decide_eq_true Z3_39
      obtain ⟨ad133, e133, hx133_0⟩ := Kd.at_int HR0.out x4_1 p133 q133
      cases e133
      replace hx133_0 := (HB.out.cell (World.block_lt_of_cell? w _ hx133_0)).trans hx133_0
      replace p133 := eq_true p133
      replace q133 := eq_true q133
      obtain ⟨Ao9, co9, eo9⟩ := Kd.R_slice HO_3.out
      subst eo9
      go_wp2_with (first | ((with_reducible refine gate_callee (f := 51) rfl ?_); refine goesL_ (some 18) rfl rfl Try.func51 (by kernel_rfl) rfl #[.slice Ao9 x3_1.length co9, .int .i64 (rd l0 x4_1)] rfl Z3_24 ?_; (with_reducible refine (spec_Has.calls k1 _ _ x3_1 (rd l0 x4_1) false _ ?side1 ?side2 A6.out).mono ?_); (case side1 => repeat (first | exact (Kd.R_reads' HO_3.out).2.2 | (with_reducible refine Kd.C_alloc ?_ _) | (with_reducible refine Kd.C_drewN ?_ _) | (with_reducible refine Kd.C_drew ?_))); (case side2 => exact (Kd.R_reads' HO_3.out).2.1); rintro e w' ⟨rfl, ⟨nd, rfl⟩⟩; refine ⟨_, rfl, ?_⟩))
      go_loopg [5] k1 (fun kq v5 w' => ∃ (x5_2 : Int), v5 = .int .i64 x5_2 ∧ Aside0 (spec_SetOf.l1 kq l0 x3_1 x4_1 x5_2 = some r) ∧ Aside0 (kq ≤ k1) ∧ Aside0 (Kd.R (Kd.int .i64) 3 w' w.heap.size (fun _ => True) (.slice Ao9 x3_1.length co9) x3_1) ∧ Aside0 (Below w.heap.size w w'))
      case atStart => exact ⟨((x3_1.length : Int)), Z3_41, H', ⟨Nat.le_refl _⟩, ⟨Z3_37⟩, ⟨Z3_29⟩⟩
      case round =>
        clear H'
        try clear c1
        try clear p1
        try clear q1
        try clear hx1
        try clear p2
        try clear c4
        try clear c4b0
        try clear c5
        try clear c5b0
        try clear p6
        try clear c7
        try clear hx133_0
        try clear p133
        try clear p2
        try clear q133
        obtain ⟨x5_2, rfl, HA, HK2, HO_3, HB⟩ := hrel
        cases gk with
        | zero => exact absurd HA.out (by simp [spec_SetOf.l1])
        | succ k2 =>
          have H := HA.out
          clear HA
          simp only [spec_SetOf.l1] at H
          by_cases c10 : x5_2 > 0
          rotate_left
          · rw [if_neg c10] at H
            have c10b0 : decide (0 < x5_2) = false := decide_eq_false c10
            clear c10
            obtain ⟨y161, hy161⟩ : ∃ y_ : List Int, y_ = (([] : List Int)) := ⟨_, rfl⟩
            replace H : (if 0 ≤ x5_2 then (if x5_2 ≤ (x3_1.length : Int) then ((some (x3_1.take (x5_2 : Int).toNat : List Int)).bind fun y164 => (if y161.length + y164.length < 17592186044416 then ((some (y161 ++ y164 : List Int)).bind fun y168 => (if 0 ≤ x4_1 then (if x4_1 < (l0.length : Int) then ((some (([rd l0 x4_1] : List Int) : List Int)).bind fun y172 => (if y168.length + y172.length < 17592186044416 then ((some (y168 ++ y172 : List Int)).bind fun y175 => ((some (x3_1.drop (x5_2 : Int).toNat : List Int)).bind fun y178 => (if y175.length + y178.length < 17592186044416 then (spec_SetOf.l0 k2 l0 (y175 ++ y178) (wrap64 (x4_1 + 1))) else (none)))) else (none))) else (none)) else (none))) else (none))) else (none)) else (none)) = some r := by first | (rw [hy161]; with_reducible exact H) | (have H2_ := (Option.bind_some _ _).symm.trans H; rw [hy161]; with_reducible exact H2_) | (have H2_ := (Option.bind_some _ _).symm.trans H; with_reducible exact H2_) | with_reducible exact H | (rw [hy161]; exact H) | exact H
            have Ny161 := Aside0.mk hy161
            clear hy161
            by_cases c38 : 0 ≤ x5_2
            rotate_left
            · rw [if_neg c38] at H
              exact absurd H (by simp)
            rw [if_pos c38] at H
            have c38b0 := eq_true c38
            have c38b1 : decide (0 ≤ x5_2) = true := decide_eq_true c38
            clear c38
            by_cases c39 : x5_2 ≤ (x3_1.length : Int)
            rotate_left
            · rw [if_neg c39] at H
              exact absurd H (by simp)
            rw [if_pos c39] at H
            have c39b0 := eq_true c39
            have c39b1 : decide (x5_2 ≤ (x3_1.length : Int)) = true := decide_eq_true c39
            clear c39
            obtain ⟨y164, hy164⟩ : ∃ y_ : List Int, y_ = (x3_1.take (x5_2 : Int).toNat) := ⟨_, rfl⟩
            replace H : (if y161.length + y164.length < 17592186044416 then ((some (y161 ++ y164 : List Int)).bind fun y168 => (if 0 ≤ x4_1 then (if x4_1 < (l0.length : Int) then ((some (([rd l0 x4_1] : List Int) : List Int)).bind fun y172 => (if y168.length + y172.length < 17592186044416 then ((some (y168 ++ y172 : List Int)).bind fun y175 => ((some (x3_1.drop (x5_2 : Int).toNat : List Int)).bind fun y178 => (if y175.length + y178.length < 17592186044416 then (spec_SetOf.l0 k2 l0 (y175 ++ y178) (wrap64 (x4_1 + 1))) else (none)))) else (none))) else (none)) else (none))) else (none)) = some r := by first | (rw [hy164]; with_reducible exact H) | (have H2_ := (Option.bind_some _ _).symm.trans H; rw [hy164]; with_reducible exact H2_) | (have H2_ := (Option.bind_some _ _).symm.trans H; with_reducible exact H2_) | with_reducible exact H | (rw [hy164]; exact H) | exact H
            have Ny164 := Aside0.mk hy164
            clear hy164
            by_cases c40 : y161.length + y164.length < 17592186044416
            rotate_left
            · rw [if_neg c40] at H
              exact absurd H (by simp)
            rw [if_pos c40] at H
            have LMc40 := Aside0.mk c40
            clear c40
            obtain ⟨y168, hy168⟩ : ∃ y_ : List Int, y_ = (y161 ++ y164) := ⟨_, rfl⟩
            replace H : (if 0 ≤ x4_1 then (if x4_1 < (l0.length : Int) then ((some (([rd l0 x4_1] : List Int) : List Int)).bind fun y172 => (if y168.length + y172.length < 17592186044416 then ((some (y168 ++ y172 : List Int)).bind fun y175 => ((some (x3_1.drop (x5_2 : Int).toNat : List Int)).bind fun y178 => (if y175.length + y178.length < 17592186044416 then (spec_SetOf.l0 k2 l0 (y175 ++ y178) (wrap64 (x4_1 + 1))) else (none)))) else (none))) else (none)) else (none)) = some r := by first | (rw [hy168]; with_reducible exact H) | (have H2_ := (Option.bind_some _ _).symm.trans H; rw [hy168]; with_reducible exact H2_) | (have H2_ := (Option.bind_some _ _).symm.trans H; with_reducible exact H2_) | with_reducible exact H | (rw [hy168]; exact H) | exact H
            have Ny168 := Aside0.mk hy168
            clear hy168
            by_cases c41 : 0 ≤ x4_1
            rotate_left
            · rw [if_neg c41] at H
              exact absurd H (by simp)
            rw [if_pos c41] at H
            have c41b0 : decide (0 ≤ x4_1) = true := decide_eq_true c41
            clear c41
            by_cases c42 : x4_1 < (l0.length : Int)
            rotate_left
            · rw [if_neg c42] at H
              exact absurd H (by simp)
            rw [if_pos c42] at H
            have c42b0 : decide (x4_1 < (l0.length : Int)) = true := decide_eq_true c42
            clear c42
            obtain ⟨y172, hy172⟩ : ∃ y_ : List Int, y_ = (([rd l0 x4_1] : List Int)) := ⟨_, rfl⟩
            replace H : (if y168.length + y172.length < 17592186044416 then ((some (y168 ++ y172 : List Int)).bind fun y175 => ((some (x3_1.drop (x5_2 : Int).toNat : List Int)).bind fun y178 => (if y175.length + y178.length < 17592186044416 then (spec_SetOf.l0 k2 l0 (y175 ++ y178) (wrap64 (x4_1 + 1))) else (none)))) else (none)) = some r := by first | (rw [hy172]; with_reducible exact H) | (have H2_ := (Option.bind_some _ _).symm.trans H; rw [hy172]; with_reducible exact H2_) | (have H2_ := (Option.bind_some _ _).symm.trans H; with_reducible exact H2_) | with_reducible exact H | (rw [hy172]; exact H) | exact H
            have Ny172 := Aside0.mk hy172
            clear hy172
            by_cases c43 : y168.length + y172.length < 17592186044416
            rotate_left
            · rw [if_neg c43] at H
              exact absurd H (by simp)
            rw [if_pos c43] at H
            have LMc43 := Aside0.mk c43
            clear c43
            obtain ⟨y175, hy175⟩ : ∃ y_ : List Int, y_ = (y168 ++ y172) := ⟨_, rfl⟩
            replace H : ((some (x3_1.drop (x5_2 : Int).toNat : List Int)).bind fun y178 => (if y175.length + y178.length < 17592186044416 then (spec_SetOf.l0 k2 l0 (y175 ++ y178) (wrap64 (x4_1 + 1))) else (none))) = some r := by first | (rw [hy175]; with_reducible exact H) | (have H2_ := (Option.bind_some _ _).symm.trans H; rw [hy175]; with_reducible exact H2_) | (have H2_ := (Option.bind_some _ _).symm.trans H; with_reducible exact H2_) | with_reducible exact H | (rw [hy175]; exact H) | exact H
            have Ny175 := Aside0.mk hy175
            clear hy175
            have c44b0 := eq_true (of_decide_eq_true Z3_39 : 0 ≤ x5_2)
            have c45b0 := eq_true (of_decide_eq_true Z3_39 : x5_2 ≤ (x3_1.length : Int))
            obtain ⟨y178, hy178⟩ : ∃ y_ : List Int, y_ = (x3_1.drop (x5_2 : Int).toNat) := ⟨_, rfl⟩
            replace H : (if y175.length + y178.length < 17592186044416 then (spec_SetOf.l0 k2 l0 (y175 ++ y178) (wrap64 (x4_1 + 1))) else (none)) = some r := by first | (rw [hy178]; with_reducible exact H) | (have H2_ := (Option.bind_some _ _).symm.trans H; rw [hy178]; with_reducible exact H2_) | (have H2_ := (Option.bind_some _ _).symm.trans H; with_reducible exact H2_) | with_reducible exact H | (rw [hy178]; exact H) | exact H
            have Ny178 := Aside0.mk hy178
            clear hy178
            by_cases c46 : y175.length + y178.length < 17592186044416
            rotate_left
            · rw [if_neg c46] at H
              exact absurd H (by simp)
            rw [if_pos c46] at H
            have LMc46 := Aside0.mk c46
            clear c46
            obtain ⟨y182, hy182⟩ : ∃ y_ : List Int, y_ = (y175 ++ y178) := ⟨_, rfl⟩
            replace H : (spec_SetOf.l0 k2 l0 y182 (wrap64 (x4_1 + 1))) = some r := by first | (rw [hy182]; with_reducible exact H) | (have H2_ := (Option.bind_some _ _).symm.trans H; rw [hy182]; with_reducible exact H2_) | (have H2_ := (Option.bind_some _ _).symm.trans H; with_reducible exact H2_) | with_reducible exact H | (rw [hy182]; exact H) | exact H
            have Ny182 := Aside0.mk hy182
            clear hy182
            have H' := Aside0.mk H
            clear H
            try go_wp2
            have n0_ := Aside0.mk (Kd.R_drew HO_3.out)
            have n1_ := Aside0.mk (below_drew1 HB.out)
            clear HO_3
            clear HB
            have HO_3 := n0_
            have HB := n1_
            clear n0_ n1_
            refine start_ (n := 14) (S := fun w' => True) (ds := []) #[false, false, false, false, false, false, false, false, false, false, false, false, false, false] (by kernel_rfl) rfl rfl trivial (fun hHeld => ?_); refine with_tabW spec_SetOf.tab7 spec_SetOf.bits7 (fun HT_ HW_ => ?_)
            generalize wr.drew = w47 at HO_3 HB hHeld ⊢
            refine pure_ (i := 0) (N := some 21) (v := _) (a' := _) (M3_14 1) rfl rfl (any_of HT_.out (by kernel_rfl)) (fun _ _ _ h => h) (Or.inl ⟨(by rfl), (by intro w'; go_simp; with_reducible rfl)⟩) Z3_30 ?_
            refine pure_ (i := 1) (N := some 22) (v := _) (a' := _) (M3_14 3) rfl rfl (any_of HT_.out (by kernel_rfl)) (fun _ _ _ h => h) (Or.inl ⟨(by rfl), (by intro w'; go_simp; with_reducible rfl)⟩) Z3_30 ?_
            refine pure_ (i := 2) (N := some 23) (v := _) (a' := _) (M3_14 7) rfl rfl (any_of HT_.out (by kernel_rfl)) (fun _ _ _ h => h) (Or.inl ⟨(by rfl), (by intro w'; go_simp; with_reducible rfl)⟩) Z3_30 ?_
            refine pure_ (i := 3) (N := some 24) (v := undef) (a' := ?_) (M3_14 15) rfl rfl (any_of HT_.out (by kernel_rfl)) (fun _ _ _ h => h) (Or.inr ⟨(by rfl), rfl⟩) ?_ ?_
            rotate_left
            · simp only [Act.put, List.setIfInBounds_toArray, List.set_cons_zero, List.set_cons_succ, i64_w, i32_w]
              rfl
            refine pure_ (i := 4) (N := some 25) (v := undef) (a' := ?_) (M3_14 31) rfl rfl (any_of HT_.out (by kernel_rfl)) (fun _ _ _ h => h) (Or.inr ⟨(by rfl), rfl⟩) ?_ ?_
            rotate_left
            · simp only [Act.put, List.setIfInBounds_toArray, List.set_cons_zero, List.set_cons_succ, i64_w, i32_w]
              rfl
            refine pure_ (i := 5) (N := some 26) (v := undef) (a' := ?_) (M3_14 63) rfl rfl (any_of HT_.out (by kernel_rfl)) (fun _ _ _ h => h) (Or.inr ⟨(by rfl), rfl⟩) ?_ ?_
            rotate_left
            · simp only [Act.put, List.setIfInBounds_toArray, List.set_cons_zero, List.set_cons_succ, i64_w, i32_w]
              rfl
            refine pure_ (i := 6) (N := some 27) (v := undef) (a' := ?_) (M3_14 127) rfl rfl (any_of HT_.out (by kernel_rfl)) (fun _ _ _ h => h) (Or.inr ⟨(by rfl), rfl⟩) ?_ ?_
            rotate_left
            · simp only [Act.put, List.setIfInBounds_toArray, List.set_cons_zero, List.set_cons_succ, i64_w, i32_w]
              rfl
            refine pure_ (i := 7) (N := some 28) (v := undef) (a' := ?_) (M3_14 255) rfl rfl (any_of HT_.out (by kernel_rfl)) (fun _ _ _ h => h) (Or.inr ⟨(by rfl), rfl⟩) ?_ ?_
            rotate_left
            · simp only [Act.put, List.setIfInBounds_toArray, List.set_cons_zero, List.set_cons_succ, i64_w, i32_w]
              rfl
            refine pure_ (i := 8) (N := some 29) (v := undef) (a' := ?_) (M3_14 511) rfl rfl (any_of HT_.out (by kernel_rfl)) (fun _ _ _ h => h) (Or.inr ⟨(by rfl), rfl⟩) ?_ ?_
            rotate_left
            · simp only [Act.put, List.setIfInBounds_toArray, List.set_cons_zero, List.set_cons_succ, i64_w, i32_w]
              rfl
            refine pure_ (i := 9) (N := some 30) (v := undef) (a' := ?_) (M3_14 1023) rfl rfl (any_of HT_.out (by kernel_rfl)) (fun _ _ _ h => h) (Or.inr ⟨(by rfl), rfl⟩) ?_ ?_
            rotate_left
            · simp only [Act.put, List.setIfInBounds_toArray, List.set_cons_zero, List.set_cons_succ, i64_w, i32_w]
              rfl
            refine pure_ (i := 10) (N := some 31) (v := undef) (a' := ?_) (M3_14 2047) rfl rfl (any_of HT_.out (by kernel_rfl)) (fun _ _ _ h => h) (Or.inr ⟨(by rfl), rfl⟩) ?_ ?_
            rotate_left
            · simp only [Act.put, List.setIfInBounds_toArray, List.set_cons_zero, List.set_cons_succ, i64_w, i32_w]
              rfl
            refine pure_ (i := 11) (N := some 32) (v := undef) (a' := ?_) (M3_14 4095) rfl rfl (any_of HT_.out (by kernel_rfl)) (fun _ _ _ h => h) (Or.inr ⟨(by rfl), rfl⟩) ?_ ?_
            rotate_left
            · simp only [Act.put, List.setIfInBounds_toArray, List.set_cons_zero, List.set_cons_succ, i64_w, i32_w]
              rfl
            refine pure_ (i := 12) (N := some 33) (v := undef) (a' := ?_) (M3_14 8191) rfl rfl (any_of HT_.out (by kernel_rfl)) (fun _ _ _ h => h) (Or.inr ⟨(by rfl), rfl⟩) ?_ ?_
            rotate_left
            · simp only [Act.put, List.setIfInBounds_toArray, List.set_cons_zero, List.set_cons_succ, i64_w, i32_w]
              rfl
            refine pure_ (i := 13) (N := some 34) (v := _) (a' := _) (M3_14 16383) rfl rfl (any_of HT_.out (by kernel_rfl)) (fun _ _ _ h => h) (Or.inl ⟨(by rfl), (by intro w'; go_simp; with_reducible rfl)⟩) Z3_30 ?_
            refine done_ (done_of HT_.out (by kernel_rfl)) ?_
            try go_wp2
            have n0_ := Aside0.mk (Kd.R_drew HO_3.out)
            have n1_ := Aside0.mk (below_drew1 HB.out)
            clear HO_3
            clear HB
            have HO_3 := n0_
            have HB := n1_
            clear n0_ n1_
            have q49 : (x5_2 : Int) ≤ ((x3_1.length : Int) : Int) := of_decide_eq_true Z3_39
            obtain ⟨i049, hi049, _, hsz49, _⟩ := info_parts info3
            have hroom49 : x3_1.length ≤ co9 := (Kd.R_reads' HO_3.out).2.1
            have hC49 : Kd.C (Kd.int .i64) _ Ao9 x3_1.length x3_1 := (Kd.R_reads' HO_3.out).2.2
            have hcut49 := cut_to (P := Try.prog) 22 3 .i64 Try.underlying22 hi049 Ao9 x3_1.length co9 x5_2 (of_decide_eq_true Z3_39) q49 hroom49
            have hr49 := Kd.C_take (m := (x5_2 : Int).toNat) hC49 (by omega)
            have hy49 : y164.length = (x5_2 : Int).toNat := (by rw [Ny164.out, List.length_take]; omega)
            rw [← Ny164.out] at hr49
            rw [← hy49] at hcut49
            have HR167 := Aside0.mk hr49
            have HC167 := Aside0.mk (show y164.length ≤ co9 from by omega)
            clear hr49 hC49 hroom49 hi049 hsz49
            have KY49 := Aside0.mk hy49
            clear hy49
            have KL49 := Aside0.mk Z3_40
            replace q49 := eq_true q49
            have p171 : 0 ≤ (x4_1 : Int) := of_decide_eq_true Z3_39
            have q171 : x4_1 < (l0.length : Int) := of_decide_eq_true Z3_39
            obtain ⟨ad171, e171, hx171_0⟩ := Kd.at_int HR0.out x4_1 p171 q171
            have hw171_0 := hx171_0
            obtain rfl : ad133 = ad171 := (by injection e171)
            replace hx171_0 := (HB.out.cell (World.block_lt_of_cell? w _ hx171_0)).trans hx171_0
            replace p171 := eq_true p171
            replace q171 := eq_true q171
            have q50 : (x5_2 : Int) ≤ ((x3_1.length : Int) : Int) := of_decide_eq_true Z3_39
            obtain ⟨i050, hi050, _, hsz50, _⟩ := info_parts info3
            have hroom50 : x3_1.length ≤ co9 := (Kd.R_reads' HO_3.out).2.1
            have hC50 : Kd.C (Kd.int .i64) _ Ao9 x3_1.length x3_1 := (Kd.R_reads' HO_3.out).2.2
            have q050 : (0 : Int) ≤ (x5_2 : Int) := of_decide_eq_true Z3_39
            have hcut50 := cut_from (P := Try.prog) 22 3 .i64 Try.underlying22 hi050 1 hsz50 Ao9 x3_1.length co9 x5_2 q050 q50
            have hr50 := Kd.C_drop (m := (x5_2 : Int).toNat) (c := co9) hC50 (by omega) hroom50
            obtain ⟨A50, hA50⟩ : ∃ A1, A1 = (if co9 = (x5_2 : Int).toNat then Ao9 else (Ao9 : Option Addr).map (·.add ((x5_2 : Int).toNat * 1))) := ⟨_, rfl⟩
            obtain ⟨c50, hc50⟩ : ∃ c1, c1 = co9 - (x5_2 : Int).toNat := ⟨_, rfl⟩
            have hy50 : y178.length = x3_1.length - (x5_2 : Int).toNat := (by rw [Ny178.out, List.length_drop] <;> omega)
            rw [show (x3_1).drop (x5_2 : Int).toNat = y178 from Ny178.out.symm] at hr50
            replace hr50 : Kd.C (Kd.int .i64) _ A50 y178.length y178 := (by rw [hA50]; exact hr50)
            rw [← hy50, ← hA50, ← hc50] at hcut50
            have HR181 := Aside0.mk hr50
            have HC181 := Aside0.mk (show y178.length ≤ c50 from by rw [hy50, hc50]; exact Nat.sub_le_sub_right hroom50 _)
            clear hr50 hC50 hroom50 hi050 hsz50 hc50
            have KY50 := Aside0.mk hy50
            have KA50 := Aside0.mk hA50
            clear hy50 hA50
            have KL50 := Aside0.mk Z3_40
            replace q50 := eq_true q50
            refine start_ (n := 16) (S := fun w' => w'.cell? (ad133.add (x4_1).toNat) = some (.int .i64 (rd l0 x4_1))) (ds := []) #[false, false, false, false, false, false, false, false, false, false, false, false, false, false, false, false] (by kernel_rfl) rfl rfl (((HB.out.cell (World.block_lt_of_cell? w _ hw171_0)).trans hw171_0)) (fun hHeld => ?_); refine with_tabW spec_SetOf.tab9 spec_SetOf.bits9 (fun HT_ HW_ => ?_)
            generalize w47.drew = w48 at HO_3 HB HR167 HR181 hx171_0 hHeld ⊢
            refine pure_ (i := 1) (N := some 38) (v := _) (a' := _) (M3_16 2) rfl rfl (any_of HT_.out (by kernel_rfl)) (fun _ _ _ h => h) (Or.inl ⟨(by rfl), (by intro w'; go_simp; with_reducible rfl)⟩) Z3_30 ?_
            refine pure_ (i := 2) (N := some 39) (v := _) (a' := _) (M3_16 6) rfl rfl (any_of HT_.out (by kernel_rfl)) (fun _ _ _ h => h) (Or.inl ⟨(by rfl), (by intro w'; go_simp; with_reducible rfl)⟩) Z3_30 ?_
            refine pure_ (i := 3) (N := some 40) (v := _) (a' := _) (M3_16 14) rfl rfl (any_of HT_.out (by kernel_rfl)) (fun _ _ _ h => h) (Or.inl ⟨(by rfl), (by intro w'; go_simp; with_reducible rfl)⟩) Z3_30 ?_
            refine pure_ (i := 5) (N := some 42) (v := _) (a' := _) (M3_16 46) rfl rfl (any_of HT_.out (by kernel_rfl)) (fun _ _ _ h => h) (Or.inl ⟨(by rfl), (by intro w'; go_simp; with_reducible rfl)⟩) Z3_30 ?_
            refine pure_ (i := 6) (N := some 43) (v := _) (a' := _) (M3_16 110) rfl rfl (any_of HT_.out (by kernel_rfl)) (fun _ _ _ h => h) (Or.inl ⟨(by rfl), (by intro w'; go_simp; with_reducible rfl)⟩) Z3_30 ?_
            refine pure_ (i := 7) (N := some 44) (v := _) (a' := _) (M3_16 238) rfl rfl (any_of HT_.out (by kernel_rfl)) (fun _ _ _ h => h) (Or.inl ⟨(by rfl), (by intro w'; go_simp; with_reducible rfl)⟩) Z3_30 ?_
            refine pure_ (i := 11) (N := some 48) (v := _) (a' := _) (M3_16 2286) rfl rfl (any_of HT_.out (by kernel_rfl)) (fun _ _ _ h => h) (Or.inl ⟨(by rfl), (by intro w'; go_simp; with_reducible rfl)⟩) Z3_30 ?_
            refine pure_ (i := 12) (N := some 49) (v := _) (a' := _) (M3_16 6382) rfl rfl (any_of HT_.out (by kernel_rfl)) (fun _ _ _ h => h) (Or.inl ⟨(by rfl), (by intro w'; go_simp; with_reducible rfl)⟩) Z3_30 ?_
            refine pure_ (i := 13) (N := some 50) (v := _) (a' := _) (M3_16 14574) rfl rfl (any_of HT_.out (by kernel_rfl)) (fun _ _ _ h => h) (Or.inl ⟨(by rfl), (by intro w'; go_simp; with_reducible rfl)⟩) Z3_30 ?_
            refine take_ (i := 8) (N := some 45) (v := ?_) (a' := ?_) (M3_16 14830) rfl rfl (take_ofW HT_.out HW_.out (by kernel_rfl)) (fun _ _ _ h => h) (Or.inl ⟨(by rfl), ?_⟩) hHeld ?_ ?_
            rotate_left
            · intro w' s0
              go_simp
              with_reducible rfl
            rotate_left
            · simp only [Act.put, List.setIfInBounds_toArray, List.set_cons_zero, List.set_cons_succ, i64_w, i32_w]
              rfl
            refine join_ (σ := Value × Value × Value) 3 (M3_16 15359) (fun s_ => [(37, s_.1), (41, s_.2.1), (46, s_.2.2)]) (fun s_ w' => (w'.cell? (ad133.add (x4_1).toNat) = some (.int .i64 (rd l0 x4_1))) ∧ (Kd.R (Kd.int .i64) 3 w' w.heap.size (fun k_ => some k_ ≠ (s_.2.2 : Value).ownBlock ∧ some k_ ≠ (.slice Ao9 x3_1.length co9 : Value).ownBlock) s_.2.1 y168) ∧ (Kd.R (Kd.int .i64) 3 w' w.heap.size (fun k_ => some k_ ≠ (s_.2.1 : Value).ownBlock ∧ some k_ ≠ (.slice Ao9 x3_1.length co9 : Value).ownBlock) s_.2.2 y172) ∧ (Kd.R (Kd.int .i64) 3 w' w.heap.size (fun k_ => some k_ ≠ (s_.2.1 : Value).ownBlock ∧ some k_ ≠ (s_.2.2 : Value).ownBlock) (.slice Ao9 x3_1.length co9) x3_1) ∧ (Kd.C (Kd.int .i64) w' Ao9 y164.length y164) ∧ (Kd.C (Kd.int .i64) w' A50 y178.length y178) ∧ (Below w.heap.size w w')) ?_ ?_
            rotate_left
            · intro hCont
              refine two_ (i := 0) (j := 9) (Ni := some 37) (Nj := some 46) (M3_16 14831) (M3_16 15342) rfl rfl rfl rfl (two_of HT_.out (by kernel_rfl)) (by decide) (by decide) (fun K hK => ?_) (fun K hK => ?_)
              · skip
                refine Kd.R_lit_step (Kd.int .i64) _ 3 ?hg (N := 37) ?hd (xs := ([] : List Int)) (inner := []) (ok := fun _ => True) (okp := fun _ => True) ?hr ?hp (fun _ hk => hk) trivial (Below.refl _ _) (Nat.le_refl _) (by simp) ?_; (case hd => rfl); (case hg => rfl); (case hr => first | (go_simp; done) | (go_simp; rfl)); (case hp => exact (Reps.none _ _))
                intro v162 w51 ho52 hb hg_ hnew_
                clear hg_ hnew_
                (first | rw [← Ny161.out] at ho52 | (simp only [Int.reduceToNat] at ho52; rw [← Ny161.out] at ho52))
                have n0_ := Aside0.mk Z3_25
                have n1_ := Aside0.mk Z3_1
                have n2_ := Aside0.mk Z3_5
                have n3_ := Aside0.mk Z3_6
                have n4_ := Aside0.mk Z3_13
                clear HO_3
                clear HR167
                clear HR181
                clear HB
                have HO_3 := n0_
                have HO163 := n1_
                have HR167 := n2_
                have HR181 := n3_
                have HB := n4_
                clear n0_ n1_ n2_ n3_ n4_
                clear hb ho52
                refine hK.out _ _ (((HB.out.cell (World.block_lt_of_cell? w _ hw171_0)).trans hw171_0)) (fun hHeld => ?_)
                clear hK K
                refine norm_ (a' := ?_) ?_ ?_
                rotate_left
                · show Act.put _ (some 37) _ = _
                  simp only [Act.put, List.setIfInBounds_toArray, List.set_cons_zero, List.set_cons_succ, i64_w, i32_w]
                  rfl
                refine two_ (i := 4) (j := 9) (Ni := some 41) (Nj := some 46) (M3_16 14847) (M3_16 15343) rfl rfl rfl rfl (two_of HT_.out (by kernel_rfl)) (by decide) (by decide) (fun K hK => ?_) (fun K hK => ?_)
                · skip
                  refine Kd.R_append_rows_step (Kd.int .i64) (w0 := w) w.heap.size (by rfl) (.tmp 37) (.tmp 40) 22 3 (.int .i64 0) 8 rfl Try.underlying22 info3 rfl (by decide) (by omega) v162 y161 y164 _ _ _ (fun k_ => some k_ ≠ (.slice Ao9 x3_1.length co9 : Value).ownBlock) (fun _ => False) rfl rfl ?aO ?aR (fun _ _ h => h) (fun _ h => h.elim) ?aF ?aB ?aS ?aL ?_
                  (case aR => repeat (first | exact Z3_9 | (with_reducible refine Kd.C_alloc ?_ _) | (with_reducible refine Kd.C_drewN ?_ _) | (with_reducible refine Kd.C_drew ?_)))
                  (case aB => exact Z3_29)
                  (case aF => exact (fun k_ hk => Kd.fresh' (Kd.R_lt Z3_37) k_ hk))
                  (case aO => exact (by (with_reducible repeat (first | apply Kd.R_alloc | apply Kd.R_drewN | apply Kd.R_drew)); exact Kd.R_mono HO163.out (fun _ hk => hk.2)))
                  (case aS => exact (below_size Z3_29))
                  (case aL => have := LMc40.out; omega)
                  intro v169 w53 ho hb hg hat
                  rw [← Ny168.out] at ho
                  have n0_ := Aside0.mk Z3_14
                  have n1_ := Aside0.mk (hb)
                  have n2_ := Aside0.mk ((show Kd.C (Kd.int .i64) w53 Ao9 y164.length y164 from by rw [Ny164.out]; exact Kd.C_take (m := (x5_2 : Int).toNat) ((Kd.R_reads' Z3_14).2.2) KL49.out))
                  have n3_ := Aside0.mk ((show Kd.C (Kd.int .i64) w53 A50 y178.length y178 from by rw [Ny178.out, KA50.out]; exact Kd.C_drop (m := (x5_2 : Int).toNat) (c := co9) ((Kd.R_reads' Z3_14).2.2) KL50.out ((Kd.R_reads' Z3_14).2.1)))
                  have n4_ := Aside0.mk (ho)
                  clear HO_3
                  clear HB
                  clear HR167
                  clear HR181
                  clear HO163
                  have HO_3 := n0_
                  have HB := n1_
                  have HR167 := n2_
                  have HR181 := n3_
                  have HO170 := n4_
                  clear n0_ n1_ n2_ n3_ n4_
                  clear ho hb hg hat
                  refine hK.out _ _ (((HB.out.cell (World.block_lt_of_cell? w _ hw171_0)).trans hw171_0)) (fun hHeld => ?_)
                  clear hK K
                  refine norm_ (a' := ?_) ?_ ?_
                  rotate_left
                  · show Act.put _ (some 41) _ = _
                    simp only [Act.put, List.setIfInBounds_toArray, List.set_cons_zero, List.set_cons_succ, i64_w, i32_w]
                    rfl
                  refine one_ (i := 9) (N := some 46) (M3_16 15359) rfl rfl (one_of HT_.out (by kernel_rfl)) (by decide) (fun K hK => ?_)
                  refine Kd.R_lit_step (Kd.int .i64) _ 3 ?hg (N := 46) ?hd (xs := ([rd l0 x4_1] : List Int)) (inner := [.int .i64 (rd l0 x4_1)]) (ok := fun _ => True) (okp := fun _ => True) ?hr ?hp (fun _ hk => hk) trivial (Below.refl _ _) (Nat.le_refl _) (by simp) ?_; (case hd => rfl); (case hg => rfl); (case hr => first | (go_simp; done) | (go_simp; rfl)); (case hp => exact (Reps.one (show Kd.M (Kd.int .i64) _ _ _ (rd l0 x4_1) [.int .i64 (rd l0 x4_1)] from rfl) (Reps.none _ _)))
                  intro v173 w54 ho55 hb hg_ hnew_
                  clear hg_ hnew_
                  (first | rw [← Ny172.out] at ho55 | (simp only [Int.reduceToNat] at ho55; rw [← Ny172.out] at ho55))
                  have n0_ := Aside0.mk (Kd.R_elder' Z3_37 (Kd.R_base ho55) hb)
                  have n1_ := Aside0.mk (Kd.R_elder' Z3_31 (Kd.R_base ho55) hb)
                  have n2_ := Aside0.mk (Kd.R_lower (Kd.R_new' (Kd.R_new' ho55 (Kd.R_lt Z3_37)) (Kd.R_lt Z3_31)) (below_size Z3_29))
                  have n3_ := Aside0.mk Z3_5
                  have n4_ := Aside0.mk Z3_6
                  have n5_ := Aside0.mk Z3_13
                  clear HO_3
                  clear HO170
                  clear HR167
                  clear HR181
                  clear HB
                  have HO_3 := n0_
                  have HO170 := n1_
                  have HO174 := n2_
                  have HR167 := n3_
                  have HR181 := n4_
                  have HB := n5_
                  clear n0_ n1_ n2_ n3_ n4_ n5_
                  clear hb ho55
                  refine hK.out _ _ (((HB.out.cell (World.block_lt_of_cell? w _ hw171_0)).trans hw171_0)) (fun hHeld => ?_)
                  clear hK K
                  refine norm_ (a' := ?_) ?_ ?_
                  rotate_left
                  · show Act.put _ (some 46) _ = _
                    simp only [Act.put, List.setIfInBounds_toArray, List.set_cons_zero, List.set_cons_succ, i64_w, i32_w]
                    rfl
                  exact norm_ Z3_38 (hCont (v162, v169, v173) _ ⟨hHeld, Z3_19, (by (with_reducible repeat (first | apply Kd.R_alloc | apply Kd.R_drewN | apply Kd.R_drew)); exact Kd.R_mono HO174.out (fun _ hk => ⟨hk.2, hk.1.2⟩)), Z3_17, Z3_9, Z3_10, Z3_29⟩)
                · skip
                  refine Kd.R_lit_step (Kd.int .i64) _ 3 ?hg (N := 46) ?hd (xs := ([rd l0 x4_1] : List Int)) (inner := [.int .i64 (rd l0 x4_1)]) (ok := fun _ => True) (okp := fun _ => True) ?hr ?hp (fun _ hk => hk) trivial (Below.refl _ _) (Nat.le_refl _) (by simp) ?_; (case hd => rfl); (case hg => rfl); (case hr => first | (go_simp; done) | (go_simp; rfl)); (case hp => exact (Reps.one (show Kd.M (Kd.int .i64) _ _ _ (rd l0 x4_1) [.int .i64 (rd l0 x4_1)] from rfl) (Reps.none _ _)))
                  intro v173 w53 ho54 hb hg_ hnew_
                  clear hg_ hnew_
                  (first | rw [← Ny172.out] at ho54 | (simp only [Int.reduceToNat] at ho54; rw [← Ny172.out] at ho54))
                  have n0_ := Aside0.mk Z3_26
                  have n1_ := Aside0.mk (Kd.R_elder' Z3_32 (Kd.R_base ho54) hb)
                  have n2_ := Aside0.mk (Kd.R_lower (Kd.R_new' (Kd.R_new' ho54 (Kd.R_lt Z3_37)) (Kd.R_lt Z3_32)) (below_size Z3_29))
                  have n3_ := Aside0.mk Z3_5
                  have n4_ := Aside0.mk Z3_6
                  have n5_ := Aside0.mk Z3_13
                  clear HO_3
                  clear HO163
                  clear HR167
                  clear HR181
                  clear HB
                  have HO_3 := n0_
                  have HO163 := n1_
                  have HO174 := n2_
                  have HR167 := n3_
                  have HR181 := n4_
                  have HB := n5_
                  clear n0_ n1_ n2_ n3_ n4_ n5_
                  clear hb ho54
                  refine hK.out _ _ (((HB.out.cell (World.block_lt_of_cell? w _ hw171_0)).trans hw171_0)) (fun hHeld => ?_)
                  clear hK K
                  refine norm_ (a' := ?_) ?_ ?_
                  rotate_left
                  · show Act.put _ (some 46) _ = _
                    simp only [Act.put, List.setIfInBounds_toArray, List.set_cons_zero, List.set_cons_succ, i64_w, i32_w]
                    rfl
                  refine one_ (i := 4) (N := some 41) (M3_16 15359) rfl rfl (one_of HT_.out (by kernel_rfl)) (by decide) (fun K hK => ?_)
                  refine Kd.R_append_rows_step (Kd.int .i64) (w0 := w) w.heap.size (by rfl) (.tmp 37) (.tmp 40) 22 3 (.int .i64 0) 8 rfl Try.underlying22 info3 rfl (by decide) (by omega) v162 y161 y164 _ _ _ (fun k_ => some k_ ≠ (.slice Ao9 x3_1.length co9 : Value).ownBlock ∧ some k_ ≠ (v173 : Value).ownBlock) (fun _ => False) rfl rfl ?aO ?aR (fun _ _ h => h) (fun _ h => h.elim) ?aF ?aB ?aS ?aL ?_
                  (case aR => repeat (first | exact Z3_9 | (with_reducible refine Kd.C_alloc ?_ _) | (with_reducible refine Kd.C_drewN ?_ _) | (with_reducible refine Kd.C_drew ?_)))
                  (case aB => exact Z3_29)
                  (case aF => exact (fun k_ hk => ⟨Kd.fresh' (Kd.R_lt Z3_37) k_ hk, Kd.fresh' (Kd.R_lt Z3_33) k_ hk⟩))
                  (case aO => exact Z3_15)
                  (case aS => exact (below_size Z3_29))
                  (case aL => have := LMc40.out; omega)
                  intro v169 w55 ho hb hg hat
                  rw [← Ny168.out] at ho
                  have n0_ := Aside0.mk (Kd.R_after (ok := (fun k_ => some k_ ≠ (v173 : Value).ownBlock)) Z3_18 hg hat)
                  have n1_ := Aside0.mk Z3_4
                  have n2_ := Aside0.mk (hb)
                  have n3_ := Aside0.mk ((show Kd.C (Kd.int .i64) w55 Ao9 y164.length y164 from by rw [Ny164.out]; exact Kd.C_take (m := (x5_2 : Int).toNat) ((Kd.R_reads' (Kd.R_after (ok := (fun k_ => some k_ ≠ (v173 : Value).ownBlock)) Z3_18 hg hat)).2.2) KL49.out))
                  have n4_ := Aside0.mk ((show Kd.C (Kd.int .i64) w55 A50 y178.length y178 from by rw [Ny178.out, KA50.out]; exact Kd.C_drop (m := (x5_2 : Int).toNat) (c := co9) ((Kd.R_reads' (Kd.R_after (ok := (fun k_ => some k_ ≠ (v173 : Value).ownBlock)) Z3_18 hg hat)).2.2) KL50.out ((Kd.R_reads' (Kd.R_after (ok := (fun k_ => some k_ ≠ (v173 : Value).ownBlock)) Z3_18 hg hat)).2.1)))
                  have n5_ := Aside0.mk (ho)
                  clear HO_3
                  clear HO174
                  clear HB
                  clear HR167
                  clear HR181
                  clear HO163
                  have HO_3 := n0_
                  have HO174 := n1_
                  have HB := n2_
                  have HR167 := n3_
                  have HR181 := n4_
                  have HO170 := n5_
                  clear n0_ n1_ n2_ n3_ n4_ n5_
                  clear ho hb hg hat
                  refine hK.out _ _ (((HB.out.cell (World.block_lt_of_cell? w _ hw171_0)).trans hw171_0)) (fun hHeld => ?_)
                  clear hK K
                  refine norm_ (a' := ?_) ?_ ?_
                  rotate_left
                  · show Act.put _ (some 41) _ = _
                    simp only [Act.put, List.setIfInBounds_toArray, List.set_cons_zero, List.set_cons_succ, i64_w, i32_w]
                    rfl
                  exact norm_ Z3_38 (hCont (v162, v169, v173) _ ⟨hHeld, Z3_19, Z3_20, Z3_23, Z3_9, Z3_10, Z3_29⟩)
              · skip
                refine Kd.R_lit_step (Kd.int .i64) _ 3 ?hg (N := 46) ?hd (xs := ([rd l0 x4_1] : List Int)) (inner := [.int .i64 (rd l0 x4_1)]) (ok := fun _ => True) (okp := fun _ => True) ?hr ?hp (fun _ hk => hk) trivial (Below.refl _ _) (Nat.le_refl _) (by simp) ?_; (case hd => rfl); (case hg => rfl); (case hr => first | (go_simp; done) | (go_simp; rfl)); (case hp => exact (Reps.one (show Kd.M (Kd.int .i64) _ _ _ (rd l0 x4_1) [.int .i64 (rd l0 x4_1)] from rfl) (Reps.none _ _)))
                intro v173 w51 ho52 hb hg_ hnew_
                clear hg_ hnew_
                (first | rw [← Ny172.out] at ho52 | (simp only [Int.reduceToNat] at ho52; rw [← Ny172.out] at ho52))
                have n0_ := Aside0.mk Z3_25
                have n1_ := Aside0.mk Z3_1
                have n2_ := Aside0.mk Z3_5
                have n3_ := Aside0.mk Z3_6
                have n4_ := Aside0.mk Z3_13
                clear HO_3
                clear HR167
                clear HR181
                clear HB
                have HO_3 := n0_
                have HO174 := n1_
                have HR167 := n2_
                have HR181 := n3_
                have HB := n4_
                clear n0_ n1_ n2_ n3_ n4_
                clear hb ho52
                refine hK.out _ _ (((HB.out.cell (World.block_lt_of_cell? w _ hw171_0)).trans hw171_0)) (fun hHeld => ?_)
                clear hK K
                refine norm_ (a' := ?_) ?_ ?_
                rotate_left
                · show Act.put _ (some 46) _ = _
                  simp only [Act.put, List.setIfInBounds_toArray, List.set_cons_zero, List.set_cons_succ, i64_w, i32_w]
                  rfl
                refine one_ (i := 0) (N := some 37) (M3_16 15343) rfl rfl (one_of HT_.out (by kernel_rfl)) (by decide) (fun K hK => ?_)
                refine Kd.R_lit_step (Kd.int .i64) _ 3 ?hg (N := 37) ?hd (xs := ([] : List Int)) (inner := []) (ok := fun _ => True) (okp := fun _ => True) ?hr ?hp (fun _ hk => hk) trivial (Below.refl _ _) (Nat.le_refl _) (by simp) ?_; (case hd => rfl); (case hg => rfl); (case hr => first | (go_simp; done) | (go_simp; rfl)); (case hp => exact (Reps.none _ _))
                intro v162 w53 ho54 hb hg_ hnew_
                clear hg_ hnew_
                (first | rw [← Ny161.out] at ho54 | (simp only [Int.reduceToNat] at ho54; rw [← Ny161.out] at ho54))
                have n0_ := Aside0.mk Z3_26
                have n1_ := Aside0.mk (Kd.R_elder' Z3_33 (Kd.R_base ho54) hb)
                have n2_ := Aside0.mk (Kd.R_lower (Kd.R_new' (Kd.R_new' ho54 (Kd.R_lt Z3_37)) (Kd.R_lt Z3_33)) (below_size Z3_29))
                have n3_ := Aside0.mk Z3_5
                have n4_ := Aside0.mk Z3_6
                have n5_ := Aside0.mk Z3_13
                clear HO_3
                clear HO174
                clear HR167
                clear HR181
                clear HB
                have HO_3 := n0_
                have HO174 := n1_
                have HO163 := n2_
                have HR167 := n3_
                have HR181 := n4_
                have HB := n5_
                clear n0_ n1_ n2_ n3_ n4_ n5_
                clear hb ho54
                refine hK.out _ _ (((HB.out.cell (World.block_lt_of_cell? w _ hw171_0)).trans hw171_0)) (fun hHeld => ?_)
                clear hK K
                refine norm_ (a' := ?_) ?_ ?_
                rotate_left
                · show Act.put _ (some 37) _ = _
                  simp only [Act.put, List.setIfInBounds_toArray, List.set_cons_zero, List.set_cons_succ, i64_w, i32_w]
                  rfl
                refine one_ (i := 4) (N := some 41) (M3_16 15359) rfl rfl (one_of HT_.out (by kernel_rfl)) (by decide) (fun K hK => ?_)
                refine Kd.R_append_rows_step (Kd.int .i64) (w0 := w) w.heap.size (by rfl) (.tmp 37) (.tmp 40) 22 3 (.int .i64 0) 8 rfl Try.underlying22 info3 rfl (by decide) (by omega) v162 y161 y164 _ _ _ (fun k_ => some k_ ≠ (.slice Ao9 x3_1.length co9 : Value).ownBlock ∧ some k_ ≠ (v173 : Value).ownBlock) (fun _ => False) rfl rfl ?aO ?aR (fun _ _ h => h) (fun _ h => h.elim) ?aF ?aB ?aS ?aL ?_
                (case aR => repeat (first | exact Z3_9 | (with_reducible refine Kd.C_alloc ?_ _) | (with_reducible refine Kd.C_drewN ?_ _) | (with_reducible refine Kd.C_drew ?_)))
                (case aB => exact Z3_29)
                (case aF => exact (fun k_ hk => ⟨Kd.fresh' (Kd.R_lt Z3_37) k_ hk, Kd.fresh' (Kd.R_lt Z3_33) k_ hk⟩))
                (case aO => exact Z3_15)
                (case aS => exact (below_size Z3_29))
                (case aL => have := LMc40.out; omega)
                intro v169 w55 ho hb hg hat
                rw [← Ny168.out] at ho
                have n0_ := Aside0.mk (Kd.R_after (ok := (fun k_ => some k_ ≠ (v173 : Value).ownBlock)) Z3_17 hg hat)
                have n1_ := Aside0.mk Z3_4
                have n2_ := Aside0.mk (hb)
                have n3_ := Aside0.mk ((show Kd.C (Kd.int .i64) w55 Ao9 y164.length y164 from by rw [Ny164.out]; exact Kd.C_take (m := (x5_2 : Int).toNat) ((Kd.R_reads' (Kd.R_after (ok := (fun k_ => some k_ ≠ (v173 : Value).ownBlock)) Z3_17 hg hat)).2.2) KL49.out))
                have n4_ := Aside0.mk ((show Kd.C (Kd.int .i64) w55 A50 y178.length y178 from by rw [Ny178.out, KA50.out]; exact Kd.C_drop (m := (x5_2 : Int).toNat) (c := co9) ((Kd.R_reads' (Kd.R_after (ok := (fun k_ => some k_ ≠ (v173 : Value).ownBlock)) Z3_17 hg hat)).2.2) KL50.out ((Kd.R_reads' (Kd.R_after (ok := (fun k_ => some k_ ≠ (v173 : Value).ownBlock)) Z3_17 hg hat)).2.1)))
                have n5_ := Aside0.mk (ho)
                clear HO_3
                clear HO174
                clear HB
                clear HR167
                clear HR181
                clear HO163
                have HO_3 := n0_
                have HO174 := n1_
                have HB := n2_
                have HR167 := n3_
                have HR181 := n4_
                have HO170 := n5_
                clear n0_ n1_ n2_ n3_ n4_ n5_
                clear ho hb hg hat
                refine hK.out _ _ (((HB.out.cell (World.block_lt_of_cell? w _ hw171_0)).trans hw171_0)) (fun hHeld => ?_)
                clear hK K
                refine norm_ (a' := ?_) ?_ ?_
                rotate_left
                · show Act.put _ (some 41) _ = _
                  simp only [Act.put, List.setIfInBounds_toArray, List.set_cons_zero, List.set_cons_succ, i64_w, i32_w]
                  rfl
                exact norm_ Z3_38 (hCont (v162, v169, v173) _ ⟨hHeld, Z3_19, Z3_20, Z3_23, Z3_9, Z3_10, Z3_29⟩)
            rintro ⟨v162, v169, v173⟩ w56 ⟨hS_, h0_, h1_, h2_, h3_, h4_, h5_⟩
            have n0_ : Aside0 (Kd.R (Kd.int .i64) 3 w56 w.heap.size (fun k_ => some k_ ≠ (v173 : Value).ownBlock ∧ some k_ ≠ (.slice Ao9 x3_1.length co9 : Value).ownBlock) v169 y168) := ⟨h0_⟩
            have n1_ : Aside0 (Kd.R (Kd.int .i64) 3 w56 w.heap.size (fun k_ => some k_ ≠ (v169 : Value).ownBlock ∧ some k_ ≠ (.slice Ao9 x3_1.length co9 : Value).ownBlock) v173 y172) := ⟨h1_⟩
            have n2_ : Aside0 (Kd.R (Kd.int .i64) 3 w56 w.heap.size (fun k_ => some k_ ≠ (v169 : Value).ownBlock ∧ some k_ ≠ (v173 : Value).ownBlock) (.slice Ao9 x3_1.length co9) x3_1) := ⟨h2_⟩
            have n3_ : Aside0 (Kd.C (Kd.int .i64) w56 Ao9 y164.length y164) := ⟨h3_⟩
            have n4_ : Aside0 (Kd.C (Kd.int .i64) w56 A50 y178.length y178) := ⟨h4_⟩
            have n5_ : Aside0 (Below w.heap.size w w56) := ⟨h5_⟩
            clear HO_3
            clear HB
            clear h0_ h1_ h2_ h3_ h4_ h5_
            have HO170 := n0_
            have HO174 := n1_
            have HO_3 := n2_
            have HR167 := n3_
            have HR181 := n4_
            have HB := n5_
            clear n0_ n1_ n2_ n3_ n4_ n5_
            have hHeld : w56.cell? (ad133.add (x4_1).toNat) = some (.int .i64 (rd l0 x4_1)) := hS_
            obtain ⟨Ao58, co58, eo58⟩ := Kd.R_slice HO174.out
            (first | subst eo58 | (injection eo58 with f1_ f2_ f3_; have f4_ := f1_.symm; have f5_ := f3_.symm; clear f1_ f2_ f3_; subst f4_; subst f5_))
            refine norm_ (a' := ?_) ?_ ?_
            rotate_left
            · simp only [putAll, Act.put, List.setIfInBounds_toArray, List.set_cons_zero, List.set_cons_succ]
              rfl
            refine one_ (i := 10) (N := some 47) (M3_16 16383) rfl rfl (one_of HT_.out (by kernel_rfl)) (by decide) (fun K hK => ?_)
            refine Kd.R_append_rows_step (Kd.int .i64) (w0 := w) w.heap.size (by rfl) (.tmp 41) (.tmp 46) 22 3 (.int .i64 0) 8 rfl Try.underlying22 info3 rfl (by decide) (by omega) v169 y168 y172 _ _ _ (fun k_ => some k_ ≠ (.slice Ao9 x3_1.length co9 : Value).ownBlock ∧ some k_ ≠ (.slice Ao58 y172.length co58 : Value).ownBlock) (fun _ => False) rfl rfl ?aO ?aR (fun _ _ h => h) (fun _ h => h.elim) ?aF ?aB ?aS ?aL ?_
            (case aR => repeat (first | exact (Kd.R_reads' HO174.out).2.2 | (with_reducible refine Kd.C_alloc ?_ _) | (with_reducible refine Kd.C_drewN ?_ _) | (with_reducible refine Kd.C_drew ?_)))
            (case aB => exact Z3_29)
            (case aF => exact (fun k_ hk => ⟨Kd.fresh' (Kd.R_lt Z3_37) k_ hk, Kd.fresh' (Kd.R_lt Z3_33) k_ hk⟩))
            (case aO => exact Z3_19)
            (case aS => exact (below_size Z3_29))
            (case aL => have := LMc43.out; omega)
            intro v176 w57 ho hb hg hat
            rw [← Ny175.out] at ho
            have n0_ := Aside0.mk (Kd.R_after (ok := (fun k_ => some k_ ≠ (.slice Ao58 y172.length co58 : Value).ownBlock)) Z3_23 hg hat)
            have n1_ := Aside0.mk (Kd.R_after (ok := (fun k_ => some k_ ≠ (.slice Ao9 x3_1.length co9 : Value).ownBlock)) Z3_20 hg hat)
            have n2_ := Aside0.mk (hb)
            have n3_ := Aside0.mk ((show Kd.C (Kd.int .i64) w57 Ao9 y164.length y164 from by rw [Ny164.out]; exact Kd.C_take (m := (x5_2 : Int).toNat) ((Kd.R_reads' (Kd.R_after (ok := (fun k_ => some k_ ≠ (.slice Ao58 y172.length co58 : Value).ownBlock)) Z3_23 hg hat)).2.2) KL49.out))
            have n4_ := Aside0.mk ((show Kd.C (Kd.int .i64) w57 A50 y178.length y178 from by rw [Ny178.out, KA50.out]; exact Kd.C_drop (m := (x5_2 : Int).toNat) (c := co9) ((Kd.R_reads' (Kd.R_after (ok := (fun k_ => some k_ ≠ (.slice Ao58 y172.length co58 : Value).ownBlock)) Z3_23 hg hat)).2.2) KL50.out ((Kd.R_reads' (Kd.R_after (ok := (fun k_ => some k_ ≠ (.slice Ao58 y172.length co58 : Value).ownBlock)) Z3_23 hg hat)).2.1)))
            have n5_ := Aside0.mk (ho)
            clear HO_3
            clear HO174
            clear HB
            clear HR167
            clear HR181
            clear HO170
            have HO_3 := n0_
            have HO174 := n1_
            have HB := n2_
            have HR167 := n3_
            have HR181 := n4_
            have HO177 := n5_
            clear n0_ n1_ n2_ n3_ n4_ n5_
            clear ho hb hg hat
            refine hK.out _ _ (((HB.out.cell (World.block_lt_of_cell? w _ hw171_0)).trans hw171_0)) (fun hHeld => ?_)
            clear hK K
            refine norm_ (a' := ?_) ?_ ?_
            rotate_left
            · show Act.put _ (some 47) _ = _
              simp only [Act.put, List.setIfInBounds_toArray, List.set_cons_zero, List.set_cons_succ, i64_w, i32_w]
              rfl
            refine one_ (i := 14) (N := some 51) (M3_16 32767) rfl rfl (one_of HT_.out (by kernel_rfl)) (by decide) (fun K hK => ?_)
            refine Kd.R_append_rows_step (Kd.int .i64) (w0 := w) w.heap.size (by rfl) (.tmp 47) (.tmp 50) 22 3 (.int .i64 0) 8 rfl Try.underlying22 info3 rfl (by decide) (by omega) v176 y175 y178 _ _ _ (fun k_ => some k_ ≠ (.slice Ao9 x3_1.length co9 : Value).ownBlock ∧ some k_ ≠ (.slice Ao58 y172.length co58 : Value).ownBlock) (fun _ => False) rfl rfl ?aO ?aR (fun _ _ h => h) (fun _ h => h.elim) ?aF ?aB ?aS ?aL ?_
            (case aR => repeat (first | exact Z3_10 | (with_reducible refine Kd.C_alloc ?_ _) | (with_reducible refine Kd.C_drewN ?_ _) | (with_reducible refine Kd.C_drew ?_)))
            (case aB => exact Z3_29)
            (case aF => exact (fun k_ hk => ⟨Kd.fresh' (Kd.R_lt Z3_37) k_ hk, Kd.fresh' (Kd.R_lt Z3_33) k_ hk⟩))
            (case aO => exact (by (with_reducible repeat (first | apply Kd.R_alloc | apply Kd.R_drewN | apply Kd.R_drew)); exact HO177.out))
            (case aS => exact (below_size Z3_29))
            (case aL => have := LMc46.out; omega)
            intro v183 w59 ho hb hg hat
            rw [← Ny182.out] at ho
            have n0_ := Aside0.mk (Kd.R_after (ok := (fun k_ => some k_ ≠ (.slice Ao58 y172.length co58 : Value).ownBlock)) Z3_37 hg hat)
            have n1_ := Aside0.mk (Kd.R_after (ok := (fun k_ => some k_ ≠ (.slice Ao9 x3_1.length co9 : Value).ownBlock)) Z3_33 hg hat)
            have n2_ := Aside0.mk (hb)
            have n3_ := Aside0.mk ((show Kd.C (Kd.int .i64) w59 Ao9 y164.length y164 from by rw [Ny164.out]; exact Kd.C_take (m := (x5_2 : Int).toNat) ((Kd.R_reads' (Kd.R_after (ok := (fun k_ => some k_ ≠ (.slice Ao58 y172.length co58 : Value).ownBlock)) Z3_37 hg hat)).2.2) KL49.out))
            have n4_ := Aside0.mk ((show Kd.C (Kd.int .i64) w59 A50 y178.length y178 from by rw [Ny178.out, KA50.out]; exact Kd.C_drop (m := (x5_2 : Int).toNat) (c := co9) ((Kd.R_reads' (Kd.R_after (ok := (fun k_ => some k_ ≠ (.slice Ao58 y172.length co58 : Value).ownBlock)) Z3_37 hg hat)).2.2) KL50.out ((Kd.R_reads' (Kd.R_after (ok := (fun k_ => some k_ ≠ (.slice Ao58 y172.length co58 : Value).ownBlock)) Z3_37 hg hat)).2.1)))
            have n5_ := Aside0.mk (ho)
            clear HO_3
            clear HO174
            clear HB
            clear HR167
            clear HR181
            clear HO177
            have HO_3 := n0_
            have HO174 := n1_
            have HB := n2_
            have HR167 := n3_
            have HR181 := n4_
            have HO184 := n5_
            clear n0_ n1_ n2_ n3_ n4_ n5_
            clear ho hb hg hat
            refine hK.out _ _ (((HB.out.cell (World.block_lt_of_cell? w _ hw171_0)).trans hw171_0)) (fun hHeld => ?_)
            clear hK K
            refine norm_ (a' := ?_) ?_ ?_
            rotate_left
            · show Act.put _ (some 51) _ = _
              simp only [Act.put, List.setIfInBounds_toArray, List.set_cons_zero, List.set_cons_succ, i64_w, i32_w]
              rfl
            refine pure_ (i := 15) (N := some 3) (v := _) (a' := _) (M3_16 65535) rfl rfl (any_of HT_.out (by kernel_rfl)) (fun _ _ _ h => h) (Or.inl ⟨(by rfl), (by intro w'; go_simp; with_reducible rfl)⟩) Z3_30 ?_
            refine done_ (done_of HT_.out (by kernel_rfl)) ?_
            try go_wp2
            go_roundg k2
            case measure => have := HK1.out; have := HK2.out; omega
            case rel => exact ⟨(y182), (wrap64 (x4_1 + 1)), Z3_41, H', ⟨(by have := HK1.out; have := HK2.out; omega)⟩, ⟨(by (with_reducible repeat (first | apply Kd.R_alloc | apply Kd.R_drewN | apply Kd.R_drew)); exact Kd.R_mono HO184.out (fun _ hk => trivial))⟩, ⟨Z3_29⟩⟩
          rw [if_pos c10] at H
          have c10b0 : decide (0 < x5_2) = true := decide_eq_true c10
          clear c10
          obtain ⟨ji11, hji11⟩ : ∃ j_ : Int, (wrap64 (x5_2 - 1)) = j_ := ⟨_, rfl⟩
          replace H : (if 0 ≤ (ji11) then (if (ji11) < (x3_1.length : Int) then (if 0 ≤ x4_1 then (if x4_1 < (l0.length : Int) then (if (rd x3_1 (ji11)) > (rd l0 x4_1) then (spec_SetOf.l1 k2 l0 x3_1 x4_1 ji11) else ((some (([] : List Int) : List Int)).bind fun y137 => (if 0 ≤ x5_2 then (if x5_2 ≤ (x3_1.length : Int) then ((some (x3_1.take (x5_2 : Int).toNat : List Int)).bind fun y140 => (if y137.length + y140.length < 17592186044416 then ((some (y137 ++ y140 : List Int)).bind fun y144 => ((some (([rd l0 x4_1] : List Int) : List Int)).bind fun y148 => (if y144.length + y148.length < 17592186044416 then ((some (y144 ++ y148 : List Int)).bind fun y151 => ((some (x3_1.drop (x5_2 : Int).toNat : List Int)).bind fun y154 => (if y151.length + y154.length < 17592186044416 then (spec_SetOf.l0 k2 l0 (y151 ++ y154) (wrap64 (x4_1 + 1))) else (none)))) else (none)))) else (none))) else (none)) else (none)))) else (none)) else (none)) else (none)) else (none)) = some r := by first | (rw [hji11] at H; exact H) | (simp only [hji11] at H ⊢; exact H)
          have hji11w : (IntKind.i64.wrap (x5_2 - 1)) = ji11 := (i64_w _).trans hji11
          by_cases c12 : 0 ≤ (ji11)
          rotate_left
          · rw [if_neg c12] at H
            exact absurd H (by simp)
          rw [if_pos c12] at H
          have c12b0 : decide (0 ≤ (ji11)) = true := decide_eq_true c12
          clear c12
          by_cases c13 : (ji11) < (x3_1.length : Int)
          rotate_left
          · rw [if_neg c13] at H
            exact absurd H (by simp)
          rw [if_pos c13] at H
          have c13b0 : decide ((ji11) < (x3_1.length : Int)) = true := decide_eq_true c13
          clear c13
          by_cases c14 : 0 ≤ x4_1
          rotate_left
          · rw [if_neg c14] at H
            exact absurd H (by simp)
          rw [if_pos c14] at H
          have c14b0 : decide (0 ≤ x4_1) = true := decide_eq_true c14
          clear c14
          by_cases c15 : x4_1 < (l0.length : Int)
          rotate_left
          · rw [if_neg c15] at H
            exact absurd H (by simp)
          rw [if_pos c15] at H
          have c15b0 : decide (x4_1 < (l0.length : Int)) = true := decide_eq_true c15
          clear c15
          by_cases c16 : (rd x3_1 (ji11)) > (rd l0 x4_1)
          · rw [if_pos c16] at H
            have c16b0 : decide ((rd l0 x4_1) < (rd x3_1 (ji11))) = true := decide_eq_true c16
            clear c16
            have H' := Aside0.mk H
            clear H
            try go_wp2
            have n0_ := Aside0.mk (Kd.R_drew HO_3.out)
            have n1_ := Aside0.mk (below_drew1 HB.out)
            clear HO_3
            clear HB
            have HO_3 := n0_
            have HB := n1_
            clear n0_ n1_
            have p135 : 0 ≤ ((ji11) : Int) := of_decide_eq_true Z3_39
            have q135 : (ji11) < (x3_1.length : Int) := of_decide_eq_true Z3_39
            obtain ⟨ad135, e135, hx135_0⟩ := Kd.at_int (Kd.R_reads' HO_3.out).2.2 (ji11) p135 q135
            cases e135
            replace p135 := eq_true p135
            replace q135 := eq_true q135
            have p136 : 0 ≤ (x4_1 : Int) := of_decide_eq_true Z3_39
            have q136 : x4_1 < (l0.length : Int) := of_decide_eq_true Z3_39
            obtain ⟨ad136, e136, hx136_0⟩ := Kd.at_int HR0.out x4_1 p136 q136
            have hw136_0 := hx136_0
            obtain rfl : ad133 = ad136 := (by injection e136)
            replace hx136_0 := (HB.out.cell (World.block_lt_of_cell? w _ hx136_0)).trans hx136_0
            replace p136 := eq_true p136
            replace q136 := eq_true q136
            refine start_ (n := 14) (S := fun w' => w'.cell? (ad135.add ((ji11)).toNat) = some (.int .i64 (rd x3_1 (ji11))) ∧ w'.cell? (ad133.add (x4_1).toNat) = some (.int .i64 (rd l0 x4_1))) (ds := []) #[false, false, false, false, false, false, false, false, false, false, false, false, false, false] (by kernel_rfl) rfl rfl ⟨hx135_0, ((HB.out.cell (World.block_lt_of_cell? w _ hw136_0)).trans hw136_0)⟩ (fun hHeld => ?_); refine with_tabW spec_SetOf.tab7 spec_SetOf.bits7 (fun HT_ HW_ => ?_)
            generalize wr.drew = w17 at HO_3 HB hx135_0 hx136_0 hHeld ⊢
            refine pure_ (i := 0) (N := some 21) (v := _) (a' := _) (M3_14 1) rfl rfl (any_of HT_.out (by kernel_rfl)) (fun _ _ _ h => h) (Or.inl ⟨(by rfl), (by intro w'; go_simp; with_reducible rfl)⟩) Z3_30 ?_
            refine pure_ (i := 1) (N := some 22) (v := _) (a' := _) (M3_14 3) rfl rfl (any_of HT_.out (by kernel_rfl)) (fun _ _ _ h => h) (Or.inl ⟨(by rfl), (by intro w'; go_simp; with_reducible rfl)⟩) Z3_30 ?_
            refine pure_ (i := 2) (N := some 23) (v := _) (a' := _) (M3_14 7) rfl rfl (any_of HT_.out (by kernel_rfl)) (fun _ _ _ h => h) (Or.inl ⟨(by rfl), (by intro w'; go_simp; with_reducible rfl)⟩) Z3_30 ?_
            refine pure_ (i := 3) (N := some 24) (v := _) (a' := _) (M3_14 15) rfl rfl (any_of HT_.out (by kernel_rfl)) (fun _ _ _ h => h) (Or.inl ⟨(by rfl), (by intro w'; go_simp; with_reducible rfl)⟩) Z3_30 ?_
            refine pure_ (i := 4) (N := some 25) (v := _) (a' := _) (M3_14 31) rfl rfl (any_of HT_.out (by kernel_rfl)) (fun _ _ _ h => h) (Or.inl ⟨(by rfl), (by intro w'; go_simp; with_reducible rfl)⟩) Z3_30 ?_
            refine pure_ (i := 5) (N := some 26) (v := _) (a' := _) (M3_14 63) rfl rfl (any_of HT_.out (by kernel_rfl)) (fun _ _ _ h => h) (Or.inl ⟨(by rfl), (by intro w'; go_simp; with_reducible rfl)⟩) Z3_30 ?_
            refine pure_ (i := 6) (N := some 27) (v := _) (a' := _) (M3_14 127) rfl rfl (any_of HT_.out (by kernel_rfl)) (fun _ _ _ h => h) (Or.inl ⟨(by rfl), (by intro w'; go_simp; with_reducible rfl)⟩) Z3_30 ?_
            refine pure_ (i := 8) (N := some 29) (v := _) (a' := _) (M3_14 383) rfl rfl (any_of HT_.out (by kernel_rfl)) (fun _ _ _ h => h) (Or.inl ⟨(by rfl), (by intro w'; go_simp; with_reducible rfl)⟩) Z3_30 ?_
            refine pure_ (i := 9) (N := some 30) (v := _) (a' := _) (M3_14 895) rfl rfl (any_of HT_.out (by kernel_rfl)) (fun _ _ _ h => h) (Or.inl ⟨(by rfl), (by intro w'; go_simp; with_reducible rfl)⟩) Z3_30 ?_
            refine pure_ (i := 10) (N := some 31) (v := _) (a' := _) (M3_14 1919) rfl rfl (any_of HT_.out (by kernel_rfl)) (fun _ _ _ h => h) (Or.inl ⟨(by rfl), (by intro w'; go_simp; with_reducible rfl)⟩) Z3_30 ?_
            refine take_ (i := 7) (N := some 28) (v := ?_) (a' := ?_) (M3_14 2047) rfl rfl (take_ofW HT_.out HW_.out (by kernel_rfl)) (fun _ _ _ h => h) (Or.inl ⟨(by rfl), ?_⟩) hHeld ?_ ?_
            rotate_left
            · rintro w' ⟨s0, s1⟩
              go_simp
              with_reducible rfl
            rotate_left
            · simp only [Act.put, List.setIfInBounds_toArray, List.set_cons_zero, List.set_cons_succ, i64_w, i32_w]
              rfl
            refine take_ (i := 11) (N := some 32) (v := ?_) (a' := ?_) (M3_14 4095) rfl rfl (take_ofW HT_.out HW_.out (by kernel_rfl)) (fun _ _ _ h => h) (Or.inl ⟨(by rfl), ?_⟩) hHeld ?_ ?_
            rotate_left
            · rintro w' ⟨s0, s1⟩
              go_simp
              with_reducible rfl
            rotate_left
            · simp only [Act.put, List.setIfInBounds_toArray, List.set_cons_zero, List.set_cons_succ, i64_w, i32_w]
              rfl
            refine pure_ (i := 12) (N := some 33) (v := _) (a' := _) (M3_14 8191) rfl rfl (any_of HT_.out (by kernel_rfl)) (fun _ _ _ h => h) (Or.inl ⟨(by rfl), (by intro w'; go_simp; with_reducible rfl)⟩) Z3_30 ?_
            refine pure_ (i := 13) (N := some 34) (v := _) (a' := _) (M3_14 16383) rfl rfl (any_of HT_.out (by kernel_rfl)) (fun _ _ _ h => h) (Or.inl ⟨(by rfl), (by intro w'; go_simp; with_reducible rfl)⟩) Z3_30 ?_
            refine done_ (done_of HT_.out (by kernel_rfl)) ?_
            try go_wp2
            go_roundg k2
            case measure => have := HK1.out; have := HK2.out; omega
            case rel => exact ⟨(ji11), (by first | rfl | (simp; done) | (simp only [← hji11] <;> (first | rfl | simp)) | (simp [*]; done)), H', ⟨(by have := HK1.out; have := HK2.out; omega)⟩, ⟨Z3_37⟩, ⟨Z3_29⟩⟩
          rw [if_neg c16] at H
          have c16b0 : decide ((rd l0 x4_1) < (rd x3_1 (ji11))) = false := decide_eq_false c16
          clear c16
          obtain ⟨y137, hy137⟩ : ∃ y_ : List Int, y_ = (([] : List Int)) := ⟨_, rfl⟩
          replace H : (if 0 ≤ x5_2 then (if x5_2 ≤ (x3_1.length : Int) then ((some (x3_1.take (x5_2 : Int).toNat : List Int)).bind fun y140 => (if y137.length + y140.length < 17592186044416 then ((some (y137 ++ y140 : List Int)).bind fun y144 => ((some (([rd l0 x4_1] : List Int) : List Int)).bind fun y148 => (if y144.length + y148.length < 17592186044416 then ((some (y144 ++ y148 : List Int)).bind fun y151 => ((some (x3_1.drop (x5_2 : Int).toNat : List Int)).bind fun y154 => (if y151.length + y154.length < 17592186044416 then (spec_SetOf.l0 k2 l0 (y151 ++ y154) (wrap64 (x4_1 + 1))) else (none)))) else (none)))) else (none))) else (none)) else (none)) = some r := by first | (rw [hy137]; with_reducible exact H) | (have H2_ := (Option.bind_some _ _).symm.trans H; rw [hy137]; with_reducible exact H2_) | (have H2_ := (Option.bind_some _ _).symm.trans H; with_reducible exact H2_) | with_reducible exact H | (rw [hy137]; exact H) | exact H
          have Ny137 := Aside0.mk hy137
          clear hy137
          by_cases c18 : 0 ≤ x5_2
          rotate_left
          · rw [if_neg c18] at H
            exact absurd H (by simp)
          rw [if_pos c18] at H
          have c18b0 := eq_true c18
          have c18b1 : decide (0 ≤ x5_2) = true := decide_eq_true c18
          clear c18
          by_cases c19 : x5_2 ≤ (x3_1.length : Int)
          rotate_left
          · rw [if_neg c19] at H
            exact absurd H (by simp)
          rw [if_pos c19] at H
          have c19b0 := eq_true c19
          have c19b1 : decide (x5_2 ≤ (x3_1.length : Int)) = true := decide_eq_true c19
          clear c19
          obtain ⟨y140, hy140⟩ : ∃ y_ : List Int, y_ = (x3_1.take (x5_2 : Int).toNat) := ⟨_, rfl⟩
          replace H : (if y137.length + y140.length < 17592186044416 then ((some (y137 ++ y140 : List Int)).bind fun y144 => ((some (([rd l0 x4_1] : List Int) : List Int)).bind fun y148 => (if y144.length + y148.length < 17592186044416 then ((some (y144 ++ y148 : List Int)).bind fun y151 => ((some (x3_1.drop (x5_2 : Int).toNat : List Int)).bind fun y154 => (if y151.length + y154.length < 17592186044416 then (spec_SetOf.l0 k2 l0 (y151 ++ y154) (wrap64 (x4_1 + 1))) else (none)))) else (none)))) else (none)) = some r := by first | (rw [hy140]; with_reducible exact H) | (have H2_ := (Option.bind_some _ _).symm.trans H; rw [hy140]; with_reducible exact H2_) | (have H2_ := (Option.bind_some _ _).symm.trans H; with_reducible exact H2_) | with_reducible exact H | (rw [hy140]; exact H) | exact H
          have Ny140 := Aside0.mk hy140
          clear hy140
          by_cases c20 : y137.length + y140.length < 17592186044416
          rotate_left
          · rw [if_neg c20] at H
            exact absurd H (by simp)
          rw [if_pos c20] at H
          have LMc20 := Aside0.mk c20
          clear c20
          obtain ⟨y144, hy144⟩ : ∃ y_ : List Int, y_ = (y137 ++ y140) := ⟨_, rfl⟩
          replace H : ((some (([rd l0 x4_1] : List Int) : List Int)).bind fun y148 => (if y144.length + y148.length < 17592186044416 then ((some (y144 ++ y148 : List Int)).bind fun y151 => ((some (x3_1.drop (x5_2 : Int).toNat : List Int)).bind fun y154 => (if y151.length + y154.length < 17592186044416 then (spec_SetOf.l0 k2 l0 (y151 ++ y154) (wrap64 (x4_1 + 1))) else (none)))) else (none))) = some r := by first | (rw [hy144]; with_reducible exact H) | (have H2_ := (Option.bind_some _ _).symm.trans H; rw [hy144]; with_reducible exact H2_) | (have H2_ := (Option.bind_some _ _).symm.trans H; with_reducible exact H2_) | with_reducible exact H | (rw [hy144]; exact H) | exact H
          have Ny144 := Aside0.mk hy144
          clear hy144
          obtain ⟨y148, hy148⟩ : ∃ y_ : List Int, y_ = (([rd l0 x4_1] : List Int)) := ⟨_, rfl⟩
          replace H : (if y144.length + y148.length < 17592186044416 then ((some (y144 ++ y148 : List Int)).bind fun y151 => ((some (x3_1.drop (x5_2 : Int).toNat : List Int)).bind fun y154 => (if y151.length + y154.length < 17592186044416 then (spec_SetOf.l0 k2 l0 (y151 ++ y154) (wrap64 (x4_1 + 1))) else (none)))) else (none)) = some r := by first | (rw [hy148]; with_reducible exact H) | (have H2_ := (Option.bind_some _ _).symm.trans H; rw [hy148]; with_reducible exact H2_) | (have H2_ := (Option.bind_some _ _).symm.trans H; with_reducible exact H2_) | with_reducible exact H | (rw [hy148]; exact H) | exact H
          have Ny148 := Aside0.mk hy148
          clear hy148
          by_cases c21 : y144.length + y148.length < 17592186044416
          rotate_left
          · rw [if_neg c21] at H
            exact absurd H (by simp)
          rw [if_pos c21] at H
          have LMc21 := Aside0.mk c21
          clear c21
          obtain ⟨y151, hy151⟩ : ∃ y_ : List Int, y_ = (y144 ++ y148) := ⟨_, rfl⟩
          replace H : ((some (x3_1.drop (x5_2 : Int).toNat : List Int)).bind fun y154 => (if y151.length + y154.length < 17592186044416 then (spec_SetOf.l0 k2 l0 (y151 ++ y154) (wrap64 (x4_1 + 1))) else (none))) = some r := by first | (rw [hy151]; with_reducible exact H) | (have H2_ := (Option.bind_some _ _).symm.trans H; rw [hy151]; with_reducible exact H2_) | (have H2_ := (Option.bind_some _ _).symm.trans H; with_reducible exact H2_) | with_reducible exact H | (rw [hy151]; exact H) | exact H
          have Ny151 := Aside0.mk hy151
          clear hy151
          have c22b0 := eq_true (of_decide_eq_true Z3_39 : 0 ≤ x5_2)
          have c23b0 := eq_true (of_decide_eq_true Z3_39 : x5_2 ≤ (x3_1.length : Int))
          obtain ⟨y154, hy154⟩ : ∃ y_ : List Int, y_ = (x3_1.drop (x5_2 : Int).toNat) := ⟨_, rfl⟩
          replace H : (if y151.length + y154.length < 17592186044416 then (spec_SetOf.l0 k2 l0 (y151 ++ y154) (wrap64 (x4_1 + 1))) else (none)) = some r := by first | (rw [hy154]; with_reducible exact H) | (have H2_ := (Option.bind_some _ _).symm.trans H; rw [hy154]; with_reducible exact H2_) | (have H2_ := (Option.bind_some _ _).symm.trans H; with_reducible exact H2_) | with_reducible exact H | (rw [hy154]; exact H) | exact H
          have Ny154 := Aside0.mk hy154
          clear hy154
          by_cases c24 : y151.length + y154.length < 17592186044416
          rotate_left
          · rw [if_neg c24] at H
            exact absurd H (by simp)
          rw [if_pos c24] at H
          have LMc24 := Aside0.mk c24
          clear c24
          obtain ⟨y158, hy158⟩ : ∃ y_ : List Int, y_ = (y151 ++ y154) := ⟨_, rfl⟩
          replace H : (spec_SetOf.l0 k2 l0 y158 (wrap64 (x4_1 + 1))) = some r := by first | (rw [hy158]; with_reducible exact H) | (have H2_ := (Option.bind_some _ _).symm.trans H; rw [hy158]; with_reducible exact H2_) | (have H2_ := (Option.bind_some _ _).symm.trans H; with_reducible exact H2_) | with_reducible exact H | (rw [hy158]; exact H) | exact H
          have Ny158 := Aside0.mk hy158
          clear hy158
          have H' := Aside0.mk H
          clear H
          try go_wp2
          have n0_ := Aside0.mk (Kd.R_drew HO_3.out)
          have n1_ := Aside0.mk (below_drew1 HB.out)
          clear HO_3
          clear HB
          have HO_3 := n0_
          have HB := n1_
          clear n0_ n1_
          have p135 : 0 ≤ ((ji11) : Int) := of_decide_eq_true Z3_39
          have q135 : (ji11) < (x3_1.length : Int) := of_decide_eq_true Z3_39
          obtain ⟨ad135, e135, hx135_0⟩ := Kd.at_int (Kd.R_reads' HO_3.out).2.2 (ji11) p135 q135
          cases e135
          replace p135 := eq_true p135
          replace q135 := eq_true q135
          have p136 : 0 ≤ (x4_1 : Int) := of_decide_eq_true Z3_39
          have q136 : x4_1 < (l0.length : Int) := of_decide_eq_true Z3_39
          obtain ⟨ad136, e136, hx136_0⟩ := Kd.at_int HR0.out x4_1 p136 q136
          have hw136_0 := hx136_0
          obtain rfl : ad133 = ad136 := (by injection e136)
          replace hx136_0 := (HB.out.cell (World.block_lt_of_cell? w _ hx136_0)).trans hx136_0
          replace p136 := eq_true p136
          replace q136 := eq_true q136
          refine start_ (n := 14) (S := fun w' => w'.cell? (ad135.add ((ji11)).toNat) = some (.int .i64 (rd x3_1 (ji11))) ∧ w'.cell? (ad133.add (x4_1).toNat) = some (.int .i64 (rd l0 x4_1))) (ds := []) #[false, false, false, false, false, false, false, false, false, false, false, false, false, false] (by kernel_rfl) rfl rfl ⟨hx135_0, ((HB.out.cell (World.block_lt_of_cell? w _ hw136_0)).trans hw136_0)⟩ (fun hHeld => ?_); refine with_tabW spec_SetOf.tab7 spec_SetOf.bits7 (fun HT_ HW_ => ?_)
          generalize wr.drew = w25 at HO_3 HB hx135_0 hx136_0 hHeld ⊢
          refine pure_ (i := 0) (N := some 21) (v := _) (a' := _) (M3_14 1) rfl rfl (any_of HT_.out (by kernel_rfl)) (fun _ _ _ h => h) (Or.inl ⟨(by rfl), (by intro w'; go_simp; with_reducible rfl)⟩) Z3_30 ?_
          refine pure_ (i := 1) (N := some 22) (v := _) (a' := _) (M3_14 3) rfl rfl (any_of HT_.out (by kernel_rfl)) (fun _ _ _ h => h) (Or.inl ⟨(by rfl), (by intro w'; go_simp; with_reducible rfl)⟩) Z3_30 ?_
          refine pure_ (i := 2) (N := some 23) (v := _) (a' := _) (M3_14 7) rfl rfl (any_of HT_.out (by kernel_rfl)) (fun _ _ _ h => h) (Or.inl ⟨(by rfl), (by intro w'; go_simp; with_reducible rfl)⟩) Z3_30 ?_
          refine pure_ (i := 3) (N := some 24) (v := _) (a' := _) (M3_14 15) rfl rfl (any_of HT_.out (by kernel_rfl)) (fun _ _ _ h => h) (Or.inl ⟨(by rfl), (by intro w'; go_simp; with_reducible rfl)⟩) Z3_30 ?_
          refine pure_ (i := 4) (N := some 25) (v := _) (a' := _) (M3_14 31) rfl rfl (any_of HT_.out (by kernel_rfl)) (fun _ _ _ h => h) (Or.inl ⟨(by rfl), (by intro w'; go_simp; with_reducible rfl)⟩) Z3_30 ?_
          refine pure_ (i := 5) (N := some 26) (v := _) (a' := _) (M3_14 63) rfl rfl (any_of HT_.out (by kernel_rfl)) (fun _ _ _ h => h) (Or.inl ⟨(by rfl), (by intro w'; go_simp; with_reducible rfl)⟩) Z3_30 ?_
          refine pure_ (i := 6) (N := some 27) (v := _) (a' := _) (M3_14 127) rfl rfl (any_of HT_.out (by kernel_rfl)) (fun _ _ _ h => h) (Or.inl ⟨(by rfl), (by intro w'; go_simp; with_reducible rfl)⟩) Z3_30 ?_
          refine pure_ (i := 8) (N := some 29) (v := _) (a' := _) (M3_14 383) rfl rfl (any_of HT_.out (by kernel_rfl)) (fun _ _ _ h => h) (Or.inl ⟨(by rfl), (by intro w'; go_simp; with_reducible rfl)⟩) Z3_30 ?_
          refine pure_ (i := 9) (N := some 30) (v := _) (a' := _) (M3_14 895) rfl rfl (any_of HT_.out (by kernel_rfl)) (fun _ _ _ h => h) (Or.inl ⟨(by rfl), (by intro w'; go_simp; with_reducible rfl)⟩) Z3_30 ?_
          refine pure_ (i := 10) (N := some 31) (v := _) (a' := _) (M3_14 1919) rfl rfl (any_of HT_.out (by kernel_rfl)) (fun _ _ _ h => h) (Or.inl ⟨(by rfl), (by intro w'; go_simp; with_reducible rfl)⟩) Z3_30 ?_
          refine take_ (i := 7) (N := some 28) (v := ?_) (a' := ?_) (M3_14 2047) rfl rfl (take_ofW HT_.out HW_.out (by kernel_rfl)) (fun _ _ _ h => h) (Or.inl ⟨(by rfl), ?_⟩) hHeld ?_ ?_
          rotate_left
          · rintro w' ⟨s0, s1⟩
            go_simp
            with_reducible rfl
          rotate_left
          · simp only [Act.put, List.setIfInBounds_toArray, List.set_cons_zero, List.set_cons_succ, i64_w, i32_w]
            rfl
          refine take_ (i := 11) (N := some 32) (v := ?_) (a' := ?_) (M3_14 4095) rfl rfl (take_ofW HT_.out HW_.out (by kernel_rfl)) (fun _ _ _ h => h) (Or.inl ⟨(by rfl), ?_⟩) hHeld ?_ ?_
          rotate_left
          · rintro w' ⟨s0, s1⟩
            go_simp
            with_reducible rfl
          rotate_left
          · simp only [Act.put, List.setIfInBounds_toArray, List.set_cons_zero, List.set_cons_succ, i64_w, i32_w]
            rfl
          refine pure_ (i := 12) (N := some 33) (v := _) (a' := _) (M3_14 8191) rfl rfl (any_of HT_.out (by kernel_rfl)) (fun _ _ _ h => h) (Or.inl ⟨(by rfl), (by intro w'; go_simp; with_reducible rfl)⟩) Z3_30 ?_
          refine pure_ (i := 13) (N := some 34) (v := _) (a' := _) (M3_14 16383) rfl rfl (any_of HT_.out (by kernel_rfl)) (fun _ _ _ h => h) (Or.inl ⟨(by rfl), (by intro w'; go_simp; with_reducible rfl)⟩) Z3_30 ?_
          refine done_ (done_of HT_.out (by kernel_rfl)) ?_
          try go_wp2
          have n0_ := Aside0.mk (Kd.R_drew HO_3.out)
          have n1_ := Aside0.mk (below_drew1 HB.out)
          clear HO_3
          clear HB
          have HO_3 := n0_
          have HB := n1_
          clear n0_ n1_
          have q27 : (x5_2 : Int) ≤ ((x3_1.length : Int) : Int) := of_decide_eq_true Z3_39
          obtain ⟨i027, hi027, _, hsz27, _⟩ := info_parts info3
          have hroom27 : x3_1.length ≤ co9 := (Kd.R_reads' HO_3.out).2.1
          have hC27 : Kd.C (Kd.int .i64) _ (some ad135) x3_1.length x3_1 := (Kd.R_reads' HO_3.out).2.2
          have hcut27 := cut_to (P := Try.prog) 22 3 .i64 Try.underlying22 hi027 (some ad135) x3_1.length co9 x5_2 (of_decide_eq_true Z3_39) q27 hroom27
          have hr27 := Kd.C_take (m := (x5_2 : Int).toNat) hC27 (by omega)
          have hy27 : y140.length = (x5_2 : Int).toNat := (by rw [Ny140.out, List.length_take]; omega)
          rw [← Ny140.out] at hr27
          rw [← hy27] at hcut27
          have HR143 := Aside0.mk hr27
          have HC143 := Aside0.mk (show y140.length ≤ co9 from by omega)
          clear hr27 hC27 hroom27 hi027 hsz27
          have KY27 := Aside0.mk hy27
          clear hy27
          have KL27 := Aside0.mk Z3_40
          replace q27 := eq_true q27
          have p147 : 0 ≤ (x4_1 : Int) := of_decide_eq_true Z3_39
          have q147 : x4_1 < (l0.length : Int) := of_decide_eq_true Z3_39
          obtain ⟨ad147, e147, hx147_0⟩ := Kd.at_int HR0.out x4_1 p147 q147
          have hw147_0 := hx147_0
          obtain rfl : ad133 = ad147 := (by injection e147)
          replace hx147_0 := (HB.out.cell (World.block_lt_of_cell? w _ hx147_0)).trans hx147_0
          replace p147 := eq_true p147
          replace q147 := eq_true q147
          have q28 : (x5_2 : Int) ≤ ((x3_1.length : Int) : Int) := of_decide_eq_true Z3_39
          obtain ⟨i028, hi028, _, hsz28, _⟩ := info_parts info3
          have hroom28 : x3_1.length ≤ co9 := (Kd.R_reads' HO_3.out).2.1
          have hC28 : Kd.C (Kd.int .i64) _ (some ad135) x3_1.length x3_1 := (Kd.R_reads' HO_3.out).2.2
          have q028 : (0 : Int) ≤ (x5_2 : Int) := of_decide_eq_true Z3_39
          have hcut28 := cut_from (P := Try.prog) 22 3 .i64 Try.underlying22 hi028 1 hsz28 (some ad135) x3_1.length co9 x5_2 q028 q28
          have hr28 := Kd.C_drop (m := (x5_2 : Int).toNat) (c := co9) hC28 (by omega) hroom28
          obtain ⟨A28, hA28⟩ : ∃ A1, A1 = (if co9 = (x5_2 : Int).toNat then (some ad135) else ((some ad135) : Option Addr).map (·.add ((x5_2 : Int).toNat * 1))) := ⟨_, rfl⟩
          obtain ⟨c28, hc28⟩ : ∃ c1, c1 = co9 - (x5_2 : Int).toNat := ⟨_, rfl⟩
          have hy28 : y154.length = x3_1.length - (x5_2 : Int).toNat := (by rw [Ny154.out, List.length_drop] <;> omega)
          rw [show (x3_1).drop (x5_2 : Int).toNat = y154 from Ny154.out.symm] at hr28
          replace hr28 : Kd.C (Kd.int .i64) _ A28 y154.length y154 := (by rw [hA28]; exact hr28)
          rw [← hy28, ← hA28, ← hc28] at hcut28
          have HR157 := Aside0.mk hr28
          have HC157 := Aside0.mk (show y154.length ≤ c28 from by rw [hy28, hc28]; exact Nat.sub_le_sub_right hroom28 _)
          clear hr28 hC28 hroom28 hi028 hsz28 hc28
          have KY28 := Aside0.mk hy28
          have KA28 := Aside0.mk hA28
          clear hy28 hA28
          have KL28 := Aside0.mk Z3_40
          replace q28 := eq_true q28
          refine start_ (n := 16) (S := fun w' => w'.cell? (ad133.add (x4_1).toNat) = some (.int .i64 (rd l0 x4_1))) (ds := []) #[false, false, false, false, false, false, false, false, false, false, false, false, false, false, false, false] (by kernel_rfl) rfl rfl (((HB.out.cell (World.block_lt_of_cell? w _ hw147_0)).trans hw147_0)) (fun hHeld => ?_); refine with_tabW spec_SetOf.tab9 spec_SetOf.bits9 (fun HT_ HW_ => ?_)
          generalize w25.drew = w26 at HO_3 HB HR143 HR157 hx147_0 hHeld ⊢
          refine pure_ (i := 1) (N := some 38) (v := _) (a' := _) (M3_16 2) rfl rfl (any_of HT_.out (by kernel_rfl)) (fun _ _ _ h => h) (Or.inl ⟨(by rfl), (by intro w'; go_simp; with_reducible rfl)⟩) Z3_30 ?_
          refine pure_ (i := 2) (N := some 39) (v := _) (a' := _) (M3_16 6) rfl rfl (any_of HT_.out (by kernel_rfl)) (fun _ _ _ h => h) (Or.inl ⟨(by rfl), (by intro w'; go_simp; with_reducible rfl)⟩) Z3_30 ?_
          refine pure_ (i := 3) (N := some 40) (v := _) (a' := _) (M3_16 14) rfl rfl (any_of HT_.out (by kernel_rfl)) (fun _ _ _ h => h) (Or.inl ⟨(by rfl), (by intro w'; go_simp; with_reducible rfl)⟩) Z3_30 ?_
          refine pure_ (i := 5) (N := some 42) (v := _) (a' := _) (M3_16 46) rfl rfl (any_of HT_.out (by kernel_rfl)) (fun _ _ _ h => h) (Or.inl ⟨(by rfl), (by intro w'; go_simp; with_reducible rfl)⟩) Z3_30 ?_
          refine pure_ (i := 6) (N := some 43) (v := _) (a' := _) (M3_16 110) rfl rfl (any_of HT_.out (by kernel_rfl)) (fun _ _ _ h => h) (Or.inl ⟨(by rfl), (by intro w'; go_simp; with_reducible rfl)⟩) Z3_30 ?_
          refine pure_ (i := 7) (N := some 44) (v := _) (a' := _) (M3_16 238) rfl rfl (any_of HT_.out (by kernel_rfl)) (fun _ _ _ h => h) (Or.inl ⟨(by rfl), (by intro w'; go_simp; with_reducible rfl)⟩) Z3_30 ?_
          refine pure_ (i := 11) (N := some 48) (v := _) (a' := _) (M3_16 2286) rfl rfl (any_of HT_.out (by kernel_rfl)) (fun _ _ _ h => h) (Or.inl ⟨(by rfl), (by intro w'; go_simp; with_reducible rfl)⟩) Z3_30 ?_
          refine pure_ (i := 12) (N := some 49) (v := _) (a' := _) (M3_16 6382) rfl rfl (any_of HT_.out (by kernel_rfl)) (fun _ _ _ h => h) (Or.inl ⟨(by rfl), (by intro w'; go_simp; with_reducible rfl)⟩) Z3_30 ?_
          refine pure_ (i := 13) (N := some 50) (v := _) (a' := _) (M3_16 14574) rfl rfl (any_of HT_.out (by kernel_rfl)) (fun _ _ _ h => h) (Or.inl ⟨(by rfl), (by intro w'; go_simp; with_reducible rfl)⟩) Z3_30 ?_
          refine take_ (i := 8) (N := some 45) (v := ?_) (a' := ?_) (M3_16 14830) rfl rfl (take_ofW HT_.out HW_.out (by kernel_rfl)) (fun _ _ _ h => h) (Or.inl ⟨(by rfl), ?_⟩) hHeld ?_ ?_
          rotate_left
          · intro w' s0
            go_simp
            with_reducible rfl
          rotate_left
          · simp only [Act.put, List.setIfInBounds_toArray, List.set_cons_zero, List.set_cons_succ, i64_w, i32_w]
            rfl
          refine join_ (σ := Value × Value × Value) 3 (M3_16 15359) (fun s_ => [(37, s_.1), (41, s_.2.1), (46, s_.2.2)]) (fun s_ w' => (w'.cell? (ad133.add (x4_1).toNat) = some (.int .i64 (rd l0 x4_1))) ∧ (Kd.R (Kd.int .i64) 3 w' w.heap.size (fun k_ => some k_ ≠ (s_.2.2 : Value).ownBlock ∧ some k_ ≠ (.slice (some ad135) x3_1.length co9 : Value).ownBlock) s_.2.1 y144) ∧ (Kd.R (Kd.int .i64) 3 w' w.heap.size (fun k_ => some k_ ≠ (s_.2.1 : Value).ownBlock ∧ some k_ ≠ (.slice (some ad135) x3_1.length co9 : Value).ownBlock) s_.2.2 y148) ∧ (Kd.R (Kd.int .i64) 3 w' w.heap.size (fun k_ => some k_ ≠ (s_.2.1 : Value).ownBlock ∧ some k_ ≠ (s_.2.2 : Value).ownBlock) (.slice (some ad135) x3_1.length co9) x3_1) ∧ (Kd.C (Kd.int .i64) w' (some ad135) y140.length y140) ∧ (Kd.C (Kd.int .i64) w' A28 y154.length y154) ∧ (Below w.heap.size w w')) ?_ ?_
          rotate_left
          · intro hCont
            refine two_ (i := 0) (j := 9) (Ni := some 37) (Nj := some 46) (M3_16 14831) (M3_16 15342) rfl rfl rfl rfl (two_of HT_.out (by kernel_rfl)) (by decide) (by decide) (fun K hK => ?_) (fun K hK => ?_)
            · skip
              refine Kd.R_lit_step (Kd.int .i64) _ 3 ?hg (N := 37) ?hd (xs := ([] : List Int)) (inner := []) (ok := fun _ => True) (okp := fun _ => True) ?hr ?hp (fun _ hk => hk) trivial (Below.refl _ _) (Nat.le_refl _) (by simp) ?_; (case hd => rfl); (case hg => rfl); (case hr => first | (go_simp; done) | (go_simp; rfl)); (case hp => exact (Reps.none _ _))
              intro v138 w29 ho30 hb hg_ hnew_
              clear hg_ hnew_
              (first | rw [← Ny137.out] at ho30 | (simp only [Int.reduceToNat] at ho30; rw [← Ny137.out] at ho30))
              have n0_ := Aside0.mk Z3_27
              have n1_ := Aside0.mk Z3_2
              have n2_ := Aside0.mk Z3_7
              have n3_ := Aside0.mk Z3_8
              have n4_ := Aside0.mk Z3_13
              clear HO_3
              clear HR143
              clear HR157
              clear HB
              have HO_3 := n0_
              have HO139 := n1_
              have HR143 := n2_
              have HR157 := n3_
              have HB := n4_
              clear n0_ n1_ n2_ n3_ n4_
              clear hb ho30
              refine hK.out _ _ (((HB.out.cell (World.block_lt_of_cell? w _ hw147_0)).trans hw147_0)) (fun hHeld => ?_)
              clear hK K
              refine norm_ (a' := ?_) ?_ ?_
              rotate_left
              · show Act.put _ (some 37) _ = _
                simp only [Act.put, List.setIfInBounds_toArray, List.set_cons_zero, List.set_cons_succ, i64_w, i32_w]
                rfl
              refine two_ (i := 4) (j := 9) (Ni := some 41) (Nj := some 46) (M3_16 14847) (M3_16 15343) rfl rfl rfl rfl (two_of HT_.out (by kernel_rfl)) (by decide) (by decide) (fun K hK => ?_) (fun K hK => ?_)
              · skip
                refine Kd.R_append_rows_step (Kd.int .i64) (w0 := w) w.heap.size (by rfl) (.tmp 37) (.tmp 40) 22 3 (.int .i64 0) 8 rfl Try.underlying22 info3 rfl (by decide) (by omega) v138 y137 y140 _ _ _ (fun k_ => some k_ ≠ (.slice (some ad135) x3_1.length co9 : Value).ownBlock) (fun _ => False) rfl rfl ?aO ?aR (fun _ _ h => h) (fun _ h => h.elim) ?aF ?aB ?aS ?aL ?_
                (case aR => repeat (first | exact Z3_11 | (with_reducible refine Kd.C_alloc ?_ _) | (with_reducible refine Kd.C_drewN ?_ _) | (with_reducible refine Kd.C_drew ?_)))
                (case aB => exact Z3_29)
                (case aF => exact (fun k_ hk => Kd.fresh' (Kd.R_lt Z3_37) k_ hk))
                (case aO => exact (by (with_reducible repeat (first | apply Kd.R_alloc | apply Kd.R_drewN | apply Kd.R_drew)); exact Kd.R_mono HO139.out (fun _ hk => hk.2)))
                (case aS => exact (below_size Z3_29))
                (case aL => have := LMc20.out; omega)
                intro v145 w31 ho hb hg hat
                rw [← Ny144.out] at ho
                have n0_ := Aside0.mk Z3_14
                have n1_ := Aside0.mk (hb)
                have n2_ := Aside0.mk ((show Kd.C (Kd.int .i64) w31 (some ad135) y140.length y140 from by rw [Ny140.out]; exact Kd.C_take (m := (x5_2 : Int).toNat) ((Kd.R_reads' Z3_14).2.2) KL27.out))
                have n3_ := Aside0.mk ((show Kd.C (Kd.int .i64) w31 A28 y154.length y154 from by rw [Ny154.out, KA28.out]; exact Kd.C_drop (m := (x5_2 : Int).toNat) (c := co9) ((Kd.R_reads' Z3_14).2.2) KL28.out ((Kd.R_reads' Z3_14).2.1)))
                have n4_ := Aside0.mk (ho)
                clear HO_3
                clear HB
                clear HR143
                clear HR157
                clear HO139
                have HO_3 := n0_
                have HB := n1_
                have HR143 := n2_
                have HR157 := n3_
                have HO146 := n4_
                clear n0_ n1_ n2_ n3_ n4_
                clear ho hb hg hat
                refine hK.out _ _ (((HB.out.cell (World.block_lt_of_cell? w _ hw147_0)).trans hw147_0)) (fun hHeld => ?_)
                clear hK K
                refine norm_ (a' := ?_) ?_ ?_
                rotate_left
                · show Act.put _ (some 41) _ = _
                  simp only [Act.put, List.setIfInBounds_toArray, List.set_cons_zero, List.set_cons_succ, i64_w, i32_w]
                  rfl
                refine one_ (i := 9) (N := some 46) (M3_16 15359) rfl rfl (one_of HT_.out (by kernel_rfl)) (by decide) (fun K hK => ?_)
                refine Kd.R_lit_step (Kd.int .i64) _ 3 ?hg (N := 46) ?hd (xs := ([rd l0 x4_1] : List Int)) (inner := [.int .i64 (rd l0 x4_1)]) (ok := fun _ => True) (okp := fun _ => True) ?hr ?hp (fun _ hk => hk) trivial (Below.refl _ _) (Nat.le_refl _) (by simp) ?_; (case hd => rfl); (case hg => rfl); (case hr => first | (go_simp; done) | (go_simp; rfl)); (case hp => exact (Reps.one (show Kd.M (Kd.int .i64) _ _ _ (rd l0 x4_1) [.int .i64 (rd l0 x4_1)] from rfl) (Reps.none _ _)))
                intro v149 w32 ho33 hb hg_ hnew_
                clear hg_ hnew_
                (first | rw [← Ny148.out] at ho33 | (simp only [Int.reduceToNat] at ho33; rw [← Ny148.out] at ho33))
                have n0_ := Aside0.mk (Kd.R_elder' Z3_37 (Kd.R_base ho33) hb)
                have n1_ := Aside0.mk (Kd.R_elder' Z3_34 (Kd.R_base ho33) hb)
                have n2_ := Aside0.mk (Kd.R_lower (Kd.R_new' (Kd.R_new' ho33 (Kd.R_lt Z3_37)) (Kd.R_lt Z3_34)) (below_size Z3_29))
                have n3_ := Aside0.mk Z3_7
                have n4_ := Aside0.mk Z3_8
                have n5_ := Aside0.mk Z3_13
                clear HO_3
                clear HO146
                clear HR143
                clear HR157
                clear HB
                have HO_3 := n0_
                have HO146 := n1_
                have HO150 := n2_
                have HR143 := n3_
                have HR157 := n4_
                have HB := n5_
                clear n0_ n1_ n2_ n3_ n4_ n5_
                clear hb ho33
                refine hK.out _ _ (((HB.out.cell (World.block_lt_of_cell? w _ hw147_0)).trans hw147_0)) (fun hHeld => ?_)
                clear hK K
                refine norm_ (a' := ?_) ?_ ?_
                rotate_left
                · show Act.put _ (some 46) _ = _
                  simp only [Act.put, List.setIfInBounds_toArray, List.set_cons_zero, List.set_cons_succ, i64_w, i32_w]
                  rfl
                exact norm_ Z3_38 (hCont (v138, v145, v149) _ ⟨hHeld, Z3_21, (by (with_reducible repeat (first | apply Kd.R_alloc | apply Kd.R_drewN | apply Kd.R_drew)); exact Kd.R_mono HO150.out (fun _ hk => ⟨hk.2, hk.1.2⟩)), Z3_17, Z3_11, Z3_12, Z3_29⟩)
              · skip
                refine Kd.R_lit_step (Kd.int .i64) _ 3 ?hg (N := 46) ?hd (xs := ([rd l0 x4_1] : List Int)) (inner := [.int .i64 (rd l0 x4_1)]) (ok := fun _ => True) (okp := fun _ => True) ?hr ?hp (fun _ hk => hk) trivial (Below.refl _ _) (Nat.le_refl _) (by simp) ?_; (case hd => rfl); (case hg => rfl); (case hr => first | (go_simp; done) | (go_simp; rfl)); (case hp => exact (Reps.one (show Kd.M (Kd.int .i64) _ _ _ (rd l0 x4_1) [.int .i64 (rd l0 x4_1)] from rfl) (Reps.none _ _)))
                intro v149 w31 ho32 hb hg_ hnew_
                clear hg_ hnew_
                (first | rw [← Ny148.out] at ho32 | (simp only [Int.reduceToNat] at ho32; rw [← Ny148.out] at ho32))
                have n0_ := Aside0.mk Z3_28
                have n1_ := Aside0.mk (Kd.R_elder' Z3_35 (Kd.R_base ho32) hb)
                have n2_ := Aside0.mk (Kd.R_lower (Kd.R_new' (Kd.R_new' ho32 (Kd.R_lt Z3_37)) (Kd.R_lt Z3_35)) (below_size Z3_29))
                have n3_ := Aside0.mk Z3_7
                have n4_ := Aside0.mk Z3_8
                have n5_ := Aside0.mk Z3_13
                clear HO_3
                clear HO139
                clear HR143
                clear HR157
                clear HB
                have HO_3 := n0_
                have HO139 := n1_
                have HO150 := n2_
                have HR143 := n3_
                have HR157 := n4_
                have HB := n5_
                clear n0_ n1_ n2_ n3_ n4_ n5_
                clear hb ho32
                refine hK.out _ _ (((HB.out.cell (World.block_lt_of_cell? w _ hw147_0)).trans hw147_0)) (fun hHeld => ?_)
                clear hK K
                refine norm_ (a' := ?_) ?_ ?_
                rotate_left
                · show Act.put _ (some 46) _ = _
                  simp only [Act.put, List.setIfInBounds_toArray, List.set_cons_zero, List.set_cons_succ, i64_w, i32_w]
                  rfl
                refine one_ (i := 4) (N := some 41) (M3_16 15359) rfl rfl (one_of HT_.out (by kernel_rfl)) (by decide) (fun K hK => ?_)
                refine Kd.R_append_rows_step (Kd.int .i64) (w0 := w) w.heap.size (by rfl) (.tmp 37) (.tmp 40) 22 3 (.int .i64 0) 8 rfl Try.underlying22 info3 rfl (by decide) (by omega) v138 y137 y140 _ _ _ (fun k_ => some k_ ≠ (.slice (some ad135) x3_1.length co9 : Value).ownBlock ∧ some k_ ≠ (v149 : Value).ownBlock) (fun _ => False) rfl rfl ?aO ?aR (fun _ _ h => h) (fun _ h => h.elim) ?aF ?aB ?aS ?aL ?_
                (case aR => repeat (first | exact Z3_11 | (with_reducible refine Kd.C_alloc ?_ _) | (with_reducible refine Kd.C_drewN ?_ _) | (with_reducible refine Kd.C_drew ?_)))
                (case aB => exact Z3_29)
                (case aF => exact (fun k_ hk => ⟨Kd.fresh' (Kd.R_lt Z3_37) k_ hk, Kd.fresh' (Kd.R_lt Z3_36) k_ hk⟩))
                (case aO => exact Z3_16)
                (case aS => exact (below_size Z3_29))
                (case aL => have := LMc20.out; omega)
                intro v145 w33 ho hb hg hat
                rw [← Ny144.out] at ho
                have n0_ := Aside0.mk (Kd.R_after (ok := (fun k_ => some k_ ≠ (v149 : Value).ownBlock)) Z3_18 hg hat)
                have n1_ := Aside0.mk Z3_3
                have n2_ := Aside0.mk (hb)
                have n3_ := Aside0.mk ((show Kd.C (Kd.int .i64) w33 (some ad135) y140.length y140 from by rw [Ny140.out]; exact Kd.C_take (m := (x5_2 : Int).toNat) ((Kd.R_reads' (Kd.R_after (ok := (fun k_ => some k_ ≠ (v149 : Value).ownBlock)) Z3_18 hg hat)).2.2) KL27.out))
                have n4_ := Aside0.mk ((show Kd.C (Kd.int .i64) w33 A28 y154.length y154 from by rw [Ny154.out, KA28.out]; exact Kd.C_drop (m := (x5_2 : Int).toNat) (c := co9) ((Kd.R_reads' (Kd.R_after (ok := (fun k_ => some k_ ≠ (v149 : Value).ownBlock)) Z3_18 hg hat)).2.2) KL28.out ((Kd.R_reads' (Kd.R_after (ok := (fun k_ => some k_ ≠ (v149 : Value).ownBlock)) Z3_18 hg hat)).2.1)))
                have n5_ := Aside0.mk (ho)
                clear HO_3
                clear HO150
                clear HB
                clear HR143
                clear HR157
                clear HO139
                have HO_3 := n0_
                have HO150 := n1_
                have HB := n2_
                have HR143 := n3_
                have HR157 := n4_
                have HO146 := n5_
                clear n0_ n1_ n2_ n3_ n4_ n5_
                clear ho hb hg hat
                refine hK.out _ _ (((HB.out.cell (World.block_lt_of_cell? w _ hw147_0)).trans hw147_0)) (fun hHeld => ?_)
                clear hK K
                refine norm_ (a' := ?_) ?_ ?_
                rotate_left
                · show Act.put _ (some 41) _ = _
                  simp only [Act.put, List.setIfInBounds_toArray, List.set_cons_zero, List.set_cons_succ, i64_w, i32_w]
                  rfl
                exact norm_ Z3_38 (hCont (v138, v145, v149) _ ⟨hHeld, Z3_21, Z3_22, Z3_23, Z3_11, Z3_12, Z3_29⟩)
            · skip
              refine Kd.R_lit_step (Kd.int .i64) _ 3 ?hg (N := 46) ?hd (xs := ([rd l0 x4_1] : List Int)) (inner := [.int .i64 (rd l0 x4_1)]) (ok := fun _ => True) (okp := fun _ => True) ?hr ?hp (fun _ hk => hk) trivial (Below.refl _ _) (Nat.le_refl _) (by simp) ?_; (case hd => rfl); (case hg => rfl); (case hr => first | (go_simp; done) | (go_simp; rfl)); (case hp => exact (Reps.one (show Kd.M (Kd.int .i64) _ _ _ (rd l0 x4_1) [.int .i64 (rd l0 x4_1)] from rfl) (Reps.none _ _)))
              intro v149 w29 ho30 hb hg_ hnew_
              clear hg_ hnew_
              (first | rw [← Ny148.out] at ho30 | (simp only [Int.reduceToNat] at ho30; rw [← Ny148.out] at ho30))
              have n0_ := Aside0.mk Z3_27
              have n1_ := Aside0.mk Z3_2
              have n2_ := Aside0.mk Z3_7
              have n3_ := Aside0.mk Z3_8
              have n4_ := Aside0.mk Z3_13
              clear HO_3
              clear HR143
              clear HR157
              clear HB
              have HO_3 := n0_
              have HO150 := n1_
              have HR143 := n2_
              have HR157 := n3_
              have HB := n4_
              clear n0_ n1_ n2_ n3_ n4_
              clear hb ho30
              refine hK.out _ _ (((HB.out.cell (World.block_lt_of_cell? w _ hw147_0)).trans hw147_0)) (fun hHeld => ?_)
              clear hK K
              refine norm_ (a' := ?_) ?_ ?_
              rotate_left
              · show Act.put _ (some 46) _ = _
                simp only [Act.put, List.setIfInBounds_toArray, List.set_cons_zero, List.set_cons_succ, i64_w, i32_w]
                rfl
              refine one_ (i := 0) (N := some 37) (M3_16 15343) rfl rfl (one_of HT_.out (by kernel_rfl)) (by decide) (fun K hK => ?_)
              refine Kd.R_lit_step (Kd.int .i64) _ 3 ?hg (N := 37) ?hd (xs := ([] : List Int)) (inner := []) (ok := fun _ => True) (okp := fun _ => True) ?hr ?hp (fun _ hk => hk) trivial (Below.refl _ _) (Nat.le_refl _) (by simp) ?_; (case hd => rfl); (case hg => rfl); (case hr => first | (go_simp; done) | (go_simp; rfl)); (case hp => exact (Reps.none _ _))
              intro v138 w31 ho32 hb hg_ hnew_
              clear hg_ hnew_
              (first | rw [← Ny137.out] at ho32 | (simp only [Int.reduceToNat] at ho32; rw [← Ny137.out] at ho32))
              have n0_ := Aside0.mk Z3_28
              have n1_ := Aside0.mk (Kd.R_elder' Z3_36 (Kd.R_base ho32) hb)
              have n2_ := Aside0.mk (Kd.R_lower (Kd.R_new' (Kd.R_new' ho32 (Kd.R_lt Z3_37)) (Kd.R_lt Z3_36)) (below_size Z3_29))
              have n3_ := Aside0.mk Z3_7
              have n4_ := Aside0.mk Z3_8
              have n5_ := Aside0.mk Z3_13
              clear HO_3
              clear HO150
              clear HR143
              clear HR157
              clear HB
              have HO_3 := n0_
              have HO150 := n1_
              have HO139 := n2_
              have HR143 := n3_
              have HR157 := n4_
              have HB := n5_
              clear n0_ n1_ n2_ n3_ n4_ n5_
              clear hb ho32
              refine hK.out _ _ (((HB.out.cell (World.block_lt_of_cell? w _ hw147_0)).trans hw147_0)) (fun hHeld => ?_)
              clear hK K
              refine norm_ (a' := ?_) ?_ ?_
              rotate_left
              · show Act.put _ (some 37) _ = _
                simp only [Act.put, List.setIfInBounds_toArray, List.set_cons_zero, List.set_cons_succ, i64_w, i32_w]
                rfl
              refine one_ (i := 4) (N := some 41) (M3_16 15359) rfl rfl (one_of HT_.out (by kernel_rfl)) (by decide) (fun K hK => ?_)
              refine Kd.R_append_rows_step (Kd.int .i64) (w0 := w) w.heap.size (by rfl) (.tmp 37) (.tmp 40) 22 3 (.int .i64 0) 8 rfl Try.underlying22 info3 rfl (by decide) (by omega) v138 y137 y140 _ _ _ (fun k_ => some k_ ≠ (.slice (some ad135) x3_1.length co9 : Value).ownBlock ∧ some k_ ≠ (v149 : Value).ownBlock) (fun _ => False) rfl rfl ?aO ?aR (fun _ _ h => h) (fun _ h => h.elim) ?aF ?aB ?aS ?aL ?_
              (case aR => repeat (first | exact Z3_11 | (with_reducible refine Kd.C_alloc ?_ _) | (with_reducible refine Kd.C_drewN ?_ _) | (with_reducible refine Kd.C_drew ?_)))
              (case aB => exact Z3_29)
              (case aF => exact (fun k_ hk => ⟨Kd.fresh' (Kd.R_lt Z3_37) k_ hk, Kd.fresh' (Kd.R_lt Z3_36) k_ hk⟩))
              (case aO => exact Z3_16)
              (case aS => exact (below_size Z3_29))
              (case aL => have := LMc20.out; omega)
              intro v145 w33 ho hb hg hat
              rw [← Ny144.out] at ho
              have n0_ := Aside0.mk (Kd.R_after (ok := (fun k_ => some k_ ≠ (v149 : Value).ownBlock)) Z3_17 hg hat)
              have n1_ := Aside0.mk Z3_3
              have n2_ := Aside0.mk (hb)
              have n3_ := Aside0.mk ((show Kd.C (Kd.int .i64) w33 (some ad135) y140.length y140 from by rw [Ny140.out]; exact Kd.C_take (m := (x5_2 : Int).toNat) ((Kd.R_reads' (Kd.R_after (ok := (fun k_ => some k_ ≠ (v149 : Value).ownBlock)) Z3_17 hg hat)).2.2) KL27.out))
              have n4_ := Aside0.mk ((show Kd.C (Kd.int .i64) w33 A28 y154.length y154 from by rw [Ny154.out, KA28.out]; exact Kd.C_drop (m := (x5_2 : Int).toNat) (c := co9) ((Kd.R_reads' (Kd.R_after (ok := (fun k_ => some k_ ≠ (v149 : Value).ownBlock)) Z3_17 hg hat)).2.2) KL28.out ((Kd.R_reads' (Kd.R_after (ok := (fun k_ => some k_ ≠ (v149 : Value).ownBlock)) Z3_17 hg hat)).2.1)))
              have n5_ := Aside0.mk (ho)
              clear HO_3
              clear HO150
              clear HB
              clear HR143
              clear HR157
              clear HO139
              have HO_3 := n0_
              have HO150 := n1_
              have HB := n2_
              have HR143 := n3_
              have HR157 := n4_
              have HO146 := n5_
              clear n0_ n1_ n2_ n3_ n4_ n5_
              clear ho hb hg hat
              refine hK.out _ _ (((HB.out.cell (World.block_lt_of_cell? w _ hw147_0)).trans hw147_0)) (fun hHeld => ?_)
              clear hK K
              refine norm_ (a' := ?_) ?_ ?_
              rotate_left
              · show Act.put _ (some 41) _ = _
                simp only [Act.put, List.setIfInBounds_toArray, List.set_cons_zero, List.set_cons_succ, i64_w, i32_w]
                rfl
              exact norm_ Z3_38 (hCont (v138, v145, v149) _ ⟨hHeld, Z3_21, Z3_22, Z3_23, Z3_11, Z3_12, Z3_29⟩)
          rintro ⟨v138, v145, v149⟩ w34 ⟨hS_, h0_, h1_, h2_, h3_, h4_, h5_⟩
          have n0_ : Aside0 (Kd.R (Kd.int .i64) 3 w34 w.heap.size (fun k_ => some k_ ≠ (v149 : Value).ownBlock ∧ some k_ ≠ (.slice (some ad135) x3_1.length co9 : Value).ownBlock) v145 y144) := ⟨h0_⟩
          have n1_ : Aside0 (Kd.R (Kd.int .i64) 3 w34 w.heap.size (fun k_ => some k_ ≠ (v145 : Value).ownBlock ∧ some k_ ≠ (.slice (some ad135) x3_1.length co9 : Value).ownBlock) v149 y148) := ⟨h1_⟩
          have n2_ : Aside0 (Kd.R (Kd.int .i64) 3 w34 w.heap.size (fun k_ => some k_ ≠ (v145 : Value).ownBlock ∧ some k_ ≠ (v149 : Value).ownBlock) (.slice (some ad135) x3_1.length co9) x3_1) := ⟨h2_⟩
          have n3_ : Aside0 (Kd.C (Kd.int .i64) w34 (some ad135) y140.length y140) := ⟨h3_⟩
          have n4_ : Aside0 (Kd.C (Kd.int .i64) w34 A28 y154.length y154) := ⟨h4_⟩
          have n5_ : Aside0 (Below w.heap.size w w34) := ⟨h5_⟩
          clear HO_3
          clear HB
          clear h0_ h1_ h2_ h3_ h4_ h5_
          have HO146 := n0_
          have HO150 := n1_
          have HO_3 := n2_
          have HR143 := n3_
          have HR157 := n4_
          have HB := n5_
          clear n0_ n1_ n2_ n3_ n4_ n5_
          have hHeld : w34.cell? (ad133.add (x4_1).toNat) = some (.int .i64 (rd l0 x4_1)) := hS_
          obtain ⟨Ao36, co36, eo36⟩ := Kd.R_slice HO150.out
          (first | subst eo36 | (injection eo36 with f1_ f2_ f3_; have f4_ := f1_.symm; have f5_ := f3_.symm; clear f1_ f2_ f3_; subst f4_; subst f5_))
          refine norm_ (a' := ?_) ?_ ?_
          rotate_left
          · simp only [putAll, Act.put, List.setIfInBounds_toArray, List.set_cons_zero, List.set_cons_succ]
            rfl
          refine one_ (i := 10) (N := some 47) (M3_16 16383) rfl rfl (one_of HT_.out (by kernel_rfl)) (by decide) (fun K hK => ?_)
          refine Kd.R_append_rows_step (Kd.int .i64) (w0 := w) w.heap.size (by rfl) (.tmp 41) (.tmp 46) 22 3 (.int .i64 0) 8 rfl Try.underlying22 info3 rfl (by decide) (by omega) v145 y144 y148 _ _ _ (fun k_ => some k_ ≠ (.slice (some ad135) x3_1.length co9 : Value).ownBlock ∧ some k_ ≠ (.slice Ao36 y148.length co36 : Value).ownBlock) (fun _ => False) rfl rfl ?aO ?aR (fun _ _ h => h) (fun _ h => h.elim) ?aF ?aB ?aS ?aL ?_
          (case aR => repeat (first | exact (Kd.R_reads' HO150.out).2.2 | (with_reducible refine Kd.C_alloc ?_ _) | (with_reducible refine Kd.C_drewN ?_ _) | (with_reducible refine Kd.C_drew ?_)))
          (case aB => exact Z3_29)
          (case aF => exact (fun k_ hk => ⟨Kd.fresh' (Kd.R_lt Z3_37) k_ hk, Kd.fresh' (Kd.R_lt Z3_36) k_ hk⟩))
          (case aO => exact Z3_21)
          (case aS => exact (below_size Z3_29))
          (case aL => have := LMc21.out; omega)
          intro v152 w35 ho hb hg hat
          rw [← Ny151.out] at ho
          have n0_ := Aside0.mk (Kd.R_after (ok := (fun k_ => some k_ ≠ (.slice Ao36 y148.length co36 : Value).ownBlock)) Z3_23 hg hat)
          have n1_ := Aside0.mk (Kd.R_after (ok := (fun k_ => some k_ ≠ (.slice (some ad135) x3_1.length co9 : Value).ownBlock)) Z3_22 hg hat)
          have n2_ := Aside0.mk (hb)
          have n3_ := Aside0.mk ((show Kd.C (Kd.int .i64) w35 (some ad135) y140.length y140 from by rw [Ny140.out]; exact Kd.C_take (m := (x5_2 : Int).toNat) ((Kd.R_reads' (Kd.R_after (ok := (fun k_ => some k_ ≠ (.slice Ao36 y148.length co36 : Value).ownBlock)) Z3_23 hg hat)).2.2) KL27.out))
          have n4_ := Aside0.mk ((show Kd.C (Kd.int .i64) w35 A28 y154.length y154 from by rw [Ny154.out, KA28.out]; exact Kd.C_drop (m := (x5_2 : Int).toNat) (c := co9) ((Kd.R_reads' (Kd.R_after (ok := (fun k_ => some k_ ≠ (.slice Ao36 y148.length co36 : Value).ownBlock)) Z3_23 hg hat)).2.2) KL28.out ((Kd.R_reads' (Kd.R_after (ok := (fun k_ => some k_ ≠ (.slice Ao36 y148.length co36 : Value).ownBlock)) Z3_23 hg hat)).2.1)))
          have n5_ := Aside0.mk (ho)
          clear HO_3
          clear HO150
          clear HB
          clear HR143
          clear HR157
          clear HO146
          have HO_3 := n0_
          have HO150 := n1_
          have HB := n2_
          have HR143 := n3_
          have HR157 := n4_
          have HO153 := n5_
          clear n0_ n1_ n2_ n3_ n4_ n5_
          clear ho hb hg hat
          refine hK.out _ _ (((HB.out.cell (World.block_lt_of_cell? w _ hw147_0)).trans hw147_0)) (fun hHeld => ?_)
          clear hK K
          refine norm_ (a' := ?_) ?_ ?_
          rotate_left
          · show Act.put _ (some 47) _ = _
            simp only [Act.put, List.setIfInBounds_toArray, List.set_cons_zero, List.set_cons_succ, i64_w, i32_w]
            rfl
          refine one_ (i := 14) (N := some 51) (M3_16 32767) rfl rfl (one_of HT_.out (by kernel_rfl)) (by decide) (fun K hK => ?_)
          refine Kd.R_append_rows_step (Kd.int .i64) (w0 := w) w.heap.size (by rfl) (.tmp 47) (.tmp 50) 22 3 (.int .i64 0) 8 rfl Try.underlying22 info3 rfl (by decide) (by omega) v152 y151 y154 _ _ _ (fun k_ => some k_ ≠ (.slice (some ad135) x3_1.length co9 : Value).ownBlock ∧ some k_ ≠ (.slice Ao36 y148.length co36 : Value).ownBlock) (fun _ => False) rfl rfl ?aO ?aR (fun _ _ h => h) (fun _ h => h.elim) ?aF ?aB ?aS ?aL ?_
          (case aR => repeat (first | exact Z3_12 | (with_reducible refine Kd.C_alloc ?_ _) | (with_reducible refine Kd.C_drewN ?_ _) | (with_reducible refine Kd.C_drew ?_)))
          (case aB => exact Z3_29)
          (case aF => exact (fun k_ hk => ⟨Kd.fresh' (Kd.R_lt Z3_37) k_ hk, Kd.fresh' (Kd.R_lt Z3_36) k_ hk⟩))
          (case aO => exact (by (with_reducible repeat (first | apply Kd.R_alloc | apply Kd.R_drewN | apply Kd.R_drew)); exact HO153.out))
          (case aS => exact (below_size Z3_29))
          (case aL => have := LMc24.out; omega)
          intro v159 w37 ho hb hg hat
          rw [← Ny158.out] at ho
          have n0_ := Aside0.mk (Kd.R_after (ok := (fun k_ => some k_ ≠ (.slice Ao36 y148.length co36 : Value).ownBlock)) Z3_37 hg hat)
          have n1_ := Aside0.mk (Kd.R_after (ok := (fun k_ => some k_ ≠ (.slice (some ad135) x3_1.length co9 : Value).ownBlock)) Z3_36 hg hat)
          have n2_ := Aside0.mk (hb)
          have n3_ := Aside0.mk ((show Kd.C (Kd.int .i64) w37 (some ad135) y140.length y140 from by rw [Ny140.out]; exact Kd.C_take (m := (x5_2 : Int).toNat) ((Kd.R_reads' (Kd.R_after (ok := (fun k_ => some k_ ≠ (.slice Ao36 y148.length co36 : Value).ownBlock)) Z3_37 hg hat)).2.2) KL27.out))
          have n4_ := Aside0.mk ((show Kd.C (Kd.int .i64) w37 A28 y154.length y154 from by rw [Ny154.out, KA28.out]; exact Kd.C_drop (m := (x5_2 : Int).toNat) (c := co9) ((Kd.R_reads' (Kd.R_after (ok := (fun k_ => some k_ ≠ (.slice Ao36 y148.length co36 : Value).ownBlock)) Z3_37 hg hat)).2.2) KL28.out ((Kd.R_reads' (Kd.R_after (ok := (fun k_ => some k_ ≠ (.slice Ao36 y148.length co36 : Value).ownBlock)) Z3_37 hg hat)).2.1)))
          have n5_ := Aside0.mk (ho)
          clear HO_3
          clear HO150
          clear HB
          clear HR143
          clear HR157
          clear HO153
          have HO_3 := n0_
          have HO150 := n1_
          have HB := n2_
          have HR143 := n3_
          have HR157 := n4_
          have HO160 := n5_
          clear n0_ n1_ n2_ n3_ n4_ n5_
          clear ho hb hg hat
          refine hK.out _ _ (((HB.out.cell (World.block_lt_of_cell? w _ hw147_0)).trans hw147_0)) (fun hHeld => ?_)
          clear hK K
          refine norm_ (a' := ?_) ?_ ?_
          rotate_left
          · show Act.put _ (some 51) _ = _
            simp only [Act.put, List.setIfInBounds_toArray, List.set_cons_zero, List.set_cons_succ, i64_w, i32_w]
            rfl
          refine pure_ (i := 15) (N := some 3) (v := _) (a' := _) (M3_16 65535) rfl rfl (any_of HT_.out (by kernel_rfl)) (fun _ _ _ h => h) (Or.inl ⟨(by rfl), (by intro w'; go_simp; with_reducible rfl)⟩) Z3_30 ?_
          refine done_ (done_of HT_.out (by kernel_rfl)) ?_
          try go_wp2
          go_roundg k2
          case measure => have := HK1.out; have := HK2.out; omega
          case rel => exact ⟨(y158), (wrap64 (x4_1 + 1)), Z3_41, H', ⟨(by have := HK1.out; have := HK2.out; omega)⟩, ⟨(by (with_reducible repeat (first | apply Kd.R_alloc | apply Kd.R_drewN | apply Kd.R_drew)); exact Kd.R_mono HO160.out (fun _ hk => trivial))⟩, ⟨Z3_29⟩⟩

end Go.Proofs.Ytfenclnejjbfjaa.QFnSetSums
