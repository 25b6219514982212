-- Written by a program of this session (patch_print.py over the print).
import Derived.Test.YtfenclnejjbfjaaQFnExactUnionx0
import Derived.Test.YtfenclnejjbfjaaQFnExactUnionx1
import Derived.Test.YtfenclnejjbfjaaQFnExactUnionx2
namespace Go.Proofs.Ytfenclnejjbfjaa.QFnExactUnion
open Go.RowKit Go.Proofs.YtfenclnejjbfjaaW.PrintWords Go.Proofs.YtfenclnejjbfjaaW.PrintLast Go.Proofs.YtfenclnejjbfjaaW.PrintMore
attribute [local go_sem] max2_int min2_int max_two min_two max_three min_three max_four min_four   -- for this text's walks alone
set_option linter.unusedVariables false
set_option linter.unusedSimpArgs false

theorem Z3_1 {p : Prop} (h : p := by (try simp only [List.map_toArray, List.map_cons, List.map_nil]); first | done | (rw [show t217.length = t199.length from (Kd.R_reads' HO201.out).1.symm] <;> rfl) | rfl | (simp only [List.length_drop, List.length_take]; rfl)) : p := h
theorem Z3_13 {p : Prop} (h : p := by repeat (first | (with_reducible first | exact HB.out | apply below_alloc | apply pw_below_drewN | apply below_drew1) | exact HB.out)) : p := h
theorem Z3_2 {p : Prop} (h : p := by exact (below_step Z3_13 hb)) : p := h
theorem Z3_3 {p : Prop} (h : p := by (try simp only [List.map_toArray, List.map_cons, List.map_nil]); first | done | rfl | (simp only [List.length_drop, List.length_take]; rfl)) : p := h
theorem Z3_15 {p : Prop} (h : p := by (with_reducible repeat (first | apply Kd.R_alloc | apply Kd.R_drewN | apply Kd.R_drew)); exact HO186.out) : p := h
theorem Z3_4 {p : Prop} (h : p := by exact (Kd.R_elder' Z3_15 (Kd.R_base ho0) hb)) : p := h
theorem Z3_16 {p : Prop} (h : p := by (with_reducible repeat (first | apply Kd.R_alloc | apply Kd.R_drewN | apply Kd.R_drew)); exact HO189.out) : p := h
theorem Z3_5 {p : Prop} (h : p := by exact (Kd.R_elder' Z3_16 (Kd.R_base ho0) hb)) : p := h
theorem Z3_17 {p : Prop} (h : p := by (with_reducible repeat (first | apply Kd.R_alloc | apply Kd.R_drewN | apply Kd.R_drew)); exact HO192.out) : p := h
theorem Z3_6 {p : Prop} (h : p := by exact (Kd.R_elder' Z3_17 (Kd.R_base ho0) hb)) : p := h
theorem Z3_18 {p : Prop} (h : p := by (with_reducible repeat (first | apply Kd.R_alloc | apply Kd.R_drewN | apply Kd.R_drew)); exact HO195.out) : p := h
theorem Z3_7 {p : Prop} (h : p := by exact (Kd.R_elder' Z3_18 (Kd.R_base ho0) hb)) : p := h
theorem Z3_19 {p : Prop} (h : p := by (with_reducible repeat (first | apply Kd.R_alloc | apply Kd.R_drewN | apply Kd.R_drew)); exact HO198.out) : p := h
theorem Z3_8 {p : Prop} (h : p := by exact (Kd.R_elder' Z3_19 (Kd.R_base ho0) hb)) : p := h
theorem Z3_20 {p : Prop} (h : p := by (with_reducible repeat (first | apply Kd.R_alloc | apply Kd.R_drewN | apply Kd.R_drew)); exact HO201.out) : p := h
theorem Z3_9 {p : Prop} (h : p := by exact (Kd.R_elder' Z3_20 (Kd.R_base ho0) hb)) : p := h
theorem Z3_21 {p : Prop} (h : p := by (with_reducible repeat (first | apply Kd.R_alloc | apply Kd.R_drewN | apply Kd.R_drew)); exact HO205.out) : p := h
theorem Z3_10 {p : Prop} (h : p := by exact (Kd.R_elder' Z3_21 (Kd.R_base ho0) hb)) : p := h
theorem Z3_22 {p : Prop} (h : p := by (with_reducible repeat (first | apply Kd.R_alloc | apply Kd.R_drewN | apply Kd.R_drew)); exact HO209.out) : p := h
theorem Z3_11 {p : Prop} (h : p := by exact (Kd.R_elder' Z3_22 (Kd.R_base ho0) hb)) : p := h
theorem Z3_23 {p : Prop} (h : p := by (with_reducible repeat (first | apply Kd.R_alloc | apply Kd.R_drewN | apply Kd.R_drew)); exact HO221.out) : p := h
theorem Z3_12 {p : Prop} (h : p := by exact (Kd.R_elder' Z3_23 (Kd.R_base ho0) hb)) : p := h
theorem Z3_14 {p : Prop} (h : p := by (with_reducible repeat (first | apply Kd.R_alloc | apply Kd.R_drewN | apply Kd.R_drew)); exact HO174.out) : p := h
theorem Z3_24 {p : Prop} (h : p := by (with_reducible repeat (first | apply Kd.R_alloc | apply Kd.R_drewN | apply Kd.R_drew)); exact HO224.out) : p := h
theorem Z3_25 {p : Prop} (h : p := by first | rfl | (simp [errW_none, errW_some] <;> rfl) | (simp [*, errW_none, errW_some] <;> rfl)) : p := h
/-! ### spec_Union: function 23 -/
def spec_Union.f (k : Nat) (l0 : List Int) (l1 : List Int) : Option (List Int) := (some (([] : List Int) : List Int)).bind fun y166 => (if y166.length + l0.length < 17592186044416 then ((some (y166 ++ l0 : List Int)).bind fun y169 => (if y169.length + l1.length < 17592186044416 then ((spec_SetOf.f k (y169 ++ l1)).bind fun t175 => (some t175)) else (none))) else (none))
theorem spec_Union.mono : ∀ a0 a1 k, LeO (spec_Union.f k a0 a1) (spec_Union.f (k + 1) a0 a1) := by
  intro a0 a1 k
  unfold spec_Union.f
  repeat' first
      | (with_reducible exact spec_SetOf.mono _ _)
      | (with_reducible exact LeO.refl _)
      | (with_reducible exact LeO.none _)
      | (with_reducible refine LeO.ite ?_ ?_)
      | (with_reducible refine LeO.bind ?_ (fun _ => ?_))
      | exact spec_SetOf.mono _ _
      | exact LeO.none _
      | refine LeO.ite ?_ ?_
      | refine LeO.bind ?_ (fun _ => ?_)
set_option maxHeartbeats 8000000 in
set_option maxRecDepth 100000 in
theorem spec_Union.calls (k : Nat) (A0 : Option Addr) (c0 : Nat) (l0 : List Int) (A1 : Option Addr) (c1 : Nat) (l1 : List Int) (r : List Int) (w : World) (hr0 : Kd.C (Kd.int .i64) w A0 l0.length l0) (hc0 : l0.length ≤ c0) (hr1 : Kd.C (Kd.int .i64) w A1 l1.length l1) (hc1 : l1.length ≤ c1) (h : spec_Union.f k l0 l1 = some r) :
    Calls Try.prog 23 #[.slice A0 l0.length c0, .slice A1 l1.length c1] w fun e w' => ∃ v0_ : Value, e = .returned (v0_) ∧ Kd.R (Kd.int .i64) 3 w' w.heap.size (fun _ => True) v0_ r ∧ Below w.heap.size w w' := by
  have HR0 := Aside0.mk hr0
  have HC0 := Aside0.mk hc0
  clear hr0 hc0
  have HR1 := Aside0.mk hr1
  have HC1 := Aside0.mk hc1
  clear hr1 hc1
  have HB := Aside0.mk (Below.refl w.heap.size w)
  have H : ((some (([] : List Int) : List Int)).bind fun y166 => (if y166.length + l0.length < 17592186044416 then ((some (y166 ++ l0 : List Int)).bind fun y169 => (if y169.length + l1.length < 17592186044416 then ((spec_SetOf.f k (y169 ++ l1)).bind fun t175 => (some t175)) else (none))) else (none))) = some r := h
  clear h
  obtain ⟨y166, hy166⟩ : ∃ y_ : List Int, y_ = (([] : List Int)) := ⟨_, rfl⟩
  replace H : (if y166.length + l0.length < 17592186044416 then ((some (y166 ++ l0 : List Int)).bind fun y169 => (if y169.length + l1.length < 17592186044416 then ((spec_SetOf.f k (y169 ++ l1)).bind fun t175 => (some t175)) else (none))) else (none)) = some r := by first | (rw [hy166]; with_reducible exact H) | (have H2_ := (Option.bind_some _ _).symm.trans H; rw [hy166]; with_reducible exact H2_) | (have H2_ := (Option.bind_some _ _).symm.trans H; with_reducible exact H2_) | with_reducible exact H | (rw [hy166]; exact H) | exact H
  have Ny166 := Aside0.mk hy166
  clear hy166
  by_cases c3 : y166.length + l0.length < 17592186044416
  rotate_left
  · rw [if_neg c3] at H
    exact absurd H (by simp)
  rw [if_pos c3] at H
  have LMc3 := Aside0.mk c3
  clear c3
  obtain ⟨y169, hy169⟩ : ∃ y_ : List Int, y_ = (y166 ++ l0) := ⟨_, rfl⟩
  replace H : (if y169.length + l1.length < 17592186044416 then ((spec_SetOf.f k (y169 ++ l1)).bind fun t175 => (some t175)) else (none)) = some r := by first | (rw [hy169]; with_reducible exact H) | (have H2_ := (Option.bind_some _ _).symm.trans H; rw [hy169]; with_reducible exact H2_) | (have H2_ := (Option.bind_some _ _).symm.trans H; with_reducible exact H2_) | with_reducible exact H | (rw [hy169]; exact H) | exact H
  have Ny169 := Aside0.mk hy169
  clear hy169
  by_cases c4 : y169.length + l1.length < 17592186044416
  rotate_left
  · rw [if_neg c4] at H
    exact absurd H (by simp)
  rw [if_pos c4] at H
  have LMc4 := Aside0.mk c4
  clear c4
  obtain ⟨y172, hy172⟩ : ∃ y_ : List Int, y_ = (y169 ++ l1) := ⟨_, rfl⟩
  replace H : ((spec_SetOf.f k y172).bind fun t175 => (some t175)) = some r := by first | (rw [hy172]; with_reducible exact H) | (have H2_ := (Option.bind_some _ _).symm.trans H; rw [hy172]; with_reducible exact H2_) | (have H2_ := (Option.bind_some _ _).symm.trans H; with_reducible exact H2_) | with_reducible exact H | (rw [hy172]; exact H) | exact H
  have Ny172 := Aside0.mk hy172
  clear hy172
  replace H := Option.bind_eq_some_iff.mp H
  obtain ⟨t175, A50, H⟩ := H
  replace H : (some t175) = some r := H
  have A5 := Aside0.mk A50
  clear A50
  obtain rfl := Option.some.inj H
  go_enter Try.func23, Try.ntmps23
  go_wp2_with (first | ((with_reducible refine gate_dst (N := 5) rfl ?_); refine Kd.R_lit (Kd.int .i64) _ 3 ?hg (N := 5) ?hd (xs := ([] : List Int)) (inner := []) (ok := fun _ => True) (okp := fun _ => True) ?hr ?hp (fun _ hk => hk) trivial (Below.refl _ _) (Nat.le_refl _) (by simp) ?_; (case hd => rfl); (case hg => rfl); (case hr => first | (go_simp; done) | (go_simp; rfl)); (case hp => exact (Reps.none _ _)); intro v167 w6 ho7 hb hg_ hnew_; clear hg_ hnew_; (first | rw [← Ny166.out] at ho7 | (simp only [Int.reduceToNat] at ho7; rw [← Ny166.out] at ho7)); have n0_ := Aside0.mk (Kd.R_lower ho7 (below_size Z3_13)); have n1_ := Aside0.mk Z3_2; clear HB; have HO168 := n0_; have HB := n1_; clear n0_ n1_; clear hb ho7) | ((with_reducible refine gate_builtin (b := .append) (xs := #[.tmp 5, .tmp 6]) rfl ?_); at_builtin; refine Kd.R_append_rows (Kd.int .i64) (w0 := w) w.heap.size rfl (.tmp 5) (.tmp 6) 22 3 (.int .i64 0) 8 rfl Try.underlying22 info3 rfl (by decide) (by omega) v167 y166 l0 _ _ _ (fun _ => True) (fun _ => False) rfl rfl ?aO ?aR (fun _ _ h => h) (fun _ h => h.elim) ?aF ?aB ?aS ?aL ?_; (case aR => repeat (first | exact (Kd.C_below HR0.out HB.out) | (with_reducible refine Kd.C_alloc ?_ _) | (with_reducible refine Kd.C_drewN ?_ _) | (with_reducible refine Kd.C_drew ?_))); (case aB => exact Z3_13); (case aF => exact (fun _ _ => trivial)); (case aO => exact (by (with_reducible repeat (first | apply Kd.R_alloc | apply Kd.R_drewN | apply Kd.R_drew)); exact HO168.out)); (case aS => exact (below_size Z3_13)); (case aL => have := LMc3.out; omega); intro v170 w8 ho hb hg hat; rw [← Ny169.out] at ho; have n0_ := Aside0.mk (hb); have n1_ := Aside0.mk (ho); clear HB; clear HO168; have HB := n0_; have HO171 := n1_; clear n0_ n1_; clear ho hb hg hat) | ((with_reducible refine gate_builtin (b := .append) (xs := #[.tmp 7, .tmp 8]) rfl ?_); at_builtin; refine Kd.R_append_rows (Kd.int .i64) (w0 := w) w.heap.size rfl (.tmp 7) (.tmp 8) 22 3 (.int .i64 0) 8 rfl Try.underlying22 info3 rfl (by decide) (by omega) v170 y169 l1 _ _ _ (fun _ => True) (fun _ => False) rfl rfl ?aO ?aR (fun _ _ h => h) (fun _ h => h.elim) ?aF ?aB ?aS ?aL ?_; (case aR => repeat (first | exact (Kd.C_below HR1.out HB.out) | (with_reducible refine Kd.C_alloc ?_ _) | (with_reducible refine Kd.C_drewN ?_ _) | (with_reducible refine Kd.C_drew ?_))); (case aB => exact Z3_13); (case aF => exact (fun _ _ => trivial)); (case aO => exact (by (with_reducible repeat (first | apply Kd.R_alloc | apply Kd.R_drewN | apply Kd.R_drew)); exact HO171.out)); (case aS => exact (below_size Z3_13)); (case aL => have := LMc4.out; omega); intro v173 w9 ho hb hg hat; rw [← Ny172.out] at ho; have n0_ := Aside0.mk (hb); have n1_ := Aside0.mk (ho); clear HB; clear HO171; have HB := n0_; have HO174 := n1_; clear n0_ n1_; clear ho hb hg hat; obtain ⟨Ao10, co10, eo10⟩ := Kd.R_slice HO174.out; subst eo10) | ((with_reducible refine gate_callee (f := 13) rfl ?_); refine goesL_ (some 10) rfl rfl Try.func13 (by kernel_rfl) rfl #[.slice Ao10 y172.length co10] rfl Z3_3 ?_; (with_reducible refine (spec_SetOf.calls k _ _ y172 t175 _ ?side1 ?side2 A5.out).mono ?_); (case side1 => repeat (first | exact (Kd.R_reads' HO174.out).2.2 | (with_reducible refine Kd.C_alloc ?_ _) | (with_reducible refine Kd.C_drewN ?_ _) | (with_reducible refine Kd.C_drew ?_))); (case side2 => exact (Kd.R_reads' HO174.out).2.1); rintro e w11 ⟨v176, rfl, ho0, hb⟩; refine ⟨_, rfl, ?_⟩; have n0_ := Aside0.mk (Kd.R_elder' Z3_14 (Kd.R_base ho0) hb); have n1_ := Aside0.mk (Kd.R_lower (Kd.R_new' ho0 (Kd.R_lt Z3_14)) (below_size Z3_13)); have n2_ := Aside0.mk Z3_2; clear HO174; clear HB; have HO174 := n0_; have HO177 := n1_; have HB := n2_; clear n0_ n1_ n2_; (try clear hb); (try clear hb2); (try clear hk); (try clear hi); (try clear ho0)))
  go_ret
  exact ⟨_, Z3_25, (by (with_reducible repeat (first | apply Kd.R_alloc | apply Kd.R_drewN | apply Kd.R_drew)); exact Kd.R_mono HO177.out (fun _ hk => trivial)), Z3_13⟩

/-! ### slices_Clone_int_int: function 52 -/
def slices_Clone_int_int.f (l0 : List Int) : Option (List Int) := (some (([] : List Int) : List Int)).bind fun y178 => (if y178.length + l0.length < 17592186044416 then (some (y178 ++ l0)) else (none))
set_option maxHeartbeats 8000000 in
set_option maxRecDepth 100000 in
theorem slices_Clone_int_int.calls_some (A0 : Option Addr) (c0 : Nat) (l0 : List Int) (r : List Int) (w : World) (hr0 : Kd.C (Kd.int .i64) w A0 l0.length l0) (hc0 : l0.length ≤ c0) (hA0 : A0.isNone = false) (h : slices_Clone_int_int.f l0 = some r) :
    Calls Try.prog 52 #[.slice A0 l0.length c0] w fun e w' => ∃ v0_ : Value, e = .returned (v0_) ∧ Kd.R (Kd.int .i64) 3 w' w.heap.size (fun _ => True) v0_ r ∧ Below w.heap.size w w' := by
  have hq0 : ∀ (w : World) (n' c' : Nat), (Go.binOp .eql 22 (.slice A0 l0.length c0) (.slice none n' c')).run Try.prog w = .ok (.bool false) w := fun w n' c' => (Go.Lib.run_eql_slice_nil w _ _ A0 l0.length c0 n' c' Try.underlying22).trans (by rw [hA0])
  have HR0 := Aside0.mk hr0
  have HC0 := Aside0.mk hc0
  clear hr0 hc0
  have HB := Aside0.mk (Below.refl w.heap.size w)
  have H : ((some (([] : List Int) : List Int)).bind fun y178 => (if y178.length + l0.length < 17592186044416 then (some (y178 ++ l0)) else (none))) = some r := h
  clear h
  obtain ⟨y178, hy178⟩ : ∃ y_ : List Int, y_ = (([] : List Int)) := ⟨_, rfl⟩
  replace H : (if y178.length + l0.length < 17592186044416 then (some (y178 ++ l0)) else (none)) = some r := by first | (rw [hy178]; with_reducible exact H) | (have H2_ := (Option.bind_some _ _).symm.trans H; rw [hy178]; with_reducible exact H2_) | (have H2_ := (Option.bind_some _ _).symm.trans H; with_reducible exact H2_) | with_reducible exact H | (rw [hy178]; exact H) | exact H
  have Ny178 := Aside0.mk hy178
  clear hy178
  by_cases c2 : y178.length + l0.length < 17592186044416
  rotate_left
  · rw [if_neg c2] at H
    exact absurd H (by simp)
  rw [if_pos c2] at H
  have LMc2 := Aside0.mk c2
  clear c2
  obtain ⟨y181, hy181⟩ : ∃ y_ : List Int, y_ = (y178 ++ l0) := ⟨_, rfl⟩
  replace H : (some y181) = some r := by first | (rw [hy181]; with_reducible exact H) | (have H2_ := (Option.bind_some _ _).symm.trans H; rw [hy181]; with_reducible exact H2_) | (have H2_ := (Option.bind_some _ _).symm.trans H; with_reducible exact H2_) | with_reducible exact H | (rw [hy181]; exact H) | exact H
  have Ny181 := Aside0.mk hy181
  clear hy181
  obtain rfl := Option.some.inj H
  go_enter Try.func52, Try.ntmps52
  go_wp2_with (first | ((with_reducible refine gate_dst (N := 5) rfl ?_); refine Kd.R_lit (Kd.int .i64) _ 3 ?hg (N := 5) ?hd (xs := ([] : List Int)) (inner := []) (ok := fun _ => True) (okp := fun _ => True) ?hr ?hp (fun _ hk => hk) trivial (Below.refl _ _) (Nat.le_refl _) (by simp) ?_; (case hd => rfl); (case hg => rfl); (case hr => first | (go_simp; done) | (go_simp; rfl)); (case hp => exact (Reps.none _ _)); intro v179 w3 ho4 hb hg_ hnew_; clear hg_ hnew_; (first | rw [← Ny178.out] at ho4 | (simp only [Int.reduceToNat] at ho4; rw [← Ny178.out] at ho4)); have n0_ := Aside0.mk (Kd.R_lower ho4 (below_size Z3_13)); have n1_ := Aside0.mk Z3_2; clear HB; have HO180 := n0_; have HB := n1_; clear n0_ n1_; clear hb ho4) | ((with_reducible refine gate_builtin (b := .append) (xs := #[.tmp 5, .tmp 6]) rfl ?_); at_builtin; refine Kd.R_append_rows (Kd.int .i64) (w0 := w) w.heap.size rfl (.tmp 5) (.tmp 6) 22 3 (.int .i64 0) 8 rfl Try.underlying22 info3 rfl (by decide) (by omega) v179 y178 l0 _ _ _ (fun _ => True) (fun _ => False) rfl rfl ?aO ?aR (fun _ _ h => h) (fun _ h => h.elim) ?aF ?aB ?aS ?aL ?_; (case aR => repeat (first | exact (Kd.C_below HR0.out HB.out) | (with_reducible refine Kd.C_alloc ?_ _) | (with_reducible refine Kd.C_drewN ?_ _) | (with_reducible refine Kd.C_drew ?_))); (case aB => exact Z3_13); (case aF => exact (fun _ _ => trivial)); (case aO => exact (by (with_reducible repeat (first | apply Kd.R_alloc | apply Kd.R_drewN | apply Kd.R_drew)); exact HO180.out)); (case aS => exact (below_size Z3_13)); (case aL => have := LMc2.out; omega); intro v182 w5 ho hb hg hat; rw [← Ny181.out] at ho; have n0_ := Aside0.mk (hb); have n1_ := Aside0.mk (ho); clear HB; clear HO180; have HB := n0_; have HO183 := n1_; clear n0_ n1_; clear ho hb hg hat))
  go_ret
  exact ⟨_, Z3_25, (by (with_reducible repeat (first | apply Kd.R_alloc | apply Kd.R_drewN | apply Kd.R_drew)); exact HO183.out), Z3_13⟩
set_option maxHeartbeats 8000000 in
set_option maxRecDepth 100000 in
theorem slices_Clone_int_int.calls (A0 : Option Addr) (c0 : Nat) (l0 : List Int) (r : List Int) (w : World) (hr0 : Kd.C (Kd.int .i64) w A0 l0.length l0) (hc0 : l0.length ≤ c0) (h : slices_Clone_int_int.f l0 = some r) :
    Calls Try.prog 52 #[.slice A0 l0.length c0] w fun e w' => ∃ v0_ : Value, e = .returned (v0_) ∧ Kd.R (Kd.int .i64) 3 w' w.heap.size (fun _ => True) v0_ r ∧ Below w.heap.size w w' := by
  rcases hq : A0.isNone with _ | _
  · exact slices_Clone_int_int.calls_some A0 c0 l0 r w hr0 hc0 hq h
  · obtain rfl : A0 = none := by cases A0 with | none => rfl | some _ => cases hq
    obtain rfl : l0 = [] := by
      rcases Nat.eq_zero_or_pos l0.length with hz | hp
      · exact List.eq_nil_of_length_eq_zero hz
      · obtain ⟨ad, hA, _⟩ := hr0.2.2 hp; cases hA
    have hr : [] = r := by simpa [slices_Clone_int_int.f] using h
    subst hr
    have hq0 : ∀ (w : World) (n c n' c' : Nat), (Go.binOp .eql 22 (.slice none n c) (.slice none n' c')).run Try.prog w = .ok (.bool true) w := fun w n c n' c' => Go.Lib.run_eql_slice_nil w _ _ none n c n' c' Try.underlying22
    go_enter Try.func52, Try.ntmps52
    go_wp2
    go_ret
    exact ⟨_, rfl, Kd.R_nil _ _ _ _ _, Below.refl _ _⟩


/-! ### impl_SetOf: function 15 -/
def impl_SetOf.f (l0 : List Int) : Option (List Int) := if l0.length < 17592186044416 then some (Go.Lib.compact (l0.mergeSort fun x y => decide (x ≤ y))) else none
def compact_ren : Go.Shelf.Ren := ⟨fun | 20 => 54 | n => n, fun | 0 => 0 | 3 => 3 | 4 => 4 | 22 => 22 | n => n, fun n => n⟩
theorem compact_lay : Go.Proofs.Lays2.n20 Try.prog compact_ren := {
  mixed := by kernel_rfl,
  f20 := Try.func54.trans (congrArg some (by kernel_rfl)),
  t0 := Try.underlying0, a0 := Try.isAgg0, z0 := Try.sizeOf0, v0 := Try.zeroValue0,
  t3 := Try.underlying3, a3 := Try.isAgg3, z3 := Try.sizeOf3, v3 := Try.zeroValue3,
  t4 := Try.underlying4, a4 := Try.isAgg4, z4 := Try.sizeOf4, v4 := Try.zeroValue4,
  t22 := Try.underlying22, a22 := Try.isAgg22, z22 := Try.sizeOf22, v22 := Try.zeroValue22,
  i3 := by kernel_rfl }
def sort_ren : Go.Shelf.Ren := ⟨fun | 189 => 53 | 125 => 81 | 257 => 80 | 128 => 103 | 129 => 104 | 294 => 94 | 295 => 95 | 296 => 96 | 297 => 97 | 298 => 98 | 299 => 99 | 216 => 100 | 300 => 101 | 301 => 102 | 328 => 105 | 329 => 106 | 330 => 107 | 331 => 108 | 332 => 109 | 215 => 110 | 343 => 111 | n => n, fun | 28 => 22 | 3 => 3 | 46 => 78 | 0 => 0 | 51 => 95 | 53 => 97 | 4 => 4 | 183 => 87 | 182 => 86 | 131 => 92 | 5 => 5 | 9 => 9 | 218 => 98 | 222 => 102 | 228 => 104 | 229 => 105 | n => n, fun | n => n⟩
theorem sort_lay : Go.Proofs.Lays.n189 Try.prog sort_ren := {
  mixed := by kernel_rfl,
  f125 := Try.func81.trans (congrArg some (by kernel_rfl)),
  f128 := Try.func103.trans (congrArg some (by kernel_rfl)),
  f129 := Try.func104.trans (congrArg some (by kernel_rfl)),
  f189 := Try.func53.trans (congrArg some (by kernel_rfl)),
  f215 := Try.func110.trans (congrArg some (by kernel_rfl)),
  f216 := Try.func100.trans (congrArg some (by kernel_rfl)),
  f257 := Try.func80.trans (congrArg some (by kernel_rfl)),
  f294 := Try.func94.trans (congrArg some (by kernel_rfl)),
  f295 := Try.func95.trans (congrArg some (by kernel_rfl)),
  f296 := Try.func96.trans (congrArg some (by kernel_rfl)),
  f297 := Try.func97.trans (congrArg some (by kernel_rfl)),
  f298 := Try.func98.trans (congrArg some (by kernel_rfl)),
  f299 := Try.func99.trans (congrArg some (by kernel_rfl)),
  f300 := Try.func101.trans (congrArg some (by kernel_rfl)),
  f301 := Try.func102.trans (congrArg some (by kernel_rfl)),
  f328 := Try.func105.trans (congrArg some (by kernel_rfl)),
  f329 := Try.func106.trans (congrArg some (by kernel_rfl)),
  f330 := Try.func107.trans (congrArg some (by kernel_rfl)),
  f331 := Try.func108.trans (congrArg some (by kernel_rfl)),
  f332 := Try.func109.trans (congrArg some (by kernel_rfl)),
  f343 := Try.func111.trans (congrArg some (by kernel_rfl)),
  t0 := Try.underlying0,
  a0 := Try.isAgg0,
  z0 := Try.sizeOf0,
  v0 := Try.zeroValue0,
  t3 := Try.underlying3,
  a3 := Try.isAgg3,
  z3 := Try.sizeOf3,
  v3 := Try.zeroValue3,
  t4 := Try.underlying4,
  a4 := Try.isAgg4,
  z4 := Try.sizeOf4,
  v4 := Try.zeroValue4,
  t5 := Try.underlying5,
  a5 := Try.isAgg5,
  z5 := Try.sizeOf5,
  v5 := Try.zeroValue5,
  t9 := Try.underlying9,
  a9 := Try.isAgg9,
  z9 := Try.sizeOf9,
  v9 := Try.zeroValue9,
  t28 := Try.underlying22,
  a28 := Try.isAgg22,
  z28 := Try.sizeOf22,
  v28 := Try.zeroValue22,
  t46 := Try.underlying78,
  a46 := Try.isAgg78,
  z46 := Try.sizeOf78,
  v46 := Try.zeroValue78,
  t51 := Try.underlying95,
  a51 := Try.isAgg95,
  z51 := Try.sizeOf95,
  v51 := Try.zeroValue95,
  t53 := Try.underlying97,
  a53 := Try.isAgg97,
  z53 := Try.sizeOf97,
  v53 := Try.zeroValue97,
  t131 := Try.underlying92,
  a131 := Try.isAgg92,
  z131 := Try.sizeOf92,
  v131 := Try.zeroValue92,
  t182 := Try.underlying86,
  a182 := Try.isAgg86,
  z182 := Try.sizeOf86,
  v182 := Try.zeroValue86,
  t183 := Try.underlying87,
  a183 := Try.isAgg87,
  z183 := Try.sizeOf87,
  v183 := Try.zeroValue87,
  t218 := Try.underlying98,
  a218 := Try.isAgg98,
  z218 := Try.sizeOf98,
  v218 := Try.zeroValue98,
  t222 := Try.underlying102,
  a222 := Try.isAgg102,
  z222 := Try.sizeOf102,
  v222 := Try.zeroValue102,
  t228 := Try.underlying104,
  a228 := Try.isAgg104,
  z228 := Try.sizeOf104,
  v228 := Try.zeroValue104,
  t229 := Try.underlying105,
  a229 := Try.isAgg105,
  z229 := Try.sizeOf105,
  v229 := Try.zeroValue105 }
theorem own_of_R {e : Nat} {w : World} {base : Nat} {ok : Nat → Prop} {v : Value} {xs : List Int} (h : Kd.R (Kd.int .i64) e w base ok v xs) : w.ownsRow base e 1 v xs.length (xs.map (Value.int .i64)) := by
  obtain ⟨_, inner, ho, hr⟩ := h
  have hl : inner.length = xs.length := (show inner.length = xs.length * 1 from hr.1).trans (Nat.mul_one _)
  have : inner = xs.map (Value.int .i64) := by
    apply List.ext_getElem?
    intro j
    by_cases hj : j < xs.length
    · have h2 := hr.2 j xs[j] (List.getElem?_eq_getElem hj)
      have h3 : (inner.drop (j * 1)).take 1 = [Value.int .i64 xs[j]] := h2
      rw [Nat.mul_one] at h3
      have h4 : inner[j]? = some (Value.int .i64 xs[j]) := by
        have h5 := congrArg (fun l => l[0]?) h3
        simpa [List.getElem?_take, List.getElem?_drop] using h5
      rw [h4]
      simp [hj]
    · rw [List.getElem?_eq_none (by omega), List.getElem?_eq_none (by simp; omega)]
  rw [this] at ho
  exact ho
theorem R_of_own {e : Nat} {w : World} {base : Nat} {v : Value} {xs : List Int} (h : w.ownsRow base e 1 v xs.length (xs.map (Value.int .i64))) : Kd.R (Kd.int .i64) e w base (fun _ => True) v xs := by
  refine ⟨fun _ _ => trivial, _, h, (show (xs.map (Value.int .i64)).length = xs.length * 1 by rw [List.length_map, Nat.mul_one]), fun j p hp => ?_⟩
  show (((xs.map (Value.int .i64)).drop (j * 1)).take 1) = [Value.int .i64 p]
  have hj : j < xs.length := (List.getElem?_eq_some_iff.1 hp).1
  rw [Nat.mul_one, List.drop_eq_getElem_cons (by rw [List.length_map]; exact hj)]
  have : xs[j] = p := by rw [List.getElem?_eq_getElem hj] at hp; exact Option.some.inj hp
  simp [this]
theorem own_cut {w : World} {base : Nat} {e : Nat} {g cap n m : Nat} {xs ys : List Int} (h : w.ownsRow base e 1 (.slice (some ⟨g, 0, none⟩) n cap) n ((xs ++ ys).map (Value.int .i64))) (hm : m = xs.length) :
    w.ownsRow base e 1 (.slice (some ⟨g, 0, none⟩) m cap) m (xs.map (Value.int .i64)) := by
  subst hm
  rcases h.2 with ⟨hv, _⟩ | ⟨g', cap', cur, hv, hg, hh, h1, h2, h3, h4⟩
  · cases hv
  · cases hv
    have hl : xs.length ≤ n := by have := h.1; simp at this; omega
    refine ⟨(by rw [List.length_map, Nat.mul_one]), .inr ⟨g, cap, cur, rfl, hg, hh, (by omega), h2, h3, ?_⟩⟩
    have h5 := congrArg (fun l => l.take xs.length) h4
    simp only [Nat.mul_one] at h5 ⊢
    rw [List.take_take, Nat.min_eq_left hl] at h5
    rw [h5, List.map_append, List.take_left' (by rw [List.length_map])]
set_option maxHeartbeats 8000000 in
set_option maxRecDepth 100000 in
theorem impl_SetOf.calls (A0 : Option Addr) (c0 : Nat) (l0 : List Int) (r : List Int) (w : World) (hr0 : Kd.C (Kd.int .i64) w A0 l0.length l0) (hc0 : l0.length ≤ c0) (h : impl_SetOf.f l0 = some r) :
    Calls Try.prog 15 #[.slice A0 l0.length c0] w fun e w' => ∃ v0_ : Value, e = .returned (v0_) ∧ Kd.R (Kd.int .i64) 3 w' w.heap.size (fun _ => True) v0_ r ∧ Below w.heap.size w w' := by
  unfold impl_SetOf.f at h
  by_cases hb : l0.length < 17592186044416
  · rw [if_pos hb] at h
    have hr : Go.Lib.compact (l0.mergeSort fun x y => decide (x ≤ y)) = r := Option.some.inj h
    clear h
    have hcl : slices_Clone_int_int.f l0 = some l0 := by simp [slices_Clone_int_int.f, hb]
    have HCL := Aside0.mk hcl
    have HR := Aside0.mk hr
    have HB0 := Aside0.mk hb
    have HR0 := Aside0.mk hr0
    have HC0 := Aside0.mk hc0
    clear hcl hr hb hr0 hc0
    go_enter Try.func15, Try.ntmps15
    go_wp2_with (fail)
    refine (slices_Clone_int_int.calls A0 c0 l0 l0 _ HR0.out HC0.out HCL.out).mono ?_
    rintro e w1 ⟨v, rfl, hR, hB⟩
    have ho := own_of_R hR
    clear hR
    rcases ho.2 with ⟨hv, hn⟩ | ⟨g, cap, cur, hv, hg, hh, h1, h2, h3, h4⟩
    · subst hv
      have hl0 : l0 = [] := List.eq_nil_of_length_eq_zero hn
      subst hl0
      have HBW := Aside0.mk hB
      clear ho hB hn
      go_wp2_with (fail)
      refine (Any.slices_Sort_int_none sort_lay none 0 w1).mono ?_
      rintro e w2 ⟨rfl, rfl⟩
      go_wp2_with (fail)
      refine (Any.slices_Compact_int_empty compact_lay none 0 w2).mono ?_
      rintro e w3 ⟨rfl, rfl⟩
      go_wp2
      go_ret
      have hr : r = [] := by
        rw [← HR.out, List.mergeSort_nil]
        rfl
      subst hr
      exact ⟨_, rfl, Kd.R_nil _ _ _ _ _, HBW.out⟩
    · subst hv
      have hHold := Go.holds_of_blockI hh (by rw [Nat.mul_one] at h4; exact h4)
      have hlt : g < w1.heap.size := (Array.getElem?_eq_some_iff.1 hh).1
      have hlen : (l0.mergeSort fun x y => decide (x ≤ y)).length = l0.length := List.length_mergeSort l0
      have hsort := Any.slices_Sort_int sort_lay g 0 cap l0 w1 hHold hlt (by have := HB0.out; omega)
      have hown2 : ∀ n os, (Go.Sort.grow (Go.Sort.putRow (Value.int .i64) (Go.Sort.ahead w1 n) g 0 (l0.mergeSort fun x y => decide (x ≤ y)).toArray) os).ownsRow w.heap.size 3 1 (.slice (some ⟨g, 0, none⟩) l0.length cap) l0.length ((l0.mergeSort fun x y => decide (x ≤ y)).map (Value.int .i64)) :=
        fun n os => Go.ownsRow_sortedI hlen hg hh h1 h2 h3
      have hbel2 : ∀ n os, Below w.heap.size w (Go.Sort.grow (Go.Sort.putRow (Value.int .i64) (Go.Sort.ahead w1 n) g 0 (l0.mergeSort fun x y => decide (x ≤ y)).toArray) os) :=
        fun n os => hB.grown (Go.grownBy_sortedI _) hB.size (fun k hk => by cases hk; exact hg)
      have HS := Aside0.mk hsort
      have HO2 := Aside0.mk hown2
      have HB2 := Aside0.mk hbel2
      have HL := Aside0.mk hlen
      have HG := Aside0.mk hg
      have H2 := Aside0.mk h2
      clear hsort hown2 hbel2 hlen hg h1 h2 h3 h4 hh ho hB hHold hlt
      go_wp2_with (fail)
      refine HS.out.mono ?_
      rintro e w2 ⟨rfl, n, os, hw2⟩
      have HO := Aside0.mk (show w2.ownsRow w.heap.size 3 1 (.slice (some ⟨g, 0, none⟩) l0.length cap) l0.length ((l0.mergeSort fun x y => decide (x ≤ y)).map (Value.int .i64)) from hw2 ▸ HO2.out n os)
      have HBW := Aside0.mk (show Below w.heap.size w w2 from hw2 ▸ HB2.out n os)
      clear hw2 HO2 HB2 HS
      have HR' := HR
      clear HR
      generalize hz : (l0.mergeSort fun x y => decide (x ≤ y)) = zs at HO HL HR'
      have hn : l0.length = zs.length := HL.out.symm
      rw [hn] at HO
      obtain ⟨cur2, hh2, h12, h32, h42⟩ : ∃ cur, w2.heap[g]? = some (.cells cur 3 (0, 0)) ∧ zs.length ≤ cap ∧ cur.size = cap * 1 ∧ cur.toList.take zs.length = zs.map (Value.int .i64) := by
        rcases HO.out.2 with ⟨hv, _⟩ | ⟨g', cap', cur, hv, hg, hh, h1, h2, h3, h4⟩
        · cases hv
        · cases hv
          exact ⟨cur, hh, h1, h3, (by rw [Nat.mul_one] at h4; exact h4)⟩
      have hHold := Go.holds_of_blockI hh2 h42
      have hcomp := Any.slices_Compact_int compact_lay g 0 cap zs w2 hHold (by have := HB0.out; omega) h12
      have hle := Go.Lib.compact_length_le zs
      have hown3 : ∀ q, (Go.Sort.putRow (Value.int .i64) (Go.Sort.ahead w2 q) g 0 (Go.Lib.compact zs ++ List.replicate (zs.length - (Go.Lib.compact zs).length) 0).toArray).ownsRow w.heap.size 3 1 (.slice (some ⟨g, 0, none⟩) zs.length cap) zs.length ((Go.Lib.compact zs ++ List.replicate (zs.length - (Go.Lib.compact zs).length) 0).map (Value.int .i64)) := by
        intro q
        have := Go.ownsRow_sortedI (w := w2) (base := w.heap.size) (g := g) (cap := cap) (n := q) (e := 3) (os := #[]) (cur := cur2) (ss := zs) (ts := Go.Lib.compact zs ++ List.replicate (zs.length - (Go.Lib.compact zs).length) 0) (by simp; omega) HG.out hh2 h12 H2.out h32
        rwa [Go.Sort.grow_empty] at this
      have hbel3 : ∀ q, Below w.heap.size w (Go.Sort.putRow (Value.int .i64) (Go.Sort.ahead w2 q) g 0 (Go.Lib.compact zs ++ List.replicate (zs.length - (Go.Lib.compact zs).length) 0).toArray) := by
        intro q
        have := HBW.out.grown (Go.grownBy_sortedI (w := w2) (g := g) (n := q) (os := #[]) (Go.Lib.compact zs ++ List.replicate (zs.length - (Go.Lib.compact zs).length) 0).toArray) HBW.out.size (fun k hk => by cases hk; exact HG.out)
        rwa [Go.Sort.grow_empty] at this
      have HC3 := Aside0.mk hcomp
      have HO3 := Aside0.mk hown3
      have HB3 := Aside0.mk hbel3
      clear hcomp hown3 hbel3 hle hHold hh2 h12 h32 h42 hz
      have HN := Aside0.mk hn
      clear hn
      go_wp2_with (fail)
      rw [HN.out]
      refine HC3.out.mono ?_
      rintro e w3 ⟨rfl, q, hw3⟩
      have HO4 := Aside0.mk (own_cut (hw3 ▸ HO3.out q) rfl)
      have HB4 := Aside0.mk (show Below w.heap.size w w3 from hw3 ▸ HB3.out q)
      clear hw3 HO3 HB3 HC3
      go_wp2
      go_ret
      rw [← HR'.out]
      exact ⟨_, rfl, R_of_own HO4.out, HB4.out⟩
  · rw [if_neg hb] at h
    cases h


def grow_ren : Go.Shelf.Ren := ⟨fun | 4 => 82 | n => n, fun | 25 => 3 | n => n, fun n => n⟩
theorem grow_lay : Go.Proofs.Lays8.n4 Try.prog grow_ren := {
  mixed := by kernel_rfl,
  f4 := ⟨"slices.Grow[[]int,int]", (by decide), Try.func82.trans (congrArg some (by kernel_rfl))⟩,
  t0 := Try.underlying0, a0 := Try.isAgg0, z0 := Try.sizeOf0, v0 := Try.zeroValue0,
  t3 := Try.underlying3, a3 := Try.isAgg3, z3 := Try.sizeOf3, v3 := Try.zeroValue3,
  t4 := Try.underlying4, a4 := Try.isAgg4, z4 := Try.sizeOf4, v4 := Try.zeroValue4,
  t9 := Try.underlying9, a9 := Try.isAgg9, z9 := Try.sizeOf9, v9 := Try.zeroValue9,
  t20 := Try.underlying20, a20 := Try.isAgg20, z20 := Try.sizeOf20, v20 := Try.zeroValue20,
  t22 := Try.underlying22, a22 := Try.isAgg22, z22 := Try.sizeOf22, v22 := Try.zeroValue22 }
/-- slices.Grow(nil, n): an empty row of the call's own. -/
theorem grow_nil (n : Nat) (m : Int) (hm : m = n) (hn : n < 17592186044416) (w : World) :
    Calls Try.prog 82 #[.slice none 0 0, .int .i64 m] w fun e w' => ∃ v, e = .returned v ∧ Kd.R (Kd.int .i64) 3 w' w.heap.size (fun _ => True) v [] ∧ Below w.heap.size w w' := by
  subst hm
  by_cases h0 : n = 0
  · subst h0
    refine (Any8.slices_Grow_room grow_lay none 0 0 0 w (Nat.le_refl _) (by omega) (by omega) (Nat.le_refl _)).mono ?_
    rintro e w' ⟨rfl, rfl⟩
    exact ⟨_, rfl, Kd.R_nil _ _ _ _ _, Below.refl _ _⟩
  · obtain ⟨i0, hi0, hz0, hs0, hb0⟩ := info_parts info3
    refine (Any8.slices_Grow_grow grow_lay i0 _ hi0 hz0 (by omega) none 0 0 n [] w (Nat.le_refl _) (by omega) (by rw [hb0]; omega) (by omega) (by simp) (fun _ => rfl) (fun a h => by cases h)).mono ?_
    rintro e w' ⟨rfl, rfl⟩
    refine ⟨_, rfl, R_of_own ?_, below_alloc (below_drew (Below.refl _ _)) _⟩
    have hg := grownCap_ge w (0 + n) 0 (grow_ren.t 25)
    have hm := grownCap_le_maxLen w (0 + n) 0 (grow_ren.t 25) (by unfold maxLen; omega)
    refine ⟨rfl, .inr ⟨w.heap.size, _, _, rfl, Nat.le_refl _, heap_alloc_new w.drew _, Nat.zero_le _, hm, ?_, (by simp)⟩⟩
    have h1 : (Value.int IntKind.i64 0).cells.size = 1 := rfl
    simp only [Array.size_append, size_zeroCells, h1, List.size_toArray, List.length_nil]
    omega
set_option maxHeartbeats 4000000 in
set_option maxRecDepth 100000 in
/-- slices.Concat(a, b): a row of the call's own that holds both. -/
theorem concat_two (g : Nat) (A0 : Option Addr) (c0 : Nat) (l0 : List Int) (A1 : Option Addr) (c1 : Nat) (l1 : List Int) (w : World) (h0 : w.cell? ⟨g, 0, none⟩ = some (.slice A0 l0.length c0)) (h1 : w.cell? ⟨g, 1, none⟩ = some (.slice A1 l1.length c1))
    (hr0 : Kd.C (Kd.int .i64) w A0 l0.length l0) (hr1 : Kd.C (Kd.int .i64) w A1 l1.length l1) (hl : l0.length + l1.length < 17592186044416) :
    Calls Try.prog 55 #[.slice (some ⟨g, 0, none⟩) 2 2] w fun e w' => ∃ v, e = .returned v ∧ Kd.R (Kd.int .i64) 3 w' w.heap.size (fun _ => True) v (l0 ++ l1) ∧ Below w.heap.size w w' := by
  have hgl : g < w.heap.size := World.block_lt_of_cell? w _ h0
  have HR0 := Aside0.mk hr0
  have HR1 := Aside0.mk hr1
  have HG := Aside0.mk hgl
  clear hr0 hr1 hgl
  go_enter Try.func55, Try.ntmps55
  go_wp2
  go_loop [3, 11] (fun s i => (i = .int .i64 0 ∧ s = .int .i64 0) ∨ (i = .int .i64 1 ∧ s = .int .i64 l0.length) ∨ (i = .int .i64 2 ∧ s = .int .i64 ((l0.length + l1.length : Nat) : Int))) (fun _ i => 2 - (intOf i).toNat)
  case atStart => exact .inl ⟨rfl, rfl⟩
  case round =>
    rcases hrel with ⟨rfl, rfl⟩ | ⟨rfl, rfl⟩ | ⟨rfl, rfl⟩
    · go_wp2
      go_round
      case rel => exact .inr (.inl ⟨rfl, rfl⟩)
      case measure => simp [intOf]
    · go_wp2
      go_round
      case rel => exact .inr (.inr ⟨rfl, (by simp)⟩)
      case measure => simp [intOf]
    · go_wp2_with (go_at_call 82; (with_reducible refine (grow_nil (l0.length + l1.length) _ (by simp) hl _).mono ?_); rintro e w1 ⟨v1, rfl, hR1, hB1⟩; have HO1 := Aside0.mk hR1; have HB1 := Aside0.mk hB1; clear hR1 hB1)
      go_loopw [6, 27] (fun v i wr => (i = .int .i64 0 ∧ Aside0 (Kd.R (Kd.int .i64) 3 wr w.heap.size (fun _ => True) v [] ∧ Below w.heap.size w wr)) ∨ (i = .int .i64 1 ∧ Aside0 (Kd.R (Kd.int .i64) 3 wr w.heap.size (fun _ => True) v l0 ∧ Below w.heap.size w wr)) ∨ (i = .int .i64 2 ∧ Aside0 (Kd.R (Kd.int .i64) 3 wr w.heap.size (fun _ => True) v (l0 ++ l1) ∧ Below w.heap.size w wr))) (fun _ i _ => 2 - (intOf i).toNat)
      case atStart => exact .inl ⟨rfl, ⟨⟨HO1.out, HB1.out⟩⟩⟩
      case round =>
        clear HO1 HB1
        rcases hrel with ⟨rfl, HO⟩ | ⟨rfl, HO⟩ | ⟨rfl, HO⟩
        · have hx := (HO.out.2.cell (p := ⟨g, 0, none⟩) HG.out).trans h0
          go_wp2_with (((with_reducible refine gate_builtin (b := .append) (xs := #[.tmp 31, .tmp 32]) rfl ?_); at_builtin; refine Kd.R_append_rows (Kd.int .i64) (w0 := w) w.heap.size rfl (.tmp 31) (.tmp 32) 22 3 (.int .i64 0) 8 rfl Try.underlying22 info3 rfl (by decide) (by omega) _ [] l0 _ _ _ (fun _ => True) (fun _ => False) rfl rfl HO.out.1 (Kd.C_below HR0.out HO.out.2) (fun _ _ h => h) (fun _ h => h.elim) (fun _ _ => trivial) HO.out.2 HO.out.2.size (by simp; omega) ?_; intro v2 w2 ho hb _ _; have HO2 := Aside0.mk ho; have HB2 := Aside0.mk hb; clear ho hb))
          go_roundw
          case rel => exact .inr (.inl ⟨rfl, ⟨⟨(by simpa using HO2.out), HB2.out⟩⟩⟩)
          case measure => simp [intOf]
        · have hx := (HO.out.2.cell (p := ⟨g, 1, none⟩) HG.out).trans h1
          go_wp2_with (((with_reducible refine gate_builtin (b := .append) (xs := #[.tmp 31, .tmp 32]) rfl ?_); at_builtin; refine Kd.R_append_rows (Kd.int .i64) (w0 := w) w.heap.size rfl (.tmp 31) (.tmp 32) 22 3 (.int .i64 0) 8 rfl Try.underlying22 info3 rfl (by decide) (by omega) _ l0 l1 _ _ _ (fun _ => True) (fun _ => False) rfl rfl HO.out.1 (Kd.C_below HR1.out HO.out.2) (fun _ _ h => h) (fun _ h => h.elim) (fun _ _ => trivial) HO.out.2 HO.out.2.size (by omega) ?_; intro v2 w2 ho hb _ _; have HO2 := Aside0.mk ho; have HB2 := Aside0.mk hb; clear ho hb))
          go_roundw
          case rel => exact .inr (.inr ⟨rfl, ⟨⟨HO2.out, HB2.out⟩⟩⟩)
          case measure => simp [intOf]
        · go_wp2
          go_ret
          exact ⟨_, rfl, HO.out.1, HO.out.2⟩
/-! ### impl_Union: function 24 -/
def impl_Union.f (l0 : List Int) (l1 : List Int) : Option (List Int) := if l0.length + l1.length < 17592186044416 then impl_SetOf.f (l0 ++ l1) else none
set_option maxHeartbeats 4000000 in
set_option maxRecDepth 100000 in
theorem impl_Union.calls (A0 : Option Addr) (c0 : Nat) (l0 : List Int) (A1 : Option Addr) (c1 : Nat) (l1 : List Int) (r : List Int) (w : World) (hr0 : Kd.C (Kd.int .i64) w A0 l0.length l0) (hc0 : l0.length ≤ c0) (hr1 : Kd.C (Kd.int .i64) w A1 l1.length l1) (hc1 : l1.length ≤ c1) (h : impl_Union.f l0 l1 = some r) :
    Calls Try.prog 24 #[.slice A0 l0.length c0, .slice A1 l1.length c1] w fun e w' => ∃ v0_ : Value, e = .returned (v0_) ∧ Kd.R (Kd.int .i64) 3 w' w.heap.size (fun _ => True) v0_ r ∧ Below w.heap.size w w' := by
  unfold impl_Union.f at h
  by_cases hb : l0.length + l1.length < 17592186044416
  rotate_left
  · rw [if_neg hb] at h
    cases h
  rw [if_pos hb] at h
  have HR0 := Aside0.mk hr0
  have HR1 := Aside0.mk hr1
  obtain ⟨y, hy⟩ : ∃ y, y = l0 ++ l1 := ⟨_, rfl⟩
  rw [← hy] at h
  have HY := Aside0.mk hy
  have HS := Aside0.mk h
  have HL := Aside0.mk hb
  clear hr0 hr1 h hb hc0 hc1 hy
  have hu := Try.underlying79
  go_enter Try.func24, Try.ntmps24
  go_wp2_with (first | (go_at_call 55; ((with_reducible refine (concat_two _ A0 c0 l0 A1 c1 l1 _ ((blk_cell (blk_new w _) 0).trans rfl) ((blk_cell (blk_new w _) 1).trans rfl) (Kd.C_alloc HR0.out _) (Kd.C_alloc HR1.out _) HL.out).mono ?_); rintro e w1 ⟨v1, rfl, hR1, hB1⟩; rw [← HY.out] at hR1; obtain ⟨B1, d1, e1⟩ := Kd.R_slice hR1; subst e1; have HO1 := Aside0.mk hR1; have HB1 := Aside0.mk hB1; clear hR1 hB1)) | (go_at_call 15; ((with_reducible refine (impl_SetOf.calls _ _ y r _ (Kd.R_reads' HO1.out).2.2 (Kd.R_reads' HO1.out).2.1 HS.out).mono ?_); rintro e w2 ⟨v2, rfl, hR2, hB2⟩; have HO2 := Aside0.mk hR2; have HB2 := Aside0.mk hB2; clear hR2 hB2)))
  go_ret
  have hB := below_step (below_step (below_alloc (Below.refl w.heap.size w) _) HB1.out) HB2.out
  exact ⟨_, rfl, Kd.R_lower HO2.out (below_size (below_step (below_alloc (Below.refl w.heap.size w) _) HB1.out)), hB⟩

/-! ### laws_FnExactUnion: function 6 -/
def laws_FnExactUnion.f (k : Nat) (l0 : List Int) (l1 : List Int) : Option (Bool) := if (l0.length : Int) > 1048576 then (some true) else (if (l1.length : Int) > 1048576 then (some true) else ((laws_toIntS.f k l0).bind fun t184 => ((laws_toIntS.f k l1).bind fun t187 => ((spec_Union.f k t184 t187).bind fun t190 => ((laws_toIntS.f k l0).bind fun t193 => ((laws_toIntS.f k l1).bind fun t196 => ((impl_Union.f t193 t196).bind fun t199 => ((laws_eqIntS.f k t199 t190).bind fun t202 => (if t202 = true then ((laws_toIntS.f k l0).bind fun t203 => ((laws_eqIntS.f k t193 t203).bind fun t206 => (if t206 = true then ((laws_toIntS.f k l1).bind fun t207 => ((laws_eqIntS.f k t196 t207).bind fun t210 => (if t210 = true then ((laws_markIntS.f k t193 1).bind fun bt211 => ((laws_markIntS.f k t196 bt211.1).bind fun bt213 => (if bt213.1 < 0 then (some false) else ((laws_eqIntS.f k t199 t190).bind fun t215 => (if t215 = true then ((laws_markIntS.f k t199 1).bind fun bt216 => ((laws_heldIntS.f k bt216.2 1).bind fun t218 => (if t218 < 0 then (some false) else (if t218 = bt216.1 then ((laws_toIntS.f k l0).bind fun t219 => ((laws_toIntS.f k l1).bind fun t222 => ((impl_Union.f t219 t222).bind fun t225 => ((laws_eqIntS.f k t225 t190).bind fun t228 => (if t228 = true then ((laws_heldIntS.f k bt216.2 1).bind fun t229 => (if t229 < 0 then (some false) else (if t229 = bt216.1 then (some true) else (some false)))) else (some false)))))) else (some false))))) else (some false)))))) else (some false)))) else (some false)))) else (some false))))))))))
theorem laws_FnExactUnion.mono : ∀ a0 a1 k, LeO (laws_FnExactUnion.f k a0 a1) (laws_FnExactUnion.f (k + 1) a0 a1) := by
  intro a0 a1 k
  unfold laws_FnExactUnion.f
  repeat' first
      | (with_reducible exact laws_eqIntS.mono _ _ _)
      | (with_reducible exact laws_heldIntS.mono _ _ _)
      | (with_reducible exact laws_markIntS.mono _ _ _)
      | (with_reducible exact laws_toIntS.mono _ _)
      | (with_reducible exact spec_Union.mono _ _ _)
      | (with_reducible exact LeO.refl _)
      | (with_reducible exact LeO.none _)
      | (with_reducible refine LeO.ite ?_ ?_)
      | (with_reducible refine LeO.bind ?_ (fun _ => ?_))
      | exact laws_eqIntS.mono _ _ _
      | exact laws_heldIntS.mono _ _ _
      | exact laws_markIntS.mono _ _ _
      | exact laws_toIntS.mono _ _
      | exact spec_Union.mono _ _ _
      | exact LeO.none _
      | refine LeO.ite ?_ ?_
      | refine LeO.bind ?_ (fun _ => ?_)
set_option maxHeartbeats 8000000 in
set_option maxRecDepth 100000 in
theorem laws_FnExactUnion.calls (k : Nat) (A0 : Option Addr) (c0 : Nat) (l0 : List Int) (A1 : Option Addr) (c1 : Nat) (l1 : List Int) (r : Bool) (w : World) (hr0 : Kd.C (Kd.int .i64) w A0 l0.length l0) (hc0 : l0.length ≤ c0) (hr1 : Kd.C (Kd.int .i64) w A1 l1.length l1) (hc1 : l1.length ≤ c1) (hrt : r = true) (h : laws_FnExactUnion.f k l0 l1 = some r) :
    Calls Try.prog 6 #[.slice A0 l0.length c0, .slice A1 l1.length c1] w fun e w' => e = .returned (.bool r) ∧ Below w.heap.size w w' := by
  have HRT := Aside0.mk hrt
  clear hrt
  have HR0 := Aside0.mk hr0
  have HC0 := Aside0.mk hc0
  clear hr0 hc0
  have HR1 := Aside0.mk hr1
  have HC1 := Aside0.mk hc1
  clear hr1 hc1
  have HB := Aside0.mk (Below.refl w.heap.size w)
  have H : (if (l0.length : Int) > 1048576 then (some true) else (if (l1.length : Int) > 1048576 then (some true) else ((laws_toIntS.f k l0).bind fun t184 => ((laws_toIntS.f k l1).bind fun t187 => ((spec_Union.f k t184 t187).bind fun t190 => ((laws_toIntS.f k l0).bind fun t193 => ((laws_toIntS.f k l1).bind fun t196 => ((impl_Union.f t193 t196).bind fun t199 => ((laws_eqIntS.f k t199 t190).bind fun t202 => (if t202 = true then ((laws_toIntS.f k l0).bind fun t203 => ((laws_eqIntS.f k t193 t203).bind fun t206 => (if t206 = true then ((laws_toIntS.f k l1).bind fun t207 => ((laws_eqIntS.f k t196 t207).bind fun t210 => (if t210 = true then ((laws_markIntS.f k t193 1).bind fun bt211 => ((laws_markIntS.f k t196 bt211.1).bind fun bt213 => (if bt213.1 < 0 then (some false) else ((laws_eqIntS.f k t199 t190).bind fun t215 => (if t215 = true then ((laws_markIntS.f k t199 1).bind fun bt216 => ((laws_heldIntS.f k bt216.2 1).bind fun t218 => (if t218 < 0 then (some false) else (if t218 = bt216.1 then ((laws_toIntS.f k l0).bind fun t219 => ((laws_toIntS.f k l1).bind fun t222 => ((impl_Union.f t219 t222).bind fun t225 => ((laws_eqIntS.f k t225 t190).bind fun t228 => (if t228 = true then ((laws_heldIntS.f k bt216.2 1).bind fun t229 => (if t229 < 0 then (some false) else (if t229 = bt216.1 then (some true) else (some false)))) else (some false)))))) else (some false))))) else (some false)))))) else (some false)))) else (some false)))) else (some false))))))))))) = some r := h
  clear h
  by_cases c3 : (l0.length : Int) > 1048576
  · rw [if_pos c3] at H
    have c3b0 : decide (1048576 < (l0.length : Int)) = true := decide_eq_true c3
    have c3b1 : decide (1048576 < l0.length) = true := decide_eq_true (by omega)
    clear c3
    obtain rfl := Option.some.inj H
    go_enter Try.func6, Try.ntmps6
    go_wp2
    go_ret
    exact ⟨Z3_25, Z3_13⟩
  rw [if_neg c3] at H
  have c3b0 : decide (1048576 < (l0.length : Int)) = false := decide_eq_false c3
  have c3b1 : decide (1048576 < l0.length) = false := decide_eq_false (by omega)
  clear c3
  by_cases c4 : (l1.length : Int) > 1048576
  · rw [if_pos c4] at H
    have c4b0 : decide (1048576 < (l1.length : Int)) = true := decide_eq_true c4
    have c4b1 : decide (1048576 < l1.length) = true := decide_eq_true (by omega)
    clear c4
    obtain rfl := Option.some.inj H
    go_enter Try.func6, Try.ntmps6
    go_wp2
    go_ret
    exact ⟨Z3_25, Z3_13⟩
  rw [if_neg c4] at H
  have c4b0 : decide (1048576 < (l1.length : Int)) = false := decide_eq_false c4
  have c4b1 : decide (1048576 < l1.length) = false := decide_eq_false (by omega)
  clear c4
  replace H := Option.bind_eq_some_iff.mp H
  obtain ⟨t184, A50, H⟩ := H
  replace H : ((laws_toIntS.f k l1).bind fun t187 => ((spec_Union.f k t184 t187).bind fun t190 => ((laws_toIntS.f k l0).bind fun t193 => ((laws_toIntS.f k l1).bind fun t196 => ((impl_Union.f t193 t196).bind fun t199 => ((laws_eqIntS.f k t199 t190).bind fun t202 => (if t202 = true then ((laws_toIntS.f k l0).bind fun t203 => ((laws_eqIntS.f k t193 t203).bind fun t206 => (if t206 = true then ((laws_toIntS.f k l1).bind fun t207 => ((laws_eqIntS.f k t196 t207).bind fun t210 => (if t210 = true then ((laws_markIntS.f k t193 1).bind fun bt211 => ((laws_markIntS.f k t196 bt211.1).bind fun bt213 => (if bt213.1 < 0 then (some false) else ((laws_eqIntS.f k t199 t190).bind fun t215 => (if t215 = true then ((laws_markIntS.f k t199 1).bind fun bt216 => ((laws_heldIntS.f k bt216.2 1).bind fun t218 => (if t218 < 0 then (some false) else (if t218 = bt216.1 then ((laws_toIntS.f k l0).bind fun t219 => ((laws_toIntS.f k l1).bind fun t222 => ((impl_Union.f t219 t222).bind fun t225 => ((laws_eqIntS.f k t225 t190).bind fun t228 => (if t228 = true then ((laws_heldIntS.f k bt216.2 1).bind fun t229 => (if t229 < 0 then (some false) else (if t229 = bt216.1 then (some true) else (some false)))) else (some false)))))) else (some false))))) else (some false)))))) else (some false)))) else (some false)))) else (some false)))))))) = some r := H
  have A5 := Aside0.mk A50
  clear A50
  replace H := Option.bind_eq_some_iff.mp H
  obtain ⟨t187, A60, H⟩ := H
  replace H : ((spec_Union.f k t184 t187).bind fun t190 => ((laws_toIntS.f k l0).bind fun t193 => ((laws_toIntS.f k l1).bind fun t196 => ((impl_Union.f t193 t196).bind fun t199 => ((laws_eqIntS.f k t199 t190).bind fun t202 => (if t202 = true then ((laws_toIntS.f k l0).bind fun t203 => ((laws_eqIntS.f k t193 t203).bind fun t206 => (if t206 = true then ((laws_toIntS.f k l1).bind fun t207 => ((laws_eqIntS.f k t196 t207).bind fun t210 => (if t210 = true then ((laws_markIntS.f k t193 1).bind fun bt211 => ((laws_markIntS.f k t196 bt211.1).bind fun bt213 => (if bt213.1 < 0 then (some false) else ((laws_eqIntS.f k t199 t190).bind fun t215 => (if t215 = true then ((laws_markIntS.f k t199 1).bind fun bt216 => ((laws_heldIntS.f k bt216.2 1).bind fun t218 => (if t218 < 0 then (some false) else (if t218 = bt216.1 then ((laws_toIntS.f k l0).bind fun t219 => ((laws_toIntS.f k l1).bind fun t222 => ((impl_Union.f t219 t222).bind fun t225 => ((laws_eqIntS.f k t225 t190).bind fun t228 => (if t228 = true then ((laws_heldIntS.f k bt216.2 1).bind fun t229 => (if t229 < 0 then (some false) else (if t229 = bt216.1 then (some true) else (some false)))) else (some false)))))) else (some false))))) else (some false)))))) else (some false)))) else (some false)))) else (some false))))))) = some r := H
  have A6 := Aside0.mk A60
  clear A60
  replace H := Option.bind_eq_some_iff.mp H
  obtain ⟨t190, A70, H⟩ := H
  replace H : ((laws_toIntS.f k l0).bind fun t193 => ((laws_toIntS.f k l1).bind fun t196 => ((impl_Union.f t193 t196).bind fun t199 => ((laws_eqIntS.f k t199 t190).bind fun t202 => (if t202 = true then ((laws_toIntS.f k l0).bind fun t203 => ((laws_eqIntS.f k t193 t203).bind fun t206 => (if t206 = true then ((laws_toIntS.f k l1).bind fun t207 => ((laws_eqIntS.f k t196 t207).bind fun t210 => (if t210 = true then ((laws_markIntS.f k t193 1).bind fun bt211 => ((laws_markIntS.f k t196 bt211.1).bind fun bt213 => (if bt213.1 < 0 then (some false) else ((laws_eqIntS.f k t199 t190).bind fun t215 => (if t215 = true then ((laws_markIntS.f k t199 1).bind fun bt216 => ((laws_heldIntS.f k bt216.2 1).bind fun t218 => (if t218 < 0 then (some false) else (if t218 = bt216.1 then ((laws_toIntS.f k l0).bind fun t219 => ((laws_toIntS.f k l1).bind fun t222 => ((impl_Union.f t219 t222).bind fun t225 => ((laws_eqIntS.f k t225 t190).bind fun t228 => (if t228 = true then ((laws_heldIntS.f k bt216.2 1).bind fun t229 => (if t229 < 0 then (some false) else (if t229 = bt216.1 then (some true) else (some false)))) else (some false)))))) else (some false))))) else (some false)))))) else (some false)))) else (some false)))) else (some false)))))) = some r := H
  have A7 := Aside0.mk A70
  clear A70
  replace H := Option.bind_eq_some_iff.mp H
  obtain ⟨t193, A80, H⟩ := H
  replace H : ((laws_toIntS.f k l1).bind fun t196 => ((impl_Union.f t193 t196).bind fun t199 => ((laws_eqIntS.f k t199 t190).bind fun t202 => (if t202 = true then ((laws_toIntS.f k l0).bind fun t203 => ((laws_eqIntS.f k t193 t203).bind fun t206 => (if t206 = true then ((laws_toIntS.f k l1).bind fun t207 => ((laws_eqIntS.f k t196 t207).bind fun t210 => (if t210 = true then ((laws_markIntS.f k t193 1).bind fun bt211 => ((laws_markIntS.f k t196 bt211.1).bind fun bt213 => (if bt213.1 < 0 then (some false) else ((laws_eqIntS.f k t199 t190).bind fun t215 => (if t215 = true then ((laws_markIntS.f k t199 1).bind fun bt216 => ((laws_heldIntS.f k bt216.2 1).bind fun t218 => (if t218 < 0 then (some false) else (if t218 = bt216.1 then ((laws_toIntS.f k l0).bind fun t219 => ((laws_toIntS.f k l1).bind fun t222 => ((impl_Union.f t219 t222).bind fun t225 => ((laws_eqIntS.f k t225 t190).bind fun t228 => (if t228 = true then ((laws_heldIntS.f k bt216.2 1).bind fun t229 => (if t229 < 0 then (some false) else (if t229 = bt216.1 then (some true) else (some false)))) else (some false)))))) else (some false))))) else (some false)))))) else (some false)))) else (some false)))) else (some false))))) = some r := H
  have A8 := Aside0.mk A80
  clear A80
  replace H := Option.bind_eq_some_iff.mp H
  obtain ⟨t196, A90, H⟩ := H
  replace H : ((impl_Union.f t193 t196).bind fun t199 => ((laws_eqIntS.f k t199 t190).bind fun t202 => (if t202 = true then ((laws_toIntS.f k l0).bind fun t203 => ((laws_eqIntS.f k t193 t203).bind fun t206 => (if t206 = true then ((laws_toIntS.f k l1).bind fun t207 => ((laws_eqIntS.f k t196 t207).bind fun t210 => (if t210 = true then ((laws_markIntS.f k t193 1).bind fun bt211 => ((laws_markIntS.f k t196 bt211.1).bind fun bt213 => (if bt213.1 < 0 then (some false) else ((laws_eqIntS.f k t199 t190).bind fun t215 => (if t215 = true then ((laws_markIntS.f k t199 1).bind fun bt216 => ((laws_heldIntS.f k bt216.2 1).bind fun t218 => (if t218 < 0 then (some false) else (if t218 = bt216.1 then ((laws_toIntS.f k l0).bind fun t219 => ((laws_toIntS.f k l1).bind fun t222 => ((impl_Union.f t219 t222).bind fun t225 => ((laws_eqIntS.f k t225 t190).bind fun t228 => (if t228 = true then ((laws_heldIntS.f k bt216.2 1).bind fun t229 => (if t229 < 0 then (some false) else (if t229 = bt216.1 then (some true) else (some false)))) else (some false)))))) else (some false))))) else (some false)))))) else (some false)))) else (some false)))) else (some false)))) = some r := H
  have A9 := Aside0.mk A90
  clear A90
  replace H := Option.bind_eq_some_iff.mp H
  obtain ⟨t199, A100, H⟩ := H
  replace H : ((laws_eqIntS.f k t199 t190).bind fun t202 => (if t202 = true then ((laws_toIntS.f k l0).bind fun t203 => ((laws_eqIntS.f k t193 t203).bind fun t206 => (if t206 = true then ((laws_toIntS.f k l1).bind fun t207 => ((laws_eqIntS.f k t196 t207).bind fun t210 => (if t210 = true then ((laws_markIntS.f k t193 1).bind fun bt211 => ((laws_markIntS.f k t196 bt211.1).bind fun bt213 => (if bt213.1 < 0 then (some false) else ((laws_eqIntS.f k t199 t190).bind fun t215 => (if t215 = true then ((laws_markIntS.f k t199 1).bind fun bt216 => ((laws_heldIntS.f k bt216.2 1).bind fun t218 => (if t218 < 0 then (some false) else (if t218 = bt216.1 then ((laws_toIntS.f k l0).bind fun t219 => ((laws_toIntS.f k l1).bind fun t222 => ((impl_Union.f t219 t222).bind fun t225 => ((laws_eqIntS.f k t225 t190).bind fun t228 => (if t228 = true then ((laws_heldIntS.f k bt216.2 1).bind fun t229 => (if t229 < 0 then (some false) else (if t229 = bt216.1 then (some true) else (some false)))) else (some false)))))) else (some false))))) else (some false)))))) else (some false)))) else (some false)))) else (some false))) = some r := H
  have A10 := Aside0.mk A100
  clear A100
  replace H := Option.bind_eq_some_iff.mp H
  obtain ⟨t202, A110, H⟩ := H
  replace H : (if t202 = true then ((laws_toIntS.f k l0).bind fun t203 => ((laws_eqIntS.f k t193 t203).bind fun t206 => (if t206 = true then ((laws_toIntS.f k l1).bind fun t207 => ((laws_eqIntS.f k t196 t207).bind fun t210 => (if t210 = true then ((laws_markIntS.f k t193 1).bind fun bt211 => ((laws_markIntS.f k t196 bt211.1).bind fun bt213 => (if bt213.1 < 0 then (some false) else ((laws_eqIntS.f k t199 t190).bind fun t215 => (if t215 = true then ((laws_markIntS.f k t199 1).bind fun bt216 => ((laws_heldIntS.f k bt216.2 1).bind fun t218 => (if t218 < 0 then (some false) else (if t218 = bt216.1 then ((laws_toIntS.f k l0).bind fun t219 => ((laws_toIntS.f k l1).bind fun t222 => ((impl_Union.f t219 t222).bind fun t225 => ((laws_eqIntS.f k t225 t190).bind fun t228 => (if t228 = true then ((laws_heldIntS.f k bt216.2 1).bind fun t229 => (if t229 < 0 then (some false) else (if t229 = bt216.1 then (some true) else (some false)))) else (some false)))))) else (some false))))) else (some false)))))) else (some false)))) else (some false)))) else (some false)) = some r := H
  have A11 := Aside0.mk A110
  clear A110
  by_cases c12 : t202 = true
  rotate_left
  · replace c12 := Bool.eq_false_iff.mpr c12
    subst c12
    have H1 : (some false) = some r := by rw [if_neg (show ¬ (false = true) by decide)] at H; exact H
    clear H
    have H := H1
    clear H1
    exact absurd (H.trans (congrArg some HRT.out)) (by simp)
  subst c12
  have H1 : ((laws_toIntS.f k l0).bind fun t203 => ((laws_eqIntS.f k t193 t203).bind fun t206 => (if t206 = true then ((laws_toIntS.f k l1).bind fun t207 => ((laws_eqIntS.f k t196 t207).bind fun t210 => (if t210 = true then ((laws_markIntS.f k t193 1).bind fun bt211 => ((laws_markIntS.f k t196 bt211.1).bind fun bt213 => (if bt213.1 < 0 then (some false) else ((laws_eqIntS.f k t199 t190).bind fun t215 => (if t215 = true then ((laws_markIntS.f k t199 1).bind fun bt216 => ((laws_heldIntS.f k bt216.2 1).bind fun t218 => (if t218 < 0 then (some false) else (if t218 = bt216.1 then ((laws_toIntS.f k l0).bind fun t219 => ((laws_toIntS.f k l1).bind fun t222 => ((impl_Union.f t219 t222).bind fun t225 => ((laws_eqIntS.f k t225 t190).bind fun t228 => (if t228 = true then ((laws_heldIntS.f k bt216.2 1).bind fun t229 => (if t229 < 0 then (some false) else (if t229 = bt216.1 then (some true) else (some false)))) else (some false)))))) else (some false))))) else (some false)))))) else (some false)))) else (some false)))) = some r := by rw [if_pos rfl] at H; exact H
  clear H
  have H := H1
  clear H1
  replace H := Option.bind_eq_some_iff.mp H
  obtain ⟨t203, A130, H⟩ := H
  replace H : ((laws_eqIntS.f k t193 t203).bind fun t206 => (if t206 = true then ((laws_toIntS.f k l1).bind fun t207 => ((laws_eqIntS.f k t196 t207).bind fun t210 => (if t210 = true then ((laws_markIntS.f k t193 1).bind fun bt211 => ((laws_markIntS.f k t196 bt211.1).bind fun bt213 => (if bt213.1 < 0 then (some false) else ((laws_eqIntS.f k t199 t190).bind fun t215 => (if t215 = true then ((laws_markIntS.f k t199 1).bind fun bt216 => ((laws_heldIntS.f k bt216.2 1).bind fun t218 => (if t218 < 0 then (some false) else (if t218 = bt216.1 then ((laws_toIntS.f k l0).bind fun t219 => ((laws_toIntS.f k l1).bind fun t222 => ((impl_Union.f t219 t222).bind fun t225 => ((laws_eqIntS.f k t225 t190).bind fun t228 => (if t228 = true then ((laws_heldIntS.f k bt216.2 1).bind fun t229 => (if t229 < 0 then (some false) else (if t229 = bt216.1 then (some true) else (some false)))) else (some false)))))) else (some false))))) else (some false)))))) else (some false)))) else (some false))) = some r := H
  have A13 := Aside0.mk A130
  clear A130
  replace H := Option.bind_eq_some_iff.mp H
  obtain ⟨t206, A140, H⟩ := H
  replace H : (if t206 = true then ((laws_toIntS.f k l1).bind fun t207 => ((laws_eqIntS.f k t196 t207).bind fun t210 => (if t210 = true then ((laws_markIntS.f k t193 1).bind fun bt211 => ((laws_markIntS.f k t196 bt211.1).bind fun bt213 => (if bt213.1 < 0 then (some false) else ((laws_eqIntS.f k t199 t190).bind fun t215 => (if t215 = true then ((laws_markIntS.f k t199 1).bind fun bt216 => ((laws_heldIntS.f k bt216.2 1).bind fun t218 => (if t218 < 0 then (some false) else (if t218 = bt216.1 then ((laws_toIntS.f k l0).bind fun t219 => ((laws_toIntS.f k l1).bind fun t222 => ((impl_Union.f t219 t222).bind fun t225 => ((laws_eqIntS.f k t225 t190).bind fun t228 => (if t228 = true then ((laws_heldIntS.f k bt216.2 1).bind fun t229 => (if t229 < 0 then (some false) else (if t229 = bt216.1 then (some true) else (some false)))) else (some false)))))) else (some false))))) else (some false)))))) else (some false)))) else (some false)) = some r := H
  have A14 := Aside0.mk A140
  clear A140
  by_cases c15 : t206 = true
  rotate_left
  · replace c15 := Bool.eq_false_iff.mpr c15
    subst c15
    have H1 : (some false) = some r := by rw [if_neg (show ¬ (false = true) by decide)] at H; exact H
    clear H
    have H := H1
    clear H1
    exact absurd (H.trans (congrArg some HRT.out)) (by simp)
  subst c15
  have H1 : ((laws_toIntS.f k l1).bind fun t207 => ((laws_eqIntS.f k t196 t207).bind fun t210 => (if t210 = true then ((laws_markIntS.f k t193 1).bind fun bt211 => ((laws_markIntS.f k t196 bt211.1).bind fun bt213 => (if bt213.1 < 0 then (some false) else ((laws_eqIntS.f k t199 t190).bind fun t215 => (if t215 = true then ((laws_markIntS.f k t199 1).bind fun bt216 => ((laws_heldIntS.f k bt216.2 1).bind fun t218 => (if t218 < 0 then (some false) else (if t218 = bt216.1 then ((laws_toIntS.f k l0).bind fun t219 => ((laws_toIntS.f k l1).bind fun t222 => ((impl_Union.f t219 t222).bind fun t225 => ((laws_eqIntS.f k t225 t190).bind fun t228 => (if t228 = true then ((laws_heldIntS.f k bt216.2 1).bind fun t229 => (if t229 < 0 then (some false) else (if t229 = bt216.1 then (some true) else (some false)))) else (some false)))))) else (some false))))) else (some false)))))) else (some false)))) = some r := by rw [if_pos rfl] at H; exact H
  clear H
  have H := H1
  clear H1
  replace H := Option.bind_eq_some_iff.mp H
  obtain ⟨t207, A160, H⟩ := H
  replace H : ((laws_eqIntS.f k t196 t207).bind fun t210 => (if t210 = true then ((laws_markIntS.f k t193 1).bind fun bt211 => ((laws_markIntS.f k t196 bt211.1).bind fun bt213 => (if bt213.1 < 0 then (some false) else ((laws_eqIntS.f k t199 t190).bind fun t215 => (if t215 = true then ((laws_markIntS.f k t199 1).bind fun bt216 => ((laws_heldIntS.f k bt216.2 1).bind fun t218 => (if t218 < 0 then (some false) else (if t218 = bt216.1 then ((laws_toIntS.f k l0).bind fun t219 => ((laws_toIntS.f k l1).bind fun t222 => ((impl_Union.f t219 t222).bind fun t225 => ((laws_eqIntS.f k t225 t190).bind fun t228 => (if t228 = true then ((laws_heldIntS.f k bt216.2 1).bind fun t229 => (if t229 < 0 then (some false) else (if t229 = bt216.1 then (some true) else (some false)))) else (some false)))))) else (some false))))) else (some false)))))) else (some false))) = some r := H
  have A16 := Aside0.mk A160
  clear A160
  replace H := Option.bind_eq_some_iff.mp H
  obtain ⟨t210, A170, H⟩ := H
  replace H : (if t210 = true then ((laws_markIntS.f k t193 1).bind fun bt211 => ((laws_markIntS.f k t196 bt211.1).bind fun bt213 => (if bt213.1 < 0 then (some false) else ((laws_eqIntS.f k t199 t190).bind fun t215 => (if t215 = true then ((laws_markIntS.f k t199 1).bind fun bt216 => ((laws_heldIntS.f k bt216.2 1).bind fun t218 => (if t218 < 0 then (some false) else (if t218 = bt216.1 then ((laws_toIntS.f k l0).bind fun t219 => ((laws_toIntS.f k l1).bind fun t222 => ((impl_Union.f t219 t222).bind fun t225 => ((laws_eqIntS.f k t225 t190).bind fun t228 => (if t228 = true then ((laws_heldIntS.f k bt216.2 1).bind fun t229 => (if t229 < 0 then (some false) else (if t229 = bt216.1 then (some true) else (some false)))) else (some false)))))) else (some false))))) else (some false)))))) else (some false)) = some r := H
  have A17 := Aside0.mk A170
  clear A170
  by_cases c18 : t210 = true
  rotate_left
  · replace c18 := Bool.eq_false_iff.mpr c18
    subst c18
    have H1 : (some false) = some r := by rw [if_neg (show ¬ (false = true) by decide)] at H; exact H
    clear H
    have H := H1
    clear H1
    exact absurd (H.trans (congrArg some HRT.out)) (by simp)
  subst c18
  have H1 : ((laws_markIntS.f k t193 1).bind fun bt211 => ((laws_markIntS.f k t196 bt211.1).bind fun bt213 => (if bt213.1 < 0 then (some false) else ((laws_eqIntS.f k t199 t190).bind fun t215 => (if t215 = true then ((laws_markIntS.f k t199 1).bind fun bt216 => ((laws_heldIntS.f k bt216.2 1).bind fun t218 => (if t218 < 0 then (some false) else (if t218 = bt216.1 then ((laws_toIntS.f k l0).bind fun t219 => ((laws_toIntS.f k l1).bind fun t222 => ((impl_Union.f t219 t222).bind fun t225 => ((laws_eqIntS.f k t225 t190).bind fun t228 => (if t228 = true then ((laws_heldIntS.f k bt216.2 1).bind fun t229 => (if t229 < 0 then (some false) else (if t229 = bt216.1 then (some true) else (some false)))) else (some false)))))) else (some false))))) else (some false)))))) = some r := by rw [if_pos rfl] at H; exact H
  clear H
  have H := H1
  clear H1
  replace H := Option.bind_eq_some_iff.mp H
  obtain ⟨⟨t211, t212⟩, A190, H⟩ := H
  replace H : ((laws_markIntS.f k t196 t211).bind fun bt213 => (if bt213.1 < 0 then (some false) else ((laws_eqIntS.f k t199 t190).bind fun t215 => (if t215 = true then ((laws_markIntS.f k t199 1).bind fun bt216 => ((laws_heldIntS.f k bt216.2 1).bind fun t218 => (if t218 < 0 then (some false) else (if t218 = bt216.1 then ((laws_toIntS.f k l0).bind fun t219 => ((laws_toIntS.f k l1).bind fun t222 => ((impl_Union.f t219 t222).bind fun t225 => ((laws_eqIntS.f k t225 t190).bind fun t228 => (if t228 = true then ((laws_heldIntS.f k bt216.2 1).bind fun t229 => (if t229 < 0 then (some false) else (if t229 = bt216.1 then (some true) else (some false)))) else (some false)))))) else (some false))))) else (some false))))) = some r := H
  have A19 := Aside0.mk A190
  clear A190
  replace H := Option.bind_eq_some_iff.mp H
  obtain ⟨⟨t213, t214⟩, A200, H⟩ := H
  replace H : (if t213 < 0 then (some false) else ((laws_eqIntS.f k t199 t190).bind fun t215 => (if t215 = true then ((laws_markIntS.f k t199 1).bind fun bt216 => ((laws_heldIntS.f k bt216.2 1).bind fun t218 => (if t218 < 0 then (some false) else (if t218 = bt216.1 then ((laws_toIntS.f k l0).bind fun t219 => ((laws_toIntS.f k l1).bind fun t222 => ((impl_Union.f t219 t222).bind fun t225 => ((laws_eqIntS.f k t225 t190).bind fun t228 => (if t228 = true then ((laws_heldIntS.f k bt216.2 1).bind fun t229 => (if t229 < 0 then (some false) else (if t229 = bt216.1 then (some true) else (some false)))) else (some false)))))) else (some false))))) else (some false)))) = some r := H
  have A20 := Aside0.mk A200
  clear A200
  by_cases c21 : t213 < 0
  · rw [if_pos c21] at H
    exact absurd (H.trans (congrArg some HRT.out)) (by simp)
  rw [if_neg c21] at H
  have c21b0 : decide (t213 < 0) = false := decide_eq_false c21
  clear c21
  replace H := Option.bind_eq_some_iff.mp H
  obtain ⟨t215, A220, H⟩ := H
  replace H : (if t215 = true then ((laws_markIntS.f k t199 1).bind fun bt216 => ((laws_heldIntS.f k bt216.2 1).bind fun t218 => (if t218 < 0 then (some false) else (if t218 = bt216.1 then ((laws_toIntS.f k l0).bind fun t219 => ((laws_toIntS.f k l1).bind fun t222 => ((impl_Union.f t219 t222).bind fun t225 => ((laws_eqIntS.f k t225 t190).bind fun t228 => (if t228 = true then ((laws_heldIntS.f k bt216.2 1).bind fun t229 => (if t229 < 0 then (some false) else (if t229 = bt216.1 then (some true) else (some false)))) else (some false)))))) else (some false))))) else (some false)) = some r := H
  have A22 := Aside0.mk A220
  clear A220
  by_cases c23 : t215 = true
  rotate_left
  · replace c23 := Bool.eq_false_iff.mpr c23
    subst c23
    have H1 : (some false) = some r := by rw [if_neg (show ¬ (false = true) by decide)] at H; exact H
    clear H
    have H := H1
    clear H1
    exact absurd (H.trans (congrArg some HRT.out)) (by simp)
  subst c23
  have H1 : ((laws_markIntS.f k t199 1).bind fun bt216 => ((laws_heldIntS.f k bt216.2 1).bind fun t218 => (if t218 < 0 then (some false) else (if t218 = bt216.1 then ((laws_toIntS.f k l0).bind fun t219 => ((laws_toIntS.f k l1).bind fun t222 => ((impl_Union.f t219 t222).bind fun t225 => ((laws_eqIntS.f k t225 t190).bind fun t228 => (if t228 = true then ((laws_heldIntS.f k bt216.2 1).bind fun t229 => (if t229 < 0 then (some false) else (if t229 = bt216.1 then (some true) else (some false)))) else (some false)))))) else (some false))))) = some r := by rw [if_pos rfl] at H; exact H
  clear H
  have H := H1
  clear H1
  replace H := Option.bind_eq_some_iff.mp H
  obtain ⟨⟨t216, t217⟩, A240, H⟩ := H
  replace H : ((laws_heldIntS.f k t217 1).bind fun t218 => (if t218 < 0 then (some false) else (if t218 = t216 then ((laws_toIntS.f k l0).bind fun t219 => ((laws_toIntS.f k l1).bind fun t222 => ((impl_Union.f t219 t222).bind fun t225 => ((laws_eqIntS.f k t225 t190).bind fun t228 => (if t228 = true then ((laws_heldIntS.f k t217 1).bind fun t229 => (if t229 < 0 then (some false) else (if t229 = t216 then (some true) else (some false)))) else (some false)))))) else (some false)))) = some r := H
  have A24 := Aside0.mk A240
  clear A240
  replace H := Option.bind_eq_some_iff.mp H
  obtain ⟨t218, A250, H⟩ := H
  replace H : (if t218 < 0 then (some false) else (if t218 = t216 then ((laws_toIntS.f k l0).bind fun t219 => ((laws_toIntS.f k l1).bind fun t222 => ((impl_Union.f t219 t222).bind fun t225 => ((laws_eqIntS.f k t225 t190).bind fun t228 => (if t228 = true then ((laws_heldIntS.f k t217 1).bind fun t229 => (if t229 < 0 then (some false) else (if t229 = t216 then (some true) else (some false)))) else (some false)))))) else (some false))) = some r := H
  have A25 := Aside0.mk A250
  clear A250
  by_cases c26 : t218 < 0
  · rw [if_pos c26] at H
    exact absurd (H.trans (congrArg some HRT.out)) (by simp)
  rw [if_neg c26] at H
  have c26b0 : decide (t218 < 0) = false := decide_eq_false c26
  clear c26
  by_cases c27 : t218 = t216
  rotate_left
  · rw [if_neg c27] at H
    exact absurd (H.trans (congrArg some HRT.out)) (by simp)
  rw [if_pos c27] at H
  have c27b0 : (t218 == t216) = true := beq_iff_eq.mpr c27
  have c27b1 : (t218 != t216) = false := bne_eq_false_iff_eq.mpr c27
  clear c27
  replace H := Option.bind_eq_some_iff.mp H
  obtain ⟨t219, A280, H⟩ := H
  replace H : ((laws_toIntS.f k l1).bind fun t222 => ((impl_Union.f t219 t222).bind fun t225 => ((laws_eqIntS.f k t225 t190).bind fun t228 => (if t228 = true then ((laws_heldIntS.f k t217 1).bind fun t229 => (if t229 < 0 then (some false) else (if t229 = t216 then (some true) else (some false)))) else (some false))))) = some r := H
  have A28 := Aside0.mk A280
  clear A280
  replace H := Option.bind_eq_some_iff.mp H
  obtain ⟨t222, A290, H⟩ := H
  replace H : ((impl_Union.f t219 t222).bind fun t225 => ((laws_eqIntS.f k t225 t190).bind fun t228 => (if t228 = true then ((laws_heldIntS.f k t217 1).bind fun t229 => (if t229 < 0 then (some false) else (if t229 = t216 then (some true) else (some false)))) else (some false)))) = some r := H
  have A29 := Aside0.mk A290
  clear A290
  replace H := Option.bind_eq_some_iff.mp H
  obtain ⟨t225, A300, H⟩ := H
  replace H : ((laws_eqIntS.f k t225 t190).bind fun t228 => (if t228 = true then ((laws_heldIntS.f k t217 1).bind fun t229 => (if t229 < 0 then (some false) else (if t229 = t216 then (some true) else (some false)))) else (some false))) = some r := H
  have A30 := Aside0.mk A300
  clear A300
  replace H := Option.bind_eq_some_iff.mp H
  obtain ⟨t228, A310, H⟩ := H
  replace H : (if t228 = true then ((laws_heldIntS.f k t217 1).bind fun t229 => (if t229 < 0 then (some false) else (if t229 = t216 then (some true) else (some false)))) else (some false)) = some r := H
  have A31 := Aside0.mk A310
  clear A310
  by_cases c32 : t228 = true
  rotate_left
  · replace c32 := Bool.eq_false_iff.mpr c32
    subst c32
    have H1 : (some false) = some r := by rw [if_neg (show ¬ (false = true) by decide)] at H; exact H
    clear H
    have H := H1
    clear H1
    exact absurd (H.trans (congrArg some HRT.out)) (by simp)
  subst c32
  have H1 : ((laws_heldIntS.f k t217 1).bind fun t229 => (if t229 < 0 then (some false) else (if t229 = t216 then (some true) else (some false)))) = some r := by rw [if_pos rfl] at H; exact H
  clear H
  have H := H1
  clear H1
  replace H := Option.bind_eq_some_iff.mp H
  obtain ⟨t229, A330, H⟩ := H
  replace H : (if t229 < 0 then (some false) else (if t229 = t216 then (some true) else (some false))) = some r := H
  have A33 := Aside0.mk A330
  clear A330
  by_cases c34 : t229 < 0
  · rw [if_pos c34] at H
    exact absurd (H.trans (congrArg some HRT.out)) (by simp)
  rw [if_neg c34] at H
  have c34b0 : decide (t229 < 0) = false := decide_eq_false c34
  clear c34
  by_cases c35 : t229 = t216
  rotate_left
  · rw [if_neg c35] at H
    exact absurd (H.trans (congrArg some HRT.out)) (by simp)
  rw [if_pos c35] at H
  have c35b0 : (t229 == t216) = true := beq_iff_eq.mpr c35
  have c35b1 : (t229 != t216) = false := bne_eq_false_iff_eq.mpr c35
  clear c35
  obtain rfl := Option.some.inj H
  go_enter Try.func6, Try.ntmps6
  go_wp2_with (first | ((with_reducible refine gate_callee (f := 14) rfl ?_); refine goesL_ (some 20) rfl rfl Try.func14 (by kernel_rfl) rfl #[.slice A0 l0.length c0] rfl Z3_3 ?_; (with_reducible refine (laws_toIntS.calls k _ _ l0 t184 _ ?side1 ?side2 A5.out).mono ?_); (case side1 => repeat (first | exact HR0.out | (with_reducible refine Kd.C_alloc ?_ _) | (with_reducible refine Kd.C_drewN ?_ _) | (with_reducible refine Kd.C_drew ?_))); (case side2 => exact HC0.out); rintro e w36 ⟨v185, rfl, ho0, hb⟩; refine ⟨_, rfl, ?_⟩; have n0_ := Aside0.mk (Kd.R_lower ho0 (below_size Z3_13)); have n1_ := Aside0.mk Z3_2; clear HB; have HO186 := n0_; have HB := n1_; clear n0_ n1_; (try clear hb); (try clear hb2); (try clear hk); (try clear hi); (try clear ho0)) | ((with_reducible refine gate_callee (f := 14) rfl ?_); refine goesL_ (some 22) rfl rfl Try.func14 (by kernel_rfl) rfl #[.slice A1 l1.length c1] rfl Z3_3 ?_; (with_reducible refine (laws_toIntS.calls k _ _ l1 t187 _ ?side1 ?side2 A6.out).mono ?_); (case side1 => repeat (first | exact (Kd.C_below HR1.out HB.out) | (with_reducible refine Kd.C_alloc ?_ _) | (with_reducible refine Kd.C_drewN ?_ _) | (with_reducible refine Kd.C_drew ?_))); (case side2 => exact HC1.out); rintro e w37 ⟨v188, rfl, ho0, hb⟩; refine ⟨_, rfl, ?_⟩; have n0_ := Aside0.mk Z3_4; have n1_ := Aside0.mk (Kd.R_lower (Kd.R_new' ho0 (Kd.R_lt Z3_15)) (below_size Z3_13)); have n2_ := Aside0.mk Z3_2; clear HO186; clear HB; have HO186 := n0_; have HO189 := n1_; have HB := n2_; clear n0_ n1_ n2_; (try clear hb); (try clear hb2); (try clear hk); (try clear hi); (try clear ho0); obtain ⟨Ao38, co38, eo38⟩ := Kd.R_slice HO186.out; subst eo38; obtain ⟨Ao39, co39, eo39⟩ := Kd.R_slice HO189.out; subst eo39) | ((with_reducible refine gate_callee (f := 23) rfl ?_); refine goesL_ (some 23) rfl rfl Try.func23 (by kernel_rfl) rfl #[.slice Ao38 t184.length co38, .slice Ao39 t187.length co39] rfl Z3_3 ?_; (with_reducible refine (spec_Union.calls k _ _ t184 _ _ t187 t190 _ ?side1 ?side2 ?side3 ?side4 A7.out).mono ?_); (case side1 => repeat (first | exact (Kd.R_reads' HO186.out).2.2 | (with_reducible refine Kd.C_alloc ?_ _) | (with_reducible refine Kd.C_drewN ?_ _) | (with_reducible refine Kd.C_drew ?_))); (case side2 => exact (Kd.R_reads' HO186.out).2.1); (case side3 => repeat (first | exact (Kd.R_reads' HO189.out).2.2 | (with_reducible refine Kd.C_alloc ?_ _) | (with_reducible refine Kd.C_drewN ?_ _) | (with_reducible refine Kd.C_drew ?_))); (case side4 => exact (Kd.R_reads' HO189.out).2.1); rintro e w40 ⟨v191, rfl, ho0, hb⟩; refine ⟨_, rfl, ?_⟩; have n0_ := Aside0.mk Z3_4; have n1_ := Aside0.mk Z3_5; have n2_ := Aside0.mk (Kd.R_lower (Kd.R_new' (Kd.R_new' ho0 (Kd.R_lt Z3_15)) (Kd.R_lt Z3_16)) (below_size Z3_13)); have n3_ := Aside0.mk Z3_2; clear HO186; clear HO189; clear HB; have HO186 := n0_; have HO189 := n1_; have HO192 := n2_; have HB := n3_; clear n0_ n1_ n2_ n3_; (try clear hb); (try clear hb2); (try clear hk); (try clear hi); (try clear ho0)) | ((with_reducible refine gate_callee (f := 14) rfl ?_); refine goesL_ (some 25) rfl rfl Try.func14 (by kernel_rfl) rfl #[.slice A0 l0.length c0] rfl Z3_3 ?_; (with_reducible refine (laws_toIntS.calls k _ _ l0 t193 _ ?side1 ?side2 A8.out).mono ?_); (case side1 => repeat (first | exact (Kd.C_below HR0.out HB.out) | (with_reducible refine Kd.C_alloc ?_ _) | (with_reducible refine Kd.C_drewN ?_ _) | (with_reducible refine Kd.C_drew ?_))); (case side2 => exact HC0.out); rintro e w41 ⟨v194, rfl, ho0, hb⟩; refine ⟨_, rfl, ?_⟩; have n0_ := Aside0.mk Z3_4; have n1_ := Aside0.mk Z3_5; have n2_ := Aside0.mk Z3_6; have n3_ := Aside0.mk (Kd.R_lower (Kd.R_new' (Kd.R_new' (Kd.R_new' ho0 (Kd.R_lt Z3_15)) (Kd.R_lt Z3_16)) (Kd.R_lt Z3_17)) (below_size Z3_13)); have n4_ := Aside0.mk Z3_2; clear HO186; clear HO189; clear HO192; clear HB; have HO186 := n0_; have HO189 := n1_; have HO192 := n2_; have HO195 := n3_; have HB := n4_; clear n0_ n1_ n2_ n3_ n4_; (try clear hb); (try clear hb2); (try clear hk); (try clear hi); (try clear ho0)) | ((with_reducible refine gate_callee (f := 14) rfl ?_); refine goesL_ (some 27) rfl rfl Try.func14 (by kernel_rfl) rfl #[.slice A1 l1.length c1] rfl Z3_3 ?_; (with_reducible refine (laws_toIntS.calls k _ _ l1 t196 _ ?side1 ?side2 A9.out).mono ?_); (case side1 => repeat (first | exact (Kd.C_below HR1.out HB.out) | (with_reducible refine Kd.C_alloc ?_ _) | (with_reducible refine Kd.C_drewN ?_ _) | (with_reducible refine Kd.C_drew ?_))); (case side2 => exact HC1.out); rintro e w42 ⟨v197, rfl, ho0, hb⟩; refine ⟨_, rfl, ?_⟩; have n0_ := Aside0.mk Z3_4; have n1_ := Aside0.mk Z3_5; have n2_ := Aside0.mk Z3_6; have n3_ := Aside0.mk Z3_7; have n4_ := Aside0.mk (Kd.R_lower (Kd.R_new' (Kd.R_new' (Kd.R_new' (Kd.R_new' ho0 (Kd.R_lt Z3_15)) (Kd.R_lt Z3_16)) (Kd.R_lt Z3_17)) (Kd.R_lt Z3_18)) (below_size Z3_13)); have n5_ := Aside0.mk Z3_2; clear HO186; clear HO189; clear HO192; clear HO195; clear HB; have HO186 := n0_; have HO189 := n1_; have HO192 := n2_; have HO195 := n3_; have HO198 := n4_; have HB := n5_; clear n0_ n1_ n2_ n3_ n4_ n5_; (try clear hb); (try clear hb2); (try clear hk); (try clear hi); (try clear ho0); obtain ⟨Ao43, co43, eo43⟩ := Kd.R_slice HO195.out; subst eo43; obtain ⟨Ao44, co44, eo44⟩ := Kd.R_slice HO198.out; subst eo44) | ((with_reducible refine gate_callee (f := 24) rfl ?_); refine goesL_ (some 30) rfl rfl Try.func24 (by kernel_rfl) rfl #[.slice Ao43 t193.length co43, .slice Ao44 t196.length co44] rfl Z3_3 ?_; (with_reducible refine (impl_Union.calls _ _ t193 _ _ t196 t199 _ ?side1 ?side2 ?side3 ?side4 A10.out).mono ?_); (case side1 => repeat (first | exact (Kd.R_reads' HO195.out).2.2 | (with_reducible refine Kd.C_alloc ?_ _) | (with_reducible refine Kd.C_drewN ?_ _) | (with_reducible refine Kd.C_drew ?_))); (case side2 => exact (Kd.R_reads' HO195.out).2.1); (case side3 => repeat (first | exact (Kd.R_reads' HO198.out).2.2 | (with_reducible refine Kd.C_alloc ?_ _) | (with_reducible refine Kd.C_drewN ?_ _) | (with_reducible refine Kd.C_drew ?_))); (case side4 => exact (Kd.R_reads' HO198.out).2.1); rintro e w45 ⟨v200, rfl, ho0, hb⟩; refine ⟨_, rfl, ?_⟩; have n0_ := Aside0.mk Z3_4; have n1_ := Aside0.mk Z3_5; have n2_ := Aside0.mk Z3_6; have n3_ := Aside0.mk Z3_7; have n4_ := Aside0.mk Z3_8; have n5_ := Aside0.mk (Kd.R_lower (Kd.R_new' (Kd.R_new' (Kd.R_new' (Kd.R_new' (Kd.R_new' ho0 (Kd.R_lt Z3_15)) (Kd.R_lt Z3_16)) (Kd.R_lt Z3_17)) (Kd.R_lt Z3_18)) (Kd.R_lt Z3_19)) (below_size Z3_13)); have n6_ := Aside0.mk Z3_2; clear HO186; clear HO189; clear HO192; clear HO195; clear HO198; clear HB; have HO186 := n0_; have HO189 := n1_; have HO192 := n2_; have HO195 := n3_; have HO198 := n4_; have HO201 := n5_; have HB := n6_; clear n0_ n1_ n2_ n3_ n4_ n5_ n6_; (try clear hb); (try clear hb2); (try clear hk); (try clear hi); (try clear ho0); obtain ⟨Ao46, co46, eo46⟩ := Kd.R_slice HO201.out; subst eo46; obtain ⟨Ao47, co47, eo47⟩ := Kd.R_slice HO192.out; subst eo47) | ((with_reducible refine gate_callee (f := 16) rfl ?_); refine goesL_ (some 33) rfl rfl Try.func16 (by kernel_rfl) rfl #[.slice Ao46 t199.length co46, .slice Ao47 t190.length co47] rfl Z3_3 ?_; (with_reducible refine (laws_eqIntS.calls k _ _ t199 _ _ t190 true _ ?side1 ?side2 ?side3 ?side4 A11.out).mono ?_); (case side1 => repeat (first | exact (Kd.R_reads' HO201.out).2.2 | (with_reducible refine Kd.C_alloc ?_ _) | (with_reducible refine Kd.C_drewN ?_ _) | (with_reducible refine Kd.C_drew ?_))); (case side2 => exact (Kd.R_reads' HO201.out).2.1); (case side3 => repeat (first | exact (Kd.R_reads' HO192.out).2.2 | (with_reducible refine Kd.C_alloc ?_ _) | (with_reducible refine Kd.C_drewN ?_ _) | (with_reducible refine Kd.C_drew ?_))); (case side4 => exact (Kd.R_reads' HO192.out).2.1); rintro e w' ⟨rfl, ⟨nd, rfl⟩⟩; refine ⟨_, rfl, ?_⟩) | ((with_reducible refine gate_callee (f := 14) rfl ?_); refine goesL_ (some 37) rfl rfl Try.func14 (by kernel_rfl) rfl #[.slice A0 l0.length c0] rfl Z3_3 ?_; (with_reducible refine (laws_toIntS.calls k _ _ l0 t203 _ ?side1 ?side2 A13.out).mono ?_); (case side1 => repeat (first | exact (Kd.C_below HR0.out Z3_13) | (with_reducible refine Kd.C_alloc ?_ _) | (with_reducible refine Kd.C_drewN ?_ _) | (with_reducible refine Kd.C_drew ?_))); (case side2 => exact HC0.out); rintro e w48 ⟨v204, rfl, ho0, hb⟩; refine ⟨_, rfl, ?_⟩; have n0_ := Aside0.mk Z3_4; have n1_ := Aside0.mk Z3_5; have n2_ := Aside0.mk Z3_6; have n3_ := Aside0.mk Z3_7; have n4_ := Aside0.mk Z3_8; have n5_ := Aside0.mk Z3_9; have n6_ := Aside0.mk (Kd.R_lower (Kd.R_new' (Kd.R_new' (Kd.R_new' (Kd.R_new' (Kd.R_new' (Kd.R_new' ho0 (Kd.R_lt Z3_15)) (Kd.R_lt Z3_16)) (Kd.R_lt Z3_17)) (Kd.R_lt Z3_18)) (Kd.R_lt Z3_19)) (Kd.R_lt Z3_20)) (below_size Z3_13)); have n7_ := Aside0.mk Z3_2; clear HO186; clear HO189; clear HO192; clear HO195; clear HO198; clear HO201; clear HB; have HO186 := n0_; have HO189 := n1_; have HO192 := n2_; have HO195 := n3_; have HO198 := n4_; have HO201 := n5_; have HO205 := n6_; have HB := n7_; clear n0_ n1_ n2_ n3_ n4_ n5_ n6_ n7_; (try clear hb); (try clear hb2); (try clear hk); (try clear hi); (try clear ho0); obtain ⟨Ao49, co49, eo49⟩ := Kd.R_slice HO205.out; subst eo49) | ((with_reducible refine gate_callee (f := 16) rfl ?_); refine goesL_ (some 38) rfl rfl Try.func16 (by kernel_rfl) rfl #[.slice Ao43 t193.length co43, .slice Ao49 t203.length co49] rfl Z3_3 ?_; (with_reducible refine (laws_eqIntS.calls k _ _ t193 _ _ t203 true _ ?side1 ?side2 ?side3 ?side4 A14.out).mono ?_); (case side1 => repeat (first | exact (Kd.R_reads' HO195.out).2.2 | (with_reducible refine Kd.C_alloc ?_ _) | (with_reducible refine Kd.C_drewN ?_ _) | (with_reducible refine Kd.C_drew ?_))); (case side2 => exact (Kd.R_reads' HO195.out).2.1); (case side3 => repeat (first | exact (Kd.R_reads' HO205.out).2.2 | (with_reducible refine Kd.C_alloc ?_ _) | (with_reducible refine Kd.C_drewN ?_ _) | (with_reducible refine Kd.C_drew ?_))); (case side4 => exact (Kd.R_reads' HO205.out).2.1); rintro e w' ⟨rfl, ⟨nd, rfl⟩⟩; refine ⟨_, rfl, ?_⟩) | ((with_reducible refine gate_callee (f := 14) rfl ?_); refine goesL_ (some 42) rfl rfl Try.func14 (by kernel_rfl) rfl #[.slice A1 l1.length c1] rfl Z3_3 ?_; (with_reducible refine (laws_toIntS.calls k _ _ l1 t207 _ ?side1 ?side2 A16.out).mono ?_); (case side1 => repeat (first | exact (Kd.C_below HR1.out Z3_13) | (with_reducible refine Kd.C_alloc ?_ _) | (with_reducible refine Kd.C_drewN ?_ _) | (with_reducible refine Kd.C_drew ?_))); (case side2 => exact HC1.out); rintro e w50 ⟨v208, rfl, ho0, hb⟩; refine ⟨_, rfl, ?_⟩; have n0_ := Aside0.mk Z3_4; have n1_ := Aside0.mk Z3_5; have n2_ := Aside0.mk Z3_6; have n3_ := Aside0.mk Z3_7; have n4_ := Aside0.mk Z3_8; have n5_ := Aside0.mk Z3_9; have n6_ := Aside0.mk Z3_10; have n7_ := Aside0.mk (Kd.R_lower (Kd.R_new' (Kd.R_new' (Kd.R_new' (Kd.R_new' (Kd.R_new' (Kd.R_new' (Kd.R_new' ho0 (Kd.R_lt Z3_15)) (Kd.R_lt Z3_16)) (Kd.R_lt Z3_17)) (Kd.R_lt Z3_18)) (Kd.R_lt Z3_19)) (Kd.R_lt Z3_20)) (Kd.R_lt Z3_21)) (below_size Z3_13)); have n8_ := Aside0.mk Z3_2; clear HO186; clear HO189; clear HO192; clear HO195; clear HO198; clear HO201; clear HO205; clear HB; have HO186 := n0_; have HO189 := n1_; have HO192 := n2_; have HO195 := n3_; have HO198 := n4_; have HO201 := n5_; have HO205 := n6_; have HO209 := n7_; have HB := n8_; clear n0_ n1_ n2_ n3_ n4_ n5_ n6_ n7_ n8_; (try clear hb); (try clear hb2); (try clear hk); (try clear hi); (try clear ho0); obtain ⟨Ao51, co51, eo51⟩ := Kd.R_slice HO209.out; subst eo51) | ((with_reducible refine gate_callee (f := 16) rfl ?_); refine goesL_ (some 43) rfl rfl Try.func16 (by kernel_rfl) rfl #[.slice Ao44 t196.length co44, .slice Ao51 t207.length co51] rfl Z3_3 ?_; (with_reducible refine (laws_eqIntS.calls k _ _ t196 _ _ t207 true _ ?side1 ?side2 ?side3 ?side4 A17.out).mono ?_); (case side1 => repeat (first | exact (Kd.R_reads' HO198.out).2.2 | (with_reducible refine Kd.C_alloc ?_ _) | (with_reducible refine Kd.C_drewN ?_ _) | (with_reducible refine Kd.C_drew ?_))); (case side2 => exact (Kd.R_reads' HO198.out).2.1); (case side3 => repeat (first | exact (Kd.R_reads' HO209.out).2.2 | (with_reducible refine Kd.C_alloc ?_ _) | (with_reducible refine Kd.C_drewN ?_ _) | (with_reducible refine Kd.C_drew ?_))); (case side4 => exact (Kd.R_reads' HO209.out).2.1); rintro e w' ⟨rfl, ⟨nd, rfl⟩⟩; refine ⟨_, rfl, ?_⟩) | ((with_reducible refine gate_callee (f := 17) rfl ?_); refine goesL_ (some 47) rfl rfl Try.func17 (by kernel_rfl) rfl #[.slice Ao43 t193.length co43, .int .i64 1] rfl Z3_3 ?_; (with_reducible refine (laws_markIntS.calls k (fun k_ => some k_ = (.slice Ao43 t193.length co43 : Value).ownBlock) (.slice Ao43 t193.length co43) t193 1 t211 t212 w _ ?side1 ?side2 A19.out).mono ?_); (case side1 => repeat (first | (with_reducible first | exact HB.out | apply below_alloc | apply pw_below_drewN | apply below_drew1) | exact HB.out)); (case side2 => exact Kd.R_tight rfl HO195.out); rintro e w52 ⟨rfl, hy0, hb, hkp⟩; refine ⟨_, rfl, ?_⟩; have n0_ := Aside0.mk (Kd.R_mono (ok' := fun k_ => some k_ ≠ (.slice Ao39 t187.length co39 : Value).ownBlock ∧ some k_ ≠ (.slice Ao47 t190.length co47 : Value).ownBlock ∧ some k_ ≠ (.slice Ao43 t193.length co43 : Value).ownBlock ∧ some k_ ≠ (.slice Ao44 t196.length co44 : Value).ownBlock ∧ some k_ ≠ (.slice Ao46 t199.length co46 : Value).ownBlock ∧ some k_ ≠ (.slice Ao49 t203.length co49 : Value).ownBlock ∧ some k_ ≠ (.slice Ao51 t207.length co51 : Value).ownBlock) (Kd.R_keptB (HO186.out) hkp (fun k_ hk_ hs_ => (hk_.1.1.1.1.2) hs_)) (fun k_ hk_ => ⟨hk_.1.1.1.1.1.1.1.2, hk_.1.1.1.1.1.1.2, hk_.1.1.1.1.1.2, hk_.1.1.1.1.2, hk_.1.1.1.2, hk_.1.1.2, hk_.1.2⟩)); have n1_ := Aside0.mk (Kd.R_mono (ok' := fun k_ => some k_ ≠ (.slice Ao38 t184.length co38 : Value).ownBlock ∧ some k_ ≠ (.slice Ao47 t190.length co47 : Value).ownBlock ∧ some k_ ≠ (.slice Ao43 t193.length co43 : Value).ownBlock ∧ some k_ ≠ (.slice Ao44 t196.length co44 : Value).ownBlock ∧ some k_ ≠ (.slice Ao46 t199.length co46 : Value).ownBlock ∧ some k_ ≠ (.slice Ao49 t203.length co49 : Value).ownBlock ∧ some k_ ≠ (.slice Ao51 t207.length co51 : Value).ownBlock) (Kd.R_keptB (HO189.out) hkp (fun k_ hk_ hs_ => (hk_.1.1.1.1.2) hs_)) (fun k_ hk_ => ⟨hk_.1.1.1.1.1.1.1.2, hk_.1.1.1.1.1.1.2, hk_.1.1.1.1.1.2, hk_.1.1.1.1.2, hk_.1.1.1.2, hk_.1.1.2, hk_.1.2⟩)); have n2_ := Aside0.mk (Kd.R_mono (ok' := fun k_ => some k_ ≠ (.slice Ao38 t184.length co38 : Value).ownBlock ∧ some k_ ≠ (.slice Ao39 t187.length co39 : Value).ownBlock ∧ some k_ ≠ (.slice Ao43 t193.length co43 : Value).ownBlock ∧ some k_ ≠ (.slice Ao44 t196.length co44 : Value).ownBlock ∧ some k_ ≠ (.slice Ao46 t199.length co46 : Value).ownBlock ∧ some k_ ≠ (.slice Ao49 t203.length co49 : Value).ownBlock ∧ some k_ ≠ (.slice Ao51 t207.length co51 : Value).ownBlock) (Kd.R_keptB (HO192.out) hkp (fun k_ hk_ hs_ => (hk_.1.1.1.1.2) hs_)) (fun k_ hk_ => ⟨hk_.1.1.1.1.1.1.1.2, hk_.1.1.1.1.1.1.2, hk_.1.1.1.1.1.2, hk_.1.1.1.1.2, hk_.1.1.1.2, hk_.1.1.2, hk_.1.2⟩)); have n3_ := Aside0.mk (Kd.R_reok rfl hy0 (fun k_ e_ => HO195.out.1 k_ e_)); have n4_ := Aside0.mk (Kd.R_mono (ok' := fun k_ => some k_ ≠ (.slice Ao38 t184.length co38 : Value).ownBlock ∧ some k_ ≠ (.slice Ao39 t187.length co39 : Value).ownBlock ∧ some k_ ≠ (.slice Ao47 t190.length co47 : Value).ownBlock ∧ some k_ ≠ (.slice Ao43 t193.length co43 : Value).ownBlock ∧ some k_ ≠ (.slice Ao46 t199.length co46 : Value).ownBlock ∧ some k_ ≠ (.slice Ao49 t203.length co49 : Value).ownBlock ∧ some k_ ≠ (.slice Ao51 t207.length co51 : Value).ownBlock) (Kd.R_keptB (HO198.out) hkp (fun k_ hk_ hs_ => (hk_.1.1.1.2) hs_)) (fun k_ hk_ => ⟨hk_.1.1.1.1.1.1.1.2, hk_.1.1.1.1.1.1.2, hk_.1.1.1.1.1.2, hk_.1.1.1.1.2, hk_.1.1.1.2, hk_.1.1.2, hk_.1.2⟩)); have n5_ := Aside0.mk (Kd.R_mono (ok' := fun k_ => some k_ ≠ (.slice Ao38 t184.length co38 : Value).ownBlock ∧ some k_ ≠ (.slice Ao39 t187.length co39 : Value).ownBlock ∧ some k_ ≠ (.slice Ao47 t190.length co47 : Value).ownBlock ∧ some k_ ≠ (.slice Ao43 t193.length co43 : Value).ownBlock ∧ some k_ ≠ (.slice Ao44 t196.length co44 : Value).ownBlock ∧ some k_ ≠ (.slice Ao49 t203.length co49 : Value).ownBlock ∧ some k_ ≠ (.slice Ao51 t207.length co51 : Value).ownBlock) (Kd.R_keptB (HO201.out) hkp (fun k_ hk_ hs_ => (hk_.1.1.1.2) hs_)) (fun k_ hk_ => ⟨hk_.1.1.1.1.1.1.1.2, hk_.1.1.1.1.1.1.2, hk_.1.1.1.1.1.2, hk_.1.1.1.1.2, hk_.1.1.1.2, hk_.1.1.2, hk_.1.2⟩)); have n6_ := Aside0.mk (Kd.R_mono (ok' := fun k_ => some k_ ≠ (.slice Ao38 t184.length co38 : Value).ownBlock ∧ some k_ ≠ (.slice Ao39 t187.length co39 : Value).ownBlock ∧ some k_ ≠ (.slice Ao47 t190.length co47 : Value).ownBlock ∧ some k_ ≠ (.slice Ao43 t193.length co43 : Value).ownBlock ∧ some k_ ≠ (.slice Ao44 t196.length co44 : Value).ownBlock ∧ some k_ ≠ (.slice Ao46 t199.length co46 : Value).ownBlock ∧ some k_ ≠ (.slice Ao51 t207.length co51 : Value).ownBlock) (Kd.R_keptB (HO205.out) hkp (fun k_ hk_ hs_ => (hk_.1.1.1.2) hs_)) (fun k_ hk_ => ⟨hk_.1.1.1.1.1.1.1.2, hk_.1.1.1.1.1.1.2, hk_.1.1.1.1.1.2, hk_.1.1.1.1.2, hk_.1.1.1.2, hk_.1.1.2, hk_.1.2⟩)); have n7_ := Aside0.mk (Kd.R_mono (ok' := fun k_ => some k_ ≠ (.slice Ao38 t184.length co38 : Value).ownBlock ∧ some k_ ≠ (.slice Ao39 t187.length co39 : Value).ownBlock ∧ some k_ ≠ (.slice Ao47 t190.length co47 : Value).ownBlock ∧ some k_ ≠ (.slice Ao43 t193.length co43 : Value).ownBlock ∧ some k_ ≠ (.slice Ao44 t196.length co44 : Value).ownBlock ∧ some k_ ≠ (.slice Ao46 t199.length co46 : Value).ownBlock ∧ some k_ ≠ (.slice Ao49 t203.length co49 : Value).ownBlock) (Kd.R_keptB (HO209.out) hkp (fun k_ hk_ hs_ => (hk_.1.1.1.2) hs_)) (fun k_ hk_ => ⟨hk_.1.1.1.1.1.1.1.2, hk_.1.1.1.1.1.1.2, hk_.1.1.1.1.1.2, hk_.1.1.1.1.2, hk_.1.1.1.2, hk_.1.1.2, hk_.1.2⟩)); have n8_ := Aside0.mk (hb); clear HO186; clear HO189; clear HO192; clear HO195; clear HO198; clear HO201; clear HO205; clear HO209; clear HB; have HO186 := n0_; have HO189 := n1_; have HO192 := n2_; have HO195 := n3_; have HO198 := n4_; have HO201 := n5_; have HO205 := n6_; have HO209 := n7_; have HB := n8_; clear n0_ n1_ n2_ n3_ n4_ n5_ n6_ n7_ n8_; (try clear hb); (try clear hkp); (try clear hy0)) | ((with_reducible refine gate_callee (f := 17) rfl ?_); refine goesL_ (some 50) rfl rfl Try.func17 (by kernel_rfl) rfl #[.slice Ao44 t196.length co44, .int .i64 t211] rfl Z3_3 ?_; (with_reducible refine (laws_markIntS.calls k (fun k_ => some k_ = (.slice Ao44 t196.length co44 : Value).ownBlock) (.slice Ao44 t196.length co44) t196 t211 t213 t214 w _ ?side1 ?side2 A20.out).mono ?_); (case side1 => repeat (first | (with_reducible first | exact HB.out | apply below_alloc | apply pw_below_drewN | apply below_drew1) | exact HB.out)); (case side2 => exact Kd.R_tight rfl HO198.out); rintro e w53 ⟨rfl, hy0, hb, hkp⟩; refine ⟨_, rfl, ?_⟩; have n0_ := Aside0.mk (Kd.R_mono (ok' := fun k_ => some k_ ≠ (.slice Ao39 t187.length co39 : Value).ownBlock ∧ some k_ ≠ (.slice Ao47 t190.length co47 : Value).ownBlock ∧ some k_ ≠ (.slice Ao43 t193.length co43 : Value).ownBlock ∧ some k_ ≠ (.slice Ao44 t196.length co44 : Value).ownBlock ∧ some k_ ≠ (.slice Ao46 t199.length co46 : Value).ownBlock ∧ some k_ ≠ (.slice Ao49 t203.length co49 : Value).ownBlock ∧ some k_ ≠ (.slice Ao51 t207.length co51 : Value).ownBlock) (Kd.R_keptB (HO186.out) hkp (fun k_ hk_ hs_ => (hk_.2.2.2.1) hs_)) (fun k_ hk_ => ⟨hk_.1.1, hk_.1.2.1, hk_.1.2.2.1, hk_.1.2.2.2.1, hk_.1.2.2.2.2.1, hk_.1.2.2.2.2.2.1, hk_.1.2.2.2.2.2.2⟩)); have n1_ := Aside0.mk (Kd.R_mono (ok' := fun k_ => some k_ ≠ (.slice Ao38 t184.length co38 : Value).ownBlock ∧ some k_ ≠ (.slice Ao47 t190.length co47 : Value).ownBlock ∧ some k_ ≠ (.slice Ao43 t193.length co43 : Value).ownBlock ∧ some k_ ≠ (.slice Ao44 t196.length co44 : Value).ownBlock ∧ some k_ ≠ (.slice Ao46 t199.length co46 : Value).ownBlock ∧ some k_ ≠ (.slice Ao49 t203.length co49 : Value).ownBlock ∧ some k_ ≠ (.slice Ao51 t207.length co51 : Value).ownBlock) (Kd.R_keptB (HO189.out) hkp (fun k_ hk_ hs_ => (hk_.2.2.2.1) hs_)) (fun k_ hk_ => ⟨hk_.1.1, hk_.1.2.1, hk_.1.2.2.1, hk_.1.2.2.2.1, hk_.1.2.2.2.2.1, hk_.1.2.2.2.2.2.1, hk_.1.2.2.2.2.2.2⟩)); have n2_ := Aside0.mk (Kd.R_mono (ok' := fun k_ => some k_ ≠ (.slice Ao38 t184.length co38 : Value).ownBlock ∧ some k_ ≠ (.slice Ao39 t187.length co39 : Value).ownBlock ∧ some k_ ≠ (.slice Ao43 t193.length co43 : Value).ownBlock ∧ some k_ ≠ (.slice Ao44 t196.length co44 : Value).ownBlock ∧ some k_ ≠ (.slice Ao46 t199.length co46 : Value).ownBlock ∧ some k_ ≠ (.slice Ao49 t203.length co49 : Value).ownBlock ∧ some k_ ≠ (.slice Ao51 t207.length co51 : Value).ownBlock) (Kd.R_keptB (HO192.out) hkp (fun k_ hk_ hs_ => (hk_.2.2.2.1) hs_)) (fun k_ hk_ => ⟨hk_.1.1, hk_.1.2.1, hk_.1.2.2.1, hk_.1.2.2.2.1, hk_.1.2.2.2.2.1, hk_.1.2.2.2.2.2.1, hk_.1.2.2.2.2.2.2⟩)); have n3_ := Aside0.mk (Kd.R_mono (ok' := fun k_ => some k_ ≠ (.slice Ao38 t184.length co38 : Value).ownBlock ∧ some k_ ≠ (.slice Ao39 t187.length co39 : Value).ownBlock ∧ some k_ ≠ (.slice Ao47 t190.length co47 : Value).ownBlock ∧ some k_ ≠ (.slice Ao44 t196.length co44 : Value).ownBlock ∧ some k_ ≠ (.slice Ao46 t199.length co46 : Value).ownBlock ∧ some k_ ≠ (.slice Ao49 t203.length co49 : Value).ownBlock ∧ some k_ ≠ (.slice Ao51 t207.length co51 : Value).ownBlock) (Kd.R_keptB (HO195.out) hkp (fun k_ hk_ hs_ => (hk_.1.1.1.2) hs_)) (fun k_ hk_ => ⟨hk_.1.1.1.1.1.1.1.2, hk_.1.1.1.1.1.1.2, hk_.1.1.1.1.1.2, hk_.1.1.1.1.2, hk_.1.1.1.2, hk_.1.1.2, hk_.1.2⟩)); have n4_ := Aside0.mk (Kd.R_reok rfl hy0 (fun k_ e_ => HO198.out.1 k_ e_)); have n5_ := Aside0.mk (Kd.R_mono (ok' := fun k_ => some k_ ≠ (.slice Ao38 t184.length co38 : Value).ownBlock ∧ some k_ ≠ (.slice Ao39 t187.length co39 : Value).ownBlock ∧ some k_ ≠ (.slice Ao47 t190.length co47 : Value).ownBlock ∧ some k_ ≠ (.slice Ao43 t193.length co43 : Value).ownBlock ∧ some k_ ≠ (.slice Ao44 t196.length co44 : Value).ownBlock ∧ some k_ ≠ (.slice Ao49 t203.length co49 : Value).ownBlock ∧ some k_ ≠ (.slice Ao51 t207.length co51 : Value).ownBlock) (Kd.R_keptB (HO201.out) hkp (fun k_ hk_ hs_ => (hk_.2.2.2.2.1) hs_)) (fun k_ hk_ => ⟨hk_.1.1, hk_.1.2.1, hk_.1.2.2.1, hk_.1.2.2.2.1, hk_.1.2.2.2.2.1, hk_.1.2.2.2.2.2.1, hk_.1.2.2.2.2.2.2⟩)); have n6_ := Aside0.mk (Kd.R_mono (ok' := fun k_ => some k_ ≠ (.slice Ao38 t184.length co38 : Value).ownBlock ∧ some k_ ≠ (.slice Ao39 t187.length co39 : Value).ownBlock ∧ some k_ ≠ (.slice Ao47 t190.length co47 : Value).ownBlock ∧ some k_ ≠ (.slice Ao43 t193.length co43 : Value).ownBlock ∧ some k_ ≠ (.slice Ao44 t196.length co44 : Value).ownBlock ∧ some k_ ≠ (.slice Ao46 t199.length co46 : Value).ownBlock ∧ some k_ ≠ (.slice Ao51 t207.length co51 : Value).ownBlock) (Kd.R_keptB (HO205.out) hkp (fun k_ hk_ hs_ => (hk_.2.2.2.2.1) hs_)) (fun k_ hk_ => ⟨hk_.1.1, hk_.1.2.1, hk_.1.2.2.1, hk_.1.2.2.2.1, hk_.1.2.2.2.2.1, hk_.1.2.2.2.2.2.1, hk_.1.2.2.2.2.2.2⟩)); have n7_ := Aside0.mk (Kd.R_mono (ok' := fun k_ => some k_ ≠ (.slice Ao38 t184.length co38 : Value).ownBlock ∧ some k_ ≠ (.slice Ao39 t187.length co39 : Value).ownBlock ∧ some k_ ≠ (.slice Ao47 t190.length co47 : Value).ownBlock ∧ some k_ ≠ (.slice Ao43 t193.length co43 : Value).ownBlock ∧ some k_ ≠ (.slice Ao44 t196.length co44 : Value).ownBlock ∧ some k_ ≠ (.slice Ao46 t199.length co46 : Value).ownBlock ∧ some k_ ≠ (.slice Ao49 t203.length co49 : Value).ownBlock) (Kd.R_keptB (HO209.out) hkp (fun k_ hk_ hs_ => (hk_.2.2.2.2.1) hs_)) (fun k_ hk_ => ⟨hk_.1.1, hk_.1.2.1, hk_.1.2.2.1, hk_.1.2.2.2.1, hk_.1.2.2.2.2.1, hk_.1.2.2.2.2.2.1, hk_.1.2.2.2.2.2.2⟩)); have n8_ := Aside0.mk (hb); clear HO186; clear HO189; clear HO192; clear HO195; clear HO198; clear HO201; clear HO205; clear HO209; clear HB; have HO186 := n0_; have HO189 := n1_; have HO192 := n2_; have HO195 := n3_; have HO198 := n4_; have HO201 := n5_; have HO205 := n6_; have HO209 := n7_; have HB := n8_; clear n0_ n1_ n2_ n3_ n4_ n5_ n6_ n7_ n8_; (try clear hb); (try clear hkp); (try clear hy0)) | (go_at_call 16; (with_reducible refine (laws_eqIntS.calls k _ _ t199 _ _ t190 true _ ?side1 ?side2 ?side3 ?side4 A22.out).mono ?_); (case side1 => repeat (first | exact (Kd.R_reads' HO201.out).2.2 | (with_reducible refine Kd.C_alloc ?_ _) | (with_reducible refine Kd.C_drewN ?_ _) | (with_reducible refine Kd.C_drew ?_))); (case side2 => exact (Kd.R_reads' HO201.out).2.1); (case side3 => repeat (first | exact (Kd.R_reads' HO192.out).2.2 | (with_reducible refine Kd.C_alloc ?_ _) | (with_reducible refine Kd.C_drewN ?_ _) | (with_reducible refine Kd.C_drew ?_))); (case side4 => exact (Kd.R_reads' HO192.out).2.1); rintro e w' ⟨rfl, ⟨nd, rfl⟩⟩) | ((with_reducible refine gate_callee (f := 17) rfl ?_); refine goesL_ (some 61) rfl rfl Try.func17 (by kernel_rfl) rfl #[.slice Ao46 t199.length co46, .int .i64 1] rfl Z3_3 ?_; (with_reducible refine (laws_markIntS.calls k (fun k_ => some k_ = (.slice Ao46 t199.length co46 : Value).ownBlock) (.slice Ao46 t199.length co46) t199 1 t216 t217 w _ ?side1 ?side2 A24.out).mono ?_); (case side1 => repeat (first | (with_reducible first | exact HB.out | apply below_alloc | apply pw_below_drewN | apply below_drew1) | exact HB.out)); (case side2 => exact Kd.R_tight rfl HO201.out); rintro e w54 ⟨rfl, hy0, hb, hkp⟩; refine ⟨_, rfl, ?_⟩; have n0_ := Aside0.mk (Kd.R_mono (ok' := fun k_ => some k_ ≠ (.slice Ao39 t187.length co39 : Value).ownBlock ∧ some k_ ≠ (.slice Ao47 t190.length co47 : Value).ownBlock ∧ some k_ ≠ (.slice Ao43 t193.length co43 : Value).ownBlock ∧ some k_ ≠ (.slice Ao44 t196.length co44 : Value).ownBlock ∧ some k_ ≠ (.slice Ao46 t199.length co46 : Value).ownBlock ∧ some k_ ≠ (.slice Ao49 t203.length co49 : Value).ownBlock ∧ some k_ ≠ (.slice Ao51 t207.length co51 : Value).ownBlock) (Kd.R_keptB (HO186.out) hkp (fun k_ hk_ hs_ => (hk_.2.2.2.2.1) hs_)) (fun k_ hk_ => ⟨hk_.1.1, hk_.1.2.1, hk_.1.2.2.1, hk_.1.2.2.2.1, hk_.1.2.2.2.2.1, hk_.1.2.2.2.2.2.1, hk_.1.2.2.2.2.2.2⟩)); have n1_ := Aside0.mk (Kd.R_mono (ok' := fun k_ => some k_ ≠ (.slice Ao38 t184.length co38 : Value).ownBlock ∧ some k_ ≠ (.slice Ao47 t190.length co47 : Value).ownBlock ∧ some k_ ≠ (.slice Ao43 t193.length co43 : Value).ownBlock ∧ some k_ ≠ (.slice Ao44 t196.length co44 : Value).ownBlock ∧ some k_ ≠ (.slice Ao46 t199.length co46 : Value).ownBlock ∧ some k_ ≠ (.slice Ao49 t203.length co49 : Value).ownBlock ∧ some k_ ≠ (.slice Ao51 t207.length co51 : Value).ownBlock) (Kd.R_keptB (HO189.out) hkp (fun k_ hk_ hs_ => (hk_.2.2.2.2.1) hs_)) (fun k_ hk_ => ⟨hk_.1.1, hk_.1.2.1, hk_.1.2.2.1, hk_.1.2.2.2.1, hk_.1.2.2.2.2.1, hk_.1.2.2.2.2.2.1, hk_.1.2.2.2.2.2.2⟩)); have n2_ := Aside0.mk (Kd.R_mono (ok' := fun k_ => some k_ ≠ (.slice Ao38 t184.length co38 : Value).ownBlock ∧ some k_ ≠ (.slice Ao39 t187.length co39 : Value).ownBlock ∧ some k_ ≠ (.slice Ao43 t193.length co43 : Value).ownBlock ∧ some k_ ≠ (.slice Ao44 t196.length co44 : Value).ownBlock ∧ some k_ ≠ (.slice Ao46 t199.length co46 : Value).ownBlock ∧ some k_ ≠ (.slice Ao49 t203.length co49 : Value).ownBlock ∧ some k_ ≠ (.slice Ao51 t207.length co51 : Value).ownBlock) (Kd.R_keptB (HO192.out) hkp (fun k_ hk_ hs_ => (hk_.2.2.2.2.1) hs_)) (fun k_ hk_ => ⟨hk_.1.1, hk_.1.2.1, hk_.1.2.2.1, hk_.1.2.2.2.1, hk_.1.2.2.2.2.1, hk_.1.2.2.2.2.2.1, hk_.1.2.2.2.2.2.2⟩)); have n3_ := Aside0.mk (Kd.R_mono (ok' := fun k_ => some k_ ≠ (.slice Ao38 t184.length co38 : Value).ownBlock ∧ some k_ ≠ (.slice Ao39 t187.length co39 : Value).ownBlock ∧ some k_ ≠ (.slice Ao47 t190.length co47 : Value).ownBlock ∧ some k_ ≠ (.slice Ao44 t196.length co44 : Value).ownBlock ∧ some k_ ≠ (.slice Ao46 t199.length co46 : Value).ownBlock ∧ some k_ ≠ (.slice Ao49 t203.length co49 : Value).ownBlock ∧ some k_ ≠ (.slice Ao51 t207.length co51 : Value).ownBlock) (Kd.R_keptB (HO195.out) hkp (fun k_ hk_ hs_ => (hk_.2.2.2.2.1) hs_)) (fun k_ hk_ => ⟨hk_.1.1, hk_.1.2.1, hk_.1.2.2.1, hk_.1.2.2.2.1, hk_.1.2.2.2.2.1, hk_.1.2.2.2.2.2.1, hk_.1.2.2.2.2.2.2⟩)); have n4_ := Aside0.mk (Kd.R_mono (ok' := fun k_ => some k_ ≠ (.slice Ao38 t184.length co38 : Value).ownBlock ∧ some k_ ≠ (.slice Ao39 t187.length co39 : Value).ownBlock ∧ some k_ ≠ (.slice Ao47 t190.length co47 : Value).ownBlock ∧ some k_ ≠ (.slice Ao43 t193.length co43 : Value).ownBlock ∧ some k_ ≠ (.slice Ao46 t199.length co46 : Value).ownBlock ∧ some k_ ≠ (.slice Ao49 t203.length co49 : Value).ownBlock ∧ some k_ ≠ (.slice Ao51 t207.length co51 : Value).ownBlock) (Kd.R_keptB (HO198.out) hkp (fun k_ hk_ hs_ => (hk_.2.2.2.2.1) hs_)) (fun k_ hk_ => ⟨hk_.1.1, hk_.1.2.1, hk_.1.2.2.1, hk_.1.2.2.2.1, hk_.1.2.2.2.2.1, hk_.1.2.2.2.2.2.1, hk_.1.2.2.2.2.2.2⟩)); have n5_ := Aside0.mk (Kd.R_reok rfl hy0 (fun k_ e_ => HO201.out.1 k_ e_)); have n6_ := Aside0.mk (Kd.R_mono (ok' := fun k_ => some k_ ≠ (.slice Ao38 t184.length co38 : Value).ownBlock ∧ some k_ ≠ (.slice Ao39 t187.length co39 : Value).ownBlock ∧ some k_ ≠ (.slice Ao47 t190.length co47 : Value).ownBlock ∧ some k_ ≠ (.slice Ao43 t193.length co43 : Value).ownBlock ∧ some k_ ≠ (.slice Ao44 t196.length co44 : Value).ownBlock ∧ some k_ ≠ (.slice Ao46 t199.length co46 : Value).ownBlock ∧ some k_ ≠ (.slice Ao51 t207.length co51 : Value).ownBlock) (Kd.R_keptB (HO205.out) hkp (fun k_ hk_ hs_ => (hk_.2.2.2.2.2.1) hs_)) (fun k_ hk_ => ⟨hk_.1.1, hk_.1.2.1, hk_.1.2.2.1, hk_.1.2.2.2.1, hk_.1.2.2.2.2.1, hk_.1.2.2.2.2.2.1, hk_.1.2.2.2.2.2.2⟩)); have n7_ := Aside0.mk (Kd.R_mono (ok' := fun k_ => some k_ ≠ (.slice Ao38 t184.length co38 : Value).ownBlock ∧ some k_ ≠ (.slice Ao39 t187.length co39 : Value).ownBlock ∧ some k_ ≠ (.slice Ao47 t190.length co47 : Value).ownBlock ∧ some k_ ≠ (.slice Ao43 t193.length co43 : Value).ownBlock ∧ some k_ ≠ (.slice Ao44 t196.length co44 : Value).ownBlock ∧ some k_ ≠ (.slice Ao46 t199.length co46 : Value).ownBlock ∧ some k_ ≠ (.slice Ao49 t203.length co49 : Value).ownBlock) (Kd.R_keptB (HO209.out) hkp (fun k_ hk_ hs_ => (hk_.2.2.2.2.2.1) hs_)) (fun k_ hk_ => ⟨hk_.1.1, hk_.1.2.1, hk_.1.2.2.1, hk_.1.2.2.2.1, hk_.1.2.2.2.2.1, hk_.1.2.2.2.2.2.1, hk_.1.2.2.2.2.2.2⟩)); have n8_ := Aside0.mk (hb); clear HO186; clear HO189; clear HO192; clear HO195; clear HO198; clear HO201; clear HO205; clear HO209; clear HB; have HO186 := n0_; have HO189 := n1_; have HO192 := n2_; have HO195 := n3_; have HO198 := n4_; have HO201 := n5_; have HO205 := n6_; have HO209 := n7_; have HB := n8_; clear n0_ n1_ n2_ n3_ n4_ n5_ n6_ n7_ n8_; (try clear hb); (try clear hkp); (try clear hy0)) | ((with_reducible refine gate_callee (f := 18) rfl ?_); refine goesL_ (some 64) rfl rfl Try.func18 (by kernel_rfl) rfl #[.slice Ao46 t217.length co46, .int .i64 1] rfl Z3_1 ?_; (with_reducible refine (laws_heldIntS.calls k _ _ t217 1 t218 _ ?side1 ?side2 A25.out).mono ?_); (case side1 => repeat (first | exact (Kd.R_reads' HO201.out).2.2 | (with_reducible refine Kd.C_alloc ?_ _) | (with_reducible refine Kd.C_drewN ?_ _) | (with_reducible refine Kd.C_drew ?_))); (case side2 => rw [show t217.length = t199.length from (Kd.R_reads' HO201.out).1.symm]; exact (Kd.R_reads' HO201.out).2.1); rintro e w' ⟨rfl, ⟨nd, rfl⟩⟩; refine ⟨_, rfl, ?_⟩) | ((with_reducible refine gate_callee (f := 14) rfl ?_); refine goesL_ (some 71) rfl rfl Try.func14 (by kernel_rfl) rfl #[.slice A0 l0.length c0] rfl Z3_3 ?_; (with_reducible refine (laws_toIntS.calls k _ _ l0 t219 _ ?side1 ?side2 A28.out).mono ?_); (case side1 => repeat (first | exact (Kd.C_below HR0.out Z3_13) | (with_reducible refine Kd.C_alloc ?_ _) | (with_reducible refine Kd.C_drewN ?_ _) | (with_reducible refine Kd.C_drew ?_))); (case side2 => exact HC0.out); rintro e w55 ⟨v220, rfl, ho0, hb⟩; refine ⟨_, rfl, ?_⟩; have n0_ := Aside0.mk Z3_4; have n1_ := Aside0.mk Z3_5; have n2_ := Aside0.mk Z3_6; have n3_ := Aside0.mk Z3_7; have n4_ := Aside0.mk Z3_8; have n5_ := Aside0.mk Z3_9; have n6_ := Aside0.mk Z3_10; have n7_ := Aside0.mk Z3_11; have n8_ := Aside0.mk (Kd.R_lower (Kd.R_new' (Kd.R_new' (Kd.R_new' (Kd.R_new' (Kd.R_new' (Kd.R_new' (Kd.R_new' (Kd.R_new' ho0 (Kd.R_lt Z3_15)) (Kd.R_lt Z3_16)) (Kd.R_lt Z3_17)) (Kd.R_lt Z3_18)) (Kd.R_lt Z3_19)) (Kd.R_lt Z3_20)) (Kd.R_lt Z3_21)) (Kd.R_lt Z3_22)) (below_size Z3_13)); have n9_ := Aside0.mk Z3_2; clear HO186; clear HO189; clear HO192; clear HO195; clear HO198; clear HO201; clear HO205; clear HO209; clear HB; have HO186 := n0_; have HO189 := n1_; have HO192 := n2_; have HO195 := n3_; have HO198 := n4_; have HO201 := n5_; have HO205 := n6_; have HO209 := n7_; have HO221 := n8_; have HB := n9_; clear n0_ n1_ n2_ n3_ n4_ n5_ n6_ n7_ n8_ n9_; (try clear hb); (try clear hb2); (try clear hk); (try clear hi); (try clear ho0)) | ((with_reducible refine gate_callee (f := 14) rfl ?_); refine goesL_ (some 73) rfl rfl Try.func14 (by kernel_rfl) rfl #[.slice A1 l1.length c1] rfl Z3_3 ?_; (with_reducible refine (laws_toIntS.calls k _ _ l1 t222 _ ?side1 ?side2 A29.out).mono ?_); (case side1 => repeat (first | exact (Kd.C_below HR1.out HB.out) | (with_reducible refine Kd.C_alloc ?_ _) | (with_reducible refine Kd.C_drewN ?_ _) | (with_reducible refine Kd.C_drew ?_))); (case side2 => exact HC1.out); rintro e w56 ⟨v223, rfl, ho0, hb⟩; refine ⟨_, rfl, ?_⟩; have n0_ := Aside0.mk Z3_4; have n1_ := Aside0.mk Z3_5; have n2_ := Aside0.mk Z3_6; have n3_ := Aside0.mk Z3_7; have n4_ := Aside0.mk Z3_8; have n5_ := Aside0.mk Z3_9; have n6_ := Aside0.mk Z3_10; have n7_ := Aside0.mk Z3_11; have n8_ := Aside0.mk Z3_12; have n9_ := Aside0.mk (Kd.R_lower (Kd.R_new' (Kd.R_new' (Kd.R_new' (Kd.R_new' (Kd.R_new' (Kd.R_new' (Kd.R_new' (Kd.R_new' (Kd.R_new' ho0 (Kd.R_lt Z3_15)) (Kd.R_lt Z3_16)) (Kd.R_lt Z3_17)) (Kd.R_lt Z3_18)) (Kd.R_lt Z3_19)) (Kd.R_lt Z3_20)) (Kd.R_lt Z3_21)) (Kd.R_lt Z3_22)) (Kd.R_lt Z3_23)) (below_size Z3_13)); have n10_ := Aside0.mk Z3_2; clear HO186; clear HO189; clear HO192; clear HO195; clear HO198; clear HO201; clear HO205; clear HO209; clear HO221; clear HB; have HO186 := n0_; have HO189 := n1_; have HO192 := n2_; have HO195 := n3_; have HO198 := n4_; have HO201 := n5_; have HO205 := n6_; have HO209 := n7_; have HO221 := n8_; have HO224 := n9_; have HB := n10_; clear n0_ n1_ n2_ n3_ n4_ n5_ n6_ n7_ n8_ n9_ n10_; (try clear hb); (try clear hb2); (try clear hk); (try clear hi); (try clear ho0); obtain ⟨Ao57, co57, eo57⟩ := Kd.R_slice HO221.out; subst eo57; obtain ⟨Ao58, co58, eo58⟩ := Kd.R_slice HO224.out; subst eo58) | ((with_reducible refine gate_callee (f := 24) rfl ?_); refine goesL_ (some 74) rfl rfl Try.func24 (by kernel_rfl) rfl #[.slice Ao57 t219.length co57, .slice Ao58 t222.length co58] rfl Z3_3 ?_; (with_reducible refine (impl_Union.calls _ _ t219 _ _ t222 t225 _ ?side1 ?side2 ?side3 ?side4 A30.out).mono ?_); (case side1 => repeat (first | exact (Kd.R_reads' HO221.out).2.2 | (with_reducible refine Kd.C_alloc ?_ _) | (with_reducible refine Kd.C_drewN ?_ _) | (with_reducible refine Kd.C_drew ?_))); (case side2 => exact (Kd.R_reads' HO221.out).2.1); (case side3 => repeat (first | exact (Kd.R_reads' HO224.out).2.2 | (with_reducible refine Kd.C_alloc ?_ _) | (with_reducible refine Kd.C_drewN ?_ _) | (with_reducible refine Kd.C_drew ?_))); (case side4 => exact (Kd.R_reads' HO224.out).2.1); rintro e w59 ⟨v226, rfl, ho0, hb⟩; refine ⟨_, rfl, ?_⟩; have n0_ := Aside0.mk Z3_4; have n1_ := Aside0.mk Z3_5; have n2_ := Aside0.mk Z3_6; have n3_ := Aside0.mk Z3_7; have n4_ := Aside0.mk Z3_8; have n5_ := Aside0.mk Z3_9; have n6_ := Aside0.mk Z3_10; have n7_ := Aside0.mk Z3_11; have n8_ := Aside0.mk Z3_12; have n9_ := Aside0.mk (Kd.R_elder' Z3_24 (Kd.R_base ho0) hb); have n10_ := Aside0.mk (Kd.R_lower (Kd.R_new' (Kd.R_new' (Kd.R_new' (Kd.R_new' (Kd.R_new' (Kd.R_new' (Kd.R_new' (Kd.R_new' (Kd.R_new' (Kd.R_new' ho0 (Kd.R_lt Z3_15)) (Kd.R_lt Z3_16)) (Kd.R_lt Z3_17)) (Kd.R_lt Z3_18)) (Kd.R_lt Z3_19)) (Kd.R_lt Z3_20)) (Kd.R_lt Z3_21)) (Kd.R_lt Z3_22)) (Kd.R_lt Z3_23)) (Kd.R_lt Z3_24)) (below_size Z3_13)); have n11_ := Aside0.mk Z3_2; clear HO186; clear HO189; clear HO192; clear HO195; clear HO198; clear HO201; clear HO205; clear HO209; clear HO221; clear HO224; clear HB; have HO186 := n0_; have HO189 := n1_; have HO192 := n2_; have HO195 := n3_; have HO198 := n4_; have HO201 := n5_; have HO205 := n6_; have HO209 := n7_; have HO221 := n8_; have HO224 := n9_; have HO227 := n10_; have HB := n11_; clear n0_ n1_ n2_ n3_ n4_ n5_ n6_ n7_ n8_ n9_ n10_ n11_; (try clear hb); (try clear hb2); (try clear hk); (try clear hi); (try clear ho0); obtain ⟨Ao60, co60, eo60⟩ := Kd.R_slice HO227.out; subst eo60) | ((with_reducible refine gate_callee (f := 16) rfl ?_); refine goesL_ (some 77) rfl rfl Try.func16 (by kernel_rfl) rfl #[.slice Ao60 t225.length co60, .slice Ao47 t190.length co47] rfl Z3_3 ?_; (with_reducible refine (laws_eqIntS.calls k _ _ t225 _ _ t190 true _ ?side1 ?side2 ?side3 ?side4 A31.out).mono ?_); (case side1 => repeat (first | exact (Kd.R_reads' HO227.out).2.2 | (with_reducible refine Kd.C_alloc ?_ _) | (with_reducible refine Kd.C_drewN ?_ _) | (with_reducible refine Kd.C_drew ?_))); (case side2 => exact (Kd.R_reads' HO227.out).2.1); (case side3 => repeat (first | exact (Kd.R_reads' HO192.out).2.2 | (with_reducible refine Kd.C_alloc ?_ _) | (with_reducible refine Kd.C_drewN ?_ _) | (with_reducible refine Kd.C_drew ?_))); (case side4 => exact (Kd.R_reads' HO192.out).2.1); rintro e w' ⟨rfl, ⟨nd, rfl⟩⟩; refine ⟨_, rfl, ?_⟩) | ((with_reducible refine gate_callee (f := 18) rfl ?_); refine goesL_ (some 81) rfl rfl Try.func18 (by kernel_rfl) rfl #[.slice Ao46 t217.length co46, .int .i64 1] rfl Z3_1 ?_; (with_reducible refine (laws_heldIntS.calls k _ _ t217 1 t229 _ ?side1 ?side2 A33.out).mono ?_); (case side1 => repeat (first | exact (Kd.R_reads' HO201.out).2.2 | (with_reducible refine Kd.C_alloc ?_ _) | (with_reducible refine Kd.C_drewN ?_ _) | (with_reducible refine Kd.C_drew ?_))); (case side2 => rw [show t217.length = t199.length from (Kd.R_reads' HO201.out).1.symm]; exact (Kd.R_reads' HO201.out).2.1); rintro e w' ⟨rfl, ⟨nd, rfl⟩⟩; refine ⟨_, rfl, ?_⟩))
  go_ret
  exact ⟨Z3_25, Z3_13⟩

/-- THE ONE PURE STATEMENT of laws_FnExactUnion: yours. -/
def laws_FnExactUnion.Pure : Prop := ∀ (l0 : List Int) (l1 : List Int), l0.length ≤ maxLen → l0.length * 8 ≤ 140737488351232 → (∀ x ∈ l0, (Lit.int .i64 x).wf = true) → l1.length ≤ maxLen → l1.length * 8 ≤ 140737488351232 → (∀ x ∈ l1, (Lit.int .i64 x).wf = true) → ∃ k, laws_FnExactUnion.f k l0 l1 = some true
theorem laws_FnExactUnion.walk (P : laws_FnExactUnion.Pure) (a0 : Option Addr) (len0 cap0 : Nat) (z0 : List Int) (a1 : Option Addr) (len1 cap1 : Nat) (z1 : List Int) (w : World) (w0 : (a0 = none ∧ len0 = 0 ∧ cap0 = 0 ∧ z0 = []) ∨ ∃ x, a0 = some x ∧ len0 ≤ cap0 ∧ cap0 ≤ maxLen ∧ z0.length = cap0 ∧ (∀ i, i < z0.length → w.cell? (x.add i) = some (.int .i64 (z0.getD i 0))) ∧ ∀ n ∈ z0, (Lit.int .i64 n).wf = true) (y0 : len0 * 8 ≤ 140737488351232) (w1 : (a1 = none ∧ len1 = 0 ∧ cap1 = 0 ∧ z1 = []) ∨ ∃ x, a1 = some x ∧ len1 ≤ cap1 ∧ cap1 ≤ maxLen ∧ z1.length = cap1 ∧ (∀ i, i < z1.length → w.cell? (x.add i) = some (.int .i64 (z1.getD i 0))) ∧ ∀ n ∈ z1, (Lit.int .i64 n).wf = true) (y1 : len1 * 8 ≤ 140737488351232) :
    Calls Try.prog 6 #[.slice a0 len0 cap0, .slice a1 len1 cap1] w fun e w' => e = .returned (.bool true) ∧ Below w.heap.size w w' := by
  obtain ⟨l0, rfl, hr0, hm0, hw0, hc0⟩ := ReadsInt.ofRowC w0
  obtain ⟨l1, rfl, hr1, hm1, hw1, hc1⟩ := ReadsInt.ofRowC w1
  obtain ⟨k, h⟩ := P l0 l1 hm0 y0 hw0 hm1 y1 hw1
  refine (laws_FnExactUnion.calls k _ _ l0 _ _ l1 true w (Kd.C_of_reads (d := (0 : Int)) (h1 := fun _ => rfl) hr0) hc0 (Kd.C_of_reads (d := (0 : Int)) (h1 := fun _ => rfl) hr1) hc1 rfl h).mono ?_
  rintro e w' ⟨rfl, hd⟩
  exact ⟨rfl, hd⟩

end Go.Proofs.Ytfenclnejjbfjaa.QFnExactUnion
