-- Written by a program of this session (patch_print.py over the print).
import Derived.Test.YtfpbbikhcnpceaaQFnBoundsx0
import Derived.Test.YtfpbbikhcnpceaaQFnBoundsx1
namespace Go.Proofs.Ytfpbbikhcnpceaa.QFnBounds
open Go.RowKit Go.Proofs.YtfpbbikhcnpceaaW.PrintWords Go.Proofs.YtfpbbikhcnpceaaW.PrintLast Go.Proofs.YtfpbbikhcnpceaaW.PrintMore
attribute [local go_sem] max2_int min2_int max_two min_two max_three min_three max_four min_four   -- for this text's walks alone
set_option linter.unusedVariables false
set_option linter.unusedSimpArgs false

theorem Z2_3 {p : Prop} (h : p := by repeat (first | (with_reducible first | exact HB.out | apply below_alloc | apply pw_below_drewN | apply below_drew1) | exact HB.out)) : p := h
theorem Z2_1 {p : Prop} (h : p := by exact (below_step Z2_3 hb)) : p := h
theorem Z2_2 {p : Prop} (h : p := by (try simp only [List.map_toArray, List.map_cons, List.map_nil]); first | done | rfl | (simp only [List.length_drop, List.length_take]; rfl)) : p := h
theorem Z2_4 {p : Prop} (h : p := by first | rfl | (simp [errW_none, errW_some] <;> rfl) | (simp [*, errW_none, errW_some] <;> rfl)) : p := h
theorem Z2_5 {p : Prop} (h : p := by repeat (first | exact Drawn0.refl _ | apply Drawn0.step)) : p := h
theorem Z2_6 {p : Prop} (h : p := by first | rfl | (simp; done) | (simp [*]; done)) : p := h
/-! ### spec_Upto: function 27 -/
def spec_Upto.f (a0 : Int) (a1 : Int) : Option (Int) := if a1 < a0 then (if a1 < 0 then (some 0) else (some a1)) else (if a0 < 0 then (some 0) else (some a0))
set_option maxHeartbeats 8000000 in
set_option maxRecDepth 100000 in
theorem spec_Upto.calls (a0 : Int) (a1 : Int) (r : Int) (w : World) (h : spec_Upto.f a0 a1 = some r) :
    Calls Try.prog 27 #[.int .i64 a0, .int .i64 a1] w fun e w' => e = .returned (.int .i64 r) ∧ Drawn0 w w' := by
  have H : (if a1 < a0 then (if a1 < 0 then (some 0) else (some a1)) else (if a0 < 0 then (some 0) else (some a0))) = some r := h
  clear h
  by_cases c3 : a1 < a0
  · rw [if_pos c3] at H
    have c3b0 : decide (a1 < a0) = true := decide_eq_true c3
    clear c3
    by_cases c4 : a1 < 0
    · rw [if_pos c4] at H
      have c4b0 : decide (a1 < 0) = true := decide_eq_true c4
      clear c4
      obtain rfl := Option.some.inj H
      go_enter Try.func27, Try.ntmps27
      go_wp2
      go_ret
      exact ⟨Z2_6, Z2_5⟩
    rw [if_neg c4] at H
    have c4b0 : decide (a1 < 0) = false := decide_eq_false c4
    clear c4
    obtain rfl := Option.some.inj H
    go_enter Try.func27, Try.ntmps27
    go_wp2
    go_ret
    exact ⟨Z2_6, Z2_5⟩
  rw [if_neg c3] at H
  have c3b0 : decide (a1 < a0) = false := decide_eq_false c3
  clear c3
  by_cases c5 : a0 < 0
  · rw [if_pos c5] at H
    have c5b0 : decide (a0 < 0) = true := decide_eq_true c5
    clear c5
    obtain rfl := Option.some.inj H
    go_enter Try.func27, Try.ntmps27
    go_wp2
    go_ret
    exact ⟨Z2_6, Z2_5⟩
  rw [if_neg c5] at H
  have c5b0 : decide (a0 < 0) = false := decide_eq_false c5
  clear c5
  obtain rfl := Option.some.inj H
  go_enter Try.func27, Try.ntmps27
  go_wp2
  go_ret
  exact ⟨Z2_6, Z2_5⟩

/-! ### laws_FnBounds: function 3 -/
def laws_FnBounds.f (k : Nat) (l0 : List Int) : Option (Bool) := (laws_big.f l0).bind fun t186 => (if t186 = true then (some true) else ((spec_DrawPlus.f k l0).bind fun bt187 => ((impl_Plus.f bt187.1 bt187.2).bind fun t189 => ((impl_Less.f bt187.1 bt187.2).bind fun t190 => ((spec_DrawHalf.f k l0).bind fun t191 => ((impl_Half.f t191).bind fun t192 => ((spec_DrawUpto.f k l0).bind fun bt193 => ((impl_Upto.f bt193.1 bt193.2).bind fun t195 => ((spec_Plus.f bt187.1 bt187.2).bind fun t196 => (if t189 = t196 then ((spec_Less.f bt187.1 bt187.2).bind fun t197 => (if t190 = t197 then ((impl_Twice.f t191).bind fun t198 => ((spec_Twice.f t191).bind fun t199 => (if t198 = t199 then ((spec_Upto.f bt193.1 bt193.2).bind fun t200 => (if t195 = t200 then ((impl_Bound.f bt187.1).bind fun t201 => ((spec_Bound.f bt187.1).bind fun t202 => (if t201 = t202 then ((impl_Plus.f bt187.2 bt187.1).bind fun t203 => (if t189 = t203 then ((impl_Twice.f t192).bind fun t204 => (if t189 ≥ (-2147483647) then (if t189 ≤ 2147483647 then ((impl_Bound.f t189).bind fun t205 => (if t205 = t189 then (if t190 = 2147483647 then ((impl_Bound.f t191).bind fun t206 => (if (wrap64 (t206 - t204)) ≤ 1 then ((impl_Bound.f t191).bind fun t207 => (if (wrap64 (t204 - t207)) ≤ 1 then (if t195 ≥ 0 then (if bt193.1 < 0 then (some true) else (if bt193.2 < 0 then (some true) else (if t195 ≤ bt193.1 then (some (decide (t195 ≤ bt193.2))) else (some false)))) else (some false)) else (some false))) else (some false))) else (if t190 = (-2147483647) then ((impl_Bound.f t191).bind fun t208 => (if (wrap64 (t208 - t204)) ≤ 1 then ((impl_Bound.f t191).bind fun t209 => (if (wrap64 (t204 - t209)) ≤ 1 then (if t195 ≥ 0 then (if bt193.1 < 0 then (some true) else (if bt193.2 < 0 then (some true) else (if t195 ≤ bt193.1 then (some (decide (t195 ≤ bt193.2))) else (some false)))) else (some false)) else (some false))) else (some false))) else ((impl_Plus.f t190 bt187.2).bind fun t210 => ((impl_Bound.f bt187.1).bind fun t211 => (if t210 = t211 then ((impl_Bound.f t191).bind fun t212 => (if (wrap64 (t212 - t204)) ≤ 1 then ((impl_Bound.f t191).bind fun t213 => (if (wrap64 (t204 - t213)) ≤ 1 then (if t195 ≥ 0 then (if bt193.1 < 0 then (some true) else (if bt193.2 < 0 then (some true) else (if t195 ≤ bt193.1 then (some (decide (t195 ≤ bt193.2))) else (some false)))) else (some false)) else (some false))) else (some false))) else (some false)))))) else (some false))) else (some false)) else (some false))) else (some false))) else (some false)))) else (some false))) else (some false)))) else (some false))) else (some false)))))))))))
theorem laws_FnBounds.mono : ∀ a0 k, LeO (laws_FnBounds.f k a0) (laws_FnBounds.f (k + 1) a0) := by
  intro a0 k
  unfold laws_FnBounds.f
  repeat' first
      | (with_reducible exact spec_DrawHalf.mono _ _)
      | (with_reducible exact spec_DrawPlus.mono _ _)
      | (with_reducible exact spec_DrawUpto.mono _ _)
      | (with_reducible exact LeO.refl _)
      | (with_reducible exact LeO.none _)
      | (with_reducible refine LeO.ite ?_ ?_)
      | (with_reducible refine LeO.bind ?_ (fun _ => ?_))
      | exact spec_DrawHalf.mono _ _
      | exact spec_DrawPlus.mono _ _
      | exact spec_DrawUpto.mono _ _
      | exact LeO.none _
      | refine LeO.ite ?_ ?_
      | refine LeO.bind ?_ (fun _ => ?_)
set_option maxHeartbeats 8000000 in
set_option maxRecDepth 100000 in
theorem laws_FnBounds.calls (k : Nat) (A0 : Option Addr) (c0 : Nat) (l0 : List Int) (r : Bool) (w : World) (hr0 : Kd.C (Kd.int .u8) w A0 l0.length l0) (hc0 : l0.length ≤ c0) (hrt : r = true) (h : laws_FnBounds.f k l0 = some r) :
    Calls Try.prog 3 #[.slice A0 l0.length c0] w fun e w' => e = .returned (.bool r) ∧ Below w.heap.size w w' := by
  have HRT := Aside0.mk hrt
  clear hrt
  have HR0 := Aside0.mk hr0
  have HC0 := Aside0.mk hc0
  clear hr0 hc0
  have HB := Aside0.mk (Below.refl w.heap.size w)
  have H : ((laws_big.f l0).bind fun t186 => (if t186 = true then (some true) else ((spec_DrawPlus.f k l0).bind fun bt187 => ((impl_Plus.f bt187.1 bt187.2).bind fun t189 => ((impl_Less.f bt187.1 bt187.2).bind fun t190 => ((spec_DrawHalf.f k l0).bind fun t191 => ((impl_Half.f t191).bind fun t192 => ((spec_DrawUpto.f k l0).bind fun bt193 => ((impl_Upto.f bt193.1 bt193.2).bind fun t195 => ((spec_Plus.f bt187.1 bt187.2).bind fun t196 => (if t189 = t196 then ((spec_Less.f bt187.1 bt187.2).bind fun t197 => (if t190 = t197 then ((impl_Twice.f t191).bind fun t198 => ((spec_Twice.f t191).bind fun t199 => (if t198 = t199 then ((spec_Upto.f bt193.1 bt193.2).bind fun t200 => (if t195 = t200 then ((impl_Bound.f bt187.1).bind fun t201 => ((spec_Bound.f bt187.1).bind fun t202 => (if t201 = t202 then ((impl_Plus.f bt187.2 bt187.1).bind fun t203 => (if t189 = t203 then ((impl_Twice.f t192).bind fun t204 => (if t189 ≥ (-2147483647) then (if t189 ≤ 2147483647 then ((impl_Bound.f t189).bind fun t205 => (if t205 = t189 then (if t190 = 2147483647 then ((impl_Bound.f t191).bind fun t206 => (if (wrap64 (t206 - t204)) ≤ 1 then ((impl_Bound.f t191).bind fun t207 => (if (wrap64 (t204 - t207)) ≤ 1 then (if t195 ≥ 0 then (if bt193.1 < 0 then (some true) else (if bt193.2 < 0 then (some true) else (if t195 ≤ bt193.1 then (some (decide (t195 ≤ bt193.2))) else (some false)))) else (some false)) else (some false))) else (some false))) else (if t190 = (-2147483647) then ((impl_Bound.f t191).bind fun t208 => (if (wrap64 (t208 - t204)) ≤ 1 then ((impl_Bound.f t191).bind fun t209 => (if (wrap64 (t204 - t209)) ≤ 1 then (if t195 ≥ 0 then (if bt193.1 < 0 then (some true) else (if bt193.2 < 0 then (some true) else (if t195 ≤ bt193.1 then (some (decide (t195 ≤ bt193.2))) else (some false)))) else (some false)) else (some false))) else (some false))) else ((impl_Plus.f t190 bt187.2).bind fun t210 => ((impl_Bound.f bt187.1).bind fun t211 => (if t210 = t211 then ((impl_Bound.f t191).bind fun t212 => (if (wrap64 (t212 - t204)) ≤ 1 then ((impl_Bound.f t191).bind fun t213 => (if (wrap64 (t204 - t213)) ≤ 1 then (if t195 ≥ 0 then (if bt193.1 < 0 then (some true) else (if bt193.2 < 0 then (some true) else (if t195 ≤ bt193.1 then (some (decide (t195 ≤ bt193.2))) else (some false)))) else (some false)) else (some false))) else (some false))) else (some false)))))) else (some false))) else (some false)) else (some false))) else (some false))) else (some false)))) else (some false))) else (some false)))) else (some false))) else (some false)))))))))))) = some r := h
  clear h
  replace H := Option.bind_eq_some_iff.mp H
  obtain ⟨t186, A20, H⟩ := H
  replace H : (if t186 = true then (some true) else ((spec_DrawPlus.f k l0).bind fun bt187 => ((impl_Plus.f bt187.1 bt187.2).bind fun t189 => ((impl_Less.f bt187.1 bt187.2).bind fun t190 => ((spec_DrawHalf.f k l0).bind fun t191 => ((impl_Half.f t191).bind fun t192 => ((spec_DrawUpto.f k l0).bind fun bt193 => ((impl_Upto.f bt193.1 bt193.2).bind fun t195 => ((spec_Plus.f bt187.1 bt187.2).bind fun t196 => (if t189 = t196 then ((spec_Less.f bt187.1 bt187.2).bind fun t197 => (if t190 = t197 then ((impl_Twice.f t191).bind fun t198 => ((spec_Twice.f t191).bind fun t199 => (if t198 = t199 then ((spec_Upto.f bt193.1 bt193.2).bind fun t200 => (if t195 = t200 then ((impl_Bound.f bt187.1).bind fun t201 => ((spec_Bound.f bt187.1).bind fun t202 => (if t201 = t202 then ((impl_Plus.f bt187.2 bt187.1).bind fun t203 => (if t189 = t203 then ((impl_Twice.f t192).bind fun t204 => (if t189 ≥ (-2147483647) then (if t189 ≤ 2147483647 then ((impl_Bound.f t189).bind fun t205 => (if t205 = t189 then (if t190 = 2147483647 then ((impl_Bound.f t191).bind fun t206 => (if (wrap64 (t206 - t204)) ≤ 1 then ((impl_Bound.f t191).bind fun t207 => (if (wrap64 (t204 - t207)) ≤ 1 then (if t195 ≥ 0 then (if bt193.1 < 0 then (some true) else (if bt193.2 < 0 then (some true) else (if t195 ≤ bt193.1 then (some (decide (t195 ≤ bt193.2))) else (some false)))) else (some false)) else (some false))) else (some false))) else (if t190 = (-2147483647) then ((impl_Bound.f t191).bind fun t208 => (if (wrap64 (t208 - t204)) ≤ 1 then ((impl_Bound.f t191).bind fun t209 => (if (wrap64 (t204 - t209)) ≤ 1 then (if t195 ≥ 0 then (if bt193.1 < 0 then (some true) else (if bt193.2 < 0 then (some true) else (if t195 ≤ bt193.1 then (some (decide (t195 ≤ bt193.2))) else (some false)))) else (some false)) else (some false))) else (some false))) else ((impl_Plus.f t190 bt187.2).bind fun t210 => ((impl_Bound.f bt187.1).bind fun t211 => (if t210 = t211 then ((impl_Bound.f t191).bind fun t212 => (if (wrap64 (t212 - t204)) ≤ 1 then ((impl_Bound.f t191).bind fun t213 => (if (wrap64 (t204 - t213)) ≤ 1 then (if t195 ≥ 0 then (if bt193.1 < 0 then (some true) else (if bt193.2 < 0 then (some true) else (if t195 ≤ bt193.1 then (some (decide (t195 ≤ bt193.2))) else (some false)))) else (some false)) else (some false))) else (some false))) else (some false)))))) else (some false))) else (some false)) else (some false))) else (some false))) else (some false)))) else (some false))) else (some false)))) else (some false))) else (some false))))))))))) = some r := H
  have A2 := Aside0.mk A20
  clear A20
  by_cases c3 : t186 = true
  · subst c3
    have H1 : (some true) = some r := by rw [if_pos rfl] at H; exact H
    clear H
    have H := H1
    clear H1
    obtain rfl := Option.some.inj H
    go_enter Try.func3, Try.ntmps3
    go_wp2_with (first | (simp only [Act.put, List.setIfInBounds_toArray, List.set_cons_zero, List.set_cons_succ]; go_skip) | ((with_reducible refine gate_callee (f := 15) rfl ?_); refine goesL_ (some 14) rfl rfl Try.func15 (by kernel_rfl) rfl #[.slice A0 l0.length c0] rfl Z2_2 ?_; (with_reducible refine (laws_big.calls _ _ l0 true _ ?side1 ?side2 A2.out).mono ?_); (case side1 => repeat (first | exact HR0.out | (with_reducible refine Kd.C_alloc ?_ _) | (with_reducible refine Kd.C_drewN ?_ _) | (with_reducible refine Kd.C_drew ?_))); (case side2 => exact HC0.out); rintro e w' ⟨rfl, ⟨nd, rfl⟩⟩; refine ⟨_, rfl, ?_⟩))
    all_goals go_ret
    all_goals exact ⟨Z2_4, Z2_3⟩
  replace c3 := Bool.eq_false_iff.mpr c3
  subst c3
  have H1 : ((spec_DrawPlus.f k l0).bind fun bt187 => ((impl_Plus.f bt187.1 bt187.2).bind fun t189 => ((impl_Less.f bt187.1 bt187.2).bind fun t190 => ((spec_DrawHalf.f k l0).bind fun t191 => ((impl_Half.f t191).bind fun t192 => ((spec_DrawUpto.f k l0).bind fun bt193 => ((impl_Upto.f bt193.1 bt193.2).bind fun t195 => ((spec_Plus.f bt187.1 bt187.2).bind fun t196 => (if t189 = t196 then ((spec_Less.f bt187.1 bt187.2).bind fun t197 => (if t190 = t197 then ((impl_Twice.f t191).bind fun t198 => ((spec_Twice.f t191).bind fun t199 => (if t198 = t199 then ((spec_Upto.f bt193.1 bt193.2).bind fun t200 => (if t195 = t200 then ((impl_Bound.f bt187.1).bind fun t201 => ((spec_Bound.f bt187.1).bind fun t202 => (if t201 = t202 then ((impl_Plus.f bt187.2 bt187.1).bind fun t203 => (if t189 = t203 then ((impl_Twice.f t192).bind fun t204 => (if t189 ≥ (-2147483647) then (if t189 ≤ 2147483647 then ((impl_Bound.f t189).bind fun t205 => (if t205 = t189 then (if t190 = 2147483647 then ((impl_Bound.f t191).bind fun t206 => (if (wrap64 (t206 - t204)) ≤ 1 then ((impl_Bound.f t191).bind fun t207 => (if (wrap64 (t204 - t207)) ≤ 1 then (if t195 ≥ 0 then (if bt193.1 < 0 then (some true) else (if bt193.2 < 0 then (some true) else (if t195 ≤ bt193.1 then (some (decide (t195 ≤ bt193.2))) else (some false)))) else (some false)) else (some false))) else (some false))) else (if t190 = (-2147483647) then ((impl_Bound.f t191).bind fun t208 => (if (wrap64 (t208 - t204)) ≤ 1 then ((impl_Bound.f t191).bind fun t209 => (if (wrap64 (t204 - t209)) ≤ 1 then (if t195 ≥ 0 then (if bt193.1 < 0 then (some true) else (if bt193.2 < 0 then (some true) else (if t195 ≤ bt193.1 then (some (decide (t195 ≤ bt193.2))) else (some false)))) else (some false)) else (some false))) else (some false))) else ((impl_Plus.f t190 bt187.2).bind fun t210 => ((impl_Bound.f bt187.1).bind fun t211 => (if t210 = t211 then ((impl_Bound.f t191).bind fun t212 => (if (wrap64 (t212 - t204)) ≤ 1 then ((impl_Bound.f t191).bind fun t213 => (if (wrap64 (t204 - t213)) ≤ 1 then (if t195 ≥ 0 then (if bt193.1 < 0 then (some true) else (if bt193.2 < 0 then (some true) else (if t195 ≤ bt193.1 then (some (decide (t195 ≤ bt193.2))) else (some false)))) else (some false)) else (some false))) else (some false))) else (some false)))))) else (some false))) else (some false)) else (some false))) else (some false))) else (some false)))) else (some false))) else (some false)))) else (some false))) else (some false)))))))))) = some r := by rw [if_neg (show ¬ (false = true) by decide)] at H; exact H
  clear H
  have H := H1
  clear H1
  replace H := Option.bind_eq_some_iff.mp H
  obtain ⟨⟨t187, t188⟩, A40, H⟩ := H
  replace H : ((impl_Plus.f t187 t188).bind fun t189 => ((impl_Less.f t187 t188).bind fun t190 => ((spec_DrawHalf.f k l0).bind fun t191 => ((impl_Half.f t191).bind fun t192 => ((spec_DrawUpto.f k l0).bind fun bt193 => ((impl_Upto.f bt193.1 bt193.2).bind fun t195 => ((spec_Plus.f t187 t188).bind fun t196 => (if t189 = t196 then ((spec_Less.f t187 t188).bind fun t197 => (if t190 = t197 then ((impl_Twice.f t191).bind fun t198 => ((spec_Twice.f t191).bind fun t199 => (if t198 = t199 then ((spec_Upto.f bt193.1 bt193.2).bind fun t200 => (if t195 = t200 then ((impl_Bound.f t187).bind fun t201 => ((spec_Bound.f t187).bind fun t202 => (if t201 = t202 then ((impl_Plus.f t188 t187).bind fun t203 => (if t189 = t203 then ((impl_Twice.f t192).bind fun t204 => (if t189 ≥ (-2147483647) then (if t189 ≤ 2147483647 then ((impl_Bound.f t189).bind fun t205 => (if t205 = t189 then (if t190 = 2147483647 then ((impl_Bound.f t191).bind fun t206 => (if (wrap64 (t206 - t204)) ≤ 1 then ((impl_Bound.f t191).bind fun t207 => (if (wrap64 (t204 - t207)) ≤ 1 then (if t195 ≥ 0 then (if bt193.1 < 0 then (some true) else (if bt193.2 < 0 then (some true) else (if t195 ≤ bt193.1 then (some (decide (t195 ≤ bt193.2))) else (some false)))) else (some false)) else (some false))) else (some false))) else (if t190 = (-2147483647) then ((impl_Bound.f t191).bind fun t208 => (if (wrap64 (t208 - t204)) ≤ 1 then ((impl_Bound.f t191).bind fun t209 => (if (wrap64 (t204 - t209)) ≤ 1 then (if t195 ≥ 0 then (if bt193.1 < 0 then (some true) else (if bt193.2 < 0 then (some true) else (if t195 ≤ bt193.1 then (some (decide (t195 ≤ bt193.2))) else (some false)))) else (some false)) else (some false))) else (some false))) else ((impl_Plus.f t190 t188).bind fun t210 => ((impl_Bound.f t187).bind fun t211 => (if t210 = t211 then ((impl_Bound.f t191).bind fun t212 => (if (wrap64 (t212 - t204)) ≤ 1 then ((impl_Bound.f t191).bind fun t213 => (if (wrap64 (t204 - t213)) ≤ 1 then (if t195 ≥ 0 then (if bt193.1 < 0 then (some true) else (if bt193.2 < 0 then (some true) else (if t195 ≤ bt193.1 then (some (decide (t195 ≤ bt193.2))) else (some false)))) else (some false)) else (some false))) else (some false))) else (some false)))))) else (some false))) else (some false)) else (some false))) else (some false))) else (some false)))) else (some false))) else (some false)))) else (some false))) else (some false))))))))) = some r := H
  have A4 := Aside0.mk A40
  clear A40
  replace H := Option.bind_eq_some_iff.mp H
  obtain ⟨t189, A50, H⟩ := H
  replace H : ((impl_Less.f t187 t188).bind fun t190 => ((spec_DrawHalf.f k l0).bind fun t191 => ((impl_Half.f t191).bind fun t192 => ((spec_DrawUpto.f k l0).bind fun bt193 => ((impl_Upto.f bt193.1 bt193.2).bind fun t195 => ((spec_Plus.f t187 t188).bind fun t196 => (if t189 = t196 then ((spec_Less.f t187 t188).bind fun t197 => (if t190 = t197 then ((impl_Twice.f t191).bind fun t198 => ((spec_Twice.f t191).bind fun t199 => (if t198 = t199 then ((spec_Upto.f bt193.1 bt193.2).bind fun t200 => (if t195 = t200 then ((impl_Bound.f t187).bind fun t201 => ((spec_Bound.f t187).bind fun t202 => (if t201 = t202 then ((impl_Plus.f t188 t187).bind fun t203 => (if t189 = t203 then ((impl_Twice.f t192).bind fun t204 => (if t189 ≥ (-2147483647) then (if t189 ≤ 2147483647 then ((impl_Bound.f t189).bind fun t205 => (if t205 = t189 then (if t190 = 2147483647 then ((impl_Bound.f t191).bind fun t206 => (if (wrap64 (t206 - t204)) ≤ 1 then ((impl_Bound.f t191).bind fun t207 => (if (wrap64 (t204 - t207)) ≤ 1 then (if t195 ≥ 0 then (if bt193.1 < 0 then (some true) else (if bt193.2 < 0 then (some true) else (if t195 ≤ bt193.1 then (some (decide (t195 ≤ bt193.2))) else (some false)))) else (some false)) else (some false))) else (some false))) else (if t190 = (-2147483647) then ((impl_Bound.f t191).bind fun t208 => (if (wrap64 (t208 - t204)) ≤ 1 then ((impl_Bound.f t191).bind fun t209 => (if (wrap64 (t204 - t209)) ≤ 1 then (if t195 ≥ 0 then (if bt193.1 < 0 then (some true) else (if bt193.2 < 0 then (some true) else (if t195 ≤ bt193.1 then (some (decide (t195 ≤ bt193.2))) else (some false)))) else (some false)) else (some false))) else (some false))) else ((impl_Plus.f t190 t188).bind fun t210 => ((impl_Bound.f t187).bind fun t211 => (if t210 = t211 then ((impl_Bound.f t191).bind fun t212 => (if (wrap64 (t212 - t204)) ≤ 1 then ((impl_Bound.f t191).bind fun t213 => (if (wrap64 (t204 - t213)) ≤ 1 then (if t195 ≥ 0 then (if bt193.1 < 0 then (some true) else (if bt193.2 < 0 then (some true) else (if t195 ≤ bt193.1 then (some (decide (t195 ≤ bt193.2))) else (some false)))) else (some false)) else (some false))) else (some false))) else (some false)))))) else (some false))) else (some false)) else (some false))) else (some false))) else (some false)))) else (some false))) else (some false)))) else (some false))) else (some false)))))))) = some r := H
  have A5 := Aside0.mk A50
  clear A50
  replace H := Option.bind_eq_some_iff.mp H
  obtain ⟨t190, A60, H⟩ := H
  replace H : ((spec_DrawHalf.f k l0).bind fun t191 => ((impl_Half.f t191).bind fun t192 => ((spec_DrawUpto.f k l0).bind fun bt193 => ((impl_Upto.f bt193.1 bt193.2).bind fun t195 => ((spec_Plus.f t187 t188).bind fun t196 => (if t189 = t196 then ((spec_Less.f t187 t188).bind fun t197 => (if t190 = t197 then ((impl_Twice.f t191).bind fun t198 => ((spec_Twice.f t191).bind fun t199 => (if t198 = t199 then ((spec_Upto.f bt193.1 bt193.2).bind fun t200 => (if t195 = t200 then ((impl_Bound.f t187).bind fun t201 => ((spec_Bound.f t187).bind fun t202 => (if t201 = t202 then ((impl_Plus.f t188 t187).bind fun t203 => (if t189 = t203 then ((impl_Twice.f t192).bind fun t204 => (if t189 ≥ (-2147483647) then (if t189 ≤ 2147483647 then ((impl_Bound.f t189).bind fun t205 => (if t205 = t189 then (if t190 = 2147483647 then ((impl_Bound.f t191).bind fun t206 => (if (wrap64 (t206 - t204)) ≤ 1 then ((impl_Bound.f t191).bind fun t207 => (if (wrap64 (t204 - t207)) ≤ 1 then (if t195 ≥ 0 then (if bt193.1 < 0 then (some true) else (if bt193.2 < 0 then (some true) else (if t195 ≤ bt193.1 then (some (decide (t195 ≤ bt193.2))) else (some false)))) else (some false)) else (some false))) else (some false))) else (if t190 = (-2147483647) then ((impl_Bound.f t191).bind fun t208 => (if (wrap64 (t208 - t204)) ≤ 1 then ((impl_Bound.f t191).bind fun t209 => (if (wrap64 (t204 - t209)) ≤ 1 then (if t195 ≥ 0 then (if bt193.1 < 0 then (some true) else (if bt193.2 < 0 then (some true) else (if t195 ≤ bt193.1 then (some (decide (t195 ≤ bt193.2))) else (some false)))) else (some false)) else (some false))) else (some false))) else ((impl_Plus.f t190 t188).bind fun t210 => ((impl_Bound.f t187).bind fun t211 => (if t210 = t211 then ((impl_Bound.f t191).bind fun t212 => (if (wrap64 (t212 - t204)) ≤ 1 then ((impl_Bound.f t191).bind fun t213 => (if (wrap64 (t204 - t213)) ≤ 1 then (if t195 ≥ 0 then (if bt193.1 < 0 then (some true) else (if bt193.2 < 0 then (some true) else (if t195 ≤ bt193.1 then (some (decide (t195 ≤ bt193.2))) else (some false)))) else (some false)) else (some false))) else (some false))) else (some false)))))) else (some false))) else (some false)) else (some false))) else (some false))) else (some false)))) else (some false))) else (some false)))) else (some false))) else (some false))))))) = some r := H
  have A6 := Aside0.mk A60
  clear A60
  replace H := Option.bind_eq_some_iff.mp H
  obtain ⟨t191, A70, H⟩ := H
  replace H : ((impl_Half.f t191).bind fun t192 => ((spec_DrawUpto.f k l0).bind fun bt193 => ((impl_Upto.f bt193.1 bt193.2).bind fun t195 => ((spec_Plus.f t187 t188).bind fun t196 => (if t189 = t196 then ((spec_Less.f t187 t188).bind fun t197 => (if t190 = t197 then ((impl_Twice.f t191).bind fun t198 => ((spec_Twice.f t191).bind fun t199 => (if t198 = t199 then ((spec_Upto.f bt193.1 bt193.2).bind fun t200 => (if t195 = t200 then ((impl_Bound.f t187).bind fun t201 => ((spec_Bound.f t187).bind fun t202 => (if t201 = t202 then ((impl_Plus.f t188 t187).bind fun t203 => (if t189 = t203 then ((impl_Twice.f t192).bind fun t204 => (if t189 ≥ (-2147483647) then (if t189 ≤ 2147483647 then ((impl_Bound.f t189).bind fun t205 => (if t205 = t189 then (if t190 = 2147483647 then ((impl_Bound.f t191).bind fun t206 => (if (wrap64 (t206 - t204)) ≤ 1 then ((impl_Bound.f t191).bind fun t207 => (if (wrap64 (t204 - t207)) ≤ 1 then (if t195 ≥ 0 then (if bt193.1 < 0 then (some true) else (if bt193.2 < 0 then (some true) else (if t195 ≤ bt193.1 then (some (decide (t195 ≤ bt193.2))) else (some false)))) else (some false)) else (some false))) else (some false))) else (if t190 = (-2147483647) then ((impl_Bound.f t191).bind fun t208 => (if (wrap64 (t208 - t204)) ≤ 1 then ((impl_Bound.f t191).bind fun t209 => (if (wrap64 (t204 - t209)) ≤ 1 then (if t195 ≥ 0 then (if bt193.1 < 0 then (some true) else (if bt193.2 < 0 then (some true) else (if t195 ≤ bt193.1 then (some (decide (t195 ≤ bt193.2))) else (some false)))) else (some false)) else (some false))) else (some false))) else ((impl_Plus.f t190 t188).bind fun t210 => ((impl_Bound.f t187).bind fun t211 => (if t210 = t211 then ((impl_Bound.f t191).bind fun t212 => (if (wrap64 (t212 - t204)) ≤ 1 then ((impl_Bound.f t191).bind fun t213 => (if (wrap64 (t204 - t213)) ≤ 1 then (if t195 ≥ 0 then (if bt193.1 < 0 then (some true) else (if bt193.2 < 0 then (some true) else (if t195 ≤ bt193.1 then (some (decide (t195 ≤ bt193.2))) else (some false)))) else (some false)) else (some false))) else (some false))) else (some false)))))) else (some false))) else (some false)) else (some false))) else (some false))) else (some false)))) else (some false))) else (some false)))) else (some false))) else (some false)))))) = some r := H
  have A7 := Aside0.mk A70
  clear A70
  replace H := Option.bind_eq_some_iff.mp H
  obtain ⟨t192, A80, H⟩ := H
  replace H : ((spec_DrawUpto.f k l0).bind fun bt193 => ((impl_Upto.f bt193.1 bt193.2).bind fun t195 => ((spec_Plus.f t187 t188).bind fun t196 => (if t189 = t196 then ((spec_Less.f t187 t188).bind fun t197 => (if t190 = t197 then ((impl_Twice.f t191).bind fun t198 => ((spec_Twice.f t191).bind fun t199 => (if t198 = t199 then ((spec_Upto.f bt193.1 bt193.2).bind fun t200 => (if t195 = t200 then ((impl_Bound.f t187).bind fun t201 => ((spec_Bound.f t187).bind fun t202 => (if t201 = t202 then ((impl_Plus.f t188 t187).bind fun t203 => (if t189 = t203 then ((impl_Twice.f t192).bind fun t204 => (if t189 ≥ (-2147483647) then (if t189 ≤ 2147483647 then ((impl_Bound.f t189).bind fun t205 => (if t205 = t189 then (if t190 = 2147483647 then ((impl_Bound.f t191).bind fun t206 => (if (wrap64 (t206 - t204)) ≤ 1 then ((impl_Bound.f t191).bind fun t207 => (if (wrap64 (t204 - t207)) ≤ 1 then (if t195 ≥ 0 then (if bt193.1 < 0 then (some true) else (if bt193.2 < 0 then (some true) else (if t195 ≤ bt193.1 then (some (decide (t195 ≤ bt193.2))) else (some false)))) else (some false)) else (some false))) else (some false))) else (if t190 = (-2147483647) then ((impl_Bound.f t191).bind fun t208 => (if (wrap64 (t208 - t204)) ≤ 1 then ((impl_Bound.f t191).bind fun t209 => (if (wrap64 (t204 - t209)) ≤ 1 then (if t195 ≥ 0 then (if bt193.1 < 0 then (some true) else (if bt193.2 < 0 then (some true) else (if t195 ≤ bt193.1 then (some (decide (t195 ≤ bt193.2))) else (some false)))) else (some false)) else (some false))) else (some false))) else ((impl_Plus.f t190 t188).bind fun t210 => ((impl_Bound.f t187).bind fun t211 => (if t210 = t211 then ((impl_Bound.f t191).bind fun t212 => (if (wrap64 (t212 - t204)) ≤ 1 then ((impl_Bound.f t191).bind fun t213 => (if (wrap64 (t204 - t213)) ≤ 1 then (if t195 ≥ 0 then (if bt193.1 < 0 then (some true) else (if bt193.2 < 0 then (some true) else (if t195 ≤ bt193.1 then (some (decide (t195 ≤ bt193.2))) else (some false)))) else (some false)) else (some false))) else (some false))) else (some false)))))) else (some false))) else (some false)) else (some false))) else (some false))) else (some false)))) else (some false))) else (some false)))) else (some false))) else (some false))))) = some r := H
  have A8 := Aside0.mk A80
  clear A80
  replace H := Option.bind_eq_some_iff.mp H
  obtain ⟨⟨t193, t194⟩, A90, H⟩ := H
  replace H : ((impl_Upto.f t193 t194).bind fun t195 => ((spec_Plus.f t187 t188).bind fun t196 => (if t189 = t196 then ((spec_Less.f t187 t188).bind fun t197 => (if t190 = t197 then ((impl_Twice.f t191).bind fun t198 => ((spec_Twice.f t191).bind fun t199 => (if t198 = t199 then ((spec_Upto.f t193 t194).bind fun t200 => (if t195 = t200 then ((impl_Bound.f t187).bind fun t201 => ((spec_Bound.f t187).bind fun t202 => (if t201 = t202 then ((impl_Plus.f t188 t187).bind fun t203 => (if t189 = t203 then ((impl_Twice.f t192).bind fun t204 => (if t189 ≥ (-2147483647) then (if t189 ≤ 2147483647 then ((impl_Bound.f t189).bind fun t205 => (if t205 = t189 then (if t190 = 2147483647 then ((impl_Bound.f t191).bind fun t206 => (if (wrap64 (t206 - t204)) ≤ 1 then ((impl_Bound.f t191).bind fun t207 => (if (wrap64 (t204 - t207)) ≤ 1 then (if t195 ≥ 0 then (if t193 < 0 then (some true) else (if t194 < 0 then (some true) else (if t195 ≤ t193 then (some (decide (t195 ≤ t194))) else (some false)))) else (some false)) else (some false))) else (some false))) else (if t190 = (-2147483647) then ((impl_Bound.f t191).bind fun t208 => (if (wrap64 (t208 - t204)) ≤ 1 then ((impl_Bound.f t191).bind fun t209 => (if (wrap64 (t204 - t209)) ≤ 1 then (if t195 ≥ 0 then (if t193 < 0 then (some true) else (if t194 < 0 then (some true) else (if t195 ≤ t193 then (some (decide (t195 ≤ t194))) else (some false)))) else (some false)) else (some false))) else (some false))) else ((impl_Plus.f t190 t188).bind fun t210 => ((impl_Bound.f t187).bind fun t211 => (if t210 = t211 then ((impl_Bound.f t191).bind fun t212 => (if (wrap64 (t212 - t204)) ≤ 1 then ((impl_Bound.f t191).bind fun t213 => (if (wrap64 (t204 - t213)) ≤ 1 then (if t195 ≥ 0 then (if t193 < 0 then (some true) else (if t194 < 0 then (some true) else (if t195 ≤ t193 then (some (decide (t195 ≤ t194))) else (some false)))) else (some false)) else (some false))) else (some false))) else (some false)))))) else (some false))) else (some false)) else (some false))) else (some false))) else (some false)))) else (some false))) else (some false)))) else (some false))) else (some false)))) = some r := H
  have A9 := Aside0.mk A90
  clear A90
  replace H := Option.bind_eq_some_iff.mp H
  obtain ⟨t195, A100, H⟩ := H
  replace H : ((spec_Plus.f t187 t188).bind fun t196 => (if t189 = t196 then ((spec_Less.f t187 t188).bind fun t197 => (if t190 = t197 then ((impl_Twice.f t191).bind fun t198 => ((spec_Twice.f t191).bind fun t199 => (if t198 = t199 then ((spec_Upto.f t193 t194).bind fun t200 => (if t195 = t200 then ((impl_Bound.f t187).bind fun t201 => ((spec_Bound.f t187).bind fun t202 => (if t201 = t202 then ((impl_Plus.f t188 t187).bind fun t203 => (if t189 = t203 then ((impl_Twice.f t192).bind fun t204 => (if t189 ≥ (-2147483647) then (if t189 ≤ 2147483647 then ((impl_Bound.f t189).bind fun t205 => (if t205 = t189 then (if t190 = 2147483647 then ((impl_Bound.f t191).bind fun t206 => (if (wrap64 (t206 - t204)) ≤ 1 then ((impl_Bound.f t191).bind fun t207 => (if (wrap64 (t204 - t207)) ≤ 1 then (if t195 ≥ 0 then (if t193 < 0 then (some true) else (if t194 < 0 then (some true) else (if t195 ≤ t193 then (some (decide (t195 ≤ t194))) else (some false)))) else (some false)) else (some false))) else (some false))) else (if t190 = (-2147483647) then ((impl_Bound.f t191).bind fun t208 => (if (wrap64 (t208 - t204)) ≤ 1 then ((impl_Bound.f t191).bind fun t209 => (if (wrap64 (t204 - t209)) ≤ 1 then (if t195 ≥ 0 then (if t193 < 0 then (some true) else (if t194 < 0 then (some true) else (if t195 ≤ t193 then (some (decide (t195 ≤ t194))) else (some false)))) else (some false)) else (some false))) else (some false))) else ((impl_Plus.f t190 t188).bind fun t210 => ((impl_Bound.f t187).bind fun t211 => (if t210 = t211 then ((impl_Bound.f t191).bind fun t212 => (if (wrap64 (t212 - t204)) ≤ 1 then ((impl_Bound.f t191).bind fun t213 => (if (wrap64 (t204 - t213)) ≤ 1 then (if t195 ≥ 0 then (if t193 < 0 then (some true) else (if t194 < 0 then (some true) else (if t195 ≤ t193 then (some (decide (t195 ≤ t194))) else (some false)))) else (some false)) else (some false))) else (some false))) else (some false)))))) else (some false))) else (some false)) else (some false))) else (some false))) else (some false)))) else (some false))) else (some false)))) else (some false))) else (some false))) = some r := H
  have A10 := Aside0.mk A100
  clear A100
  replace H := Option.bind_eq_some_iff.mp H
  obtain ⟨t196, A110, H⟩ := H
  replace H : (if t189 = t196 then ((spec_Less.f t187 t188).bind fun t197 => (if t190 = t197 then ((impl_Twice.f t191).bind fun t198 => ((spec_Twice.f t191).bind fun t199 => (if t198 = t199 then ((spec_Upto.f t193 t194).bind fun t200 => (if t195 = t200 then ((impl_Bound.f t187).bind fun t201 => ((spec_Bound.f t187).bind fun t202 => (if t201 = t202 then ((impl_Plus.f t188 t187).bind fun t203 => (if t189 = t203 then ((impl_Twice.f t192).bind fun t204 => (if t189 ≥ (-2147483647) then (if t189 ≤ 2147483647 then ((impl_Bound.f t189).bind fun t205 => (if t205 = t189 then (if t190 = 2147483647 then ((impl_Bound.f t191).bind fun t206 => (if (wrap64 (t206 - t204)) ≤ 1 then ((impl_Bound.f t191).bind fun t207 => (if (wrap64 (t204 - t207)) ≤ 1 then (if t195 ≥ 0 then (if t193 < 0 then (some true) else (if t194 < 0 then (some true) else (if t195 ≤ t193 then (some (decide (t195 ≤ t194))) else (some false)))) else (some false)) else (some false))) else (some false))) else (if t190 = (-2147483647) then ((impl_Bound.f t191).bind fun t208 => (if (wrap64 (t208 - t204)) ≤ 1 then ((impl_Bound.f t191).bind fun t209 => (if (wrap64 (t204 - t209)) ≤ 1 then (if t195 ≥ 0 then (if t193 < 0 then (some true) else (if t194 < 0 then (some true) else (if t195 ≤ t193 then (some (decide (t195 ≤ t194))) else (some false)))) else (some false)) else (some false))) else (some false))) else ((impl_Plus.f t190 t188).bind fun t210 => ((impl_Bound.f t187).bind fun t211 => (if t210 = t211 then ((impl_Bound.f t191).bind fun t212 => (if (wrap64 (t212 - t204)) ≤ 1 then ((impl_Bound.f t191).bind fun t213 => (if (wrap64 (t204 - t213)) ≤ 1 then (if t195 ≥ 0 then (if t193 < 0 then (some true) else (if t194 < 0 then (some true) else (if t195 ≤ t193 then (some (decide (t195 ≤ t194))) else (some false)))) else (some false)) else (some false))) else (some false))) else (some false)))))) else (some false))) else (some false)) else (some false))) else (some false))) else (some false)))) else (some false))) else (some false)))) else (some false))) else (some false)) = some r := H
  have A11 := Aside0.mk A110
  clear A110
  by_cases c12 : t189 = t196
  rotate_left
  · rw [if_neg c12] at H
    exact absurd (H.trans (congrArg some HRT.out)) (by simp)
  rw [if_pos c12] at H
  have c12b0 : (t189 == t196) = true := beq_iff_eq.mpr c12
  have c12b1 : (t189 != t196) = false := bne_eq_false_iff_eq.mpr c12
  clear c12
  replace H := Option.bind_eq_some_iff.mp H
  obtain ⟨t197, A130, H⟩ := H
  replace H : (if t190 = t197 then ((impl_Twice.f t191).bind fun t198 => ((spec_Twice.f t191).bind fun t199 => (if t198 = t199 then ((spec_Upto.f t193 t194).bind fun t200 => (if t195 = t200 then ((impl_Bound.f t187).bind fun t201 => ((spec_Bound.f t187).bind fun t202 => (if t201 = t202 then ((impl_Plus.f t188 t187).bind fun t203 => (if t189 = t203 then ((impl_Twice.f t192).bind fun t204 => (if t189 ≥ (-2147483647) then (if t189 ≤ 2147483647 then ((impl_Bound.f t189).bind fun t205 => (if t205 = t189 then (if t190 = 2147483647 then ((impl_Bound.f t191).bind fun t206 => (if (wrap64 (t206 - t204)) ≤ 1 then ((impl_Bound.f t191).bind fun t207 => (if (wrap64 (t204 - t207)) ≤ 1 then (if t195 ≥ 0 then (if t193 < 0 then (some true) else (if t194 < 0 then (some true) else (if t195 ≤ t193 then (some (decide (t195 ≤ t194))) else (some false)))) else (some false)) else (some false))) else (some false))) else (if t190 = (-2147483647) then ((impl_Bound.f t191).bind fun t208 => (if (wrap64 (t208 - t204)) ≤ 1 then ((impl_Bound.f t191).bind fun t209 => (if (wrap64 (t204 - t209)) ≤ 1 then (if t195 ≥ 0 then (if t193 < 0 then (some true) else (if t194 < 0 then (some true) else (if t195 ≤ t193 then (some (decide (t195 ≤ t194))) else (some false)))) else (some false)) else (some false))) else (some false))) else ((impl_Plus.f t190 t188).bind fun t210 => ((impl_Bound.f t187).bind fun t211 => (if t210 = t211 then ((impl_Bound.f t191).bind fun t212 => (if (wrap64 (t212 - t204)) ≤ 1 then ((impl_Bound.f t191).bind fun t213 => (if (wrap64 (t204 - t213)) ≤ 1 then (if t195 ≥ 0 then (if t193 < 0 then (some true) else (if t194 < 0 then (some true) else (if t195 ≤ t193 then (some (decide (t195 ≤ t194))) else (some false)))) else (some false)) else (some false))) else (some false))) else (some false)))))) else (some false))) else (some false)) else (some false))) else (some false))) else (some false)))) else (some false))) else (some false)))) else (some false)) = some r := H
  have A13 := Aside0.mk A130
  clear A130
  by_cases c14 : t190 = t197
  rotate_left
  · rw [if_neg c14] at H
    exact absurd (H.trans (congrArg some HRT.out)) (by simp)
  rw [if_pos c14] at H
  have c14b0 : (t190 == t197) = true := beq_iff_eq.mpr c14
  have c14b1 : (t190 != t197) = false := bne_eq_false_iff_eq.mpr c14
  clear c14
  replace H := Option.bind_eq_some_iff.mp H
  obtain ⟨t198, A150, H⟩ := H
  replace H : ((spec_Twice.f t191).bind fun t199 => (if t198 = t199 then ((spec_Upto.f t193 t194).bind fun t200 => (if t195 = t200 then ((impl_Bound.f t187).bind fun t201 => ((spec_Bound.f t187).bind fun t202 => (if t201 = t202 then ((impl_Plus.f t188 t187).bind fun t203 => (if t189 = t203 then ((impl_Twice.f t192).bind fun t204 => (if t189 ≥ (-2147483647) then (if t189 ≤ 2147483647 then ((impl_Bound.f t189).bind fun t205 => (if t205 = t189 then (if t190 = 2147483647 then ((impl_Bound.f t191).bind fun t206 => (if (wrap64 (t206 - t204)) ≤ 1 then ((impl_Bound.f t191).bind fun t207 => (if (wrap64 (t204 - t207)) ≤ 1 then (if t195 ≥ 0 then (if t193 < 0 then (some true) else (if t194 < 0 then (some true) else (if t195 ≤ t193 then (some (decide (t195 ≤ t194))) else (some false)))) else (some false)) else (some false))) else (some false))) else (if t190 = (-2147483647) then ((impl_Bound.f t191).bind fun t208 => (if (wrap64 (t208 - t204)) ≤ 1 then ((impl_Bound.f t191).bind fun t209 => (if (wrap64 (t204 - t209)) ≤ 1 then (if t195 ≥ 0 then (if t193 < 0 then (some true) else (if t194 < 0 then (some true) else (if t195 ≤ t193 then (some (decide (t195 ≤ t194))) else (some false)))) else (some false)) else (some false))) else (some false))) else ((impl_Plus.f t190 t188).bind fun t210 => ((impl_Bound.f t187).bind fun t211 => (if t210 = t211 then ((impl_Bound.f t191).bind fun t212 => (if (wrap64 (t212 - t204)) ≤ 1 then ((impl_Bound.f t191).bind fun t213 => (if (wrap64 (t204 - t213)) ≤ 1 then (if t195 ≥ 0 then (if t193 < 0 then (some true) else (if t194 < 0 then (some true) else (if t195 ≤ t193 then (some (decide (t195 ≤ t194))) else (some false)))) else (some false)) else (some false))) else (some false))) else (some false)))))) else (some false))) else (some false)) else (some false))) else (some false))) else (some false)))) else (some false))) else (some false))) = some r := H
  have A15 := Aside0.mk A150
  clear A150
  replace H := Option.bind_eq_some_iff.mp H
  obtain ⟨t199, A160, H⟩ := H
  replace H : (if t198 = t199 then ((spec_Upto.f t193 t194).bind fun t200 => (if t195 = t200 then ((impl_Bound.f t187).bind fun t201 => ((spec_Bound.f t187).bind fun t202 => (if t201 = t202 then ((impl_Plus.f t188 t187).bind fun t203 => (if t189 = t203 then ((impl_Twice.f t192).bind fun t204 => (if t189 ≥ (-2147483647) then (if t189 ≤ 2147483647 then ((impl_Bound.f t189).bind fun t205 => (if t205 = t189 then (if t190 = 2147483647 then ((impl_Bound.f t191).bind fun t206 => (if (wrap64 (t206 - t204)) ≤ 1 then ((impl_Bound.f t191).bind fun t207 => (if (wrap64 (t204 - t207)) ≤ 1 then (if t195 ≥ 0 then (if t193 < 0 then (some true) else (if t194 < 0 then (some true) else (if t195 ≤ t193 then (some (decide (t195 ≤ t194))) else (some false)))) else (some false)) else (some false))) else (some false))) else (if t190 = (-2147483647) then ((impl_Bound.f t191).bind fun t208 => (if (wrap64 (t208 - t204)) ≤ 1 then ((impl_Bound.f t191).bind fun t209 => (if (wrap64 (t204 - t209)) ≤ 1 then (if t195 ≥ 0 then (if t193 < 0 then (some true) else (if t194 < 0 then (some true) else (if t195 ≤ t193 then (some (decide (t195 ≤ t194))) else (some false)))) else (some false)) else (some false))) else (some false))) else ((impl_Plus.f t190 t188).bind fun t210 => ((impl_Bound.f t187).bind fun t211 => (if t210 = t211 then ((impl_Bound.f t191).bind fun t212 => (if (wrap64 (t212 - t204)) ≤ 1 then ((impl_Bound.f t191).bind fun t213 => (if (wrap64 (t204 - t213)) ≤ 1 then (if t195 ≥ 0 then (if t193 < 0 then (some true) else (if t194 < 0 then (some true) else (if t195 ≤ t193 then (some (decide (t195 ≤ t194))) else (some false)))) else (some false)) else (some false))) else (some false))) else (some false)))))) else (some false))) else (some false)) else (some false))) else (some false))) else (some false)))) else (some false))) else (some false)) = some r := H
  have A16 := Aside0.mk A160
  clear A160
  by_cases c17 : t198 = t199
  rotate_left
  · rw [if_neg c17] at H
    exact absurd (H.trans (congrArg some HRT.out)) (by simp)
  rw [if_pos c17] at H
  have c17b0 : (t198 == t199) = true := beq_iff_eq.mpr c17
  have c17b1 : (t198 != t199) = false := bne_eq_false_iff_eq.mpr c17
  clear c17
  replace H := Option.bind_eq_some_iff.mp H
  obtain ⟨t200, A180, H⟩ := H
  replace H : (if t195 = t200 then ((impl_Bound.f t187).bind fun t201 => ((spec_Bound.f t187).bind fun t202 => (if t201 = t202 then ((impl_Plus.f t188 t187).bind fun t203 => (if t189 = t203 then ((impl_Twice.f t192).bind fun t204 => (if t189 ≥ (-2147483647) then (if t189 ≤ 2147483647 then ((impl_Bound.f t189).bind fun t205 => (if t205 = t189 then (if t190 = 2147483647 then ((impl_Bound.f t191).bind fun t206 => (if (wrap64 (t206 - t204)) ≤ 1 then ((impl_Bound.f t191).bind fun t207 => (if (wrap64 (t204 - t207)) ≤ 1 then (if t195 ≥ 0 then (if t193 < 0 then (some true) else (if t194 < 0 then (some true) else (if t195 ≤ t193 then (some (decide (t195 ≤ t194))) else (some false)))) else (some false)) else (some false))) else (some false))) else (if t190 = (-2147483647) then ((impl_Bound.f t191).bind fun t208 => (if (wrap64 (t208 - t204)) ≤ 1 then ((impl_Bound.f t191).bind fun t209 => (if (wrap64 (t204 - t209)) ≤ 1 then (if t195 ≥ 0 then (if t193 < 0 then (some true) else (if t194 < 0 then (some true) else (if t195 ≤ t193 then (some (decide (t195 ≤ t194))) else (some false)))) else (some false)) else (some false))) else (some false))) else ((impl_Plus.f t190 t188).bind fun t210 => ((impl_Bound.f t187).bind fun t211 => (if t210 = t211 then ((impl_Bound.f t191).bind fun t212 => (if (wrap64 (t212 - t204)) ≤ 1 then ((impl_Bound.f t191).bind fun t213 => (if (wrap64 (t204 - t213)) ≤ 1 then (if t195 ≥ 0 then (if t193 < 0 then (some true) else (if t194 < 0 then (some true) else (if t195 ≤ t193 then (some (decide (t195 ≤ t194))) else (some false)))) else (some false)) else (some false))) else (some false))) else (some false)))))) else (some false))) else (some false)) else (some false))) else (some false))) else (some false)))) else (some false)) = some r := H
  have A18 := Aside0.mk A180
  clear A180
  by_cases c19 : t195 = t200
  rotate_left
  · rw [if_neg c19] at H
    exact absurd (H.trans (congrArg some HRT.out)) (by simp)
  rw [if_pos c19] at H
  have c19b0 : (t195 == t200) = true := beq_iff_eq.mpr c19
  have c19b1 : (t195 != t200) = false := bne_eq_false_iff_eq.mpr c19
  clear c19
  replace H := Option.bind_eq_some_iff.mp H
  obtain ⟨t201, A200, H⟩ := H
  replace H : ((spec_Bound.f t187).bind fun t202 => (if t201 = t202 then ((impl_Plus.f t188 t187).bind fun t203 => (if t189 = t203 then ((impl_Twice.f t192).bind fun t204 => (if t189 ≥ (-2147483647) then (if t189 ≤ 2147483647 then ((impl_Bound.f t189).bind fun t205 => (if t205 = t189 then (if t190 = 2147483647 then ((impl_Bound.f t191).bind fun t206 => (if (wrap64 (t206 - t204)) ≤ 1 then ((impl_Bound.f t191).bind fun t207 => (if (wrap64 (t204 - t207)) ≤ 1 then (if t195 ≥ 0 then (if t193 < 0 then (some true) else (if t194 < 0 then (some true) else (if t195 ≤ t193 then (some (decide (t195 ≤ t194))) else (some false)))) else (some false)) else (some false))) else (some false))) else (if t190 = (-2147483647) then ((impl_Bound.f t191).bind fun t208 => (if (wrap64 (t208 - t204)) ≤ 1 then ((impl_Bound.f t191).bind fun t209 => (if (wrap64 (t204 - t209)) ≤ 1 then (if t195 ≥ 0 then (if t193 < 0 then (some true) else (if t194 < 0 then (some true) else (if t195 ≤ t193 then (some (decide (t195 ≤ t194))) else (some false)))) else (some false)) else (some false))) else (some false))) else ((impl_Plus.f t190 t188).bind fun t210 => ((impl_Bound.f t187).bind fun t211 => (if t210 = t211 then ((impl_Bound.f t191).bind fun t212 => (if (wrap64 (t212 - t204)) ≤ 1 then ((impl_Bound.f t191).bind fun t213 => (if (wrap64 (t204 - t213)) ≤ 1 then (if t195 ≥ 0 then (if t193 < 0 then (some true) else (if t194 < 0 then (some true) else (if t195 ≤ t193 then (some (decide (t195 ≤ t194))) else (some false)))) else (some false)) else (some false))) else (some false))) else (some false)))))) else (some false))) else (some false)) else (some false))) else (some false))) else (some false))) = some r := H
  have A20 := Aside0.mk A200
  clear A200
  replace H := Option.bind_eq_some_iff.mp H
  obtain ⟨t202, A210, H⟩ := H
  replace H : (if t201 = t202 then ((impl_Plus.f t188 t187).bind fun t203 => (if t189 = t203 then ((impl_Twice.f t192).bind fun t204 => (if t189 ≥ (-2147483647) then (if t189 ≤ 2147483647 then ((impl_Bound.f t189).bind fun t205 => (if t205 = t189 then (if t190 = 2147483647 then ((impl_Bound.f t191).bind fun t206 => (if (wrap64 (t206 - t204)) ≤ 1 then ((impl_Bound.f t191).bind fun t207 => (if (wrap64 (t204 - t207)) ≤ 1 then (if t195 ≥ 0 then (if t193 < 0 then (some true) else (if t194 < 0 then (some true) else (if t195 ≤ t193 then (some (decide (t195 ≤ t194))) else (some false)))) else (some false)) else (some false))) else (some false))) else (if t190 = (-2147483647) then ((impl_Bound.f t191).bind fun t208 => (if (wrap64 (t208 - t204)) ≤ 1 then ((impl_Bound.f t191).bind fun t209 => (if (wrap64 (t204 - t209)) ≤ 1 then (if t195 ≥ 0 then (if t193 < 0 then (some true) else (if t194 < 0 then (some true) else (if t195 ≤ t193 then (some (decide (t195 ≤ t194))) else (some false)))) else (some false)) else (some false))) else (some false))) else ((impl_Plus.f t190 t188).bind fun t210 => ((impl_Bound.f t187).bind fun t211 => (if t210 = t211 then ((impl_Bound.f t191).bind fun t212 => (if (wrap64 (t212 - t204)) ≤ 1 then ((impl_Bound.f t191).bind fun t213 => (if (wrap64 (t204 - t213)) ≤ 1 then (if t195 ≥ 0 then (if t193 < 0 then (some true) else (if t194 < 0 then (some true) else (if t195 ≤ t193 then (some (decide (t195 ≤ t194))) else (some false)))) else (some false)) else (some false))) else (some false))) else (some false)))))) else (some false))) else (some false)) else (some false))) else (some false))) else (some false)) = some r := H
  have A21 := Aside0.mk A210
  clear A210
  by_cases c22 : t201 = t202
  rotate_left
  · rw [if_neg c22] at H
    exact absurd (H.trans (congrArg some HRT.out)) (by simp)
  rw [if_pos c22] at H
  have c22b0 : (t201 == t202) = true := beq_iff_eq.mpr c22
  have c22b1 : (t201 != t202) = false := bne_eq_false_iff_eq.mpr c22
  clear c22
  replace H := Option.bind_eq_some_iff.mp H
  obtain ⟨t203, A230, H⟩ := H
  replace H : (if t189 = t203 then ((impl_Twice.f t192).bind fun t204 => (if t189 ≥ (-2147483647) then (if t189 ≤ 2147483647 then ((impl_Bound.f t189).bind fun t205 => (if t205 = t189 then (if t190 = 2147483647 then ((impl_Bound.f t191).bind fun t206 => (if (wrap64 (t206 - t204)) ≤ 1 then ((impl_Bound.f t191).bind fun t207 => (if (wrap64 (t204 - t207)) ≤ 1 then (if t195 ≥ 0 then (if t193 < 0 then (some true) else (if t194 < 0 then (some true) else (if t195 ≤ t193 then (some (decide (t195 ≤ t194))) else (some false)))) else (some false)) else (some false))) else (some false))) else (if t190 = (-2147483647) then ((impl_Bound.f t191).bind fun t208 => (if (wrap64 (t208 - t204)) ≤ 1 then ((impl_Bound.f t191).bind fun t209 => (if (wrap64 (t204 - t209)) ≤ 1 then (if t195 ≥ 0 then (if t193 < 0 then (some true) else (if t194 < 0 then (some true) else (if t195 ≤ t193 then (some (decide (t195 ≤ t194))) else (some false)))) else (some false)) else (some false))) else (some false))) else ((impl_Plus.f t190 t188).bind fun t210 => ((impl_Bound.f t187).bind fun t211 => (if t210 = t211 then ((impl_Bound.f t191).bind fun t212 => (if (wrap64 (t212 - t204)) ≤ 1 then ((impl_Bound.f t191).bind fun t213 => (if (wrap64 (t204 - t213)) ≤ 1 then (if t195 ≥ 0 then (if t193 < 0 then (some true) else (if t194 < 0 then (some true) else (if t195 ≤ t193 then (some (decide (t195 ≤ t194))) else (some false)))) else (some false)) else (some false))) else (some false))) else (some false)))))) else (some false))) else (some false)) else (some false))) else (some false)) = some r := H
  have A23 := Aside0.mk A230
  clear A230
  by_cases c24 : t189 = t203
  rotate_left
  · rw [if_neg c24] at H
    exact absurd (H.trans (congrArg some HRT.out)) (by simp)
  rw [if_pos c24] at H
  have c24b0 : (t189 == t203) = true := beq_iff_eq.mpr c24
  have c24b1 : (t189 != t203) = false := bne_eq_false_iff_eq.mpr c24
  clear c24
  replace H := Option.bind_eq_some_iff.mp H
  obtain ⟨t204, A250, H⟩ := H
  replace H : (if t189 ≥ (-2147483647) then (if t189 ≤ 2147483647 then ((impl_Bound.f t189).bind fun t205 => (if t205 = t189 then (if t190 = 2147483647 then ((impl_Bound.f t191).bind fun t206 => (if (wrap64 (t206 - t204)) ≤ 1 then ((impl_Bound.f t191).bind fun t207 => (if (wrap64 (t204 - t207)) ≤ 1 then (if t195 ≥ 0 then (if t193 < 0 then (some true) else (if t194 < 0 then (some true) else (if t195 ≤ t193 then (some (decide (t195 ≤ t194))) else (some false)))) else (some false)) else (some false))) else (some false))) else (if t190 = (-2147483647) then ((impl_Bound.f t191).bind fun t208 => (if (wrap64 (t208 - t204)) ≤ 1 then ((impl_Bound.f t191).bind fun t209 => (if (wrap64 (t204 - t209)) ≤ 1 then (if t195 ≥ 0 then (if t193 < 0 then (some true) else (if t194 < 0 then (some true) else (if t195 ≤ t193 then (some (decide (t195 ≤ t194))) else (some false)))) else (some false)) else (some false))) else (some false))) else ((impl_Plus.f t190 t188).bind fun t210 => ((impl_Bound.f t187).bind fun t211 => (if t210 = t211 then ((impl_Bound.f t191).bind fun t212 => (if (wrap64 (t212 - t204)) ≤ 1 then ((impl_Bound.f t191).bind fun t213 => (if (wrap64 (t204 - t213)) ≤ 1 then (if t195 ≥ 0 then (if t193 < 0 then (some true) else (if t194 < 0 then (some true) else (if t195 ≤ t193 then (some (decide (t195 ≤ t194))) else (some false)))) else (some false)) else (some false))) else (some false))) else (some false)))))) else (some false))) else (some false)) else (some false)) = some r := H
  have A25 := Aside0.mk A250
  clear A250
  by_cases c26 : t189 ≥ (-2147483647)
  rotate_left
  · rw [if_neg c26] at H
    exact absurd (H.trans (congrArg some HRT.out)) (by simp)
  rw [if_pos c26] at H
  have c26b0 : decide ((-2147483647) ≤ t189) = true := decide_eq_true c26
  clear c26
  by_cases c27 : t189 ≤ 2147483647
  rotate_left
  · rw [if_neg c27] at H
    exact absurd (H.trans (congrArg some HRT.out)) (by simp)
  rw [if_pos c27] at H
  have c27b0 : decide (t189 ≤ 2147483647) = true := decide_eq_true c27
  clear c27
  replace H := Option.bind_eq_some_iff.mp H
  obtain ⟨t205, A280, H⟩ := H
  replace H : (if t205 = t189 then (if t190 = 2147483647 then ((impl_Bound.f t191).bind fun t206 => (if (wrap64 (t206 - t204)) ≤ 1 then ((impl_Bound.f t191).bind fun t207 => (if (wrap64 (t204 - t207)) ≤ 1 then (if t195 ≥ 0 then (if t193 < 0 then (some true) else (if t194 < 0 then (some true) else (if t195 ≤ t193 then (some (decide (t195 ≤ t194))) else (some false)))) else (some false)) else (some false))) else (some false))) else (if t190 = (-2147483647) then ((impl_Bound.f t191).bind fun t208 => (if (wrap64 (t208 - t204)) ≤ 1 then ((impl_Bound.f t191).bind fun t209 => (if (wrap64 (t204 - t209)) ≤ 1 then (if t195 ≥ 0 then (if t193 < 0 then (some true) else (if t194 < 0 then (some true) else (if t195 ≤ t193 then (some (decide (t195 ≤ t194))) else (some false)))) else (some false)) else (some false))) else (some false))) else ((impl_Plus.f t190 t188).bind fun t210 => ((impl_Bound.f t187).bind fun t211 => (if t210 = t211 then ((impl_Bound.f t191).bind fun t212 => (if (wrap64 (t212 - t204)) ≤ 1 then ((impl_Bound.f t191).bind fun t213 => (if (wrap64 (t204 - t213)) ≤ 1 then (if t195 ≥ 0 then (if t193 < 0 then (some true) else (if t194 < 0 then (some true) else (if t195 ≤ t193 then (some (decide (t195 ≤ t194))) else (some false)))) else (some false)) else (some false))) else (some false))) else (some false)))))) else (some false)) = some r := H
  have A28 := Aside0.mk A280
  clear A280
  by_cases c29 : t205 = t189
  rotate_left
  · rw [if_neg c29] at H
    exact absurd (H.trans (congrArg some HRT.out)) (by simp)
  rw [if_pos c29] at H
  have c29b0 : (t205 == t189) = true := beq_iff_eq.mpr c29
  have c29b1 : (t205 != t189) = false := bne_eq_false_iff_eq.mpr c29
  clear c29
  go_enter Try.func3, Try.ntmps3
  repeat' (first | (simp only [Act.put, List.setIfInBounds_toArray, List.set_cons_zero, List.set_cons_succ]; go_skip) | ((with_reducible refine gate_callee (f := 15) rfl ?_); refine goesL_ (some 14) rfl rfl Try.func15 (by kernel_rfl) rfl #[.slice A0 l0.length c0] rfl Z2_2 ?_; (with_reducible refine (laws_big.calls _ _ l0 false _ ?side1 ?side2 A2.out).mono ?_); (case side1 => repeat (first | exact HR0.out | (with_reducible refine Kd.C_alloc ?_ _) | (with_reducible refine Kd.C_drewN ?_ _) | (with_reducible refine Kd.C_drew ?_))); (case side2 => exact HC0.out); rintro e w' ⟨rfl, ⟨nd, rfl⟩⟩; refine ⟨_, rfl, ?_⟩) | ((with_reducible refine gate_callee (f := 16) rfl ?_); refine goesL_ (some 17) rfl rfl Try.func16 (by kernel_rfl) rfl #[.slice A0 l0.length c0] rfl Z2_2 ?_; (with_reducible refine (spec_DrawPlus.calls k _ _ l0 t187 t188 _ ?side1 ?side2 A4.out).mono ?_); (case side1 => repeat (first | exact HR0.out | (with_reducible refine Kd.C_alloc ?_ _) | (with_reducible refine Kd.C_drewN ?_ _) | (with_reducible refine Kd.C_drew ?_))); (case side2 => exact HC0.out); rintro e w37 ⟨rfl, hb⟩; refine ⟨_, rfl, ?_⟩; have n0_ := Aside0.mk Z2_1; clear HB; have HB := n0_; clear n0_; (try clear hb); (try clear hb2); (try clear hk); (try clear hi); clear A4) | ((with_reducible refine gate_callee (f := 17) rfl ?_); refine goesL_ (some 22) rfl rfl Try.func17 (by kernel_rfl) rfl #[.int .i64 t187, .int .i64 t188] rfl Z2_2 ?_; (with_reducible refine (impl_Plus.calls t187 t188 t189 _ A5.out).mono ?_); rintro e w38 ⟨rfl, hb⟩; refine ⟨_, rfl, ?_⟩; have n0_ := Aside0.mk Z2_1; clear HB; have HB := n0_; clear n0_; (try clear hb); (try clear hb2); (try clear hk); (try clear hi); clear A5) | ((with_reducible refine gate_callee (f := 18) rfl ?_); refine goesL_ (some 25) rfl rfl Try.func18 (by kernel_rfl) rfl #[.int .i64 t187, .int .i64 t188] rfl Z2_2 ?_; (with_reducible refine (impl_Less.calls t187 t188 t190 _ A6.out).mono ?_); rintro e w39 ⟨rfl, hb⟩; refine ⟨_, rfl, ?_⟩; have n0_ := Aside0.mk Z2_1; clear HB; have HB := n0_; clear n0_; (try clear hb); (try clear hb2); (try clear hk); (try clear hi); clear A6) | ((with_reducible refine gate_callee (f := 19) rfl ?_); refine goesL_ (some 27) rfl rfl Try.func19 (by kernel_rfl) rfl #[.slice A0 l0.length c0] rfl Z2_2 ?_; (with_reducible refine (spec_DrawHalf.calls k _ _ l0 t191 _ ?side1 ?side2 A7.out).mono ?_); (case side1 => repeat (first | exact (Kd.C_below HR0.out HB.out) | (with_reducible refine Kd.C_alloc ?_ _) | (with_reducible refine Kd.C_drewN ?_ _) | (with_reducible refine Kd.C_drew ?_))); (case side2 => exact HC0.out); rintro e w40 ⟨rfl, hb⟩; refine ⟨_, rfl, ?_⟩; have n0_ := Aside0.mk Z2_1; clear HB; have HB := n0_; clear n0_; (try clear hb); (try clear hb2); (try clear hk); (try clear hi); clear A7) | ((with_reducible refine gate_callee (f := 20) rfl ?_); refine goesL_ (some 29) rfl rfl Try.func20 (by kernel_rfl) rfl #[.int .i64 t191] rfl Z2_2 ?_; (with_reducible refine (impl_Half.calls t191 t192 _ A8.out).mono ?_); rintro e w41 ⟨rfl, hb⟩; refine ⟨_, rfl, ?_⟩; have n0_ := Aside0.mk Z2_1; clear HB; have HB := n0_; clear n0_; (try clear hb); (try clear hb2); (try clear hk); (try clear hi); clear A8) | ((with_reducible refine gate_callee (f := 21) rfl ?_); refine goesL_ (some 32) rfl rfl Try.func21 (by kernel_rfl) rfl #[.slice A0 l0.length c0] rfl Z2_2 ?_; (with_reducible refine (spec_DrawUpto.calls k _ _ l0 t193 t194 _ ?side1 ?side2 A9.out).mono ?_); (case side1 => repeat (first | exact (Kd.C_below HR0.out HB.out) | (with_reducible refine Kd.C_alloc ?_ _) | (with_reducible refine Kd.C_drewN ?_ _) | (with_reducible refine Kd.C_drew ?_))); (case side2 => exact HC0.out); rintro e w42 ⟨rfl, hb⟩; refine ⟨_, rfl, ?_⟩; have n0_ := Aside0.mk Z2_1; clear HB; have HB := n0_; clear n0_; (try clear hb); (try clear hb2); (try clear hk); (try clear hi); clear A9) | ((with_reducible refine gate_callee (f := 22) rfl ?_); refine goesL_ (some 37) rfl rfl Try.func22 (by kernel_rfl) rfl #[.int .i64 t193, .int .i64 t194] rfl Z2_2 ?_; (with_reducible refine (impl_Upto.calls t193 t194 t195 _ A10.out).mono ?_); rintro e w43 ⟨rfl, hb⟩; refine ⟨_, rfl, ?_⟩; have n0_ := Aside0.mk Z2_1; clear HB; have HB := n0_; clear n0_; (try clear hb); (try clear hb2); (try clear hk); (try clear hi); clear A10) | ((with_reducible refine gate_callee (f := 23) rfl ?_); refine goesL_ (some 41) rfl rfl Try.func23 (by kernel_rfl) rfl #[.int .i64 t187, .int .i64 t188] rfl Z2_2 ?_; (with_reducible refine (spec_Plus.calls t187 t188 t196 _ A11.out).mono ?_); rintro e w' ⟨rfl, ⟨nd, rfl⟩⟩; refine ⟨_, rfl, ?_⟩) | (go_at_call 24; (with_reducible refine (spec_Less.calls t187 t188 t197 _ A13.out).mono ?_); rintro e w' ⟨rfl, ⟨nd, rfl⟩⟩) | (go_at_call 25; (with_reducible refine (impl_Twice.calls t191 t198 _ A15.out).mono ?_); rintro e w44 ⟨rfl, hb⟩; have n0_ := Aside0.mk Z2_1; clear HB; have HB := n0_; clear n0_; (try clear hb); (try clear hb2); (try clear hk); (try clear hi); clear A15) | (go_at_call 26; (with_reducible refine (spec_Twice.calls t191 t199 _ A16.out).mono ?_); rintro e w' ⟨rfl, ⟨nd, rfl⟩⟩) | (go_at_call 27; (with_reducible refine (spec_Upto.calls t193 t194 t200 _ A18.out).mono ?_); rintro e w' ⟨rfl, ⟨nd, rfl⟩⟩) | (go_at_call 28; (with_reducible refine (impl_Bound.calls t187 t201 _ A20.out).mono ?_); rintro e w45 ⟨rfl, hb⟩; have n0_ := Aside0.mk Z2_1; clear HB; have HB := n0_; clear n0_; (try clear hb); (try clear hb2); (try clear hk); (try clear hi); clear A20) | (go_at_call 29; (with_reducible refine (spec_Bound.calls t187 t202 _ A21.out).mono ?_); rintro e w' ⟨rfl, ⟨nd, rfl⟩⟩) | (go_at_call 17; (with_reducible refine (impl_Plus.calls t188 t187 t203 _ A23.out).mono ?_); rintro e w46 ⟨rfl, hb⟩; have n0_ := Aside0.mk Z2_1; clear HB; have HB := n0_; clear n0_; (try clear hb); (try clear hb2); (try clear hk); (try clear hi); clear A23) | ((with_reducible refine gate_callee (f := 25) rfl ?_); refine goesL_ (some 79) rfl rfl Try.func25 (by kernel_rfl) rfl #[.int .i64 t192] rfl Z2_2 ?_; (with_reducible refine (impl_Twice.calls t192 t204 _ A25.out).mono ?_); rintro e w47 ⟨rfl, hb⟩; refine ⟨_, rfl, ?_⟩; have n0_ := Aside0.mk Z2_1; clear HB; have HB := n0_; clear n0_; (try clear hb); (try clear hb2); (try clear hk); (try clear hi); clear A25) | ((fail_if_success (go_at_call 28)); (first | go_values | go_skip | go_guarded | go_step | go_upon | go_back | (simp only [Int.not_lt, Int.not_le] at *; go_simp) | (go_ite <;> go_prune <;> (try go_simp)) | (split <;> (first | (rename_i hx; exact (hx _ rfl).elim) | go_prune)))))
  by_cases c30 : t190 = 2147483647
  · rw [if_pos c30] at H
    have c30b0 : (t190 == 2147483647) = true := beq_iff_eq.mpr c30
    have c30b1 : (t190 != 2147483647) = false := bne_eq_false_iff_eq.mpr c30
    clear c30
    replace H := Option.bind_eq_some_iff.mp H
    obtain ⟨t206, A310, H⟩ := H
    replace H : (if (wrap64 (t206 - t204)) ≤ 1 then ((impl_Bound.f t191).bind fun t207 => (if (wrap64 (t204 - t207)) ≤ 1 then (if t195 ≥ 0 then (if t193 < 0 then (some true) else (if t194 < 0 then (some true) else (if t195 ≤ t193 then (some (decide (t195 ≤ t194))) else (some false)))) else (some false)) else (some false))) else (some false)) = some r := H
    have A31 := Aside0.mk A310
    clear A310
    by_cases c32 : (wrap64 (t206 - t204)) ≤ 1
    rotate_left
    · rw [if_neg c32] at H
      exact absurd (H.trans (congrArg some HRT.out)) (by simp)
    rw [if_pos c32] at H
    have c32b0 : decide ((wrap64 (t206 - t204)) ≤ 1) = true := decide_eq_true c32
    clear c32
    replace H := Option.bind_eq_some_iff.mp H
    obtain ⟨t207, A330, H⟩ := H
    replace H : (if (wrap64 (t204 - t207)) ≤ 1 then (if t195 ≥ 0 then (if t193 < 0 then (some true) else (if t194 < 0 then (some true) else (if t195 ≤ t193 then (some (decide (t195 ≤ t194))) else (some false)))) else (some false)) else (some false)) = some r := H
    have A33 := Aside0.mk A330
    clear A330
    by_cases c34 : (wrap64 (t204 - t207)) ≤ 1
    rotate_left
    · rw [if_neg c34] at H
      exact absurd (H.trans (congrArg some HRT.out)) (by simp)
    rw [if_pos c34] at H
    have c34b0 : decide ((wrap64 (t204 - t207)) ≤ 1) = true := decide_eq_true c34
    clear c34
    by_cases c35 : t195 ≥ 0
    rotate_left
    · rw [if_neg c35] at H
      exact absurd (H.trans (congrArg some HRT.out)) (by simp)
    rw [if_pos c35] at H
    have c35b0 : decide (0 ≤ t195) = true := decide_eq_true c35
    clear c35
    repeat' (first | (simp only [Act.put, List.setIfInBounds_toArray, List.set_cons_zero, List.set_cons_succ]; go_skip) | (go_at_call 28; (with_reducible refine (impl_Bound.calls t189 t205 _ A28.out).mono ?_); rintro e w48 ⟨rfl, hb⟩; have n0_ := Aside0.mk Z2_1; clear HB; have HB := n0_; clear n0_; (try clear hb); (try clear hb2); (try clear hk); (try clear hi); clear A28) | (go_at_call 28; (with_reducible refine (impl_Bound.calls t191 t206 _ A31.out).mono ?_); rintro e w49 ⟨rfl, hb⟩; have n0_ := Aside0.mk Z2_1; clear HB; have HB := n0_; clear n0_; (try clear hb); (try clear hb2); (try clear hk); (try clear hi); clear A31) | ((fail_if_success (go_at_call 28)); (first | go_values | go_skip | go_guarded | go_step | go_upon | go_back | (simp only [Int.not_lt, Int.not_le] at *; go_simp) | (go_ite <;> go_prune <;> (try go_simp)) | (split <;> (first | (rename_i hx; exact (hx _ rfl).elim) | go_prune)))))
    by_cases c36 : t193 < 0
    · rw [if_pos c36] at H
      have c36b0 : decide (t193 < 0) = true := decide_eq_true c36
      clear c36
      obtain rfl := Option.some.inj H
      go_wp2_with (first | (simp only [Act.put, List.setIfInBounds_toArray, List.set_cons_zero, List.set_cons_succ]; go_skip) | (go_at_call 28; (with_reducible refine (impl_Bound.calls t191 t207 _ A33.out).mono ?_); rintro e w50 ⟨rfl, hb⟩; have n0_ := Aside0.mk Z2_1; clear HB; have HB := n0_; clear n0_; (try clear hb); (try clear hb2); (try clear hk); (try clear hi)))
      all_goals go_ret
      all_goals exact ⟨Z2_4, Z2_3⟩
    rw [if_neg c36] at H
    have c36b0 : decide (t193 < 0) = false := decide_eq_false c36
    clear c36
    by_cases c51 : t194 < 0
    · rw [if_pos c51] at H
      have c51b0 : decide (t194 < 0) = true := decide_eq_true c51
      clear c51
      obtain rfl := Option.some.inj H
      go_wp2_with (first | (simp only [Act.put, List.setIfInBounds_toArray, List.set_cons_zero, List.set_cons_succ]; go_skip) | (go_at_call 28; (with_reducible refine (impl_Bound.calls t191 t207 _ A33.out).mono ?_); rintro e w50 ⟨rfl, hb⟩; have n0_ := Aside0.mk Z2_1; clear HB; have HB := n0_; clear n0_; (try clear hb); (try clear hb2); (try clear hk); (try clear hi)))
      all_goals go_ret
      all_goals exact ⟨Z2_4, Z2_3⟩
    rw [if_neg c51] at H
    have c51b0 : decide (t194 < 0) = false := decide_eq_false c51
    clear c51
    by_cases c66 : t195 ≤ t193
    rotate_left
    · rw [if_neg c66] at H
      exact absurd (H.trans (congrArg some HRT.out)) (by simp)
    rw [if_pos c66] at H
    have c66b0 : decide (t195 ≤ t193) = true := decide_eq_true c66
    clear c66
    obtain rfl := Option.some.inj H
    go_wp2_with (first | (simp only [Act.put, List.setIfInBounds_toArray, List.set_cons_zero, List.set_cons_succ]; go_skip) | (go_at_call 28; (with_reducible refine (impl_Bound.calls t191 t207 _ A33.out).mono ?_); rintro e w50 ⟨rfl, hb⟩; have n0_ := Aside0.mk Z2_1; clear HB; have HB := n0_; clear n0_; (try clear hb); (try clear hb2); (try clear hk); (try clear hi)))
    all_goals go_ret
    all_goals exact ⟨Z2_4, Z2_3⟩
  rw [if_neg c30] at H
  have c30b0 : (t190 == 2147483647) = false := beq_eq_false_iff_ne.mpr c30
  have c30b1 : (t190 != 2147483647) = true := bne_iff_ne.mpr c30
  by_cases c81 : t190 = (-2147483647)
  · rw [if_pos c81] at H
    have c81b0 : (t190 == (-2147483647)) = true := beq_iff_eq.mpr c81
    have c81b1 : (t190 != (-2147483647)) = false := bne_eq_false_iff_eq.mpr c81
    clear c81
    replace H := Option.bind_eq_some_iff.mp H
    obtain ⟨t208, A820, H⟩ := H
    replace H : (if (wrap64 (t208 - t204)) ≤ 1 then ((impl_Bound.f t191).bind fun t209 => (if (wrap64 (t204 - t209)) ≤ 1 then (if t195 ≥ 0 then (if t193 < 0 then (some true) else (if t194 < 0 then (some true) else (if t195 ≤ t193 then (some (decide (t195 ≤ t194))) else (some false)))) else (some false)) else (some false))) else (some false)) = some r := H
    have A82 := Aside0.mk A820
    clear A820
    by_cases c83 : (wrap64 (t208 - t204)) ≤ 1
    rotate_left
    · rw [if_neg c83] at H
      exact absurd (H.trans (congrArg some HRT.out)) (by simp)
    rw [if_pos c83] at H
    have c83b0 : decide ((wrap64 (t208 - t204)) ≤ 1) = true := decide_eq_true c83
    clear c83
    replace H := Option.bind_eq_some_iff.mp H
    obtain ⟨t209, A840, H⟩ := H
    replace H : (if (wrap64 (t204 - t209)) ≤ 1 then (if t195 ≥ 0 then (if t193 < 0 then (some true) else (if t194 < 0 then (some true) else (if t195 ≤ t193 then (some (decide (t195 ≤ t194))) else (some false)))) else (some false)) else (some false)) = some r := H
    have A84 := Aside0.mk A840
    clear A840
    by_cases c85 : (wrap64 (t204 - t209)) ≤ 1
    rotate_left
    · rw [if_neg c85] at H
      exact absurd (H.trans (congrArg some HRT.out)) (by simp)
    rw [if_pos c85] at H
    have c85b0 : decide ((wrap64 (t204 - t209)) ≤ 1) = true := decide_eq_true c85
    clear c85
    by_cases c86 : t195 ≥ 0
    rotate_left
    · rw [if_neg c86] at H
      exact absurd (H.trans (congrArg some HRT.out)) (by simp)
    rw [if_pos c86] at H
    have c86b0 : decide (0 ≤ t195) = true := decide_eq_true c86
    clear c86
    repeat' (first | (simp only [Act.put, List.setIfInBounds_toArray, List.set_cons_zero, List.set_cons_succ]; go_skip) | (go_at_call 28; (with_reducible refine (impl_Bound.calls t189 t205 _ A28.out).mono ?_); rintro e w48 ⟨rfl, hb⟩; have n0_ := Aside0.mk Z2_1; clear HB; have HB := n0_; clear n0_; (try clear hb); (try clear hb2); (try clear hk); (try clear hi); clear A28) | (go_at_call 28; (with_reducible refine (impl_Bound.calls t191 t208 _ A82.out).mono ?_); rintro e w100 ⟨rfl, hb⟩; have n0_ := Aside0.mk Z2_1; clear HB; have HB := n0_; clear n0_; (try clear hb); (try clear hb2); (try clear hk); (try clear hi); clear A82) | ((fail_if_success (go_at_call 28)); (first | go_values | go_skip | go_guarded | go_step | go_upon | go_back | (simp only [Int.not_lt, Int.not_le] at *; go_simp) | (go_ite <;> go_prune <;> (try go_simp)) | (split <;> (first | (rename_i hx; exact (hx _ rfl).elim) | go_prune)))))
    by_cases c87 : t193 < 0
    · rw [if_pos c87] at H
      have c87b0 : decide (t193 < 0) = true := decide_eq_true c87
      clear c87
      obtain rfl := Option.some.inj H
      go_wp2_with (first | (simp only [Act.put, List.setIfInBounds_toArray, List.set_cons_zero, List.set_cons_succ]; go_skip) | (go_at_call 28; (with_reducible refine (impl_Bound.calls t191 t209 _ A84.out).mono ?_); rintro e w101 ⟨rfl, hb⟩; have n0_ := Aside0.mk Z2_1; clear HB; have HB := n0_; clear n0_; (try clear hb); (try clear hb2); (try clear hk); (try clear hi)))
      all_goals go_ret
      all_goals exact ⟨Z2_4, Z2_3⟩
    rw [if_neg c87] at H
    have c87b0 : decide (t193 < 0) = false := decide_eq_false c87
    clear c87
    by_cases c102 : t194 < 0
    · rw [if_pos c102] at H
      have c102b0 : decide (t194 < 0) = true := decide_eq_true c102
      clear c102
      obtain rfl := Option.some.inj H
      go_wp2_with (first | (simp only [Act.put, List.setIfInBounds_toArray, List.set_cons_zero, List.set_cons_succ]; go_skip) | (go_at_call 28; (with_reducible refine (impl_Bound.calls t191 t209 _ A84.out).mono ?_); rintro e w101 ⟨rfl, hb⟩; have n0_ := Aside0.mk Z2_1; clear HB; have HB := n0_; clear n0_; (try clear hb); (try clear hb2); (try clear hk); (try clear hi)))
      all_goals go_ret
      all_goals exact ⟨Z2_4, Z2_3⟩
    rw [if_neg c102] at H
    have c102b0 : decide (t194 < 0) = false := decide_eq_false c102
    clear c102
    by_cases c117 : t195 ≤ t193
    rotate_left
    · rw [if_neg c117] at H
      exact absurd (H.trans (congrArg some HRT.out)) (by simp)
    rw [if_pos c117] at H
    have c117b0 : decide (t195 ≤ t193) = true := decide_eq_true c117
    clear c117
    obtain rfl := Option.some.inj H
    go_wp2_with (first | (simp only [Act.put, List.setIfInBounds_toArray, List.set_cons_zero, List.set_cons_succ]; go_skip) | (go_at_call 28; (with_reducible refine (impl_Bound.calls t191 t209 _ A84.out).mono ?_); rintro e w101 ⟨rfl, hb⟩; have n0_ := Aside0.mk Z2_1; clear HB; have HB := n0_; clear n0_; (try clear hb); (try clear hb2); (try clear hk); (try clear hi)))
    all_goals go_ret
    all_goals exact ⟨Z2_4, Z2_3⟩
  rw [if_neg c81] at H
  have c81b0 : (t190 == (-2147483647)) = false := beq_eq_false_iff_ne.mpr c81
  have c81b1 : (t190 != (-2147483647)) = true := bne_iff_ne.mpr c81
  replace H := Option.bind_eq_some_iff.mp H
  obtain ⟨t210, A1320, H⟩ := H
  replace H : ((impl_Bound.f t187).bind fun t211 => (if t210 = t211 then ((impl_Bound.f t191).bind fun t212 => (if (wrap64 (t212 - t204)) ≤ 1 then ((impl_Bound.f t191).bind fun t213 => (if (wrap64 (t204 - t213)) ≤ 1 then (if t195 ≥ 0 then (if t193 < 0 then (some true) else (if t194 < 0 then (some true) else (if t195 ≤ t193 then (some (decide (t195 ≤ t194))) else (some false)))) else (some false)) else (some false))) else (some false))) else (some false))) = some r := H
  have A132 := Aside0.mk A1320
  clear A1320
  replace H := Option.bind_eq_some_iff.mp H
  obtain ⟨t211, A1330, H⟩ := H
  replace H : (if t210 = t211 then ((impl_Bound.f t191).bind fun t212 => (if (wrap64 (t212 - t204)) ≤ 1 then ((impl_Bound.f t191).bind fun t213 => (if (wrap64 (t204 - t213)) ≤ 1 then (if t195 ≥ 0 then (if t193 < 0 then (some true) else (if t194 < 0 then (some true) else (if t195 ≤ t193 then (some (decide (t195 ≤ t194))) else (some false)))) else (some false)) else (some false))) else (some false))) else (some false)) = some r := H
  have A133 := Aside0.mk A1330
  clear A1330
  by_cases c134 : t210 = t211
  rotate_left
  · rw [if_neg c134] at H
    exact absurd (H.trans (congrArg some HRT.out)) (by simp)
  rw [if_pos c134] at H
  have c134b0 : (t210 == t211) = true := beq_iff_eq.mpr c134
  have c134b1 : (t210 != t211) = false := bne_eq_false_iff_eq.mpr c134
  clear c134
  replace H := Option.bind_eq_some_iff.mp H
  obtain ⟨t212, A1350, H⟩ := H
  replace H : (if (wrap64 (t212 - t204)) ≤ 1 then ((impl_Bound.f t191).bind fun t213 => (if (wrap64 (t204 - t213)) ≤ 1 then (if t195 ≥ 0 then (if t193 < 0 then (some true) else (if t194 < 0 then (some true) else (if t195 ≤ t193 then (some (decide (t195 ≤ t194))) else (some false)))) else (some false)) else (some false))) else (some false)) = some r := H
  have A135 := Aside0.mk A1350
  clear A1350
  by_cases c136 : (wrap64 (t212 - t204)) ≤ 1
  rotate_left
  · rw [if_neg c136] at H
    exact absurd (H.trans (congrArg some HRT.out)) (by simp)
  rw [if_pos c136] at H
  have c136b0 : decide ((wrap64 (t212 - t204)) ≤ 1) = true := decide_eq_true c136
  clear c136
  replace H := Option.bind_eq_some_iff.mp H
  obtain ⟨t213, A1370, H⟩ := H
  replace H : (if (wrap64 (t204 - t213)) ≤ 1 then (if t195 ≥ 0 then (if t193 < 0 then (some true) else (if t194 < 0 then (some true) else (if t195 ≤ t193 then (some (decide (t195 ≤ t194))) else (some false)))) else (some false)) else (some false)) = some r := H
  have A137 := Aside0.mk A1370
  clear A1370
  by_cases c138 : (wrap64 (t204 - t213)) ≤ 1
  rotate_left
  · rw [if_neg c138] at H
    exact absurd (H.trans (congrArg some HRT.out)) (by simp)
  rw [if_pos c138] at H
  have c138b0 : decide ((wrap64 (t204 - t213)) ≤ 1) = true := decide_eq_true c138
  clear c138
  by_cases c139 : t195 ≥ 0
  rotate_left
  · rw [if_neg c139] at H
    exact absurd (H.trans (congrArg some HRT.out)) (by simp)
  rw [if_pos c139] at H
  have c139b0 : decide (0 ≤ t195) = true := decide_eq_true c139
  clear c139
  repeat' (first | (simp only [Act.put, List.setIfInBounds_toArray, List.set_cons_zero, List.set_cons_succ]; go_skip) | (go_at_call 28; (with_reducible refine (impl_Bound.calls t189 t205 _ A28.out).mono ?_); rintro e w48 ⟨rfl, hb⟩; have n0_ := Aside0.mk Z2_1; clear HB; have HB := n0_; clear n0_; (try clear hb); (try clear hb2); (try clear hk); (try clear hi); clear A28) | (go_at_call 17; (with_reducible refine (impl_Plus.calls t190 t188 t210 _ A132.out).mono ?_); rintro e w153 ⟨rfl, hb⟩; have n0_ := Aside0.mk Z2_1; clear HB; have HB := n0_; clear n0_; (try clear hb); (try clear hb2); (try clear hk); (try clear hi); clear A132) | (go_at_call 28; (with_reducible refine (impl_Bound.calls t187 t211 _ A133.out).mono ?_); rintro e w154 ⟨rfl, hb⟩; have n0_ := Aside0.mk Z2_1; clear HB; have HB := n0_; clear n0_; (try clear hb); (try clear hb2); (try clear hk); (try clear hi); clear A133) | (go_at_call 28; (with_reducible refine (impl_Bound.calls t191 t212 _ A135.out).mono ?_); rintro e w155 ⟨rfl, hb⟩; have n0_ := Aside0.mk Z2_1; clear HB; have HB := n0_; clear n0_; (try clear hb); (try clear hb2); (try clear hk); (try clear hi); clear A135) | ((fail_if_success (go_at_call 28)); (first | go_values | go_skip | go_guarded | go_step | go_upon | go_back | (simp only [Int.not_lt, Int.not_le] at *; go_simp) | (go_ite <;> go_prune <;> (try go_simp)) | (split <;> (first | (rename_i hx; exact (hx _ rfl).elim) | go_prune)))))
  by_cases c140 : t193 < 0
  · rw [if_pos c140] at H
    have c140b0 : decide (t193 < 0) = true := decide_eq_true c140
    clear c140
    obtain rfl := Option.some.inj H
    go_wp2_with (first | (simp only [Act.put, List.setIfInBounds_toArray, List.set_cons_zero, List.set_cons_succ]; go_skip) | (go_at_call 28; (with_reducible refine (impl_Bound.calls t191 t213 _ A137.out).mono ?_); rintro e w156 ⟨rfl, hb⟩; have n0_ := Aside0.mk Z2_1; clear HB; have HB := n0_; clear n0_; (try clear hb); (try clear hb2); (try clear hk); (try clear hi)))
    all_goals go_ret
    all_goals exact ⟨Z2_4, Z2_3⟩
  rw [if_neg c140] at H
  have c140b0 : decide (t193 < 0) = false := decide_eq_false c140
  clear c140
  by_cases c157 : t194 < 0
  · rw [if_pos c157] at H
    have c157b0 : decide (t194 < 0) = true := decide_eq_true c157
    clear c157
    obtain rfl := Option.some.inj H
    go_wp2_with (first | (simp only [Act.put, List.setIfInBounds_toArray, List.set_cons_zero, List.set_cons_succ]; go_skip) | (go_at_call 28; (with_reducible refine (impl_Bound.calls t191 t213 _ A137.out).mono ?_); rintro e w156 ⟨rfl, hb⟩; have n0_ := Aside0.mk Z2_1; clear HB; have HB := n0_; clear n0_; (try clear hb); (try clear hb2); (try clear hk); (try clear hi)))
    all_goals go_ret
    all_goals exact ⟨Z2_4, Z2_3⟩
  rw [if_neg c157] at H
  have c157b0 : decide (t194 < 0) = false := decide_eq_false c157
  clear c157
  by_cases c174 : t195 ≤ t193
  rotate_left
  · rw [if_neg c174] at H
    exact absurd (H.trans (congrArg some HRT.out)) (by simp)
  rw [if_pos c174] at H
  have c174b0 : decide (t195 ≤ t193) = true := decide_eq_true c174
  clear c174
  obtain rfl := Option.some.inj H
  go_wp2_with (first | (simp only [Act.put, List.setIfInBounds_toArray, List.set_cons_zero, List.set_cons_succ]; go_skip) | (go_at_call 28; (with_reducible refine (impl_Bound.calls t191 t213 _ A137.out).mono ?_); rintro e w156 ⟨rfl, hb⟩; have n0_ := Aside0.mk Z2_1; clear HB; have HB := n0_; clear n0_; (try clear hb); (try clear hb2); (try clear hk); (try clear hi)))
  all_goals go_ret
  all_goals exact ⟨Z2_4, Z2_3⟩

/-- THE ONE PURE STATEMENT of laws_FnBounds: yours. -/
def laws_FnBounds.Pure : Prop := ∀ (l0 : List Int), l0.length ≤ maxLen → l0.length * 1 ≤ 140737488351232 → (∀ x ∈ l0, (Lit.int .u8 x).wf = true) → ∃ k, laws_FnBounds.f k l0 = some true
theorem laws_FnBounds.walk (P : laws_FnBounds.Pure) (a0 : Option Addr) (len0 cap0 : Nat) (z0 : List Int) (w : World) (w0 : (a0 = none ∧ len0 = 0 ∧ cap0 = 0 ∧ z0 = []) ∨ ∃ x, a0 = some x ∧ len0 ≤ cap0 ∧ cap0 ≤ maxLen ∧ z0.length = cap0 ∧ (∀ i, i < z0.length → w.cell? (x.add i) = some (.int .u8 (z0.getD i 0))) ∧ ∀ n ∈ z0, (Lit.int .u8 n).wf = true) (y0 : len0 * 1 ≤ 140737488351232) :
    Calls Try.prog 3 #[.slice a0 len0 cap0] w fun e w' => e = .returned (.bool true) ∧ Below w.heap.size w w' := by
  obtain ⟨l0, rfl, hr0, hm0, hw0, hc0⟩ := ReadsInt.ofRowC w0
  obtain ⟨k, h⟩ := P l0 hm0 y0 hw0
  refine (laws_FnBounds.calls k _ _ l0 true w (Kd.C_of_reads (d := (0 : Int)) (h1 := fun _ => rfl) hr0) hc0 rfl h).mono ?_
  rintro e w' ⟨rfl, hd⟩
  exact ⟨rfl, hd⟩

end Go.Proofs.Ytfpbbikhcnpceaa.QFnBounds
