-- Written by a program of this session (patch_print.py over the print).
import Derived.Test.YtfpbbikhcnpceaaQFnNumsx0
import Derived.Test.YtfpbbikhcnpceaaQFnNumsx1
import Derived.Test.YtfpbbikhcnpceaaQFnNumsx2
namespace Go.Proofs.Ytfpbbikhcnpceaa.QFnNums
open Go.RowKit Go.Proofs.YtfpbbikhcnpceaaW.PrintWords Go.Proofs.YtfpbbikhcnpceaaW.PrintLast Go.Proofs.YtfpbbikhcnpceaaW.PrintMore
attribute [local go_sem] max2_int min2_int max_two min_two max_three min_three max_four min_four   -- for this text's walks alone
set_option linter.unusedVariables false
set_option linter.unusedSimpArgs false

def M3_58 (k : Nat) : Array Bool := ((List.range 58).map fun j => k.testBit j).toArray
theorem Z3_19 {p : Prop} (h : p := by (with_reducible repeat (first | apply Kd.R_alloc | apply Kd.R_drewN | apply Kd.R_drew)); exact HO240.out) : p := h
theorem Z3_20 {p : Prop} (h : p := by (with_reducible repeat (first | apply Kd.R_alloc | apply Kd.R_drewN | apply Kd.R_drew)); exact HO243.out) : p := h
theorem Z3_14 {p : Prop} (h : p := by repeat (first | (with_reducible first | exact HB.out | apply below_alloc | apply pw_below_drewN | apply below_drew1) | exact HB.out)) : p := h
theorem Z3_1 {p : Prop} (h : p := by exact (Kd.R_lower (Kd.R_new' (Kd.R_new' ho0 (Kd.R_lt Z3_19)) (Kd.R_lt Z3_20)) (below_size Z3_14))) : p := h
theorem Z3_2 {p : Prop} (h : p := by exact (Kd.R_lower (Kd.R_new' ho0 (Kd.R_lt Z3_19)) (below_size Z3_14))) : p := h
theorem Z3_4 {p : Prop} (h : p := by repeat (first | (with_reducible exact HR261.out) | (with_reducible refine Kd.C_alloc ?_ _) | (with_reducible refine Kd.C_drewN ?_ _) | (with_reducible refine Kd.C_drew ?_) | exact HR261.out)) : p := h
theorem Z3_3 {p : Prop} (h : p := by exact (Kd.C_below Z3_4 hb)) : p := h
theorem Z3_5 {p : Prop} (h : p := by rw [← hq_]; exact (by (with_reducible repeat (first | apply Kd.R_alloc | apply Kd.R_drewN | apply Kd.R_drew)); exact Kd.R_mono HO240.out (fun _ hk => ⟨hk.1.2, hk.2⟩))) : p := h
theorem Z3_6 {p : Prop} (h : p := by rw [← hq_]; exact (by (with_reducible repeat (first | apply Kd.R_alloc | apply Kd.R_drewN | apply Kd.R_drew)); exact Kd.R_mono HO243.out (fun _ hk => ⟨hk.1.2, hk.2⟩))) : p := h
theorem Z3_7 {p : Prop} (h : p := by rw [← hq_]; exact (by (with_reducible repeat (first | apply Kd.R_alloc | apply Kd.R_drewN | apply Kd.R_drew)); exact Kd.R_mono HO250.out (fun _ hk => ⟨hk.1.2, hk.2⟩))) : p := h
theorem Z3_8 {p : Prop} (h : p := by exact (Kd.R_lower ho0 (below_size Z3_14))) : p := h
theorem Z3_9 {p : Prop} (h : p := by rw [← hq_]; exact Z3_14) : p := h
theorem Z3_10 {p : Prop} (h : p := by exact (below_step Z3_14 hb)) : p := h
theorem Z3_11 {p : Prop} (h : p := by (try simp only [List.map_toArray, List.map_cons, List.map_nil]); first | done | rfl | (simp only [List.length_drop, List.length_take]; rfl)) : p := h
theorem Z3_12 {p : Prop} (h : p := by exact (Kd.R_elder' Z3_19 (Kd.R_base ho0) hb)) : p := h
theorem Z3_13 {p : Prop} (h : p := by exact (Kd.R_elder' Z3_20 (Kd.R_base ho0) hb)) : p := h
theorem Z3_15 {p : Prop} (h : p := by exact (Kd.R_below Z3_19 hb)) : p := h
theorem Z3_16 {p : Prop} (h : p := by exact (Kd.R_below Z3_20 hb)) : p := h
theorem Z3_21 {p : Prop} (h : p := by (with_reducible repeat (first | apply Kd.R_alloc | apply Kd.R_drewN | apply Kd.R_drew)); exact HO250.out) : p := h
theorem Z3_17 {p : Prop} (h : p := by exact (Kd.R_below Z3_21 hb)) : p := h
theorem Z3_18 {p : Prop} (h : p := by simp only [Act.put, List.setIfInBounds_toArray, List.set_cons_zero, List.set_cons_succ, i64_w, i32_w]; rfl) : p := h
theorem Z3_22 {p : Prop} (h : p := by (with_reducible repeat (first | apply Kd.R_alloc | apply Kd.R_drewN | apply Kd.R_drew)); exact HO265.out) : p := h
theorem Z3_23 {p : Prop} (h : p := by first | rfl | (simp [errW_none, errW_some] <;> rfl) | (simp [*, errW_none, errW_some] <;> rfl)) : p := h
theorem Z3_24 {p : Prop} (h : p := by first | (with_reducible assumption) | assumption) : p := h
/-! ### laws_FnNums: function 4 -/
def laws_FnNums.f (k : Nat) (l0 : List Int) : Option (Bool) := (laws_big.f l0).bind fun t236 => (if t236 = true then (some true) else ((spec_DrawPutNum.f k l0).bind fun bt237 => ((impl_PutNum.f bt237.1 bt237.2).bind fun t241 => ((impl_GetNum.f k t241 (bt237.1.length : Int)).bind fun bt244 => ((spec_DrawGetNum.f k l0).bind fun bt247 => ((impl_GetNum.f k bt247.1 bt247.2).bind fun bt251 => ((spec_GetNum.f k bt247.1 bt247.2).bind fun bt254 => (if bt244.2.2 = true then ((impl_Bound.f bt237.2).bind fun t257 => (if bt244.1 = t257 then (if bt244.2.1 = (t241.length : Int) then (if bt244.2.1 = (wrap64 ((bt237.1.length : Int) + 4)) then (if 0 ≤ (bt237.1.length : Int) then (if (bt237.1.length : Int) ≤ (t241.length : Int) then ((laws_same.f (t241.take ((bt237.1.length : Int) : Int).toNat) bt237.1).bind fun t262 => (if t262 = true then (if bt251.1 = bt254.1 then (if bt251.2.1 = bt254.2.1 then (if (bt251.2.2 == bt254.2.2) = true then (if bt251.2.2 = true then ((impl_PutNum.f (([] : List Int)) bt251.1).bind fun t266 => (if 0 ≤ bt247.2 then (if bt247.2 ≤ bt251.2.1 then (if bt251.2.1 ≤ (bt247.1.length : Int) then ((laws_same.f t266 ((bt247.1.take (bt251.2.1 : Int).toNat).drop (bt247.2 : Int).toNat)).bind fun t273 => (some t273)) else (none)) else (none)) else (none))) else (some true)) else (some false)) else (some false)) else (some false)) else (some false))) else (none)) else (none)) else (some false)) else (some false)) else (some false))) else (some false)))))))))
theorem laws_FnNums.mono : ∀ a0 k, LeO (laws_FnNums.f k a0) (laws_FnNums.f (k + 1) a0) := by
  intro a0 k
  unfold laws_FnNums.f
  repeat' first
      | (with_reducible exact impl_GetNum.mono _ _ _)
      | (with_reducible exact spec_DrawGetNum.mono _ _)
      | (with_reducible exact spec_DrawPutNum.mono _ _)
      | (with_reducible exact spec_GetNum.mono _ _ _)
      | (with_reducible exact LeO.refl _)
      | (with_reducible exact LeO.none _)
      | (with_reducible refine LeO.ite ?_ ?_)
      | (with_reducible refine LeO.bind ?_ (fun _ => ?_))
      | exact impl_GetNum.mono _ _ _
      | exact spec_DrawGetNum.mono _ _
      | exact spec_DrawPutNum.mono _ _
      | exact spec_GetNum.mono _ _ _
      | exact LeO.none _
      | refine LeO.ite ?_ ?_
      | refine LeO.bind ?_ (fun _ => ?_)
def laws_FnNums.T9 : Bool × List (List Nat × List Nat) := (true, [([], []), ([0], [0]), ([1], [1]), ([1], [1]), ([3, 1, 1], [1, 3]), ([2, 4, 1], [1, 2, 4]), ([1, 5], [1, 5]), ([6, 4], [6]), ([7], [7]), ([7], [7]), ([9, 7], [7, 9]), ([8, 10, 7], [7, 8, 10]), ([7, 11], [7, 11]), ([12, 7], [12]), ([13], [13]), ([13], [13]), ([15, 13], [13, 15]), ([16, 13], [13, 16]), ([14, 17, 13], [13, 14, 17]), ([13, 18], [13, 18]), ([19, 13], [19]), ([20], [20]), ([20], [20]), ([22, 20], [20, 22]), ([21, 23, 20], [20, 21, 23]), ([20], [20]), ([24, 25, 20, 20], [20, 24, 25]), ([20, 26], [20, 26]), ([27, 26], [27]), ([28], [28]), ([28], [28]), ([29, 30, 28], [28, 29, 30]), ([28, 31], [28, 31]), ([32, 28], [32]), ([33], [33]), ([33], [33]), ([34, 35, 33], [33, 34, 35]), ([33, 36], [33, 36]), ([37, 33], [37]), ([38], [38]), ([38], [38]), ([39, 40, 38], [38, 39, 40]), ([38, 41], [38, 41]), ([42, 38], [42]), ([43], [43]), ([44, 43], [43, 44]), ([45, 43, 43], [43, 45]), ([46], [46]), ([46], [46]), ([47, 48, 46, 46], [46, 47, 48]), ([46], [46]), ([46], [46]), ([46], [46]), ([50, 51, 52, 46], [46, 50, 51, 52]), ([49, 53, 49, 46], [46, 49, 53]), ([46, 54, 43], [43, 46, 54]), ([43, 55], [43, 55]), ([56, 54, 0, 1, 2, 3, 4, 5, 6, 7, 8, 9, 10, 11, 12, 13, 14, 15, 16, 17, 18, 19, 20, 21, 22, 23, 24, 25, 26, 27, 28, 29, 30, 31, 32, 33, 34, 35, 36, 37, 38, 39, 40, 41, 42, 43, 44, 45, 46, 47, 48, 49, 50, 51, 52, 53, 54, 55, 56], [56])])
def laws_FnNums.B9 : List Nat := [0, 1, 3, 3, 11, 31, 63, 127, 255, 255, 767, 2047, 4095, 8191, 16383, 16383, 49151, 114687, 262143, 524287, 1048575, 2097151, 2097151, 6291455, 16777215, 2097151, 67108863, 134217727, 268435455, 536870911, 536870911, 2147483647, 4294967295, 8589934591, 17179869183, 17179869183, 68719476735, 137438953471, 274877906943, 549755813887, 549755813887, 2199023255551, 4398046511103, 8796093022207, 17592186044415, 35184372088831, 70368744177663, 140737488355327, 140737488355327, 562949953421311, 140737488355327, 140737488355327, 140737488355327, 8022036836253695, 18014398509481983, 36028797018963967, 72057594037927935, 144115188075855871]
theorem laws_FnNums.tab9 : rtab .any (opsOf Try.f4 9) = laws_FnNums.T9 := by kernel_rfl
theorem laws_FnNums.bits9 : waitsOk laws_FnNums.T9.2 laws_FnNums.B9 = true := by kernel_rfl
set_option maxHeartbeats 8000000 in
set_option maxRecDepth 100000 in
theorem laws_FnNums.calls (k : Nat) (A0 : Option Addr) (c0 : Nat) (l0 : List Int) (r : Bool) (w : World) (hr0 : Kd.C (Kd.int .u8) w A0 l0.length l0) (hc0 : l0.length ≤ c0) (hrt : r = true) (h : laws_FnNums.f k l0 = some r) :
    Calls Try.prog 4 #[.slice A0 l0.length c0] w fun e w' => e = .returned (.bool r) ∧ Below w.heap.size w w' := by
  have HRT := Aside0.mk hrt
  clear hrt
  have HR0 := Aside0.mk hr0
  have HC0 := Aside0.mk hc0
  clear hr0 hc0
  have HB := Aside0.mk (Below.refl w.heap.size w)
  have H : ((laws_big.f l0).bind fun t236 => (if t236 = true then (some true) else ((spec_DrawPutNum.f k l0).bind fun bt237 => ((impl_PutNum.f bt237.1 bt237.2).bind fun t241 => ((impl_GetNum.f k t241 (bt237.1.length : Int)).bind fun bt244 => ((spec_DrawGetNum.f k l0).bind fun bt247 => ((impl_GetNum.f k bt247.1 bt247.2).bind fun bt251 => ((spec_GetNum.f k bt247.1 bt247.2).bind fun bt254 => (if bt244.2.2 = true then ((impl_Bound.f bt237.2).bind fun t257 => (if bt244.1 = t257 then (if bt244.2.1 = (t241.length : Int) then (if bt244.2.1 = (wrap64 ((bt237.1.length : Int) + 4)) then (if 0 ≤ (bt237.1.length : Int) then (if (bt237.1.length : Int) ≤ (t241.length : Int) then ((laws_same.f (t241.take ((bt237.1.length : Int) : Int).toNat) bt237.1).bind fun t262 => (if t262 = true then (if bt251.1 = bt254.1 then (if bt251.2.1 = bt254.2.1 then (if (bt251.2.2 == bt254.2.2) = true then (if bt251.2.2 = true then ((impl_PutNum.f (([] : List Int)) bt251.1).bind fun t266 => (if 0 ≤ bt247.2 then (if bt247.2 ≤ bt251.2.1 then (if bt251.2.1 ≤ (bt247.1.length : Int) then ((laws_same.f t266 ((bt247.1.take (bt251.2.1 : Int).toNat).drop (bt247.2 : Int).toNat)).bind fun t273 => (some t273)) else (none)) else (none)) else (none))) else (some true)) else (some false)) else (some false)) else (some false)) else (some false))) else (none)) else (none)) else (some false)) else (some false)) else (some false))) else (some false)))))))))) = some r := h
  clear h
  replace H := Option.bind_eq_some_iff.mp H
  obtain ⟨t236, A20, H⟩ := H
  replace H : (if t236 = true then (some true) else ((spec_DrawPutNum.f k l0).bind fun bt237 => ((impl_PutNum.f bt237.1 bt237.2).bind fun t241 => ((impl_GetNum.f k t241 (bt237.1.length : Int)).bind fun bt244 => ((spec_DrawGetNum.f k l0).bind fun bt247 => ((impl_GetNum.f k bt247.1 bt247.2).bind fun bt251 => ((spec_GetNum.f k bt247.1 bt247.2).bind fun bt254 => (if bt244.2.2 = true then ((impl_Bound.f bt237.2).bind fun t257 => (if bt244.1 = t257 then (if bt244.2.1 = (t241.length : Int) then (if bt244.2.1 = (wrap64 ((bt237.1.length : Int) + 4)) then (if 0 ≤ (bt237.1.length : Int) then (if (bt237.1.length : Int) ≤ (t241.length : Int) then ((laws_same.f (t241.take ((bt237.1.length : Int) : Int).toNat) bt237.1).bind fun t262 => (if t262 = true then (if bt251.1 = bt254.1 then (if bt251.2.1 = bt254.2.1 then (if (bt251.2.2 == bt254.2.2) = true then (if bt251.2.2 = true then ((impl_PutNum.f (([] : List Int)) bt251.1).bind fun t266 => (if 0 ≤ bt247.2 then (if bt247.2 ≤ bt251.2.1 then (if bt251.2.1 ≤ (bt247.1.length : Int) then ((laws_same.f t266 ((bt247.1.take (bt251.2.1 : Int).toNat).drop (bt247.2 : Int).toNat)).bind fun t273 => (some t273)) else (none)) else (none)) else (none))) else (some true)) else (some false)) else (some false)) else (some false)) else (some false))) else (none)) else (none)) else (some false)) else (some false)) else (some false))) else (some false))))))))) = some r := H
  have A2 := Aside0.mk A20
  clear A20
  by_cases c3 : t236 = true
  · subst c3
    have H1 : (some true) = some r := by rw [if_pos rfl] at H; exact H
    clear H
    have H := H1
    clear H1
    obtain rfl := Option.some.inj H
    go_enter Try.func4, Try.ntmps4
    go_wp2_with (first | ((with_reducible refine gate_callee (f := 15) rfl ?_); refine goesL_ (some 18) rfl rfl Try.func15 (by kernel_rfl) rfl #[.slice A0 l0.length c0] rfl Z3_11 ?_; (with_reducible refine (laws_big.calls _ _ l0 true _ ?side1 ?side2 A2.out).mono ?_); (case side1 => repeat (first | exact HR0.out | (with_reducible refine Kd.C_alloc ?_ _) | (with_reducible refine Kd.C_drewN ?_ _) | (with_reducible refine Kd.C_drew ?_))); (case side2 => exact HC0.out); rintro e w' ⟨rfl, ⟨nd, rfl⟩⟩; refine ⟨_, rfl, ?_⟩))
    go_ret
    exact ⟨Z3_23, Z3_14⟩
  replace c3 := Bool.eq_false_iff.mpr c3
  subst c3
  have H1 : ((spec_DrawPutNum.f k l0).bind fun bt237 => ((impl_PutNum.f bt237.1 bt237.2).bind fun t241 => ((impl_GetNum.f k t241 (bt237.1.length : Int)).bind fun bt244 => ((spec_DrawGetNum.f k l0).bind fun bt247 => ((impl_GetNum.f k bt247.1 bt247.2).bind fun bt251 => ((spec_GetNum.f k bt247.1 bt247.2).bind fun bt254 => (if bt244.2.2 = true then ((impl_Bound.f bt237.2).bind fun t257 => (if bt244.1 = t257 then (if bt244.2.1 = (t241.length : Int) then (if bt244.2.1 = (wrap64 ((bt237.1.length : Int) + 4)) then (if 0 ≤ (bt237.1.length : Int) then (if (bt237.1.length : Int) ≤ (t241.length : Int) then ((laws_same.f (t241.take ((bt237.1.length : Int) : Int).toNat) bt237.1).bind fun t262 => (if t262 = true then (if bt251.1 = bt254.1 then (if bt251.2.1 = bt254.2.1 then (if (bt251.2.2 == bt254.2.2) = true then (if bt251.2.2 = true then ((impl_PutNum.f (([] : List Int)) bt251.1).bind fun t266 => (if 0 ≤ bt247.2 then (if bt247.2 ≤ bt251.2.1 then (if bt251.2.1 ≤ (bt247.1.length : Int) then ((laws_same.f t266 ((bt247.1.take (bt251.2.1 : Int).toNat).drop (bt247.2 : Int).toNat)).bind fun t273 => (some t273)) else (none)) else (none)) else (none))) else (some true)) else (some false)) else (some false)) else (some false)) else (some false))) else (none)) else (none)) else (some false)) else (some false)) else (some false))) else (some false)))))))) = some r := by rw [if_neg (show ¬ (false = true) by decide)] at H; exact H
  clear H
  have H := H1
  clear H1
  replace H := Option.bind_eq_some_iff.mp H
  obtain ⟨⟨t237, t238⟩, A40, H⟩ := H
  replace H : ((impl_PutNum.f t237 t238).bind fun t241 => ((impl_GetNum.f k t241 (t237.length : Int)).bind fun bt244 => ((spec_DrawGetNum.f k l0).bind fun bt247 => ((impl_GetNum.f k bt247.1 bt247.2).bind fun bt251 => ((spec_GetNum.f k bt247.1 bt247.2).bind fun bt254 => (if bt244.2.2 = true then ((impl_Bound.f t238).bind fun t257 => (if bt244.1 = t257 then (if bt244.2.1 = (t241.length : Int) then (if bt244.2.1 = (wrap64 ((t237.length : Int) + 4)) then (if 0 ≤ (t237.length : Int) then (if (t237.length : Int) ≤ (t241.length : Int) then ((laws_same.f (t241.take ((t237.length : Int) : Int).toNat) t237).bind fun t262 => (if t262 = true then (if bt251.1 = bt254.1 then (if bt251.2.1 = bt254.2.1 then (if (bt251.2.2 == bt254.2.2) = true then (if bt251.2.2 = true then ((impl_PutNum.f (([] : List Int)) bt251.1).bind fun t266 => (if 0 ≤ bt247.2 then (if bt247.2 ≤ bt251.2.1 then (if bt251.2.1 ≤ (bt247.1.length : Int) then ((laws_same.f t266 ((bt247.1.take (bt251.2.1 : Int).toNat).drop (bt247.2 : Int).toNat)).bind fun t273 => (some t273)) else (none)) else (none)) else (none))) else (some true)) else (some false)) else (some false)) else (some false)) else (some false))) else (none)) else (none)) else (some false)) else (some false)) else (some false))) else (some false))))))) = some r := H
  have A4 := Aside0.mk A40
  clear A40
  replace H := Option.bind_eq_some_iff.mp H
  obtain ⟨t241, A50, H⟩ := H
  replace H : ((impl_GetNum.f k t241 (t237.length : Int)).bind fun bt244 => ((spec_DrawGetNum.f k l0).bind fun bt247 => ((impl_GetNum.f k bt247.1 bt247.2).bind fun bt251 => ((spec_GetNum.f k bt247.1 bt247.2).bind fun bt254 => (if bt244.2.2 = true then ((impl_Bound.f t238).bind fun t257 => (if bt244.1 = t257 then (if bt244.2.1 = (t241.length : Int) then (if bt244.2.1 = (wrap64 ((t237.length : Int) + 4)) then (if 0 ≤ (t237.length : Int) then (if (t237.length : Int) ≤ (t241.length : Int) then ((laws_same.f (t241.take ((t237.length : Int) : Int).toNat) t237).bind fun t262 => (if t262 = true then (if bt251.1 = bt254.1 then (if bt251.2.1 = bt254.2.1 then (if (bt251.2.2 == bt254.2.2) = true then (if bt251.2.2 = true then ((impl_PutNum.f (([] : List Int)) bt251.1).bind fun t266 => (if 0 ≤ bt247.2 then (if bt247.2 ≤ bt251.2.1 then (if bt251.2.1 ≤ (bt247.1.length : Int) then ((laws_same.f t266 ((bt247.1.take (bt251.2.1 : Int).toNat).drop (bt247.2 : Int).toNat)).bind fun t273 => (some t273)) else (none)) else (none)) else (none))) else (some true)) else (some false)) else (some false)) else (some false)) else (some false))) else (none)) else (none)) else (some false)) else (some false)) else (some false))) else (some false)))))) = some r := H
  have A5 := Aside0.mk A50
  clear A50
  replace H := Option.bind_eq_some_iff.mp H
  obtain ⟨⟨t244, t245, t246⟩, A60, H⟩ := H
  replace H : ((spec_DrawGetNum.f k l0).bind fun bt247 => ((impl_GetNum.f k bt247.1 bt247.2).bind fun bt251 => ((spec_GetNum.f k bt247.1 bt247.2).bind fun bt254 => (if t246 = true then ((impl_Bound.f t238).bind fun t257 => (if t244 = t257 then (if t245 = (t241.length : Int) then (if t245 = (wrap64 ((t237.length : Int) + 4)) then (if 0 ≤ (t237.length : Int) then (if (t237.length : Int) ≤ (t241.length : Int) then ((laws_same.f (t241.take ((t237.length : Int) : Int).toNat) t237).bind fun t262 => (if t262 = true then (if bt251.1 = bt254.1 then (if bt251.2.1 = bt254.2.1 then (if (bt251.2.2 == bt254.2.2) = true then (if bt251.2.2 = true then ((impl_PutNum.f (([] : List Int)) bt251.1).bind fun t266 => (if 0 ≤ bt247.2 then (if bt247.2 ≤ bt251.2.1 then (if bt251.2.1 ≤ (bt247.1.length : Int) then ((laws_same.f t266 ((bt247.1.take (bt251.2.1 : Int).toNat).drop (bt247.2 : Int).toNat)).bind fun t273 => (some t273)) else (none)) else (none)) else (none))) else (some true)) else (some false)) else (some false)) else (some false)) else (some false))) else (none)) else (none)) else (some false)) else (some false)) else (some false))) else (some false))))) = some r := H
  have A6 := Aside0.mk A60
  clear A60
  replace H := Option.bind_eq_some_iff.mp H
  obtain ⟨⟨t247, t248⟩, A70, H⟩ := H
  replace H : ((impl_GetNum.f k t247 t248).bind fun bt251 => ((spec_GetNum.f k t247 t248).bind fun bt254 => (if t246 = true then ((impl_Bound.f t238).bind fun t257 => (if t244 = t257 then (if t245 = (t241.length : Int) then (if t245 = (wrap64 ((t237.length : Int) + 4)) then (if 0 ≤ (t237.length : Int) then (if (t237.length : Int) ≤ (t241.length : Int) then ((laws_same.f (t241.take ((t237.length : Int) : Int).toNat) t237).bind fun t262 => (if t262 = true then (if bt251.1 = bt254.1 then (if bt251.2.1 = bt254.2.1 then (if (bt251.2.2 == bt254.2.2) = true then (if bt251.2.2 = true then ((impl_PutNum.f (([] : List Int)) bt251.1).bind fun t266 => (if 0 ≤ t248 then (if t248 ≤ bt251.2.1 then (if bt251.2.1 ≤ (t247.length : Int) then ((laws_same.f t266 ((t247.take (bt251.2.1 : Int).toNat).drop (t248 : Int).toNat)).bind fun t273 => (some t273)) else (none)) else (none)) else (none))) else (some true)) else (some false)) else (some false)) else (some false)) else (some false))) else (none)) else (none)) else (some false)) else (some false)) else (some false))) else (some false)))) = some r := H
  have A7 := Aside0.mk A70
  clear A70
  replace H := Option.bind_eq_some_iff.mp H
  obtain ⟨⟨t251, t252, t253⟩, A80, H⟩ := H
  replace H : ((spec_GetNum.f k t247 t248).bind fun bt254 => (if t246 = true then ((impl_Bound.f t238).bind fun t257 => (if t244 = t257 then (if t245 = (t241.length : Int) then (if t245 = (wrap64 ((t237.length : Int) + 4)) then (if 0 ≤ (t237.length : Int) then (if (t237.length : Int) ≤ (t241.length : Int) then ((laws_same.f (t241.take ((t237.length : Int) : Int).toNat) t237).bind fun t262 => (if t262 = true then (if t251 = bt254.1 then (if t252 = bt254.2.1 then (if (t253 == bt254.2.2) = true then (if t253 = true then ((impl_PutNum.f (([] : List Int)) t251).bind fun t266 => (if 0 ≤ t248 then (if t248 ≤ t252 then (if t252 ≤ (t247.length : Int) then ((laws_same.f t266 ((t247.take (t252 : Int).toNat).drop (t248 : Int).toNat)).bind fun t273 => (some t273)) else (none)) else (none)) else (none))) else (some true)) else (some false)) else (some false)) else (some false)) else (some false))) else (none)) else (none)) else (some false)) else (some false)) else (some false))) else (some false))) = some r := H
  have A8 := Aside0.mk A80
  clear A80
  replace H := Option.bind_eq_some_iff.mp H
  obtain ⟨⟨t254, t255, t256⟩, A90, H⟩ := H
  replace H : (if t246 = true then ((impl_Bound.f t238).bind fun t257 => (if t244 = t257 then (if t245 = (t241.length : Int) then (if t245 = (wrap64 ((t237.length : Int) + 4)) then (if 0 ≤ (t237.length : Int) then (if (t237.length : Int) ≤ (t241.length : Int) then ((laws_same.f (t241.take ((t237.length : Int) : Int).toNat) t237).bind fun t262 => (if t262 = true then (if t251 = t254 then (if t252 = t255 then (if (t253 == t256) = true then (if t253 = true then ((impl_PutNum.f (([] : List Int)) t251).bind fun t266 => (if 0 ≤ t248 then (if t248 ≤ t252 then (if t252 ≤ (t247.length : Int) then ((laws_same.f t266 ((t247.take (t252 : Int).toNat).drop (t248 : Int).toNat)).bind fun t273 => (some t273)) else (none)) else (none)) else (none))) else (some true)) else (some false)) else (some false)) else (some false)) else (some false))) else (none)) else (none)) else (some false)) else (some false)) else (some false))) else (some false)) = some r := H
  have A9 := Aside0.mk A90
  clear A90
  by_cases c10 : t246 = true
  rotate_left
  · replace c10 := Bool.eq_false_iff.mpr c10
    subst c10
    have H1 : (some false) = some r := by rw [if_neg (show ¬ (false = true) by decide)] at H; exact H
    clear H
    have H := H1
    clear H1
    exact absurd (H.trans (congrArg some HRT.out)) (by simp)
  subst c10
  have H1 : ((impl_Bound.f t238).bind fun t257 => (if t244 = t257 then (if t245 = (t241.length : Int) then (if t245 = (wrap64 ((t237.length : Int) + 4)) then (if 0 ≤ (t237.length : Int) then (if (t237.length : Int) ≤ (t241.length : Int) then ((laws_same.f (t241.take ((t237.length : Int) : Int).toNat) t237).bind fun t262 => (if t262 = true then (if t251 = t254 then (if t252 = t255 then (if (t253 == t256) = true then (if t253 = true then ((impl_PutNum.f (([] : List Int)) t251).bind fun t266 => (if 0 ≤ t248 then (if t248 ≤ t252 then (if t252 ≤ (t247.length : Int) then ((laws_same.f t266 ((t247.take (t252 : Int).toNat).drop (t248 : Int).toNat)).bind fun t273 => (some t273)) else (none)) else (none)) else (none))) else (some true)) else (some false)) else (some false)) else (some false)) else (some false))) else (none)) else (none)) else (some false)) else (some false)) else (some false))) = some r := by rw [if_pos rfl] at H; exact H
  clear H
  have H := H1
  clear H1
  replace H := Option.bind_eq_some_iff.mp H
  obtain ⟨t257, A110, H⟩ := H
  replace H : (if t244 = t257 then (if t245 = (t241.length : Int) then (if t245 = (wrap64 ((t237.length : Int) + 4)) then (if 0 ≤ (t237.length : Int) then (if (t237.length : Int) ≤ (t241.length : Int) then ((laws_same.f (t241.take ((t237.length : Int) : Int).toNat) t237).bind fun t262 => (if t262 = true then (if t251 = t254 then (if t252 = t255 then (if (t253 == t256) = true then (if t253 = true then ((impl_PutNum.f (([] : List Int)) t251).bind fun t266 => (if 0 ≤ t248 then (if t248 ≤ t252 then (if t252 ≤ (t247.length : Int) then ((laws_same.f t266 ((t247.take (t252 : Int).toNat).drop (t248 : Int).toNat)).bind fun t273 => (some t273)) else (none)) else (none)) else (none))) else (some true)) else (some false)) else (some false)) else (some false)) else (some false))) else (none)) else (none)) else (some false)) else (some false)) else (some false)) = some r := H
  have A11 := Aside0.mk A110
  clear A110
  by_cases c12 : t244 = t257
  rotate_left
  · rw [if_neg c12] at H
    have c12b0 : (t244 == t257) = false := beq_eq_false_iff_ne.mpr c12
    have c12b1 : (t244 != t257) = true := bne_iff_ne.mpr c12
    exact absurd (H.trans (congrArg some HRT.out)) (by simp)
  rw [if_pos c12] at H
  have c12b0 : (t244 == t257) = true := beq_iff_eq.mpr c12
  have c12b1 : (t244 != t257) = false := bne_eq_false_iff_eq.mpr c12
  clear c12
  by_cases c13 : t245 = (t241.length : Int)
  rotate_left
  · rw [if_neg c13] at H
    have c13b0 : (t245 == (t241.length : Int)) = false := beq_eq_false_iff_ne.mpr c13
    have c13b1 : (t245 != (t241.length : Int)) = true := bne_iff_ne.mpr c13
    exact absurd (H.trans (congrArg some HRT.out)) (by simp)
  rw [if_pos c13] at H
  have c13b0 : (t245 == (t241.length : Int)) = true := beq_iff_eq.mpr c13
  have c13b1 : (t245 != (t241.length : Int)) = false := bne_eq_false_iff_eq.mpr c13
  clear c13
  by_cases c14 : t245 = (wrap64 ((t237.length : Int) + 4))
  rotate_left
  · rw [if_neg c14] at H
    have c14b0 : (t245 == (wrap64 ((t237.length : Int) + 4))) = false := beq_eq_false_iff_ne.mpr c14
    have c14b1 : (t245 != (wrap64 ((t237.length : Int) + 4))) = true := bne_iff_ne.mpr c14
    exact absurd (H.trans (congrArg some HRT.out)) (by simp)
  rw [if_pos c14] at H
  have c14b0 : (t245 == (wrap64 ((t237.length : Int) + 4))) = true := beq_iff_eq.mpr c14
  have c14b1 : (t245 != (wrap64 ((t237.length : Int) + 4))) = false := bne_eq_false_iff_eq.mpr c14
  clear c14
  by_cases c15 : 0 ≤ (t237.length : Int)
  rotate_left
  · rw [if_neg c15] at H
    exact absurd H (by simp)
  rw [if_pos c15] at H
  have c15b0 := eq_true c15
  have c15b1 : decide (0 ≤ (t237.length : Int)) = true := decide_eq_true c15
  clear c15
  by_cases c16 : (t237.length : Int) ≤ (t241.length : Int)
  rotate_left
  · rw [if_neg c16] at H
    exact absurd H (by simp)
  rw [if_pos c16] at H
  have c16b0 := eq_true c16
  have c16b1 : decide ((t237.length : Int) ≤ (t241.length : Int)) = true := decide_eq_true c16
  clear c16
  obtain ⟨y258, hy258⟩ : ∃ y_ : List Int, y_ = (t241.take ((t237.length : Int) : Int).toNat) := ⟨_, rfl⟩
  replace H : ((laws_same.f y258 t237).bind fun t262 => (if t262 = true then (if t251 = t254 then (if t252 = t255 then (if (t253 == t256) = true then (if t253 = true then ((impl_PutNum.f (([] : List Int)) t251).bind fun t266 => (if 0 ≤ t248 then (if t248 ≤ t252 then (if t252 ≤ (t247.length : Int) then ((laws_same.f t266 ((t247.take (t252 : Int).toNat).drop (t248 : Int).toNat)).bind fun t273 => (some t273)) else (none)) else (none)) else (none))) else (some true)) else (some false)) else (some false)) else (some false)) else (some false))) = some r := by first | (rw [hy258]; with_reducible exact H) | (have H2_ := (Option.bind_some _ _).symm.trans H; rw [hy258]; with_reducible exact H2_) | (have H2_ := (Option.bind_some _ _).symm.trans H; with_reducible exact H2_) | with_reducible exact H | (rw [hy258]; exact H) | exact H
  have Ny258 := Aside0.mk hy258
  clear hy258
  replace H := Option.bind_eq_some_iff.mp H
  obtain ⟨t262, A170, H⟩ := H
  replace H : (if t262 = true then (if t251 = t254 then (if t252 = t255 then (if (t253 == t256) = true then (if t253 = true then ((impl_PutNum.f (([] : List Int)) t251).bind fun t266 => (if 0 ≤ t248 then (if t248 ≤ t252 then (if t252 ≤ (t247.length : Int) then ((laws_same.f t266 ((t247.take (t252 : Int).toNat).drop (t248 : Int).toNat)).bind fun t273 => (some t273)) else (none)) else (none)) else (none))) else (some true)) else (some false)) else (some false)) else (some false)) else (some false)) = some r := H
  have A17 := Aside0.mk A170
  clear A170
  by_cases c18 : t262 = true
  rotate_left
  · replace c18 := Bool.eq_false_iff.mpr c18
    subst c18
    have H1 : (some false) = some r := by rw [if_neg (show ¬ (false = true) by decide)] at H; exact H
    clear H
    have H := H1
    clear H1
    exact absurd (H.trans (congrArg some HRT.out)) (by simp)
  subst c18
  have H1 : (if t251 = t254 then (if t252 = t255 then (if (t253 == t256) = true then (if t253 = true then ((impl_PutNum.f (([] : List Int)) t251).bind fun t266 => (if 0 ≤ t248 then (if t248 ≤ t252 then (if t252 ≤ (t247.length : Int) then ((laws_same.f t266 ((t247.take (t252 : Int).toNat).drop (t248 : Int).toNat)).bind fun t273 => (some t273)) else (none)) else (none)) else (none))) else (some true)) else (some false)) else (some false)) else (some false)) = some r := by rw [if_pos rfl] at H; exact H
  clear H
  have H := H1
  clear H1
  by_cases c19 : t251 = t254
  rotate_left
  · rw [if_neg c19] at H
    have c19b0 : (t251 == t254) = false := beq_eq_false_iff_ne.mpr c19
    have c19b1 : (t251 != t254) = true := bne_iff_ne.mpr c19
    exact absurd (H.trans (congrArg some HRT.out)) (by simp)
  rw [if_pos c19] at H
  have c19b0 : (t251 == t254) = true := beq_iff_eq.mpr c19
  have c19b1 : (t251 != t254) = false := bne_eq_false_iff_eq.mpr c19
  clear c19
  by_cases c20 : t252 = t255
  rotate_left
  · rw [if_neg c20] at H
    have c20b0 : (t252 == t255) = false := beq_eq_false_iff_ne.mpr c20
    have c20b1 : (t252 != t255) = true := bne_iff_ne.mpr c20
    exact absurd (H.trans (congrArg some HRT.out)) (by simp)
  rw [if_pos c20] at H
  have c20b0 : (t252 == t255) = true := beq_iff_eq.mpr c20
  have c20b1 : (t252 != t255) = false := bne_eq_false_iff_eq.mpr c20
  clear c20
  by_cases c21 : (t253 == t256) = true
  rotate_left
  · rw [if_neg c21] at H
    have c21b0 : (t253 == t256) = false := by simpa using c21
    (try (have c21b1 : decide (t253 = t256) = false := by simpa using c21))
    (try (have c21b2 : (t253 == t256) = false := by simpa using c21))
    (try (have c21b3 : ¬ (t253 = t256) := by simpa using c21))
    clear c21
    exact absurd (H.trans (congrArg some HRT.out)) (by simp)
  rw [if_pos c21] at H
  have c21b0 : (t253 == t256) = true := c21
  (try (have c21b1 : decide (t253 = t256) = true := by simpa using c21))
  (try (have c21b2 : (t253 == t256) = true := by simpa using c21))
  clear c21
  by_cases c22 : t253 = true
  rotate_left
  · replace c22 := Bool.eq_false_iff.mpr c22
    subst c22
    have H1 : (some true) = some r := by rw [if_neg (show ¬ (false = true) by decide)] at H; exact H
    clear H
    have H := H1
    clear H1
    obtain rfl := Option.some.inj H
    go_enter Try.func4, Try.ntmps4
    try go_wp2_with (first | ((with_reducible refine gate_callee (f := 15) rfl ?_); refine goesL_ (some 18) rfl rfl Try.func15 (by kernel_rfl) rfl #[.slice A0 l0.length c0] rfl Z3_11 ?_; (with_reducible refine (laws_big.calls _ _ l0 false _ ?side1 ?side2 A2.out).mono ?_); (case side1 => repeat (first | exact HR0.out | (with_reducible refine Kd.C_alloc ?_ _) | (with_reducible refine Kd.C_drewN ?_ _) | (with_reducible refine Kd.C_drew ?_))); (case side2 => exact HC0.out); rintro e w' ⟨rfl, ⟨nd, rfl⟩⟩; refine ⟨_, rfl, ?_⟩) | ((with_reducible refine gate_callee (f := 30) rfl ?_); refine goesL_ (some 21) rfl rfl Try.func30 (by kernel_rfl) rfl #[.slice A0 l0.length c0] rfl Z3_11 ?_; (with_reducible refine (spec_DrawPutNum.calls k _ _ l0 t237 t238 _ ?side1 ?side2 A4.out).mono ?_); (case side1 => repeat (first | exact HR0.out | (with_reducible refine Kd.C_alloc ?_ _) | (with_reducible refine Kd.C_drewN ?_ _) | (with_reducible refine Kd.C_drew ?_))); (case side2 => exact HC0.out); rintro e w43 ⟨v239, rfl, ho0, hb⟩; refine ⟨_, rfl, ?_⟩; have n0_ := Aside0.mk Z3_8; have n1_ := Aside0.mk Z3_10; clear HB; have HO240 := n0_; have HB := n1_; clear n0_ n1_; (try clear hb); (try clear hb2); (try clear hk); (try clear hi); (try clear ho0); obtain ⟨Ao44, co44, eo44⟩ := Kd.R_slice HO240.out; subst eo44) | ((with_reducible refine gate_callee (f := 31) rfl ?_); refine goesL_ (some 26) rfl rfl Try.func31 (by kernel_rfl) rfl #[.slice Ao44 t237.length co44, .int .i64 t238] rfl Z3_11 ?_; (with_reducible refine (impl_PutNum.calls _ _ t237 t238 t241 _ ?side1 ?side2 A5.out).mono ?_); (case side1 => repeat (first | exact (Kd.R_reads' HO240.out).2.2 | (with_reducible refine Kd.C_alloc ?_ _) | (with_reducible refine Kd.C_drewN ?_ _) | (with_reducible refine Kd.C_drew ?_))); (case side2 => exact (Kd.R_reads' HO240.out).2.1); rintro e w45 ⟨v242, rfl, ho0, hb⟩; refine ⟨_, rfl, ?_⟩; have n0_ := Aside0.mk Z3_12; have n1_ := Aside0.mk Z3_2; have n2_ := Aside0.mk Z3_10; clear HO240; clear HB; have HO240 := n0_; have HO243 := n1_; have HB := n2_; clear n0_ n1_ n2_; (try clear hb); (try clear hb2); (try clear hk); (try clear hi); (try clear ho0); obtain ⟨Ao46, co46, eo46⟩ := Kd.R_slice HO243.out; subst eo46) | ((with_reducible refine gate_callee (f := 32) rfl ?_); refine goesL_ (some 31) rfl rfl Try.func32 (by kernel_rfl) rfl #[.slice Ao46 t241.length co46, .int .i64 (t237.length : Int)] rfl Z3_11 ?_; (with_reducible refine (impl_GetNum.calls k _ _ t241 (t237.length : Int) t244 t245 true _ ?side1 ?side2 A6.out).mono ?_); (case side1 => repeat (first | exact (Kd.R_reads' HO243.out).2.2 | (with_reducible refine Kd.C_alloc ?_ _) | (with_reducible refine Kd.C_drewN ?_ _) | (with_reducible refine Kd.C_drew ?_))); (case side2 => exact (Kd.R_reads' HO243.out).2.1); rintro e w' ⟨rfl, ⟨nd, rfl⟩⟩; refine ⟨_, rfl, ?_⟩) | ((with_reducible refine gate_callee (f := 33) rfl ?_); refine goesL_ (some 37) rfl rfl Try.func33 (by kernel_rfl) rfl #[.slice A0 l0.length c0] rfl Z3_11 ?_; (with_reducible refine (spec_DrawGetNum.calls k _ _ l0 t247 t248 _ ?side1 ?side2 A7.out).mono ?_); (case side1 => repeat (first | exact (Kd.C_below HR0.out Z3_14) | (with_reducible refine Kd.C_alloc ?_ _) | (with_reducible refine Kd.C_drewN ?_ _) | (with_reducible refine Kd.C_drew ?_))); (case side2 => exact HC0.out); rintro e w47 ⟨v249, rfl, ho0, hb⟩; refine ⟨_, rfl, ?_⟩; have n0_ := Aside0.mk Z3_12; have n1_ := Aside0.mk Z3_13; have n2_ := Aside0.mk Z3_1; have n3_ := Aside0.mk Z3_10; clear HO240; clear HO243; clear HB; have HO240 := n0_; have HO243 := n1_; have HO250 := n2_; have HB := n3_; clear n0_ n1_ n2_ n3_; (try clear hb); (try clear hb2); (try clear hk); (try clear hi); (try clear ho0); obtain ⟨Ao48, co48, eo48⟩ := Kd.R_slice HO250.out; subst eo48) | ((with_reducible refine gate_callee (f := 32) rfl ?_); refine goesL_ (some 43) rfl rfl Try.func32 (by kernel_rfl) rfl #[.slice Ao48 t247.length co48, .int .i64 t248] rfl Z3_11 ?_; (with_reducible refine (impl_GetNum.calls k _ _ t247 t248 t251 t252 false _ ?side1 ?side2 A8.out).mono ?_); (case side1 => repeat (first | exact (Kd.R_reads' HO250.out).2.2 | (with_reducible refine Kd.C_alloc ?_ _) | (with_reducible refine Kd.C_drewN ?_ _) | (with_reducible refine Kd.C_drew ?_))); (case side2 => exact (Kd.R_reads' HO250.out).2.1); rintro e w' ⟨rfl, ⟨nd, rfl⟩⟩; refine ⟨_, rfl, ?_⟩) | ((with_reducible refine gate_callee (f := 34) rfl ?_); refine goesL_ (some 50) rfl rfl Try.func34 (by kernel_rfl) rfl #[.slice Ao48 t247.length co48, .int .i64 t248] rfl Z3_11 ?_; (with_reducible refine (spec_GetNum.calls k _ _ t247 t248 t254 t255 t256 _ ?side1 ?side2 A9.out).mono ?_); (case side1 => repeat (first | exact (Kd.R_reads' HO250.out).2.2 | (with_reducible refine Kd.C_alloc ?_ _) | (with_reducible refine Kd.C_drewN ?_ _) | (with_reducible refine Kd.C_drew ?_))); (case side2 => exact (Kd.R_reads' HO250.out).2.1); rintro e w' ⟨rfl, ⟨nd, rfl⟩⟩; refine ⟨_, rfl, ?_⟩))
    (try (rw [drewN_self w47]; generalize hq_ : World.drewN w47 _ = w47; have n0_ : Aside0 (Kd.R (Kd.int .u8) 5 w47 w.heap.size (fun k_ => some k_ ≠ (.slice Ao46 t241.length co46 : Value).ownBlock ∧ some k_ ≠ (.slice Ao48 t247.length co48 : Value).ownBlock) (.slice Ao44 t237.length co44) t237) := ⟨Z3_5⟩; have n1_ : Aside0 (Kd.R (Kd.int .u8) 5 w47 w.heap.size (fun k_ => some k_ ≠ (.slice Ao44 t237.length co44 : Value).ownBlock ∧ some k_ ≠ (.slice Ao48 t247.length co48 : Value).ownBlock) (.slice Ao46 t241.length co46) t241) := ⟨Z3_6⟩; have n2_ : Aside0 (Kd.R (Kd.int .u8) 5 w47 w.heap.size (fun k_ => some k_ ≠ (.slice Ao44 t237.length co44 : Value).ownBlock ∧ some k_ ≠ (.slice Ao46 t241.length co46 : Value).ownBlock) (.slice Ao48 t247.length co48) t247) := ⟨Z3_7⟩; have n3_ : Aside0 (Below w.heap.size w w47) := ⟨Z3_9⟩; clear HO240 HO243 HO250 HB hq_; have HO240 := n0_; have HO243 := n1_; have HO250 := n2_; have HB := n3_; clear n0_ n1_ n2_ n3_))
    have n0_ := Aside0.mk (Kd.R_drew HO240.out)
    have n1_ := Aside0.mk (Kd.R_drew HO243.out)
    have n2_ := Aside0.mk (Kd.R_drew HO250.out)
    have n3_ := Aside0.mk (below_drew1 HB.out)
    clear HO240
    clear HO243
    clear HO250
    clear HB
    have HO240 := n0_
    have HO243 := n1_
    have HO250 := n2_
    have HB := n3_
    clear n0_ n1_ n2_ n3_
    refine start_ (n := 58) (S := fun w' => True) (ds := []) #[false, false, false, false, false, false, false, false, false, false, false, false, false, false, false, false, false, false, false, false, false, false, false, false, false, false, false, false, false, false, false, false, false, false, false, false, false, false, false, false, false, false, false, false, false, false, false, false, false, false, false, false, false, false, false, false, false, false] (by kernel_rfl) rfl rfl trivial (fun hHeld => ?_); refine with_tabW laws_FnNums.tab9 laws_FnNums.bits9 (fun HT_ HW_ => ?_)
    generalize w47.drew = w49 at HO240 HO243 HO250 HB hHeld ⊢
    refine pure_ (i := 0) (N := some 54) (v := _) (a' := _) (M3_58 1) rfl rfl (any_of HT_.out (by kernel_rfl)) (fun _ _ _ h => h) (Or.inl ⟨(by rfl), (by intro w'; go_simp; with_reducible rfl)⟩) Z3_18 ?_
    refine pure_ (i := 1) (N := some 55) (v := _) (a' := _) (M3_58 3) rfl rfl (any_of HT_.out (by kernel_rfl)) (fun _ _ _ h => h) (Or.inl ⟨(by rfl), (by intro w'; go_simp; with_reducible rfl)⟩) Z3_18 ?_
    refine pure_ (i := 2) (N := some 56) (v := _) (a' := _) (M3_58 7) rfl rfl (any_of HT_.out (by kernel_rfl)) (fun _ _ _ h => h) (Or.inl ⟨(by rfl), (by intro w'; go_simp; with_reducible rfl)⟩) Z3_18 ?_
    refine pure_ (i := 3) (N := some 57) (v := _) (a' := _) (M3_58 15) rfl rfl (any_of HT_.out (by kernel_rfl)) (fun _ _ _ h => h) (Or.inl ⟨(by rfl), (by intro w'; go_simp; with_reducible rfl)⟩) Z3_18 ?_
    refine one_ (i := 4) (N := some 58) (M3_58 31) rfl rfl (one_of HT_.out (by kernel_rfl)) (by decide) (fun K hK => ?_)
    refine goes_ Try.func28 (by kernel_rfl) rfl #[.int .i64 t238] (by rfl) rfl rfl Z3_11 ?_
    with_reducible refine (impl_Bound.calls t238 t257 _ A11.out).mono ?_
    rintro e w50 ⟨rfl, hb⟩
    refine ⟨_, rfl, ?_⟩
    have n0_ := Aside0.mk Z3_15
    have n1_ := Aside0.mk Z3_16
    have n2_ := Aside0.mk Z3_17
    have n3_ := Aside0.mk Z3_10
    clear HO240
    clear HO243
    clear HO250
    clear HB
    have HO240 := n0_
    have HO243 := n1_
    have HO250 := n2_
    have HB := n3_
    clear n0_ n1_ n2_ n3_
    (try clear hb)
    (try clear hb2)
    (try clear hk)
    (try clear hi)
    have q51 : ((t237.length : Int) : Int) ≤ ((t241.length : Int) : Int) := of_decide_eq_true Z3_24
    obtain ⟨i051, hi051, _, hsz51, _⟩ := info_parts info5
    have hroom51 : t241.length ≤ co46 := (Kd.R_reads' HO243.out).2.1
    have hC51 : Kd.C (Kd.int .u8) _ Ao46 t241.length t241 := (Kd.R_reads' HO243.out).2.2
    have hcut51 := cut_to (P := Try.prog) 22 5 .i64 Try.underlying22 hi051 Ao46 t241.length co46 (t237.length : Int) (of_decide_eq_true Z3_24) q51 hroom51
    have hr51 := Kd.C_take (m := ((t237.length : Int) : Int).toNat) hC51 (by omega)
    have hy51 : y258.length = ((t237.length : Int) : Int).toNat := (by rw [Ny258.out, List.length_take]; omega)
    rw [← Ny258.out] at hr51
    rw [← hy51] at hcut51
    have HR261 := Aside0.mk hr51
    have HC261 := Aside0.mk (show y258.length ≤ co46 from by omega)
    clear hr51 hC51 hroom51 hi051 hsz51
    have KY51 := Aside0.mk hy51
    clear hy51
    have KL51 := Aside0.mk (show ((t237.length : Int) : Int).toNat ≤ t241.length from by omega)
    replace q51 := eq_true q51
    refine hK.out _ _ trivial (fun hHeld => ?_)
    clear hK K
    refine norm_ (a' := ?_) ?_ ?_
    rotate_left
    · show Act.put _ (some 58) _ = _
      simp only [Act.put, List.setIfInBounds_toArray, List.set_cons_zero, List.set_cons_succ, i64_w, i32_w]
      rfl
    refine pure_ (i := 5) (N := some 59) (v := _) (a' := _) (M3_58 63) rfl rfl (any_of HT_.out (by kernel_rfl)) (fun _ _ _ h => h) (Or.inl ⟨(by rfl), (by intro w'; go_simp; with_reducible rfl)⟩) Z3_18 ?_
    refine pure_ (i := 6) (N := some 60) (v := _) (a' := _) (M3_58 127) rfl rfl (any_of HT_.out (by kernel_rfl)) (fun _ _ _ h => h) (Or.inl ⟨(by rfl), (by intro w'; go_simp; with_reducible rfl)⟩) Z3_18 ?_
    refine pure_ (i := 7) (N := some 61) (v := _) (a' := _) (M3_58 255) rfl rfl (any_of HT_.out (by kernel_rfl)) (fun _ _ _ h => h) (Or.inl ⟨(by rfl), (by intro w'; go_simp; with_reducible rfl)⟩) Z3_18 ?_
    refine pure_ (i := 8) (N := some 62) (v := _) (a' := _) (M3_58 511) rfl rfl (any_of HT_.out (by kernel_rfl)) (fun _ _ _ h => h) (Or.inl ⟨(by rfl), (by intro w'; go_simp; with_reducible rfl)⟩) Z3_18 ?_
    refine pure_ (i := 9) (N := some 63) (v := _) (a' := _) (M3_58 1023) rfl rfl (any_of HT_.out (by kernel_rfl)) (fun _ _ _ h => h) (Or.inl ⟨(by rfl), (by intro w'; go_simp; with_reducible rfl)⟩) Z3_18 ?_
    refine pure_ (i := 10) (N := some 64) (v := _) (a' := _) (M3_58 2047) rfl rfl (any_of HT_.out (by kernel_rfl)) (fun _ _ _ h => h) (Or.inl ⟨(by rfl), (by intro w'; go_simp; with_reducible rfl)⟩) Z3_18 ?_
    refine pure_ (i := 11) (N := some 65) (v := _) (a' := _) (M3_58 4095) rfl rfl (any_of HT_.out (by kernel_rfl)) (fun _ _ _ h => h) (Or.inl ⟨(by rfl), (by intro w'; go_simp; with_reducible rfl)⟩) Z3_18 ?_
    refine pure_ (i := 12) (N := some 66) (v := _) (a' := _) (M3_58 8191) rfl rfl (any_of HT_.out (by kernel_rfl)) (fun _ _ _ h => h) (Or.inl ⟨(by rfl), (by intro w'; go_simp; with_reducible rfl)⟩) Z3_18 ?_
    refine pure_ (i := 13) (N := some 67) (v := _) (a' := _) (M3_58 16383) rfl rfl (any_of HT_.out (by kernel_rfl)) (fun _ _ _ h => h) (Or.inl ⟨(by rfl), (by intro w'; go_simp; with_reducible rfl)⟩) Z3_18 ?_
    refine pure_ (i := 14) (N := some 68) (v := _) (a' := _) (M3_58 32767) rfl rfl (any_of HT_.out (by kernel_rfl)) (fun _ _ _ h => h) (Or.inl ⟨(by rfl), (by intro w'; go_simp; with_reducible rfl)⟩) Z3_18 ?_
    refine pure_ (i := 15) (N := some 69) (v := _) (a' := _) (M3_58 65535) rfl rfl (any_of HT_.out (by kernel_rfl)) (fun _ _ _ h => h) (Or.inl ⟨(by rfl), (by intro w'; go_simp; with_reducible rfl)⟩) Z3_18 ?_
    refine pure_ (i := 16) (N := some 70) (v := _) (a' := _) (M3_58 131071) rfl rfl (any_of HT_.out (by kernel_rfl)) (fun _ _ _ h => h) (Or.inl ⟨(by rfl), (by intro w'; go_simp; with_reducible rfl)⟩) Z3_18 ?_
    refine pure_ (i := 17) (N := some 71) (v := _) (a' := _) (M3_58 262143) rfl rfl (any_of HT_.out (by kernel_rfl)) (fun _ _ _ h => h) (Or.inl ⟨(by rfl), (by intro w'; go_simp; with_reducible rfl)⟩) Z3_18 ?_
    refine pure_ (i := 18) (N := some 72) (v := _) (a' := _) (M3_58 524287) rfl rfl (any_of HT_.out (by kernel_rfl)) (fun _ _ _ h => h) (Or.inl ⟨(by rfl), (by intro w'; go_simp; with_reducible rfl)⟩) Z3_18 ?_
    refine pure_ (i := 19) (N := some 73) (v := _) (a' := _) (M3_58 1048575) rfl rfl (any_of HT_.out (by kernel_rfl)) (fun _ _ _ h => h) (Or.inl ⟨(by rfl), (by intro w'; go_simp; with_reducible rfl)⟩) Z3_18 ?_
    refine pure_ (i := 20) (N := some 74) (v := _) (a' := _) (M3_58 2097151) rfl rfl (any_of HT_.out (by kernel_rfl)) (fun _ _ _ h => h) (Or.inl ⟨(by rfl), (by intro w'; go_simp; with_reducible rfl)⟩) Z3_18 ?_
    refine pure_ (i := 21) (N := some 75) (v := _) (a' := _) (M3_58 4194303) rfl rfl (any_of HT_.out (by kernel_rfl)) (fun _ _ _ h => h) (Or.inl ⟨(by rfl), (by intro w'; go_simp; with_reducible rfl)⟩) Z3_18 ?_
    refine pure_ (i := 22) (N := some 76) (v := _) (a' := _) (M3_58 8388607) rfl rfl (any_of HT_.out (by kernel_rfl)) (fun _ _ _ h => h) (Or.inl ⟨(by rfl), (by intro w'; go_simp; with_reducible rfl)⟩) Z3_18 ?_
    refine pure_ (i := 23) (N := some 77) (v := _) (a' := _) (M3_58 16777215) rfl rfl (any_of HT_.out (by kernel_rfl)) (fun _ _ _ h => h) (Or.inl ⟨(by rfl), (by intro w'; go_simp; with_reducible rfl)⟩) Z3_18 ?_
    refine pure_ (i := 24) (N := some 78) (v := _) (a' := _) (M3_58 33554431) rfl rfl (any_of HT_.out (by kernel_rfl)) (fun _ _ _ h => h) (Or.inl ⟨(by rfl), (by intro w'; go_simp; with_reducible rfl)⟩) Z3_18 ?_
    refine pure_ (i := 25) (N := some 79) (v := _) (a' := _) (M3_58 67108863) rfl rfl (any_of HT_.out (by kernel_rfl)) (fun _ _ _ h => h) (Or.inl ⟨(by rfl), (by intro w'; go_simp; with_reducible rfl)⟩) Z3_18 ?_
    refine one_ (i := 26) (N := some 80) (M3_58 134217727) rfl rfl (one_of HT_.out (by kernel_rfl)) (by decide) (fun K hK => ?_)
    refine goes_ Try.func35 (by kernel_rfl) rfl #[.slice Ao46 y258.length co46, .slice Ao44 t237.length co44] (by rfl) rfl rfl Z3_11 ?_
    with_reducible refine (laws_same.calls _ _ y258 _ _ t237 true _ ?side1 ?side2 ?side3 ?side4 A17.out).mono ?_
    (case side1 => repeat (first | exact Z3_4 | (with_reducible refine Kd.C_alloc ?_ _) | (with_reducible refine Kd.C_drewN ?_ _) | (with_reducible refine Kd.C_drew ?_)))
    (case side2 => exact HC261.out)
    (case side3 => repeat (first | exact (Kd.R_reads' HO240.out).2.2 | (with_reducible refine Kd.C_alloc ?_ _) | (with_reducible refine Kd.C_drewN ?_ _) | (with_reducible refine Kd.C_drew ?_)))
    (case side4 => exact (Kd.R_reads' HO240.out).2.1)
    rintro e w' ⟨rfl, ⟨nd, rfl⟩⟩
    refine ⟨_, rfl, ?_⟩
    refine hK.out _ _ trivial (fun hHeld => ?_)
    clear hK K
    refine norm_ (a' := ?_) ?_ ?_
    rotate_left
    · show Act.put _ (some 80) _ = _
      simp only [Act.put, List.setIfInBounds_toArray, List.set_cons_zero, List.set_cons_succ, i64_w, i32_w]
      rfl
    refine pure_ (i := 27) (N := some 81) (v := _) (a' := _) (M3_58 268435455) rfl rfl (any_of HT_.out (by kernel_rfl)) (fun _ _ _ h => h) (Or.inl ⟨(by rfl), (by intro w'; go_simp; with_reducible rfl)⟩) Z3_18 ?_
    refine pure_ (i := 28) (N := some 82) (v := _) (a' := _) (M3_58 536870911) rfl rfl (any_of HT_.out (by kernel_rfl)) (fun _ _ _ h => h) (Or.inl ⟨(by rfl), (by intro w'; go_simp; with_reducible rfl)⟩) Z3_18 ?_
    refine pure_ (i := 29) (N := some 83) (v := _) (a' := _) (M3_58 1073741823) rfl rfl (any_of HT_.out (by kernel_rfl)) (fun _ _ _ h => h) (Or.inl ⟨(by rfl), (by intro w'; go_simp; with_reducible rfl)⟩) Z3_18 ?_
    refine pure_ (i := 30) (N := some 84) (v := _) (a' := _) (M3_58 2147483647) rfl rfl (any_of HT_.out (by kernel_rfl)) (fun _ _ _ h => h) (Or.inl ⟨(by rfl), (by intro w'; go_simp; with_reducible rfl)⟩) Z3_18 ?_
    refine pure_ (i := 31) (N := some 85) (v := _) (a' := _) (M3_58 4294967295) rfl rfl (any_of HT_.out (by kernel_rfl)) (fun _ _ _ h => h) (Or.inl ⟨(by rfl), (by intro w'; go_simp; with_reducible rfl)⟩) Z3_18 ?_
    refine pure_ (i := 32) (N := some 86) (v := _) (a' := _) (M3_58 8589934591) rfl rfl (any_of HT_.out (by kernel_rfl)) (fun _ _ _ h => h) (Or.inl ⟨(by rfl), (by intro w'; go_simp; with_reducible rfl)⟩) Z3_18 ?_
    refine pure_ (i := 33) (N := some 87) (v := _) (a' := _) (M3_58 17179869183) rfl rfl (any_of HT_.out (by kernel_rfl)) (fun _ _ _ h => h) (Or.inl ⟨(by rfl), (by intro w'; go_simp; with_reducible rfl)⟩) Z3_18 ?_
    refine pure_ (i := 34) (N := some 88) (v := _) (a' := _) (M3_58 34359738367) rfl rfl (any_of HT_.out (by kernel_rfl)) (fun _ _ _ h => h) (Or.inl ⟨(by rfl), (by intro w'; go_simp; with_reducible rfl)⟩) Z3_18 ?_
    refine pure_ (i := 35) (N := some 89) (v := _) (a' := _) (M3_58 68719476735) rfl rfl (any_of HT_.out (by kernel_rfl)) (fun _ _ _ h => h) (Or.inl ⟨(by rfl), (by intro w'; go_simp; with_reducible rfl)⟩) Z3_18 ?_
    refine pure_ (i := 36) (N := some 90) (v := _) (a' := _) (M3_58 137438953471) rfl rfl (any_of HT_.out (by kernel_rfl)) (fun _ _ _ h => h) (Or.inl ⟨(by rfl), (by intro w'; go_simp; with_reducible rfl)⟩) Z3_18 ?_
    refine pure_ (i := 37) (N := some 91) (v := _) (a' := _) (M3_58 274877906943) rfl rfl (any_of HT_.out (by kernel_rfl)) (fun _ _ _ h => h) (Or.inl ⟨(by rfl), (by intro w'; go_simp; with_reducible rfl)⟩) Z3_18 ?_
    refine pure_ (i := 38) (N := some 92) (v := _) (a' := _) (M3_58 549755813887) rfl rfl (any_of HT_.out (by kernel_rfl)) (fun _ _ _ h => h) (Or.inl ⟨(by rfl), (by intro w'; go_simp; with_reducible rfl)⟩) Z3_18 ?_
    refine pure_ (i := 39) (N := some 93) (v := _) (a' := _) (M3_58 1099511627775) rfl rfl (any_of HT_.out (by kernel_rfl)) (fun _ _ _ h => h) (Or.inl ⟨(by rfl), (by intro w'; go_simp; with_reducible rfl)⟩) Z3_18 ?_
    refine pure_ (i := 40) (N := some 94) (v := _) (a' := _) (M3_58 2199023255551) rfl rfl (any_of HT_.out (by kernel_rfl)) (fun _ _ _ h => h) (Or.inl ⟨(by rfl), (by intro w'; go_simp; with_reducible rfl)⟩) Z3_18 ?_
    refine pure_ (i := 41) (N := some 95) (v := _) (a' := _) (M3_58 4398046511103) rfl rfl (any_of HT_.out (by kernel_rfl)) (fun _ _ _ h => h) (Or.inl ⟨(by rfl), (by intro w'; go_simp; with_reducible rfl)⟩) Z3_18 ?_
    refine pure_ (i := 42) (N := some 96) (v := _) (a' := _) (M3_58 8796093022207) rfl rfl (any_of HT_.out (by kernel_rfl)) (fun _ _ _ h => h) (Or.inl ⟨(by rfl), (by intro w'; go_simp; with_reducible rfl)⟩) Z3_18 ?_
    refine pure_ (i := 43) (N := some 97) (v := _) (a' := _) (M3_58 17592186044415) rfl rfl (any_of HT_.out (by kernel_rfl)) (fun _ _ _ h => h) (Or.inl ⟨(by rfl), (by intro w'; go_simp; with_reducible rfl)⟩) Z3_18 ?_
    refine pure_ (i := 44) (N := some 98) (v := _) (a' := _) (M3_58 35184372088831) rfl rfl (any_of HT_.out (by kernel_rfl)) (fun _ _ _ h => h) (Or.inl ⟨(by rfl), (by intro w'; go_simp; with_reducible rfl)⟩) Z3_18 ?_
    refine pure_ (i := 45) (N := some 99) (v := _) (a' := _) (M3_58 70368744177663) rfl rfl (any_of HT_.out (by kernel_rfl)) (fun _ _ _ h => h) (Or.inl ⟨(by rfl), (by intro w'; go_simp; with_reducible rfl)⟩) Z3_18 ?_
    refine pure_ (i := 46) (N := some 100) (v := _) (a' := _) (M3_58 140737488355327) rfl rfl (any_of HT_.out (by kernel_rfl)) (fun _ _ _ h => h) (Or.inl ⟨(by rfl), (by intro w'; go_simp; with_reducible rfl)⟩) Z3_18 ?_
    refine pure_ (i := 47) (N := some 101) (v := undef) (a' := ?_) (M3_58 281474976710655) rfl rfl (any_of HT_.out (by kernel_rfl)) (fun _ _ _ h => h) (Or.inr ⟨(by rfl), rfl⟩) ?_ ?_
    rotate_left
    · simp only [Act.put, List.setIfInBounds_toArray, List.set_cons_zero, List.set_cons_succ, i64_w, i32_w]
      rfl
    refine pure_ (i := 48) (N := some 102) (v := undef) (a' := ?_) (M3_58 562949953421311) rfl rfl (any_of HT_.out (by kernel_rfl)) (fun _ _ _ h => h) (Or.inr ⟨(by rfl), rfl⟩) ?_ ?_
    rotate_left
    · simp only [Act.put, List.setIfInBounds_toArray, List.set_cons_zero, List.set_cons_succ, i64_w, i32_w]
      rfl
    refine pure_ (i := 49) (N := some 103) (v := undef) (a' := ?_) (M3_58 1125899906842623) rfl rfl (any_of HT_.out (by kernel_rfl)) (fun _ _ _ h => h) (Or.inr ⟨(by rfl), rfl⟩) ?_ ?_
    rotate_left
    · simp only [Act.put, List.setIfInBounds_toArray, List.set_cons_zero, List.set_cons_succ, i64_w, i32_w]
      rfl
    refine pure_ (i := 50) (N := some 104) (v := undef) (a' := ?_) (M3_58 2251799813685247) rfl rfl (any_of HT_.out (by kernel_rfl)) (fun _ _ _ h => h) (Or.inr ⟨(by rfl), rfl⟩) ?_ ?_
    rotate_left
    · simp only [Act.put, List.setIfInBounds_toArray, List.set_cons_zero, List.set_cons_succ, i64_w, i32_w]
      rfl
    refine pure_ (i := 51) (N := some 105) (v := undef) (a' := ?_) (M3_58 4503599627370495) rfl rfl (any_of HT_.out (by kernel_rfl)) (fun _ _ _ h => h) (Or.inr ⟨(by rfl), rfl⟩) ?_ ?_
    rotate_left
    · simp only [Act.put, List.setIfInBounds_toArray, List.set_cons_zero, List.set_cons_succ, i64_w, i32_w]
      rfl
    refine pure_ (i := 52) (N := some 106) (v := undef) (a' := ?_) (M3_58 9007199254740991) rfl rfl (any_of HT_.out (by kernel_rfl)) (fun _ _ _ h => h) (Or.inr ⟨(by rfl), rfl⟩) ?_ ?_
    rotate_left
    · simp only [Act.put, List.setIfInBounds_toArray, List.set_cons_zero, List.set_cons_succ, i64_w, i32_w]
      rfl
    refine pure_ (i := 53) (N := some 107) (v := undef) (a' := ?_) (M3_58 18014398509481983) rfl rfl (any_of HT_.out (by kernel_rfl)) (fun _ _ _ h => h) (Or.inr ⟨(by rfl), rfl⟩) ?_ ?_
    rotate_left
    · simp only [Act.put, List.setIfInBounds_toArray, List.set_cons_zero, List.set_cons_succ, i64_w, i32_w]
      rfl
    refine pure_ (i := 54) (N := some 108) (v := undef) (a' := ?_) (M3_58 36028797018963967) rfl rfl (any_of HT_.out (by kernel_rfl)) (fun _ _ _ h => h) (Or.inr ⟨(by rfl), rfl⟩) ?_ ?_
    rotate_left
    · simp only [Act.put, List.setIfInBounds_toArray, List.set_cons_zero, List.set_cons_succ, i64_w, i32_w]
      rfl
    refine pure_ (i := 55) (N := some 109) (v := _) (a' := _) (M3_58 72057594037927935) rfl rfl (any_of HT_.out (by kernel_rfl)) (fun _ _ _ h => h) (Or.inl ⟨(by rfl), (by intro w'; go_simp; with_reducible rfl)⟩) Z3_18 ?_
    refine pure_ (i := 56) (N := some 110) (v := _) (a' := _) (M3_58 144115188075855871) rfl rfl (any_of HT_.out (by kernel_rfl)) (fun _ _ _ h => h) (Or.inl ⟨(by rfl), (by intro w'; go_simp; with_reducible rfl)⟩) Z3_18 ?_
    refine pure_ (i := 57) (N := some 2) (v := _) (a' := _) (M3_58 288230376151711743) rfl rfl (any_of HT_.out (by kernel_rfl)) (fun _ _ _ h => h) (Or.inl ⟨(by rfl), (by intro w'; go_simp; with_reducible rfl)⟩) Z3_18 ?_
    refine done_ (done_of HT_.out (by kernel_rfl)) ?_
    try go_wp2
    go_ret
    exact ⟨Z3_23, Z3_14⟩
  subst c22
  have H1 : ((impl_PutNum.f (([] : List Int)) t251).bind fun t266 => (if 0 ≤ t248 then (if t248 ≤ t252 then (if t252 ≤ (t247.length : Int) then ((laws_same.f t266 ((t247.take (t252 : Int).toNat).drop (t248 : Int).toNat)).bind fun t273 => (some t273)) else (none)) else (none)) else (none))) = some r := by rw [if_pos rfl] at H; exact H
  clear H
  have H := H1
  clear H1
  obtain ⟨y263, hy263⟩ : ∃ y_ : List Int, y_ = (([] : List Int)) := ⟨_, rfl⟩
  replace H : ((impl_PutNum.f y263 t251).bind fun t266 => (if 0 ≤ t248 then (if t248 ≤ t252 then (if t252 ≤ (t247.length : Int) then ((laws_same.f t266 ((t247.take (t252 : Int).toNat).drop (t248 : Int).toNat)).bind fun t273 => (some t273)) else (none)) else (none)) else (none))) = some r := by first | (rw [hy263]; with_reducible exact H) | (have H2_ := (Option.bind_some _ _).symm.trans H; rw [hy263]; with_reducible exact H2_) | (have H2_ := (Option.bind_some _ _).symm.trans H; with_reducible exact H2_) | with_reducible exact H | (rw [hy263]; exact H) | exact H
  have Ny263 := Aside0.mk hy263
  clear hy263
  replace H := Option.bind_eq_some_iff.mp H
  obtain ⟨t266, A230, H⟩ := H
  replace H : (if 0 ≤ t248 then (if t248 ≤ t252 then (if t252 ≤ (t247.length : Int) then ((laws_same.f t266 ((t247.take (t252 : Int).toNat).drop (t248 : Int).toNat)).bind fun t273 => (some t273)) else (none)) else (none)) else (none)) = some r := H
  have A23 := Aside0.mk A230
  clear A230
  by_cases c24 : 0 ≤ t248
  rotate_left
  · rw [if_neg c24] at H
    exact absurd H (by simp)
  rw [if_pos c24] at H
  have c24b0 := eq_true c24
  have c24b1 : decide (0 ≤ t248) = true := decide_eq_true c24
  clear c24
  by_cases c25 : t248 ≤ t252
  rotate_left
  · rw [if_neg c25] at H
    exact absurd H (by simp)
  rw [if_pos c25] at H
  have c25b0 := eq_true c25
  have c25b1 : decide (t248 ≤ t252) = true := decide_eq_true c25
  clear c25
  by_cases c26 : t252 ≤ (t247.length : Int)
  rotate_left
  · rw [if_neg c26] at H
    exact absurd H (by simp)
  rw [if_pos c26] at H
  have c26b0 := eq_true c26
  have c26b1 : decide (t252 ≤ (t247.length : Int)) = true := decide_eq_true c26
  clear c26
  obtain ⟨y269, hy269⟩ : ∃ y_ : List Int, y_ = ((t247.take (t252 : Int).toNat).drop (t248 : Int).toNat) := ⟨_, rfl⟩
  replace H : ((laws_same.f t266 y269).bind fun t273 => (some t273)) = some r := by first | (rw [hy269]; with_reducible exact H) | (have H2_ := (Option.bind_some _ _).symm.trans H; rw [hy269]; with_reducible exact H2_) | (have H2_ := (Option.bind_some _ _).symm.trans H; with_reducible exact H2_) | with_reducible exact H | (rw [hy269]; exact H) | exact H
  have Ny269 := Aside0.mk hy269
  clear hy269
  replace H := Option.bind_eq_some_iff.mp H
  obtain ⟨t273, A270, H⟩ := H
  replace H : (some t273) = some r := H
  have A27 := Aside0.mk A270
  clear A270
  obtain rfl := Option.some.inj H
  go_enter Try.func4, Try.ntmps4
  try go_wp2_with (first | ((with_reducible refine gate_callee (f := 15) rfl ?_); refine goesL_ (some 18) rfl rfl Try.func15 (by kernel_rfl) rfl #[.slice A0 l0.length c0] rfl Z3_11 ?_; (with_reducible refine (laws_big.calls _ _ l0 false _ ?side1 ?side2 A2.out).mono ?_); (case side1 => repeat (first | exact HR0.out | (with_reducible refine Kd.C_alloc ?_ _) | (with_reducible refine Kd.C_drewN ?_ _) | (with_reducible refine Kd.C_drew ?_))); (case side2 => exact HC0.out); rintro e w' ⟨rfl, ⟨nd, rfl⟩⟩; refine ⟨_, rfl, ?_⟩) | ((with_reducible refine gate_callee (f := 30) rfl ?_); refine goesL_ (some 21) rfl rfl Try.func30 (by kernel_rfl) rfl #[.slice A0 l0.length c0] rfl Z3_11 ?_; (with_reducible refine (spec_DrawPutNum.calls k _ _ l0 t237 t238 _ ?side1 ?side2 A4.out).mono ?_); (case side1 => repeat (first | exact HR0.out | (with_reducible refine Kd.C_alloc ?_ _) | (with_reducible refine Kd.C_drewN ?_ _) | (with_reducible refine Kd.C_drew ?_))); (case side2 => exact HC0.out); rintro e w28 ⟨v239, rfl, ho0, hb⟩; refine ⟨_, rfl, ?_⟩; have n0_ := Aside0.mk Z3_8; have n1_ := Aside0.mk Z3_10; clear HB; have HO240 := n0_; have HB := n1_; clear n0_ n1_; (try clear hb); (try clear hb2); (try clear hk); (try clear hi); (try clear ho0); obtain ⟨Ao29, co29, eo29⟩ := Kd.R_slice HO240.out; subst eo29) | ((with_reducible refine gate_callee (f := 31) rfl ?_); refine goesL_ (some 26) rfl rfl Try.func31 (by kernel_rfl) rfl #[.slice Ao29 t237.length co29, .int .i64 t238] rfl Z3_11 ?_; (with_reducible refine (impl_PutNum.calls _ _ t237 t238 t241 _ ?side1 ?side2 A5.out).mono ?_); (case side1 => repeat (first | exact (Kd.R_reads' HO240.out).2.2 | (with_reducible refine Kd.C_alloc ?_ _) | (with_reducible refine Kd.C_drewN ?_ _) | (with_reducible refine Kd.C_drew ?_))); (case side2 => exact (Kd.R_reads' HO240.out).2.1); rintro e w30 ⟨v242, rfl, ho0, hb⟩; refine ⟨_, rfl, ?_⟩; have n0_ := Aside0.mk Z3_12; have n1_ := Aside0.mk Z3_2; have n2_ := Aside0.mk Z3_10; clear HO240; clear HB; have HO240 := n0_; have HO243 := n1_; have HB := n2_; clear n0_ n1_ n2_; (try clear hb); (try clear hb2); (try clear hk); (try clear hi); (try clear ho0); obtain ⟨Ao31, co31, eo31⟩ := Kd.R_slice HO243.out; subst eo31) | ((with_reducible refine gate_callee (f := 32) rfl ?_); refine goesL_ (some 31) rfl rfl Try.func32 (by kernel_rfl) rfl #[.slice Ao31 t241.length co31, .int .i64 (t237.length : Int)] rfl Z3_11 ?_; (with_reducible refine (impl_GetNum.calls k _ _ t241 (t237.length : Int) t244 t245 true _ ?side1 ?side2 A6.out).mono ?_); (case side1 => repeat (first | exact (Kd.R_reads' HO243.out).2.2 | (with_reducible refine Kd.C_alloc ?_ _) | (with_reducible refine Kd.C_drewN ?_ _) | (with_reducible refine Kd.C_drew ?_))); (case side2 => exact (Kd.R_reads' HO243.out).2.1); rintro e w' ⟨rfl, ⟨nd, rfl⟩⟩; refine ⟨_, rfl, ?_⟩) | ((with_reducible refine gate_callee (f := 33) rfl ?_); refine goesL_ (some 37) rfl rfl Try.func33 (by kernel_rfl) rfl #[.slice A0 l0.length c0] rfl Z3_11 ?_; (with_reducible refine (spec_DrawGetNum.calls k _ _ l0 t247 t248 _ ?side1 ?side2 A7.out).mono ?_); (case side1 => repeat (first | exact (Kd.C_below HR0.out Z3_14) | (with_reducible refine Kd.C_alloc ?_ _) | (with_reducible refine Kd.C_drewN ?_ _) | (with_reducible refine Kd.C_drew ?_))); (case side2 => exact HC0.out); rintro e w32 ⟨v249, rfl, ho0, hb⟩; refine ⟨_, rfl, ?_⟩; have n0_ := Aside0.mk Z3_12; have n1_ := Aside0.mk Z3_13; have n2_ := Aside0.mk Z3_1; have n3_ := Aside0.mk Z3_10; clear HO240; clear HO243; clear HB; have HO240 := n0_; have HO243 := n1_; have HO250 := n2_; have HB := n3_; clear n0_ n1_ n2_ n3_; (try clear hb); (try clear hb2); (try clear hk); (try clear hi); (try clear ho0); obtain ⟨Ao33, co33, eo33⟩ := Kd.R_slice HO250.out; subst eo33) | ((with_reducible refine gate_callee (f := 32) rfl ?_); refine goesL_ (some 43) rfl rfl Try.func32 (by kernel_rfl) rfl #[.slice Ao33 t247.length co33, .int .i64 t248] rfl Z3_11 ?_; (with_reducible refine (impl_GetNum.calls k _ _ t247 t248 t251 t252 true _ ?side1 ?side2 A8.out).mono ?_); (case side1 => repeat (first | exact (Kd.R_reads' HO250.out).2.2 | (with_reducible refine Kd.C_alloc ?_ _) | (with_reducible refine Kd.C_drewN ?_ _) | (with_reducible refine Kd.C_drew ?_))); (case side2 => exact (Kd.R_reads' HO250.out).2.1); rintro e w' ⟨rfl, ⟨nd, rfl⟩⟩; refine ⟨_, rfl, ?_⟩) | ((with_reducible refine gate_callee (f := 34) rfl ?_); refine goesL_ (some 50) rfl rfl Try.func34 (by kernel_rfl) rfl #[.slice Ao33 t247.length co33, .int .i64 t248] rfl Z3_11 ?_; (with_reducible refine (spec_GetNum.calls k _ _ t247 t248 t254 t255 t256 _ ?side1 ?side2 A9.out).mono ?_); (case side1 => repeat (first | exact (Kd.R_reads' HO250.out).2.2 | (with_reducible refine Kd.C_alloc ?_ _) | (with_reducible refine Kd.C_drewN ?_ _) | (with_reducible refine Kd.C_drew ?_))); (case side2 => exact (Kd.R_reads' HO250.out).2.1); rintro e w' ⟨rfl, ⟨nd, rfl⟩⟩; refine ⟨_, rfl, ?_⟩))
  (try (rw [drewN_self w32]; generalize hq_ : World.drewN w32 _ = w32; have n0_ : Aside0 (Kd.R (Kd.int .u8) 5 w32 w.heap.size (fun k_ => some k_ ≠ (.slice Ao31 t241.length co31 : Value).ownBlock ∧ some k_ ≠ (.slice Ao33 t247.length co33 : Value).ownBlock) (.slice Ao29 t237.length co29) t237) := ⟨Z3_5⟩; have n1_ : Aside0 (Kd.R (Kd.int .u8) 5 w32 w.heap.size (fun k_ => some k_ ≠ (.slice Ao29 t237.length co29 : Value).ownBlock ∧ some k_ ≠ (.slice Ao33 t247.length co33 : Value).ownBlock) (.slice Ao31 t241.length co31) t241) := ⟨Z3_6⟩; have n2_ : Aside0 (Kd.R (Kd.int .u8) 5 w32 w.heap.size (fun k_ => some k_ ≠ (.slice Ao29 t237.length co29 : Value).ownBlock ∧ some k_ ≠ (.slice Ao31 t241.length co31 : Value).ownBlock) (.slice Ao33 t247.length co33) t247) := ⟨Z3_7⟩; have n3_ : Aside0 (Below w.heap.size w w32) := ⟨Z3_9⟩; clear HO240 HO243 HO250 HB hq_; have HO240 := n0_; have HO243 := n1_; have HO250 := n2_; have HB := n3_; clear n0_ n1_ n2_ n3_))
  have n0_ := Aside0.mk (Kd.R_drew HO240.out)
  have n1_ := Aside0.mk (Kd.R_drew HO243.out)
  have n2_ := Aside0.mk (Kd.R_drew HO250.out)
  have n3_ := Aside0.mk (below_drew1 HB.out)
  clear HO240
  clear HO243
  clear HO250
  clear HB
  have HO240 := n0_
  have HO243 := n1_
  have HO250 := n2_
  have HB := n3_
  clear n0_ n1_ n2_ n3_
  refine start_ (n := 58) (S := fun w' => True) (ds := []) #[false, false, false, false, false, false, false, false, false, false, false, false, false, false, false, false, false, false, false, false, false, false, false, false, false, false, false, false, false, false, false, false, false, false, false, false, false, false, false, false, false, false, false, false, false, false, false, false, false, false, false, false, false, false, false, false, false, false] (by kernel_rfl) rfl rfl trivial (fun hHeld => ?_); refine with_tabW laws_FnNums.tab9 laws_FnNums.bits9 (fun HT_ HW_ => ?_)
  generalize w32.drew = w34 at HO240 HO243 HO250 HB hHeld ⊢
  refine pure_ (i := 0) (N := some 54) (v := _) (a' := _) (M3_58 1) rfl rfl (any_of HT_.out (by kernel_rfl)) (fun _ _ _ h => h) (Or.inl ⟨(by rfl), (by intro w'; go_simp; with_reducible rfl)⟩) Z3_18 ?_
  refine pure_ (i := 1) (N := some 55) (v := _) (a' := _) (M3_58 3) rfl rfl (any_of HT_.out (by kernel_rfl)) (fun _ _ _ h => h) (Or.inl ⟨(by rfl), (by intro w'; go_simp; with_reducible rfl)⟩) Z3_18 ?_
  refine pure_ (i := 2) (N := some 56) (v := _) (a' := _) (M3_58 7) rfl rfl (any_of HT_.out (by kernel_rfl)) (fun _ _ _ h => h) (Or.inl ⟨(by rfl), (by intro w'; go_simp; with_reducible rfl)⟩) Z3_18 ?_
  refine pure_ (i := 3) (N := some 57) (v := _) (a' := _) (M3_58 15) rfl rfl (any_of HT_.out (by kernel_rfl)) (fun _ _ _ h => h) (Or.inl ⟨(by rfl), (by intro w'; go_simp; with_reducible rfl)⟩) Z3_18 ?_
  refine one_ (i := 4) (N := some 58) (M3_58 31) rfl rfl (one_of HT_.out (by kernel_rfl)) (by decide) (fun K hK => ?_)
  refine goes_ Try.func28 (by kernel_rfl) rfl #[.int .i64 t238] (by rfl) rfl rfl Z3_11 ?_
  with_reducible refine (impl_Bound.calls t238 t257 _ A11.out).mono ?_
  rintro e w35 ⟨rfl, hb⟩
  refine ⟨_, rfl, ?_⟩
  have n0_ := Aside0.mk Z3_15
  have n1_ := Aside0.mk Z3_16
  have n2_ := Aside0.mk Z3_17
  have n3_ := Aside0.mk Z3_10
  clear HO240
  clear HO243
  clear HO250
  clear HB
  have HO240 := n0_
  have HO243 := n1_
  have HO250 := n2_
  have HB := n3_
  clear n0_ n1_ n2_ n3_
  (try clear hb)
  (try clear hb2)
  (try clear hk)
  (try clear hi)
  have q36 : ((t237.length : Int) : Int) ≤ ((t241.length : Int) : Int) := of_decide_eq_true Z3_24
  obtain ⟨i036, hi036, _, hsz36, _⟩ := info_parts info5
  have hroom36 : t241.length ≤ co31 := (Kd.R_reads' HO243.out).2.1
  have hC36 : Kd.C (Kd.int .u8) _ Ao31 t241.length t241 := (Kd.R_reads' HO243.out).2.2
  have hcut36 := cut_to (P := Try.prog) 22 5 .i64 Try.underlying22 hi036 Ao31 t241.length co31 (t237.length : Int) (of_decide_eq_true Z3_24) q36 hroom36
  have hr36 := Kd.C_take (m := ((t237.length : Int) : Int).toNat) hC36 (by omega)
  have hy36 : y258.length = ((t237.length : Int) : Int).toNat := (by rw [Ny258.out, List.length_take]; omega)
  rw [← Ny258.out] at hr36
  rw [← hy36] at hcut36
  have HR261 := Aside0.mk hr36
  have HC261 := Aside0.mk (show y258.length ≤ co31 from by omega)
  clear hr36 hC36 hroom36 hi036 hsz36
  have KY36 := Aside0.mk hy36
  clear hy36
  have KL36 := Aside0.mk (show ((t237.length : Int) : Int).toNat ≤ t241.length from by omega)
  replace q36 := eq_true q36
  refine hK.out _ _ trivial (fun hHeld => ?_)
  clear hK K
  refine norm_ (a' := ?_) ?_ ?_
  rotate_left
  · show Act.put _ (some 58) _ = _
    simp only [Act.put, List.setIfInBounds_toArray, List.set_cons_zero, List.set_cons_succ, i64_w, i32_w]
    rfl
  refine pure_ (i := 5) (N := some 59) (v := _) (a' := _) (M3_58 63) rfl rfl (any_of HT_.out (by kernel_rfl)) (fun _ _ _ h => h) (Or.inl ⟨(by rfl), (by intro w'; go_simp; with_reducible rfl)⟩) Z3_18 ?_
  refine pure_ (i := 6) (N := some 60) (v := _) (a' := _) (M3_58 127) rfl rfl (any_of HT_.out (by kernel_rfl)) (fun _ _ _ h => h) (Or.inl ⟨(by rfl), (by intro w'; go_simp; with_reducible rfl)⟩) Z3_18 ?_
  refine pure_ (i := 7) (N := some 61) (v := _) (a' := _) (M3_58 255) rfl rfl (any_of HT_.out (by kernel_rfl)) (fun _ _ _ h => h) (Or.inl ⟨(by rfl), (by intro w'; go_simp; with_reducible rfl)⟩) Z3_18 ?_
  refine pure_ (i := 8) (N := some 62) (v := _) (a' := _) (M3_58 511) rfl rfl (any_of HT_.out (by kernel_rfl)) (fun _ _ _ h => h) (Or.inl ⟨(by rfl), (by intro w'; go_simp; with_reducible rfl)⟩) Z3_18 ?_
  refine pure_ (i := 9) (N := some 63) (v := _) (a' := _) (M3_58 1023) rfl rfl (any_of HT_.out (by kernel_rfl)) (fun _ _ _ h => h) (Or.inl ⟨(by rfl), (by intro w'; go_simp; with_reducible rfl)⟩) Z3_18 ?_
  refine pure_ (i := 10) (N := some 64) (v := _) (a' := _) (M3_58 2047) rfl rfl (any_of HT_.out (by kernel_rfl)) (fun _ _ _ h => h) (Or.inl ⟨(by rfl), (by intro w'; go_simp; with_reducible rfl)⟩) Z3_18 ?_
  refine pure_ (i := 11) (N := some 65) (v := _) (a' := _) (M3_58 4095) rfl rfl (any_of HT_.out (by kernel_rfl)) (fun _ _ _ h => h) (Or.inl ⟨(by rfl), (by intro w'; go_simp; with_reducible rfl)⟩) Z3_18 ?_
  refine pure_ (i := 12) (N := some 66) (v := _) (a' := _) (M3_58 8191) rfl rfl (any_of HT_.out (by kernel_rfl)) (fun _ _ _ h => h) (Or.inl ⟨(by rfl), (by intro w'; go_simp; with_reducible rfl)⟩) Z3_18 ?_
  refine pure_ (i := 13) (N := some 67) (v := _) (a' := _) (M3_58 16383) rfl rfl (any_of HT_.out (by kernel_rfl)) (fun _ _ _ h => h) (Or.inl ⟨(by rfl), (by intro w'; go_simp; with_reducible rfl)⟩) Z3_18 ?_
  refine pure_ (i := 14) (N := some 68) (v := _) (a' := _) (M3_58 32767) rfl rfl (any_of HT_.out (by kernel_rfl)) (fun _ _ _ h => h) (Or.inl ⟨(by rfl), (by intro w'; go_simp; with_reducible rfl)⟩) Z3_18 ?_
  refine pure_ (i := 15) (N := some 69) (v := _) (a' := _) (M3_58 65535) rfl rfl (any_of HT_.out (by kernel_rfl)) (fun _ _ _ h => h) (Or.inl ⟨(by rfl), (by intro w'; go_simp; with_reducible rfl)⟩) Z3_18 ?_
  refine pure_ (i := 16) (N := some 70) (v := _) (a' := _) (M3_58 131071) rfl rfl (any_of HT_.out (by kernel_rfl)) (fun _ _ _ h => h) (Or.inl ⟨(by rfl), (by intro w'; go_simp; with_reducible rfl)⟩) Z3_18 ?_
  refine pure_ (i := 17) (N := some 71) (v := _) (a' := _) (M3_58 262143) rfl rfl (any_of HT_.out (by kernel_rfl)) (fun _ _ _ h => h) (Or.inl ⟨(by rfl), (by intro w'; go_simp; with_reducible rfl)⟩) Z3_18 ?_
  refine pure_ (i := 18) (N := some 72) (v := _) (a' := _) (M3_58 524287) rfl rfl (any_of HT_.out (by kernel_rfl)) (fun _ _ _ h => h) (Or.inl ⟨(by rfl), (by intro w'; go_simp; with_reducible rfl)⟩) Z3_18 ?_
  refine pure_ (i := 19) (N := some 73) (v := _) (a' := _) (M3_58 1048575) rfl rfl (any_of HT_.out (by kernel_rfl)) (fun _ _ _ h => h) (Or.inl ⟨(by rfl), (by intro w'; go_simp; with_reducible rfl)⟩) Z3_18 ?_
  refine pure_ (i := 20) (N := some 74) (v := _) (a' := _) (M3_58 2097151) rfl rfl (any_of HT_.out (by kernel_rfl)) (fun _ _ _ h => h) (Or.inl ⟨(by rfl), (by intro w'; go_simp; with_reducible rfl)⟩) Z3_18 ?_
  refine pure_ (i := 21) (N := some 75) (v := _) (a' := _) (M3_58 4194303) rfl rfl (any_of HT_.out (by kernel_rfl)) (fun _ _ _ h => h) (Or.inl ⟨(by rfl), (by intro w'; go_simp; with_reducible rfl)⟩) Z3_18 ?_
  refine pure_ (i := 22) (N := some 76) (v := _) (a' := _) (M3_58 8388607) rfl rfl (any_of HT_.out (by kernel_rfl)) (fun _ _ _ h => h) (Or.inl ⟨(by rfl), (by intro w'; go_simp; with_reducible rfl)⟩) Z3_18 ?_
  refine pure_ (i := 23) (N := some 77) (v := _) (a' := _) (M3_58 16777215) rfl rfl (any_of HT_.out (by kernel_rfl)) (fun _ _ _ h => h) (Or.inl ⟨(by rfl), (by intro w'; go_simp; with_reducible rfl)⟩) Z3_18 ?_
  refine pure_ (i := 24) (N := some 78) (v := _) (a' := _) (M3_58 33554431) rfl rfl (any_of HT_.out (by kernel_rfl)) (fun _ _ _ h => h) (Or.inl ⟨(by rfl), (by intro w'; go_simp; with_reducible rfl)⟩) Z3_18 ?_
  refine pure_ (i := 25) (N := some 79) (v := _) (a' := _) (M3_58 67108863) rfl rfl (any_of HT_.out (by kernel_rfl)) (fun _ _ _ h => h) (Or.inl ⟨(by rfl), (by intro w'; go_simp; with_reducible rfl)⟩) Z3_18 ?_
  refine one_ (i := 26) (N := some 80) (M3_58 134217727) rfl rfl (one_of HT_.out (by kernel_rfl)) (by decide) (fun K hK => ?_)
  refine goes_ Try.func35 (by kernel_rfl) rfl #[.slice Ao31 y258.length co31, .slice Ao29 t237.length co29] (by rfl) rfl rfl Z3_11 ?_
  with_reducible refine (laws_same.calls _ _ y258 _ _ t237 true _ ?side1 ?side2 ?side3 ?side4 A17.out).mono ?_
  (case side1 => repeat (first | exact Z3_4 | (with_reducible refine Kd.C_alloc ?_ _) | (with_reducible refine Kd.C_drewN ?_ _) | (with_reducible refine Kd.C_drew ?_)))
  (case side2 => exact HC261.out)
  (case side3 => repeat (first | exact (Kd.R_reads' HO240.out).2.2 | (with_reducible refine Kd.C_alloc ?_ _) | (with_reducible refine Kd.C_drewN ?_ _) | (with_reducible refine Kd.C_drew ?_)))
  (case side4 => exact (Kd.R_reads' HO240.out).2.1)
  rintro e w' ⟨rfl, ⟨nd, rfl⟩⟩
  refine ⟨_, rfl, ?_⟩
  refine hK.out _ _ trivial (fun hHeld => ?_)
  clear hK K
  refine norm_ (a' := ?_) ?_ ?_
  rotate_left
  · show Act.put _ (some 80) _ = _
    simp only [Act.put, List.setIfInBounds_toArray, List.set_cons_zero, List.set_cons_succ, i64_w, i32_w]
    rfl
  refine pure_ (i := 27) (N := some 81) (v := _) (a' := _) (M3_58 268435455) rfl rfl (any_of HT_.out (by kernel_rfl)) (fun _ _ _ h => h) (Or.inl ⟨(by rfl), (by intro w'; go_simp; with_reducible rfl)⟩) Z3_18 ?_
  refine pure_ (i := 28) (N := some 82) (v := _) (a' := _) (M3_58 536870911) rfl rfl (any_of HT_.out (by kernel_rfl)) (fun _ _ _ h => h) (Or.inl ⟨(by rfl), (by intro w'; go_simp; with_reducible rfl)⟩) Z3_18 ?_
  refine pure_ (i := 29) (N := some 83) (v := _) (a' := _) (M3_58 1073741823) rfl rfl (any_of HT_.out (by kernel_rfl)) (fun _ _ _ h => h) (Or.inl ⟨(by rfl), (by intro w'; go_simp; with_reducible rfl)⟩) Z3_18 ?_
  refine pure_ (i := 30) (N := some 84) (v := _) (a' := _) (M3_58 2147483647) rfl rfl (any_of HT_.out (by kernel_rfl)) (fun _ _ _ h => h) (Or.inl ⟨(by rfl), (by intro w'; go_simp; with_reducible rfl)⟩) Z3_18 ?_
  refine pure_ (i := 31) (N := some 85) (v := _) (a' := _) (M3_58 4294967295) rfl rfl (any_of HT_.out (by kernel_rfl)) (fun _ _ _ h => h) (Or.inl ⟨(by rfl), (by intro w'; go_simp; with_reducible rfl)⟩) Z3_18 ?_
  refine pure_ (i := 32) (N := some 86) (v := _) (a' := _) (M3_58 8589934591) rfl rfl (any_of HT_.out (by kernel_rfl)) (fun _ _ _ h => h) (Or.inl ⟨(by rfl), (by intro w'; go_simp; with_reducible rfl)⟩) Z3_18 ?_
  refine pure_ (i := 33) (N := some 87) (v := _) (a' := _) (M3_58 17179869183) rfl rfl (any_of HT_.out (by kernel_rfl)) (fun _ _ _ h => h) (Or.inl ⟨(by rfl), (by intro w'; go_simp; with_reducible rfl)⟩) Z3_18 ?_
  refine pure_ (i := 34) (N := some 88) (v := _) (a' := _) (M3_58 34359738367) rfl rfl (any_of HT_.out (by kernel_rfl)) (fun _ _ _ h => h) (Or.inl ⟨(by rfl), (by intro w'; go_simp; with_reducible rfl)⟩) Z3_18 ?_
  refine pure_ (i := 35) (N := some 89) (v := _) (a' := _) (M3_58 68719476735) rfl rfl (any_of HT_.out (by kernel_rfl)) (fun _ _ _ h => h) (Or.inl ⟨(by rfl), (by intro w'; go_simp; with_reducible rfl)⟩) Z3_18 ?_
  refine pure_ (i := 36) (N := some 90) (v := _) (a' := _) (M3_58 137438953471) rfl rfl (any_of HT_.out (by kernel_rfl)) (fun _ _ _ h => h) (Or.inl ⟨(by rfl), (by intro w'; go_simp; with_reducible rfl)⟩) Z3_18 ?_
  refine pure_ (i := 37) (N := some 91) (v := _) (a' := _) (M3_58 274877906943) rfl rfl (any_of HT_.out (by kernel_rfl)) (fun _ _ _ h => h) (Or.inl ⟨(by rfl), (by intro w'; go_simp; with_reducible rfl)⟩) Z3_18 ?_
  refine pure_ (i := 38) (N := some 92) (v := _) (a' := _) (M3_58 549755813887) rfl rfl (any_of HT_.out (by kernel_rfl)) (fun _ _ _ h => h) (Or.inl ⟨(by rfl), (by intro w'; go_simp; with_reducible rfl)⟩) Z3_18 ?_
  refine pure_ (i := 39) (N := some 93) (v := _) (a' := _) (M3_58 1099511627775) rfl rfl (any_of HT_.out (by kernel_rfl)) (fun _ _ _ h => h) (Or.inl ⟨(by rfl), (by intro w'; go_simp; with_reducible rfl)⟩) Z3_18 ?_
  refine pure_ (i := 40) (N := some 94) (v := _) (a' := _) (M3_58 2199023255551) rfl rfl (any_of HT_.out (by kernel_rfl)) (fun _ _ _ h => h) (Or.inl ⟨(by rfl), (by intro w'; go_simp; with_reducible rfl)⟩) Z3_18 ?_
  refine pure_ (i := 41) (N := some 95) (v := _) (a' := _) (M3_58 4398046511103) rfl rfl (any_of HT_.out (by kernel_rfl)) (fun _ _ _ h => h) (Or.inl ⟨(by rfl), (by intro w'; go_simp; with_reducible rfl)⟩) Z3_18 ?_
  refine pure_ (i := 42) (N := some 96) (v := _) (a' := _) (M3_58 8796093022207) rfl rfl (any_of HT_.out (by kernel_rfl)) (fun _ _ _ h => h) (Or.inl ⟨(by rfl), (by intro w'; go_simp; with_reducible rfl)⟩) Z3_18 ?_
  refine pure_ (i := 43) (N := some 97) (v := _) (a' := _) (M3_58 17592186044415) rfl rfl (any_of HT_.out (by kernel_rfl)) (fun _ _ _ h => h) (Or.inl ⟨(by rfl), (by intro w'; go_simp; with_reducible rfl)⟩) Z3_18 ?_
  refine pure_ (i := 44) (N := some 98) (v := _) (a' := _) (M3_58 35184372088831) rfl rfl (any_of HT_.out (by kernel_rfl)) (fun _ _ _ h => h) (Or.inl ⟨(by rfl), (by intro w'; go_simp; with_reducible rfl)⟩) Z3_18 ?_
  refine pure_ (i := 45) (N := some 99) (v := _) (a' := _) (M3_58 70368744177663) rfl rfl (any_of HT_.out (by kernel_rfl)) (fun _ _ _ h => h) (Or.inl ⟨(by rfl), (by intro w'; go_simp; with_reducible rfl)⟩) Z3_18 ?_
  refine pure_ (i := 46) (N := some 100) (v := _) (a' := _) (M3_58 140737488355327) rfl rfl (any_of HT_.out (by kernel_rfl)) (fun _ _ _ h => h) (Or.inl ⟨(by rfl), (by intro w'; go_simp; with_reducible rfl)⟩) Z3_18 ?_
  refine pure_ (i := 48) (N := some 102) (v := _) (a' := _) (M3_58 422212465065983) rfl rfl (any_of HT_.out (by kernel_rfl)) (fun _ _ _ h => h) (Or.inl ⟨(by rfl), (by intro w'; go_simp; with_reducible rfl)⟩) Z3_18 ?_
  refine pure_ (i := 50) (N := some 104) (v := _) (a' := _) (M3_58 1548112371908607) rfl rfl (any_of HT_.out (by kernel_rfl)) (fun _ _ _ h => h) (Or.inl ⟨(by rfl), (by intro w'; go_simp; with_reducible rfl)⟩) Z3_18 ?_
  refine pure_ (i := 51) (N := some 105) (v := _) (a' := _) (M3_58 3799912185593855) rfl rfl (any_of HT_.out (by kernel_rfl)) (fun _ _ _ h => h) (Or.inl ⟨(by rfl), (by intro w'; go_simp; with_reducible rfl)⟩) Z3_18 ?_
  refine pure_ (i := 52) (N := some 106) (v := _) (a' := _) (M3_58 8303511812964351) rfl rfl (any_of HT_.out (by kernel_rfl)) (fun _ _ _ h => h) (Or.inl ⟨(by rfl), (by intro w'; go_simp; with_reducible rfl)⟩) Z3_18 ?_
  have q41 : (t252 : Int) ≤ ((t247.length : Int) : Int) := of_decide_eq_true Z3_24
  obtain ⟨i041, hi041, _, hsz41, _⟩ := info_parts info5
  have hroom41 : t247.length ≤ co33 := (Kd.R_reads' HO250.out).2.1
  have ql41 : (t248 : Int) ≤ (t252 : Int) := of_decide_eq_true Z3_24
  have q041 : (0 : Int) ≤ (t248 : Int) := of_decide_eq_true Z3_24
  have hcut41 := cut_mid (P := Try.prog) 22 5 .i64 .i64 Try.underlying22 hi041 1 hsz41 Ao33 t247.length co33 t248 t252 q041 ql41 q41 hroom41
  obtain ⟨A41, hA41⟩ : ∃ A1, A1 = (if co33 = (t248 : Int).toNat then Ao33 else (Ao33 : Option Addr).map (·.add ((t248 : Int).toNat * 1))) := ⟨_, rfl⟩
  obtain ⟨c41, hc41⟩ : ∃ c1, c1 = co33 - (t248 : Int).toNat := ⟨_, rfl⟩
  have hy41 : y269.length = (t252 : Int).toNat - (t248 : Int).toNat := (by rw [Ny269.out, List.length_drop, List.length_take] <;> omega)
  rw [← hy41, ← hA41, ← hc41] at hcut41
  have XR41 := Aside0.mk hroom41
  have XA41 := Aside0.mk hA41
  have XC41 := Aside0.mk hc41
  have XY41 := Aside0.mk hy41
  have XQ41 := Aside0.mk q41
  have XL41 := Aside0.mk ql41
  have X041 := Aside0.mk q041
  clear hroom41 hA41 hc41 hy41 q41 ql41 q041 hi041 hsz41
  refine pure_ (i := 53) (N := some 107) (v := _) (a' := _) (M3_58 17310711067705343) rfl rfl (any_of HT_.out (by kernel_rfl)) (fun _ _ _ h => h) (Or.inl ⟨(by rfl), (by intro w'; go_simp; with_reducible rfl)⟩) Z3_18 ?_
  refine one_ (i := 47) (N := some 101) (M3_58 17451448556060671) rfl rfl (one_of HT_.out (by kernel_rfl)) (by decide) (fun K hK => ?_)
  refine Kd.R_lit_step (Kd.int .u8) _ 5 ?hg (N := 101) ?hd (xs := ([] : List Int)) (inner := []) (ok := fun _ => True) (okp := fun _ => True) ?hr ?hp (fun _ hk => hk) trivial (Below.refl _ _) (Nat.le_refl _) (by simp) ?_; (case hd => rfl); (case hg => rfl); (case hr => first | (go_simp; done) | (go_simp; rfl)); (case hp => exact (Reps.none _ _))
  intro v264 w37 ho38 hb hg_ hnew_
  clear hg_ hnew_
  (first | rw [← Ny263.out] at ho38 | (simp only [Int.reduceToNat] at ho38; rw [← Ny263.out] at ho38))
  have n0_ := Aside0.mk (Kd.R_elder' Z3_19 (Kd.R_base ho38) hb)
  have n1_ := Aside0.mk (Kd.R_elder' Z3_20 (Kd.R_base ho38) hb)
  have n2_ := Aside0.mk (Kd.R_elder' Z3_21 (Kd.R_base ho38) hb)
  have n3_ := Aside0.mk (Kd.R_lower (Kd.R_new' (Kd.R_new' (Kd.R_new' ho38 (Kd.R_lt Z3_19)) (Kd.R_lt Z3_20)) (Kd.R_lt Z3_21)) (below_size Z3_14))
  have n4_ := Aside0.mk Z3_3
  have n5_ := Aside0.mk Z3_10
  clear HO240
  clear HO243
  clear HO250
  clear HR261
  clear HB
  have HO240 := n0_
  have HO243 := n1_
  have HO250 := n2_
  have HO265 := n3_
  have HR261 := n4_
  have HB := n5_
  clear n0_ n1_ n2_ n3_ n4_ n5_
  clear hb ho38
  obtain ⟨Ao39, co39, eo39⟩ := Kd.R_slice HO265.out
  (first | subst eo39 | (injection eo39 with f1_ f2_ f3_; have f4_ := f1_.symm; have f5_ := f3_.symm; clear f1_ f2_ f3_; subst f4_; subst f5_))
  refine hK.out _ _ trivial (fun hHeld => ?_)
  clear hK K
  refine norm_ (a' := ?_) ?_ ?_
  rotate_left
  · show Act.put _ (some 101) _ = _
    simp only [Act.put, List.setIfInBounds_toArray, List.set_cons_zero, List.set_cons_succ, i64_w, i32_w]
    rfl
  refine one_ (i := 49) (N := some 103) (M3_58 18014398509481983) rfl rfl (one_of HT_.out (by kernel_rfl)) (by decide) (fun K hK => ?_)
  refine goes_ Try.func31 (by kernel_rfl) rfl #[.slice Ao39 y263.length co39, .int .i64 t251] (by rfl) rfl rfl Z3_11 ?_
  with_reducible refine (impl_PutNum.calls _ _ y263 t251 t266 _ ?side1 ?side2 A23.out).mono ?_
  (case side1 => repeat (first | exact (Kd.R_reads' HO265.out).2.2 | (with_reducible refine Kd.C_alloc ?_ _) | (with_reducible refine Kd.C_drewN ?_ _) | (with_reducible refine Kd.C_drew ?_)))
  (case side2 => exact (Kd.R_reads' HO265.out).2.1)
  rintro e w40 ⟨v267, rfl, ho0, hb⟩
  refine ⟨_, rfl, ?_⟩
  have n0_ := Aside0.mk Z3_12
  have n1_ := Aside0.mk Z3_13
  have n2_ := Aside0.mk (Kd.R_elder' Z3_21 (Kd.R_base ho0) hb)
  have n3_ := Aside0.mk (Kd.R_elder' Z3_22 (Kd.R_base ho0) hb)
  have n4_ := Aside0.mk (Kd.R_lower (Kd.R_new' (Kd.R_new' (Kd.R_new' (Kd.R_new' ho0 (Kd.R_lt Z3_19)) (Kd.R_lt Z3_20)) (Kd.R_lt Z3_21)) (Kd.R_lt Z3_22)) (below_size Z3_14))
  have n5_ := Aside0.mk Z3_3
  have n6_ := Aside0.mk Z3_10
  clear HO240
  clear HO243
  clear HO250
  clear HO265
  clear HR261
  clear HB
  have HO240 := n0_
  have HO243 := n1_
  have HO250 := n2_
  have HO265 := n3_
  have HO268 := n4_
  have HR261 := n5_
  have HB := n6_
  clear n0_ n1_ n2_ n3_ n4_ n5_ n6_
  (try clear hb)
  (try clear hb2)
  (try clear hk)
  (try clear hi)
  (try clear ho0)
  have hroom41 := XR41.out
  have hA41 := XA41.out
  have hc41 := XC41.out
  have hy41 := XY41.out
  have q41 := XQ41.out
  have ql41 := XL41.out
  have q041 := X041.out
  have hC41 : Kd.C (Kd.int .u8) _ Ao33 t247.length t247 := (Kd.R_reads' HO250.out).2.2
  have hr41 := Kd.C_mid (lo := (t248 : Int).toNat) (hi := (t252 : Int).toNat) (c := co33) hC41 (by omega) (by omega) hroom41
  rw [show ((t247).take (t252 : Int).toNat).drop (t248 : Int).toNat = y269 from Ny269.out.symm] at hr41
  replace hr41 : Kd.C (Kd.int .u8) _ A41 y269.length y269 := (by rw [hA41]; exact hr41)
  have HR272 := Aside0.mk hr41
  have HC272 := Aside0.mk (show y269.length ≤ c41 from by rw [hy41, hc41]; exact Nat.sub_le_sub_right (Nat.le_trans (by omega) hroom41) _)
  clear hr41 hC41 hroom41 hc41
  have KY41 := Aside0.mk hy41
  have KA41 := Aside0.mk hA41
  clear hy41 hA41
  have KL41 := Aside0.mk (show (t252 : Int).toNat ≤ t247.length from by omega)
  have KM41 := Aside0.mk (show (t248 : Int).toNat ≤ (t252 : Int).toNat from by omega)
  replace q41 := eq_true q41
  obtain ⟨Ao42, co42, eo42⟩ := Kd.R_slice HO268.out
  (first | subst eo42 | (injection eo42 with f1_ f2_ f3_; have f4_ := f1_.symm; have f5_ := f3_.symm; clear f1_ f2_ f3_; subst f4_; subst f5_))
  refine hK.out _ _ trivial (fun hHeld => ?_)
  clear hK K
  refine norm_ (a' := ?_) ?_ ?_
  rotate_left
  · show Act.put _ (some 103) _ = _
    simp only [Act.put, List.setIfInBounds_toArray, List.set_cons_zero, List.set_cons_succ, i64_w, i32_w]
    rfl
  refine one_ (i := 54) (N := some 108) (M3_58 36028797018963967) rfl rfl (one_of HT_.out (by kernel_rfl)) (by decide) (fun K hK => ?_)
  refine goes_ Try.func35 (by kernel_rfl) rfl #[.slice Ao42 t266.length co42, .slice A41 y269.length c41] (by rfl) rfl rfl Z3_11 ?_
  with_reducible refine (laws_same.calls _ _ t266 _ _ y269 t273 _ ?side1 ?side2 ?side3 ?side4 A27.out).mono ?_
  (case side1 => repeat (first | exact (Kd.R_reads' HO268.out).2.2 | (with_reducible refine Kd.C_alloc ?_ _) | (with_reducible refine Kd.C_drewN ?_ _) | (with_reducible refine Kd.C_drew ?_)))
  (case side2 => exact (Kd.R_reads' HO268.out).2.1)
  (case side3 => repeat (first | exact (by repeat (first | (with_reducible exact HR272.out) | (with_reducible refine Kd.C_alloc ?_ _) | (with_reducible refine Kd.C_drewN ?_ _) | (with_reducible refine Kd.C_drew ?_) | exact HR272.out)) | (with_reducible refine Kd.C_alloc ?_ _) | (with_reducible refine Kd.C_drewN ?_ _) | (with_reducible refine Kd.C_drew ?_)))
  (case side4 => exact HC272.out)
  rintro e w' ⟨rfl, ⟨nd, rfl⟩⟩
  refine ⟨_, rfl, ?_⟩
  refine hK.out _ _ trivial (fun hHeld => ?_)
  clear hK K
  refine norm_ (a' := ?_) ?_ ?_
  rotate_left
  · show Act.put _ (some 108) _ = _
    simp only [Act.put, List.setIfInBounds_toArray, List.set_cons_zero, List.set_cons_succ, i64_w, i32_w]
    rfl
  refine pure_ (i := 55) (N := some 109) (v := _) (a' := _) (M3_58 72057594037927935) rfl rfl (any_of HT_.out (by kernel_rfl)) (fun _ _ _ h => h) (Or.inl ⟨(by rfl), (by intro w'; go_simp; with_reducible rfl)⟩) Z3_18 ?_
  refine pure_ (i := 56) (N := some 110) (v := _) (a' := _) (M3_58 144115188075855871) rfl rfl (any_of HT_.out (by kernel_rfl)) (fun _ _ _ h => h) (Or.inl ⟨(by rfl), (by intro w'; go_simp; with_reducible rfl)⟩) Z3_18 ?_
  refine pure_ (i := 57) (N := some 2) (v := _) (a' := _) (M3_58 288230376151711743) rfl rfl (any_of HT_.out (by kernel_rfl)) (fun _ _ _ h => h) (Or.inl ⟨(by rfl), (by intro w'; go_simp; with_reducible rfl)⟩) Z3_18 ?_
  refine done_ (done_of HT_.out (by kernel_rfl)) ?_
  try go_wp2
  go_ret
  exact ⟨Z3_23, Z3_14⟩

/-- THE ONE PURE STATEMENT of laws_FnNums: yours. -/
def laws_FnNums.Pure : Prop := ∀ (l0 : List Int), l0.length ≤ maxLen → l0.length * 1 ≤ 140737488351232 → (∀ x ∈ l0, (Lit.int .u8 x).wf = true) → ∃ k, laws_FnNums.f k l0 = some true
theorem laws_FnNums.walk (P : laws_FnNums.Pure) (a0 : Option Addr) (len0 cap0 : Nat) (z0 : List Int) (w : World) (w0 : (a0 = none ∧ len0 = 0 ∧ cap0 = 0 ∧ z0 = []) ∨ ∃ x, a0 = some x ∧ len0 ≤ cap0 ∧ cap0 ≤ maxLen ∧ z0.length = cap0 ∧ (∀ i, i < z0.length → w.cell? (x.add i) = some (.int .u8 (z0.getD i 0))) ∧ ∀ n ∈ z0, (Lit.int .u8 n).wf = true) (y0 : len0 * 1 ≤ 140737488351232) :
    Calls Try.prog 4 #[.slice a0 len0 cap0] w fun e w' => e = .returned (.bool true) ∧ Below w.heap.size w w' := by
  obtain ⟨l0, rfl, hr0, hm0, hw0, hc0⟩ := ReadsInt.ofRowC w0
  obtain ⟨k, h⟩ := P l0 hm0 y0 hw0
  refine (laws_FnNums.calls k _ _ l0 true w (Kd.C_of_reads (d := (0 : Int)) (h1 := fun _ => rfl) hr0) hc0 rfl h).mono ?_
  rintro e w' ⟨rfl, hd⟩
  exact ⟨rfl, hd⟩

end Go.Proofs.Ytfpbbikhcnpceaa.QFnNums
