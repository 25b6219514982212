-- Written by a program of this session (patch_print.py over the print).
import Derived.Test.YtfkidiagmekleaaQAllx0
import Derived.Test.YtfkidiagmekleaaRBas
namespace Go.Proofs.Ytfkidiagmekleaa.QAll
open Go.RowKit Go.Proofs.YtfkidiagmekleaaW.PrintWords Go.Proofs.YtfkidiagmekleaaW.PrintLast Go.Proofs.YtfkidiagmekleaaW.PrintMore
attribute [local go_sem] max2_int min2_int max_two min_two max_three min_three max_four min_four   -- for this text's walks alone
set_option linter.unusedVariables false
set_option linter.unusedSimpArgs false

theorem C24_4 {W : World} {g : Nat} {T : TypeId} {v0 v1 v2 v3 : Value} (h : W.heap[g]? = some (.cells #[v0, v1, v2, v3] T (0, 0))) : (W.cell? ⟨g, 0, none⟩ = some v0 ∧ W.cell? ⟨g, 1, none⟩ = some v1 ∧ W.cell? ⟨g, 2, none⟩ = some v2 ∧ W.cell? ⟨g, 3, none⟩ = some v3) ∧ W.frozen? ⟨g, 0, none⟩ = false ∧ W.frozen? ⟨g, 1, none⟩ = false ∧ W.frozen? ⟨g, 2, none⟩ = false ∧ W.frozen? ⟨g, 3, none⟩ = false := ⟨⟨(blk_cell h 0).trans rfl, (blk_cell h 1).trans rfl, (blk_cell h 2).trans rfl, (blk_cell h 3).trans rfl⟩, blk_frozen h 0, blk_frozen h 1, blk_frozen h 2, blk_frozen h 3⟩
theorem Z24_21 {p : Prop} (h : p := by repeat (first | (with_reducible first | exact HB.out | apply below_alloc | apply pw_below_drewN | apply below_drew1) | exact HB.out)) : p := h
theorem Z24_17 {p : Prop} (h : p := by exact ((by rw [hg]; exact (below_size Z24_21) : w.heap.size ≤ gb746))) : p := h
theorem Z24_19 {p : Prop} (h : p := by exact (below_step Z24_21 hb)) : p := h
theorem Z24_20 {p : Prop} (h : p := by (try simp only [List.map_toArray, List.map_cons, List.map_nil]); first | done | rfl | (simp only [List.length_drop, List.length_take]; rfl)) : p := h
theorem Z24_30 {p : Prop} (h : p := by first | rfl | (simp [errW_none, errW_some] <;> rfl) | (simp [*, errW_none, errW_some] <;> rfl)) : p := h
/-! ### spec_l5Side: function 99 -/
def spec_l5Side.f (a0_0 : Int) (a0_1 : Int) (a0_2 : Bool) : Option (Bool) := (spec_l1In.f a0_0 (-2147483647) 2147483647).bind fun t693 => (if t693 = true then ((spec_l1In.f a0_1 0 2147483647).bind fun t694 => (some t694)) else (some false))
set_option maxHeartbeats 8000000 in
set_option maxRecDepth 100000 in
theorem spec_l5Side.calls (a0_0 : Int) (a0_1 : Int) (a0_2 : Bool) (r : Bool) (w : World) (h : spec_l5Side.f a0_0 a0_1 a0_2 = some r) :
    Calls Try.prog 99 #[.agg #[.int .i64 a0_0, .int .i64 a0_1, .bool a0_2]] w fun e w' => e = .returned (.bool r) ∧ Below w.heap.size w w' := by
  have hu71 := Try.underlying71
  have HB := Aside0.mk (Below.refl w.heap.size w)
  have H : ((spec_l1In.f a0_0 (-2147483647) 2147483647).bind fun t693 => (if t693 = true then ((spec_l1In.f a0_1 0 2147483647).bind fun t694 => (some t694)) else (some false))) = some r := h
  clear h
  replace H := Option.bind_eq_some_iff.mp H
  obtain ⟨t693, A20, H⟩ := H
  replace H : (if t693 = true then ((spec_l1In.f a0_1 0 2147483647).bind fun t694 => (some t694)) else (some false)) = some r := H
  have A2 := Aside0.mk A20
  clear A20
  by_cases c3 : t693 = true
  · subst c3
    have H1 : ((spec_l1In.f a0_1 0 2147483647).bind fun t694 => (some t694)) = some r := by rw [if_pos rfl] at H; exact H
    clear H
    have H := H1
    clear H1
    replace H := Option.bind_eq_some_iff.mp H
    obtain ⟨t694, A40, H⟩ := H
    replace H : (some t694) = some r := H
    have A4 := Aside0.mk A40
    clear A40
    obtain rfl := Option.some.inj H
    go_enter Try.func99, Try.ntmps99
    go_wp2_with (first | ((with_reducible refine gate_dst (N := 1) rfl ?_); refine box_event ?hg (N := 1) ?hd (cs := #[.int .i64 a0_0, .int .i64 a0_1, .bool a0_2]) (t := 71) ?hr ?_; (case hd => rfl); (case hg => rfl); (case hr => first | (go_simp; done) | (go_simp; rfl)); intro gb692 hg w5 hbox hb; have n0_ := Aside0.mk (below_step (by repeat (first | (with_reducible first | exact HB.out | apply below_alloc | apply pw_below_drewN | apply below_drew1) | exact HB.out)) hb); have n1_ := Aside0.mk (hbox); have n2_ := Aside0.mk ((by rw [hg]; exact (below_size (by repeat (first | (with_reducible first | exact HB.out | apply below_alloc | apply pw_below_drewN | apply below_drew1) | exact HB.out))) : w.heap.size ≤ gb692)); have n3_ := Aside0.mk ((by rw [hg]; exact (below_size (by repeat (first | (with_reducible first | exact HB.out | apply below_alloc | apply pw_below_drewN | apply below_drew1) | exact HB.out))) : w.heap.size ≤ gb692)); clear HB; have HB := n0_; have BK692 := n1_; have GW692 := n2_; have GE692 := n3_; clear n0_ n1_ n2_ n3_; clear hb hbox hg; have hcz6_0 : w5.cell? ⟨gb692, 0, none⟩ = some (.int .i64 a0_0) := (blk_cell BK692.out 0).trans rfl; have hcz6_1 : w5.cell? ⟨gb692, 1, none⟩ = some (.int .i64 a0_1) := (blk_cell BK692.out 1).trans rfl; have hcz6_2 : w5.cell? ⟨gb692, 2, none⟩ = some (.bool a0_2) := (blk_cell BK692.out 2).trans rfl; have hfz6_0 := blk_frozen BK692.out 0; have hfz6_1 := blk_frozen BK692.out 1; have hfz6_2 := blk_frozen BK692.out 2) | ((with_reducible refine gate_callee (f := 84) rfl ?_); refine goesL_ (some 5) rfl rfl Try.func84 (by kernel_rfl) rfl #[.int .i64 a0_0, .int .i64 (-2147483647), .int .i64 2147483647] rfl (by (try simp only [List.map_toArray, List.map_cons, List.map_nil]); first | done | rfl | (simp only [List.length_drop, List.length_take]; rfl)) ?_; (with_reducible refine (spec_l1In.calls a0_0 (-2147483647) 2147483647 true _ A2.out).mono ?_); rintro e w' ⟨rfl, ⟨nd, rfl⟩⟩; refine ⟨_, rfl, ?_⟩) | (go_at_call 84; (with_reducible refine (spec_l1In.calls a0_1 0 2147483647 t694 _ A4.out).mono ?_); rintro e w' ⟨rfl, ⟨nd, rfl⟩⟩))
    go_ret
    exact ⟨by first | rfl | (simp [errW_none, errW_some] <;> rfl) | (simp [*, errW_none, errW_some] <;> rfl), by repeat (first | (with_reducible first | exact HB.out | apply below_alloc | apply pw_below_drewN | apply below_drew1 | refine below_set ?_ GE692.out) | exact HB.out)⟩
  · replace c3 := Bool.eq_false_iff.mpr c3
    subst c3
    have H1 : (some false) = some r := by rw [if_neg (show ¬ (false = true) by decide)] at H; exact H
    clear H
    have H := H1
    clear H1
    obtain rfl := Option.some.inj H
    go_enter Try.func99, Try.ntmps99
    go_wp2_with (first | ((with_reducible refine gate_dst (N := 1) rfl ?_); refine box_event ?hg (N := 1) ?hd (cs := #[.int .i64 a0_0, .int .i64 a0_1, .bool a0_2]) (t := 71) ?hr ?_; (case hd => rfl); (case hg => rfl); (case hr => first | (go_simp; done) | (go_simp; rfl)); intro gb692 hg w7 hbox hb; have n0_ := Aside0.mk (below_step (by repeat (first | (with_reducible first | exact HB.out | apply below_alloc | apply pw_below_drewN | apply below_drew1) | exact HB.out)) hb); have n1_ := Aside0.mk (hbox); have n2_ := Aside0.mk ((by rw [hg]; exact (below_size (by repeat (first | (with_reducible first | exact HB.out | apply below_alloc | apply pw_below_drewN | apply below_drew1) | exact HB.out))) : w.heap.size ≤ gb692)); have n3_ := Aside0.mk ((by rw [hg]; exact (below_size (by repeat (first | (with_reducible first | exact HB.out | apply below_alloc | apply pw_below_drewN | apply below_drew1) | exact HB.out))) : w.heap.size ≤ gb692)); clear HB; have HB := n0_; have BK692 := n1_; have GW692 := n2_; have GE692 := n3_; clear n0_ n1_ n2_ n3_; clear hb hbox hg; have hcz8_0 : w7.cell? ⟨gb692, 0, none⟩ = some (.int .i64 a0_0) := (blk_cell BK692.out 0).trans rfl; have hcz8_1 : w7.cell? ⟨gb692, 1, none⟩ = some (.int .i64 a0_1) := (blk_cell BK692.out 1).trans rfl; have hcz8_2 : w7.cell? ⟨gb692, 2, none⟩ = some (.bool a0_2) := (blk_cell BK692.out 2).trans rfl; have hfz8_0 := blk_frozen BK692.out 0; have hfz8_1 := blk_frozen BK692.out 1; have hfz8_2 := blk_frozen BK692.out 2) | ((with_reducible refine gate_callee (f := 84) rfl ?_); refine goesL_ (some 5) rfl rfl Try.func84 (by kernel_rfl) rfl #[.int .i64 a0_0, .int .i64 (-2147483647), .int .i64 2147483647] rfl (by (try simp only [List.map_toArray, List.map_cons, List.map_nil]); first | done | rfl | (simp only [List.length_drop, List.length_take]; rfl)) ?_; (with_reducible refine (spec_l1In.calls a0_0 (-2147483647) 2147483647 false _ A2.out).mono ?_); rintro e w' ⟨rfl, ⟨nd, rfl⟩⟩; refine ⟨_, rfl, ?_⟩))
    go_ret
    exact ⟨by first | rfl | (simp [errW_none, errW_some] <;> rfl) | (simp [*, errW_none, errW_some] <;> rfl), by repeat (first | (with_reducible first | exact HB.out | apply below_alloc | apply pw_below_drewN | apply below_drew1 | refine below_set ?_ GE692.out) | exact HB.out)⟩


/-! ### impl_isSide: function 102 -/
def impl_isSide.f (l0_0 : List (S25)) (l0_1 : List (S71)) (a0_2 : Int) (a0_3 : Int) (a1 : Int) : Option (Bool) := (impl_from.f a1 0 (wrap64 ((l0_1.length : Int) - 1))).bind fun t747 => (some t747)
set_option maxHeartbeats 8000000 in
set_option maxRecDepth 100000 in
theorem impl_isSide.calls (A0_0 : Option Addr) (c0_0 : Nat) (l0_0 : List (S25)) (A0_1 : Option Addr) (c0_1 : Nat) (l0_1 : List (S71)) (a0_2 : Int) (a0_3 : Int) (a1 : Int) (r : Bool) (w : World) (hr0_0 : Kd.C k25 w A0_0 l0_0.length l0_0) (hc0_0 : l0_0.length ≤ c0_0) (hr0_1 : Kd.C k71 w A0_1 l0_1.length l0_1) (hc0_1 : l0_1.length ≤ c0_1) (h : impl_isSide.f l0_0 l0_1 a0_2 a0_3 a1 = some r) :
    Calls Try.prog 102 #[.agg #[.slice A0_0 l0_0.length c0_0, .slice A0_1 l0_1.length c0_1, .int .i64 a0_2, .int .i64 a0_3], .int .i64 a1] w fun e w' => e = .returned (.bool r) ∧ Below w.heap.size w w' := by
  have hu56 := Try.underlying56
  have HR0_0 := Aside0.mk hr0_0
  have HC0_0 := Aside0.mk hc0_0
  clear hr0_0 hc0_0
  have HR0_1 := Aside0.mk hr0_1
  have HC0_1 := Aside0.mk hc0_1
  clear hr0_1 hc0_1
  have HB := Aside0.mk (Below.refl w.heap.size w)
  have H : ((impl_from.f a1 0 (wrap64 ((l0_1.length : Int) - 1))).bind fun t747 => (some t747)) = some r := h
  clear h
  replace H := Option.bind_eq_some_iff.mp H
  obtain ⟨t747, A30, H⟩ := H
  replace H : (some t747) = some r := H
  have A3 := Aside0.mk A30
  clear A30
  obtain rfl := Option.some.inj H
  go_enter Try.func102, Try.ntmps102
  go_wp2_with (first | ((with_reducible refine gate_dst (N := 2) rfl ?_); refine box_event ?hg (N := 2) ?hd (cs := #[.slice A0_0 l0_0.length c0_0, .slice A0_1 l0_1.length c0_1, .int .i64 a0_2, .int .i64 a0_3]) (t := 56) ?hr ?_; (case hd => rfl); (case hg => rfl); (case hr => first | (go_simp; done) | (go_simp; rfl)); intro gb746 hg w4 hbox hb; have n0_ := Aside0.mk Z24_19; have n1_ := Aside0.mk (hbox); have n2_ := Aside0.mk Z24_17; have n3_ := Aside0.mk Z24_17; clear HB; have HB := n0_; have BK746 := n1_; have GW746 := n2_; have GE746 := n3_; clear n0_ n1_ n2_ n3_; clear hb hbox hg; obtain ⟨⟨hcz5_0, hcz5_1, hcz5_2, hcz5_3⟩, hfz5_0, hfz5_1, hfz5_2, hfz5_3⟩ := C24_4 BK746.out) | ((with_reducible refine gate_callee (f := 81) rfl ?_); refine goesL_ (some 10) rfl rfl Try.func81 (by kernel_rfl) rfl #[.int .i64 a1, .int .i64 0, .int .i64 (wrap64 ((l0_1.length : Int) - 1))] rfl Z24_20 ?_; (with_reducible refine (impl_from.calls a1 0 (wrap64 ((l0_1.length : Int) - 1)) t747 _ A3.out).mono ?_); rintro e w' ⟨rfl, ⟨nd, rfl⟩⟩; refine ⟨_, rfl, ?_⟩))
  go_ret
  exact ⟨Z24_30, (by repeat (first | (with_reducible first | exact HB.out | apply below_alloc | apply pw_below_drewN | apply below_drew1 | refine below_set ?_ GE746.out) | exact HB.out))⟩


/-! ### impl_StateOk_1: function 104 -/
def impl_StateOk_1.f (a0_0 : Int) (a0_1 : Int) (a0_2 : Bool) : Option (Bool) := (impl_Bound.f a0_0).bind fun t749 => (if t749 = a0_0 then ((impl_isAmount.f a0_1).bind fun t750 => (some (!t750))) else (some true))
def impl_StateOk_1.T1 : Bool × List (List Nat × List Nat) := (true, [([], []), ([0], [0]), ([1], [1]), ([], []), ([3], [3]), ([2, 4], [2, 4]), ([5, 2], [5]), ([6], [6]), ([7, 6], [6, 7]), ([8, 6, 6], [6, 8]), ([9, 6], [6, 9]), ([6, 10], [6, 10]), ([11, 9, 0, 1, 2, 3, 4, 5, 6, 7, 8, 9, 10, 11], [11])])
def impl_StateOk_1.B1 : List Nat := [0, 1, 3, 0, 8, 31, 63, 127, 255, 511, 1023, 2047, 4095]
theorem impl_StateOk_1.tab1 : rtab .any (opsOf Try.f104 1) = impl_StateOk_1.T1 := by kernel_rfl
theorem impl_StateOk_1.bits1 : waitsOk impl_StateOk_1.T1.2 impl_StateOk_1.B1 = true := by kernel_rfl
set_option maxHeartbeats 8000000 in
set_option maxRecDepth 100000 in
theorem impl_StateOk_1.calls (a0_0 : Int) (a0_1 : Int) (a0_2 : Bool) (r : Bool) (w : World) (h : impl_StateOk_1.f a0_0 a0_1 a0_2 = some r) :
    Calls Try.prog 104 #[.agg #[.int .i64 a0_0, .int .i64 a0_1, .bool a0_2]] w fun e w' => e = .returned (.bool r) ∧ Below w.heap.size w w' := by
  have hu71 := Try.underlying71
  have HB := Aside0.mk (Below.refl w.heap.size w)
  have H : ((impl_Bound.f a0_0).bind fun t749 => (if t749 = a0_0 then ((impl_isAmount.f a0_1).bind fun t750 => (some (!t750))) else (some true))) = some r := h
  clear h
  replace H := Option.bind_eq_some_iff.mp H
  obtain ⟨t749, A20, H⟩ := H
  replace H : (if t749 = a0_0 then ((impl_isAmount.f a0_1).bind fun t750 => (some (!t750))) else (some true)) = some r := H
  have A2 := Aside0.mk A20
  clear A20
  by_cases c3 : t749 = a0_0
  · rw [if_pos c3] at H
    have c3b0 : (t749 == a0_0) = true := beq_iff_eq.mpr c3
    have c3b1 : (t749 != a0_0) = false := bne_eq_false_iff_eq.mpr c3
    clear c3
    replace H := Option.bind_eq_some_iff.mp H
    obtain ⟨t750, A40, H⟩ := H
    replace H : (some (!t750)) = some r := H
    have A4 := Aside0.mk A40
    clear A40
    obtain rfl := Option.some.inj H
    go_enter Try.func104, Try.ntmps104
    try go_wp2_with (first | ((with_reducible refine gate_dst (N := 1) rfl ?_); refine box_event ?hg (N := 1) ?hd (cs := #[.int .i64 a0_0, .int .i64 a0_1, .bool a0_2]) (t := 71) ?hr ?_; (case hd => rfl); (case hg => rfl); (case hr => first | (go_simp; done) | (go_simp; rfl)); intro gb748 hg w5 hbox hb; have n0_ := Aside0.mk (below_step (by repeat (first | (with_reducible first | exact HB.out | apply below_alloc | apply pw_below_drewN | apply below_drew1) | exact HB.out)) hb); have n1_ := Aside0.mk (hbox); have n2_ := Aside0.mk ((by rw [hg]; exact (below_size (by repeat (first | (with_reducible first | exact HB.out | apply below_alloc | apply pw_below_drewN | apply below_drew1) | exact HB.out))) : w.heap.size ≤ gb748)); have n3_ := Aside0.mk ((by rw [hg]; exact (below_size (by repeat (first | (with_reducible first | exact HB.out | apply below_alloc | apply pw_below_drewN | apply below_drew1) | exact HB.out))) : w.heap.size ≤ gb748)); clear HB; have HB := n0_; have BK748 := n1_; have GW748 := n2_; have GE748 := n3_; clear n0_ n1_ n2_ n3_; clear hb hbox hg))
    have n0_ := Aside0.mk (blk_drew BK748.out)
    have n1_ := Aside0.mk (below_drew1 HB.out)
    clear BK748
    clear HB
    have BK748 := n0_
    have HB := n1_
    clear n0_ n1_
    refine start_ (n := 13) (S := fun w' => w'.cell? ⟨gb748, 0, none⟩ = some (.int .i64 a0_0) ∧ w'.cell? ⟨gb748, 1, none⟩ = some (.int .i64 a0_1) ∧ w'.cell? ⟨gb748, 2, none⟩ = some (.bool a0_2)) (ds := []) #[false, false, false, false, false, false, false, false, false, false, false, false, false] (by kernel_rfl) rfl rfl ⟨(blk_cell BK748.out 0).trans rfl, (blk_cell BK748.out 1).trans rfl, (blk_cell BK748.out 2).trans rfl⟩ (fun hHeld => ?_); refine with_tabW impl_StateOk_1.tab1 impl_StateOk_1.bits1 (fun HT_ HW_ => ?_)
    generalize w5.drew = w6 at BK748 HB hHeld ⊢
    refine pure_ (i := 0) (N := some 3) (v := ?_) (a' := ?_) #[true, false, false, false, false, false, false, false, false, false, false, false, false] rfl rfl (any_of HT_.out (by kernel_rfl)) (fun _ _ _ h => h) (Or.inl ⟨by rfl, ?_⟩) ?_ ?_
    rotate_left
    · intro w'
      go_simp
      with_reducible rfl
    rotate_left
    · simp only [Act.put, List.setIfInBounds_toArray, List.set_cons_zero, List.set_cons_succ, i64_w, i32_w]
      rfl
    refine pure_ (i := 3) (N := some 6) (v := ?_) (a' := ?_) #[true, false, false, true, false, false, false, false, false, false, false, false, false] rfl rfl (any_of HT_.out (by kernel_rfl)) (fun _ _ _ h => h) (Or.inl ⟨by rfl, ?_⟩) ?_ ?_
    rotate_left
    · intro w'
      go_simp
      with_reducible rfl
    rotate_left
    · simp only [Act.put, List.setIfInBounds_toArray, List.set_cons_zero, List.set_cons_succ, i64_w, i32_w]
      rfl
    refine take_ (i := 1) (N := some 4) (v := ?_) (a' := ?_) #[true, true, false, true, false, false, false, false, false, false, false, false, false] rfl rfl (take_ofW HT_.out HW_.out (by kernel_rfl)) (fun _ _ _ h => h) (Or.inl ⟨by rfl, ?_⟩) hHeld ?_ ?_
    rotate_left
    · rintro w' ⟨s0, s1, s2⟩
      go_simp
      with_reducible rfl
    rotate_left
    · simp only [Act.put, List.setIfInBounds_toArray, List.set_cons_zero, List.set_cons_succ, i64_w, i32_w]
      rfl
    refine take_ (i := 4) (N := some 7) (v := ?_) (a' := ?_) #[true, true, false, true, true, false, false, false, false, false, false, false, false] rfl rfl (take_ofW HT_.out HW_.out (by kernel_rfl)) (fun _ _ _ h => h) (Or.inl ⟨by rfl, ?_⟩) hHeld ?_ ?_
    rotate_left
    · rintro w' ⟨s0, s1, s2⟩
      go_simp
      with_reducible rfl
    rotate_left
    · simp only [Act.put, List.setIfInBounds_toArray, List.set_cons_zero, List.set_cons_succ, i64_w, i32_w]
      rfl
    refine one_ (i := 2) (N := some 5) #[true, true, true, true, true, false, false, false, false, false, false, false, false] rfl rfl (one_of HT_.out (by kernel_rfl)) (by decide) (fun K hK => ?_)
    refine goes_ Try.func28 (by kernel_rfl) rfl #[.int .i64 a0_0] (by rfl) rfl rfl (by (try simp only [List.map_toArray, List.map_cons, List.map_nil]); first | done | rfl | (simp only [List.length_drop, List.length_take]; rfl)) ?_
    with_reducible refine (impl_Bound.calls a0_0 t749 _ A2.out).mono ?_
    rintro e w7 ⟨rfl, hb⟩
    refine ⟨_, rfl, ?_⟩
    have n0_ := Aside0.mk (blk_below (g := gb748) (o := .cells #[.int .i64 a0_0, .int .i64 a0_1, .bool a0_2] 71 (0, 0)) (by (with_reducible repeat (first | refine blk_drewN ?_ _ | refine blk_drew ?_ | refine blk_alloc ?_ _)); exact BK748.out) hb)
    have n1_ := Aside0.mk (below_step (by repeat (first | (with_reducible first | exact HB.out | apply below_alloc | apply pw_below_drewN | apply below_drew1 | refine below_set ?_ GE748.out) | exact HB.out)) hb)
    clear BK748
    clear HB
    have BK748 := n0_
    have HB := n1_
    clear n0_ n1_
    (try clear hb)
    (try clear hb2)
    (try clear hk)
    (try clear hi)
    refine hK.out _ _ ⟨(blk_cell BK748.out 0).trans rfl, (blk_cell BK748.out 1).trans rfl, (blk_cell BK748.out 2).trans rfl⟩ (fun hHeld => ?_)
    clear hK K
    refine norm_ (a' := ?_) ?_ ?_
    rotate_left
    · show Act.put _ (some 5) _ = _
      simp only [Act.put, List.setIfInBounds_toArray, List.set_cons_zero, List.set_cons_succ, i64_w, i32_w]
      rfl
    refine pure_ (i := 5) (N := some 8) (v := ?_) (a' := ?_) #[true, true, true, true, true, true, false, false, false, false, false, false, false] rfl rfl (any_of HT_.out (by kernel_rfl)) (fun _ _ _ h => h) (Or.inl ⟨by rfl, ?_⟩) ?_ ?_
    rotate_left
    · intro w'
      go_simp
      with_reducible rfl
    rotate_left
    · simp only [Act.put, List.setIfInBounds_toArray, List.set_cons_zero, List.set_cons_succ, i64_w, i32_w]
      rfl
    refine pure_ (i := 6) (N := some 9) (v := ?_) (a' := ?_) #[true, true, true, true, true, true, true, false, false, false, false, false, false] rfl rfl (any_of HT_.out (by kernel_rfl)) (fun _ _ _ h => h) (Or.inl ⟨by rfl, ?_⟩) ?_ ?_
    rotate_left
    · intro w'
      go_simp
      with_reducible rfl
    rotate_left
    · simp only [Act.put, List.setIfInBounds_toArray, List.set_cons_zero, List.set_cons_succ, i64_w, i32_w]
      rfl
    refine pure_ (i := 7) (N := some 10) (v := ?_) (a' := ?_) #[true, true, true, true, true, true, true, true, false, false, false, false, false] rfl rfl (any_of HT_.out (by kernel_rfl)) (fun _ _ _ h => h) (Or.inl ⟨by rfl, ?_⟩) ?_ ?_
    rotate_left
    · intro w'
      go_simp
      with_reducible rfl
    rotate_left
    · simp only [Act.put, List.setIfInBounds_toArray, List.set_cons_zero, List.set_cons_succ, i64_w, i32_w]
      rfl
    refine take_ (i := 8) (N := some 11) (v := ?_) (a' := ?_) #[true, true, true, true, true, true, true, true, true, false, false, false, false] rfl rfl (take_ofW HT_.out HW_.out (by kernel_rfl)) (fun _ _ _ h => h) (Or.inl ⟨by rfl, ?_⟩) hHeld ?_ ?_
    rotate_left
    · rintro w' ⟨s0, s1, s2⟩
      go_simp
      with_reducible rfl
    rotate_left
    · simp only [Act.put, List.setIfInBounds_toArray, List.set_cons_zero, List.set_cons_succ, i64_w, i32_w]
      rfl
    refine one_ (i := 9) (N := some 12) #[true, true, true, true, true, true, true, true, true, true, false, false, false] rfl rfl (one_of HT_.out (by kernel_rfl)) (by decide) (fun K hK => ?_)
    refine goes_ Try.func83 (by kernel_rfl) rfl #[.int .i64 a0_1] (by rfl) rfl rfl (by (try simp only [List.map_toArray, List.map_cons, List.map_nil]); first | done | rfl | (simp only [List.length_drop, List.length_take]; rfl)) ?_
    with_reducible refine (impl_isAmount.calls a0_1 t750 _ A4.out).mono ?_
    rintro e w' ⟨rfl, ⟨nd, rfl⟩⟩
    refine ⟨_, rfl, ?_⟩
    refine hK.out _ _ ⟨(blk_cell BK748.out 0).trans rfl, (blk_cell BK748.out 1).trans rfl, (blk_cell BK748.out 2).trans rfl⟩ (fun hHeld => ?_)
    clear hK K
    refine norm_ (a' := ?_) ?_ ?_
    rotate_left
    · show Act.put _ (some 12) _ = _
      simp only [Act.put, List.setIfInBounds_toArray, List.set_cons_zero, List.set_cons_succ, i64_w, i32_w]
      rfl
    refine pure_ (i := 10) (N := some 13) (v := ?_) (a' := ?_) #[true, true, true, true, true, true, true, true, true, true, true, false, false] rfl rfl (any_of HT_.out (by kernel_rfl)) (fun _ _ _ h => h) (Or.inl ⟨by rfl, ?_⟩) ?_ ?_
    rotate_left
    · intro w'
      go_simp
      with_reducible rfl
    rotate_left
    · simp only [Act.put, List.setIfInBounds_toArray, List.set_cons_zero, List.set_cons_succ, i64_w, i32_w]
      rfl
    refine pure_ (i := 11) (N := some 14) (v := ?_) (a' := ?_) #[true, true, true, true, true, true, true, true, true, true, true, true, false] rfl rfl (any_of HT_.out (by kernel_rfl)) (fun _ _ _ h => h) (Or.inl ⟨by rfl, ?_⟩) ?_ ?_
    rotate_left
    · intro w'
      go_simp
      with_reducible rfl
    rotate_left
    · simp only [Act.put, List.setIfInBounds_toArray, List.set_cons_zero, List.set_cons_succ, i64_w, i32_w]
      rfl
    refine pure_ (i := 12) (N := some 2) (v := ?_) (a' := ?_) #[true, true, true, true, true, true, true, true, true, true, true, true, true] rfl rfl (any_of HT_.out (by kernel_rfl)) (fun _ _ _ h => h) (Or.inl ⟨by rfl, ?_⟩) ?_ ?_
    rotate_left
    · intro w'
      go_simp
      with_reducible rfl
    rotate_left
    · simp only [Act.put, List.setIfInBounds_toArray, List.set_cons_zero, List.set_cons_succ, i64_w, i32_w]
      rfl
    refine done_ (done_of HT_.out (by kernel_rfl)) ?_
    try go_wp2
    go_ret
    exact ⟨by first | rfl | (simp [errW_none, errW_some] <;> rfl) | (simp [*, errW_none, errW_some] <;> rfl), by repeat (first | (with_reducible first | exact HB.out | apply below_alloc | apply pw_below_drewN | apply below_drew1 | refine below_set ?_ GE748.out) | exact HB.out)⟩
  · rw [if_neg c3] at H
    have c3b0 : (t749 == a0_0) = false := beq_eq_false_iff_ne.mpr c3
    have c3b1 : (t749 != a0_0) = true := bne_iff_ne.mpr c3
    obtain rfl := Option.some.inj H
    go_enter Try.func104, Try.ntmps104
    try go_wp2_with (first | ((with_reducible refine gate_dst (N := 1) rfl ?_); refine box_event ?hg (N := 1) ?hd (cs := #[.int .i64 a0_0, .int .i64 a0_1, .bool a0_2]) (t := 71) ?hr ?_; (case hd => rfl); (case hg => rfl); (case hr => first | (go_simp; done) | (go_simp; rfl)); intro gb748 hg w8 hbox hb; have n0_ := Aside0.mk (below_step (by repeat (first | (with_reducible first | exact HB.out | apply below_alloc | apply pw_below_drewN | apply below_drew1) | exact HB.out)) hb); have n1_ := Aside0.mk (hbox); have n2_ := Aside0.mk ((by rw [hg]; exact (below_size (by repeat (first | (with_reducible first | exact HB.out | apply below_alloc | apply pw_below_drewN | apply below_drew1) | exact HB.out))) : w.heap.size ≤ gb748)); have n3_ := Aside0.mk ((by rw [hg]; exact (below_size (by repeat (first | (with_reducible first | exact HB.out | apply below_alloc | apply pw_below_drewN | apply below_drew1) | exact HB.out))) : w.heap.size ≤ gb748)); clear HB; have HB := n0_; have BK748 := n1_; have GW748 := n2_; have GE748 := n3_; clear n0_ n1_ n2_ n3_; clear hb hbox hg))
    have n0_ := Aside0.mk (blk_drew BK748.out)
    have n1_ := Aside0.mk (below_drew1 HB.out)
    clear BK748
    clear HB
    have BK748 := n0_
    have HB := n1_
    clear n0_ n1_
    refine start_ (n := 13) (S := fun w' => w'.cell? ⟨gb748, 0, none⟩ = some (.int .i64 a0_0) ∧ w'.cell? ⟨gb748, 1, none⟩ = some (.int .i64 a0_1) ∧ w'.cell? ⟨gb748, 2, none⟩ = some (.bool a0_2)) (ds := []) #[false, false, false, false, false, false, false, false, false, false, false, false, false] (by kernel_rfl) rfl rfl ⟨(blk_cell BK748.out 0).trans rfl, (blk_cell BK748.out 1).trans rfl, (blk_cell BK748.out 2).trans rfl⟩ (fun hHeld => ?_); refine with_tabW impl_StateOk_1.tab1 impl_StateOk_1.bits1 (fun HT_ HW_ => ?_)
    generalize w8.drew = w9 at BK748 HB hHeld ⊢
    refine pure_ (i := 0) (N := some 3) (v := ?_) (a' := ?_) #[true, false, false, false, false, false, false, false, false, false, false, false, false] rfl rfl (any_of HT_.out (by kernel_rfl)) (fun _ _ _ h => h) (Or.inl ⟨by rfl, ?_⟩) ?_ ?_
    rotate_left
    · intro w'
      go_simp
      with_reducible rfl
    rotate_left
    · simp only [Act.put, List.setIfInBounds_toArray, List.set_cons_zero, List.set_cons_succ, i64_w, i32_w]
      rfl
    refine pure_ (i := 3) (N := some 6) (v := ?_) (a' := ?_) #[true, false, false, true, false, false, false, false, false, false, false, false, false] rfl rfl (any_of HT_.out (by kernel_rfl)) (fun _ _ _ h => h) (Or.inl ⟨by rfl, ?_⟩) ?_ ?_
    rotate_left
    · intro w'
      go_simp
      with_reducible rfl
    rotate_left
    · simp only [Act.put, List.setIfInBounds_toArray, List.set_cons_zero, List.set_cons_succ, i64_w, i32_w]
      rfl
    refine take_ (i := 1) (N := some 4) (v := ?_) (a' := ?_) #[true, true, false, true, false, false, false, false, false, false, false, false, false] rfl rfl (take_ofW HT_.out HW_.out (by kernel_rfl)) (fun _ _ _ h => h) (Or.inl ⟨by rfl, ?_⟩) hHeld ?_ ?_
    rotate_left
    · rintro w' ⟨s0, s1, s2⟩
      go_simp
      with_reducible rfl
    rotate_left
    · simp only [Act.put, List.setIfInBounds_toArray, List.set_cons_zero, List.set_cons_succ, i64_w, i32_w]
      rfl
    refine take_ (i := 4) (N := some 7) (v := ?_) (a' := ?_) #[true, true, false, true, true, false, false, false, false, false, false, false, false] rfl rfl (take_ofW HT_.out HW_.out (by kernel_rfl)) (fun _ _ _ h => h) (Or.inl ⟨by rfl, ?_⟩) hHeld ?_ ?_
    rotate_left
    · rintro w' ⟨s0, s1, s2⟩
      go_simp
      with_reducible rfl
    rotate_left
    · simp only [Act.put, List.setIfInBounds_toArray, List.set_cons_zero, List.set_cons_succ, i64_w, i32_w]
      rfl
    refine one_ (i := 2) (N := some 5) #[true, true, true, true, true, false, false, false, false, false, false, false, false] rfl rfl (one_of HT_.out (by kernel_rfl)) (by decide) (fun K hK => ?_)
    refine goes_ Try.func28 (by kernel_rfl) rfl #[.int .i64 a0_0] (by rfl) rfl rfl (by (try simp only [List.map_toArray, List.map_cons, List.map_nil]); first | done | rfl | (simp only [List.length_drop, List.length_take]; rfl)) ?_
    with_reducible refine (impl_Bound.calls a0_0 t749 _ A2.out).mono ?_
    rintro e w10 ⟨rfl, hb⟩
    refine ⟨_, rfl, ?_⟩
    have n0_ := Aside0.mk (blk_below (g := gb748) (o := .cells #[.int .i64 a0_0, .int .i64 a0_1, .bool a0_2] 71 (0, 0)) (by (with_reducible repeat (first | refine blk_drewN ?_ _ | refine blk_drew ?_ | refine blk_alloc ?_ _)); exact BK748.out) hb)
    have n1_ := Aside0.mk (below_step (by repeat (first | (with_reducible first | exact HB.out | apply below_alloc | apply pw_below_drewN | apply below_drew1 | refine below_set ?_ GE748.out) | exact HB.out)) hb)
    clear BK748
    clear HB
    have BK748 := n0_
    have HB := n1_
    clear n0_ n1_
    (try clear hb)
    (try clear hb2)
    (try clear hk)
    (try clear hi)
    refine hK.out _ _ ⟨(blk_cell BK748.out 0).trans rfl, (blk_cell BK748.out 1).trans rfl, (blk_cell BK748.out 2).trans rfl⟩ (fun hHeld => ?_)
    clear hK K
    refine norm_ (a' := ?_) ?_ ?_
    rotate_left
    · show Act.put _ (some 5) _ = _
      simp only [Act.put, List.setIfInBounds_toArray, List.set_cons_zero, List.set_cons_succ, i64_w, i32_w]
      rfl
    refine pure_ (i := 5) (N := some 8) (v := ?_) (a' := ?_) #[true, true, true, true, true, true, false, false, false, false, false, false, false] rfl rfl (any_of HT_.out (by kernel_rfl)) (fun _ _ _ h => h) (Or.inl ⟨by rfl, ?_⟩) ?_ ?_
    rotate_left
    · intro w'
      go_simp
      with_reducible rfl
    rotate_left
    · simp only [Act.put, List.setIfInBounds_toArray, List.set_cons_zero, List.set_cons_succ, i64_w, i32_w]
      rfl
    refine pure_ (i := 6) (N := some 9) (v := ?_) (a' := ?_) #[true, true, true, true, true, true, true, false, false, false, false, false, false] rfl rfl (any_of HT_.out (by kernel_rfl)) (fun _ _ _ h => h) (Or.inl ⟨by rfl, ?_⟩) ?_ ?_
    rotate_left
    · intro w'
      go_simp
      with_reducible rfl
    rotate_left
    · simp only [Act.put, List.setIfInBounds_toArray, List.set_cons_zero, List.set_cons_succ, i64_w, i32_w]
      rfl
    refine pure_ (i := 7) (N := some 10) (v := undef) (a' := ?_) #[true, true, true, true, true, true, true, true, false, false, false, false, false] rfl rfl (any_of HT_.out (by kernel_rfl)) (fun _ _ _ h => h) (Or.inr ⟨by rfl, rfl⟩) ?_ ?_
    rotate_left
    · simp only [Act.put, List.setIfInBounds_toArray, List.set_cons_zero, List.set_cons_succ, i64_w, i32_w]
      rfl
    refine pure_ (i := 8) (N := some 11) (v := undef) (a' := ?_) #[true, true, true, true, true, true, true, true, true, false, false, false, false] rfl rfl (any_of HT_.out (by kernel_rfl)) (fun _ _ _ h => h) (Or.inr ⟨by rfl, rfl⟩) ?_ ?_
    rotate_left
    · simp only [Act.put, List.setIfInBounds_toArray, List.set_cons_zero, List.set_cons_succ, i64_w, i32_w]
      rfl
    refine pure_ (i := 9) (N := some 12) (v := undef) (a' := ?_) #[true, true, true, true, true, true, true, true, true, true, false, false, false] rfl rfl (any_of HT_.out (by kernel_rfl)) (fun _ _ _ h => h) (Or.inr ⟨by rfl, rfl⟩) ?_ ?_
    rotate_left
    · simp only [Act.put, List.setIfInBounds_toArray, List.set_cons_zero, List.set_cons_succ, i64_w, i32_w]
      rfl
    refine pure_ (i := 10) (N := some 13) (v := undef) (a' := ?_) #[true, true, true, true, true, true, true, true, true, true, true, false, false] rfl rfl (any_of HT_.out (by kernel_rfl)) (fun _ _ _ h => h) (Or.inr ⟨by rfl, rfl⟩) ?_ ?_
    rotate_left
    · simp only [Act.put, List.setIfInBounds_toArray, List.set_cons_zero, List.set_cons_succ, i64_w, i32_w]
      rfl
    refine pure_ (i := 11) (N := some 14) (v := ?_) (a' := ?_) #[true, true, true, true, true, true, true, true, true, true, true, true, false] rfl rfl (any_of HT_.out (by kernel_rfl)) (fun _ _ _ h => h) (Or.inl ⟨by rfl, ?_⟩) ?_ ?_
    rotate_left
    · intro w'
      go_simp
      with_reducible rfl
    rotate_left
    · simp only [Act.put, List.setIfInBounds_toArray, List.set_cons_zero, List.set_cons_succ, i64_w, i32_w]
      rfl
    refine pure_ (i := 12) (N := some 2) (v := ?_) (a' := ?_) #[true, true, true, true, true, true, true, true, true, true, true, true, true] rfl rfl (any_of HT_.out (by kernel_rfl)) (fun _ _ _ h => h) (Or.inl ⟨by rfl, ?_⟩) ?_ ?_
    rotate_left
    · intro w'
      go_simp
      with_reducible rfl
    rotate_left
    · simp only [Act.put, List.setIfInBounds_toArray, List.set_cons_zero, List.set_cons_succ, i64_w, i32_w]
      rfl
    refine done_ (done_of HT_.out (by kernel_rfl)) ?_
    try go_wp2
    go_ret
    exact ⟨by first | rfl | (simp [errW_none, errW_some] <;> rfl) | (simp [*, errW_none, errW_some] <;> rfl), by repeat (first | (with_reducible first | exact HB.out | apply below_alloc | apply pw_below_drewN | apply below_drew1 | refine below_set ?_ GE748.out) | exact HB.out)⟩

/-- The place of the first element that meets the predicate, or -1. -/
def idx71 (p : S71 → Bool) : List S71 → Int → Int
  | [], _ => -1
  | y :: r, i => if p y then i else idx71 p r (i + 1)
theorem idx71_hit (p : S71 → Bool) : ∀ (zs : List S71) (k : Nat) (i : Int), (h : k < zs.length) → p zs[k] = true → (∀ j (hj : j < zs.length), j < k → p zs[j] = false) → idx71 p zs i = i + k
  | [], k, i, h, _, _ => absurd h (Nat.not_lt_zero _)
  | z :: zs, 0, i, _, hp, _ => by
    have : p z = true := hp
    simp [idx71, this]
  | z :: zs, k + 1, i, h, hp, hn => by
    have h0 : p z = false := hn 0 (Nat.succ_pos _) (Nat.succ_pos _)
    rw [idx71, h0, if_neg (by decide), idx71_hit p zs k (i + 1) (Nat.lt_of_succ_lt_succ h) hp (fun j hj hk => hn (j + 1) (Nat.succ_lt_succ hj) (Nat.succ_lt_succ hk))]
    omega
theorem idx71_miss (p : S71 → Bool) : ∀ (zs : List S71) (i : Int), (∀ j (hj : j < zs.length), p zs[j] = false) → idx71 p zs i = -1
  | [], _, _ => rfl
  | z :: zs, i, hn => by
    have h0 : p z = false := hn 0 (Nat.succ_pos _)
    rw [idx71, h0, if_neg (by decide), idx71_miss p zs (i + 1) (fun j hj => hn (j + 1) (Nat.succ_lt_succ hj))]
set_option maxHeartbeats 4000000 in
set_option maxRecDepth 100000 in
/-- slices.IndexFunc over a slice of such structs: the closure g, bound to lb, answers p, and leaves what there was. -/
theorem indexfunc71 (p : S71 → Bool) (g : Nat) (lb : Array Value) (eg : ∀ args w, (callFunc g args).run Try.prog w = .ok (.enter g args) w) (A : Option Addr) (c : Nat) (zs : List S71) (w : World) (hr : Kd.C k71 w A zs.length zs)
    (hp : ∀ (W : World) (x : S71), Below w.heap.size w W → Calls Try.prog g (#[.agg #[.int .i64 x.f0, .int .i64 x.f1, .bool x.f2]] ++ lb) W fun e w' => e = .returned (.bool (p x)) ∧ Below w.heap.size w w') :
    Calls Try.prog 131 #[.slice A zs.length c, .func (.func g) #[] lb] w fun e w' => e = .returned (.int .i64 (idx71 p zs 0)) ∧ Below w.heap.size w w' := by
  have hbig : zs.length ≤ 9223372036854775807 := hr.2.1
  have HR := Aside0.mk hr
  have HP := Aside0.mk hp
  clear hr hp
  go_enter Try.func131, Try.ntmps131
  go_wp2
  go_loopg [5, 8] zs.length (fun gg _ s8 wr => ∃ kk : Nat, kk ≤ zs.length ∧ zs.length - kk ≤ gg ∧ s8 = .int .i64 kk ∧ Aside0 (Below w.heap.size w wr) ∧ Aside0 (∀ j (hj : j < zs.length), j < kk → p zs[j] = false))
  case atStart => exact ⟨0, Nat.zero_le _, by omega, rfl, ⟨Below.refl _ w⟩, ⟨fun j _ hj => absurd hj (Nat.not_lt_zero _)⟩⟩
  case round =>
    obtain ⟨kk, hkk, hg, rfl, BW, HA⟩ := hrel
    by_cases hlt : kk < zs.length
    · have hltz : (kk : Int) < (zs.length : Int) := by omega
      obtain ⟨a, hA, hx0, hx1, hx2⟩ := at_T71 (Kd.C_below HR.out BW.out) (kk : Int) (by omega) hltz
      simp only [Int.toNat_natCast] at hx0 hx1 hx2
      subst hA
      have hy : zs[kk] = rd_T71 zs (kk : Int) := by simp [rd_T71, hlt]
      have hcall := HP.out wr (rd_T71 zs (kk : Int)) BW.out
      generalize rd_T71 zs (kk : Int) = y at hx0 hx1 hx2 hy hcall
      have B := Aside0.mk hy
      clear hy
      cases hq : p y with
      | true =>
        rw [hq] at hcall
        go_wp2_with (go_at_fn g; refine hcall.mono ?_; rintro e w' ⟨rfl, hb'⟩)
        go_ret
        refine ⟨?_, hb'⟩
        rw [idx71_hit p zs kk 0 hlt (by rw [B.out]; exact hq) HA.out, Int.zero_add]
        rfl
      | false =>
        rw [hq] at hcall
        go_wp2_with (go_at_fn g; refine hcall.mono ?_; rintro e w' ⟨rfl, hb'⟩)
        go_roundg (zs.length - (kk + 1))
        case measure => omega
        case rel =>
          refine ⟨kk + 1, by omega, by omega, by go_num, ⟨hb'⟩, ⟨fun j hj hk => ?_⟩⟩
          by_cases e : j = kk
          · subst e
            rw [B.out]; exact hq
          · exact HA.out j hj (by omega)
    · have hltz : ¬ (kk : Int) < (zs.length : Int) := by omega
      go_wp2
      go_ret
      refine ⟨?_, BW.out⟩
      rw [idx71_miss p zs 0 (fun j hj => HA.out j hj (by omega))]
      rfl
/-! ### impl_Side_103: function 103 -/
theorem impl_Side_103.total (x : S71) : ∃ b, impl_StateOk_1.f x.f0 x.f1 x.f2 = some b := by
  unfold impl_StateOk_1.f impl_Bound.f impl_isAmount.f impl_from.f
  repeat' (first | exact ⟨_, rfl⟩ | split | simp only [Option.bind_some])
def impl_Side_103.p (x : S71) : Bool := (impl_StateOk_1.f x.f0 x.f1 x.f2).getD false
theorem impl_Side_103.p_eq (x : S71) : impl_StateOk_1.f x.f0 x.f1 x.f2 = some (impl_Side_103.p x) := by
  obtain ⟨b, hb⟩ := impl_Side_103.total x
  unfold impl_Side_103.p
  rw [hb]
  rfl
def impl_Side_103.f (l0 : List S71) : Option (Bool) := some (decide (0 ≤ idx71 impl_Side_103.p l0 0))
theorem impl_Side_103.closure (w W : World) (x : S71) (hB : Below w.heap.size w W) :
    Calls Try.prog 104 (#[.agg #[.int .i64 x.f0, .int .i64 x.f1, .bool x.f2]] ++ #[]) W fun e w' => e = .returned (.bool (impl_Side_103.p x)) ∧ Below w.heap.size w w' := by
  rw [Array.append_empty]
  exact (impl_StateOk_1.calls (x.f0) (x.f1) (x.f2) (impl_Side_103.p x) W (impl_Side_103.p_eq x)).mono (fun e w' hq => ⟨hq.1, below_step hB hq.2⟩)
set_option maxHeartbeats 4000000 in
set_option maxRecDepth 100000 in
theorem impl_Side_103.calls (A0 : Option Addr) (c0 : Nat) (l0 : List (S71)) (r : Bool) (w : World) (hr0 : Kd.C k71 w A0 l0.length l0) (hc0 : l0.length ≤ c0) (h : impl_Side_103.f l0 = some r) :
    Calls Try.prog 103 #[.slice A0 l0.length c0, .func (.func 104) #[] #[]] w fun e w' => e = .returned (.bool r) ∧ Below w.heap.size w w' := by
  obtain rfl := Option.some.inj h
  have HR := Aside0.mk hr0
  clear h hr0 hc0
  go_enter Try.func103, Try.ntmps103
  go_wp2_with (go_at_call 131; ((with_reducible refine (indexfunc71 impl_Side_103.p 104 #[] (fun args w => enters_ Try.func104 (by kernel_rfl) (by kernel_rfl) args w) A0 c0 l0 _ HR.out (fun W x hB => impl_Side_103.closure _ W x hB)).mono ?_); rintro e w1 ⟨rfl, hB1⟩; have HB1 := Aside0.mk hB1; clear hB1))
  go_ret
  exact ⟨by first | rfl | simp, HB1.out⟩



end Go.Proofs.Ytfkidiagmekleaa.QAll
