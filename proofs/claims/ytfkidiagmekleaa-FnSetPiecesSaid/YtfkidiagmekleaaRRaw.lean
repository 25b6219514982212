-- Written by a program of this session (patch_print.py over the print).
import Derived.Test.YtfkidiagmekleaaQAllx0
import Derived.Test.YtfkidiagmekleaaRL1
import Derived.Test.YtfkidiagmekleaaRL4d
namespace Go.Proofs.Ytfkidiagmekleaa.QAll
open Go.RowKit Go.Proofs.YtfkidiagmekleaaW.PrintWords Go.Proofs.YtfkidiagmekleaaW.PrintLast Go.Proofs.YtfkidiagmekleaaW.PrintMore
attribute [local go_sem] max2_int min2_int max_two min_two max_three min_three max_four min_four   -- for this text's walks alone
set_option linter.unusedVariables false
set_option linter.unusedSimpArgs false

theorem Z5_32 {p : Prop} (h : p := by repeat (first | (with_reducible first | exact HK.out | apply KeepBut.set_ | apply keep_drewN | apply keep_drew | apply keep_alloc) | exact HK.out)) : p := h
theorem Z5_25 {p : Prop} (h : p := by exact (KeepBut.trans Z5_32 (KeepBut.of_below hb g none) (.inl rfl))) : p := h
theorem Z5_30 {p : Prop} (h : p := by repeat (first | (with_reducible first | exact HI0.out | apply IsS120.alloc | apply IsS120.drewN | apply IsS120.drew | apply IsS120.set_1 | apply IsS120.set_2) | exact HI0.out)) : p := h
theorem Z5_26 {p : Prop} (h : p := by exact (IsS120.below Z5_30 hb)) : p := h
theorem Z5_31 {p : Prop} (h : p := by repeat (first | (with_reducible first | exact HB.out | apply below_alloc | apply pw_below_drewN | apply below_drew1 | refine below_set ?_ (IsS120.ge HI0.out)) | exact HB.out)) : p := h
theorem Z5_27 {p : Prop} (h : p := by exact (below_step Z5_31 hb)) : p := h
theorem Z5_29 {p : Prop} (h : p := by exact (KeepBut.trans Z5_32 hk (.inl rfl))) : p := h
theorem Z5_33 {p : Prop} (h : p := by (try simp only [List.map_toArray, List.map_cons, List.map_nil]); first | done | rfl | (simp only [List.length_drop, List.length_take]; rfl)) : p := h
theorem Z5_35 {p : Prop} (h : p := by first | rfl | (simp [errW_none, errW_some] <;> rfl) | (simp [*, errW_none, errW_some] <;> rfl)) : p := h/-! ### spec_l1Odd: function 140 -/
def spec_l1Odd.f (s0_0 : List Int) (s0_1 : Int) (s0_2 : Int) : Option (Int × Int × Int) := (spec_l1Int.f s0_0 s0_1 s0_2 (([(-1), 0, 1, 2, 255, 256, 65535, 2147483647, 2147483648, 4294967295, 4294967296, (-2147483648), 9223372036854775807, (-9223372036854775808)] : List Int))).bind fun bt178 => (some (bt178.1, bt178.2.1, bt178.2.2))
set_option maxHeartbeats 8000000 in
set_option maxRecDepth 100000 in
theorem spec_l1Odd.calls (g : Nat) (s0_0 : List Int) (s0_1 : Int) (s0_2 : Int) (r1 : Int) (r2 : Int) (r3 : Int) (w0 w : World) (hI : IsS120 w0 w g s0_0 s0_1 s0_2) (hB : Below w0.heap.size w0 w) (h : spec_l1Odd.f s0_0 s0_1 s0_2 = some (r1, r2, r3)) :
    Calls Try.prog 140 #[.pointer (some ⟨g, 0, none⟩)] w fun e w' => e = .returned (.int .i64 r1) ∧ IsS120 w0 w' g s0_0 r2 r3 ∧ Below w0.heap.size w0 w' ∧ KeepBut w w' g none := by
  have HI0 := Aside0.mk hI
  have HK := Aside0.mk (KeepBut.refl w g none)
  have HL := Aside0.mk hB.size
  clear hI
  have HW0 := Aside0.mk hB.size
  have HB := Aside0.mk hB
  clear hB
  have H : ((spec_l1Int.f s0_0 s0_1 s0_2 (([(-1), 0, 1, 2, 255, 256, 65535, 2147483647, 2147483648, 4294967295, 4294967296, (-2147483648), 9223372036854775807, (-9223372036854775808)] : List Int))).bind fun bt178 => (some (bt178.1, bt178.2.1, bt178.2.2))) = some (r1, r2, r3) := h
  clear h
  obtain ⟨y175, hy175⟩ : ∃ y_ : List Int, y_ = (([(-1), 0, 1, 2, 255, 256, 65535, 2147483647, 2147483648, 4294967295, 4294967296, (-2147483648), 9223372036854775807, (-9223372036854775808)] : List Int)) := ⟨_, rfl⟩
  replace H : ((spec_l1Int.f s0_0 s0_1 s0_2 y175).bind fun bt178 => (some (bt178.1, bt178.2.1, bt178.2.2))) = some (r1, r2, r3) := by first | (rw [hy175]; with_reducible exact H) | (have H2_ := (Option.bind_some _ _).symm.trans H; rw [hy175]; with_reducible exact H2_) | (have H2_ := (Option.bind_some _ _).symm.trans H; with_reducible exact H2_) | with_reducible exact H | (rw [hy175]; exact H) | exact H
  have Ny175 := Aside0.mk hy175
  clear hy175
  replace H := Option.bind_eq_some_iff.mp H
  obtain ⟨⟨t178, t179, t180⟩, A20, H⟩ := H
  replace H : (some (t178, t179, t180)) = some (r1, r2, r3) := H
  have A2 := Aside0.mk A20
  clear A20
  simp only [Option.some.injEq, Prod.mk.injEq] at H
  obtain ⟨rfl, rfl, rfl⟩ := H
  go_enter Try.func140, Try.ntmps140
  go_wp2_with (first | ((with_reducible refine gate_dst (N := 4) rfl ?_); refine Kd.R_lit (Kd.int .i64) _ 3 ?hg (N := 4) ?hd (xs := ([(-1), 0, 1, 2, 255, 256, 65535, 2147483647, 2147483648, 4294967295, 4294967296, (-2147483648), 9223372036854775807, (-9223372036854775808)] : List Int)) (inner := [.int .i64 (-1), .int .i64 0, .int .i64 1, .int .i64 2, .int .i64 255, .int .i64 256, .int .i64 65535, .int .i64 2147483647, .int .i64 2147483648, .int .i64 4294967295, .int .i64 4294967296, .int .i64 (-2147483648), .int .i64 9223372036854775807, .int .i64 (-9223372036854775808)]) (ok := fun _ => True) (okp := fun _ => True) ?hr ?hp (fun _ hk => hk) trivial (Below.refl _ _) (Nat.le_refl _) (by simp) ?_; (case hd => rfl); (case hg => rfl); (case hr => first | (go_simp; done) | (go_simp; rfl)); (case hp => exact (Reps.one (show Kd.M (Kd.int .i64) _ _ _ (-1) [.int .i64 (-1)] from rfl) (Reps.one (show Kd.M (Kd.int .i64) _ _ _ 0 [.int .i64 0] from rfl) (Reps.one (show Kd.M (Kd.int .i64) _ _ _ 1 [.int .i64 1] from rfl) (Reps.one (show Kd.M (Kd.int .i64) _ _ _ 2 [.int .i64 2] from rfl) (Reps.one (show Kd.M (Kd.int .i64) _ _ _ 255 [.int .i64 255] from rfl) (Reps.one (show Kd.M (Kd.int .i64) _ _ _ 256 [.int .i64 256] from rfl) (Reps.one (show Kd.M (Kd.int .i64) _ _ _ 65535 [.int .i64 65535] from rfl) (Reps.one (show Kd.M (Kd.int .i64) _ _ _ 2147483647 [.int .i64 2147483647] from rfl) (Reps.one (show Kd.M (Kd.int .i64) _ _ _ 2147483648 [.int .i64 2147483648] from rfl) (Reps.one (show Kd.M (Kd.int .i64) _ _ _ 4294967295 [.int .i64 4294967295] from rfl) (Reps.one (show Kd.M (Kd.int .i64) _ _ _ 4294967296 [.int .i64 4294967296] from rfl) (Reps.one (show Kd.M (Kd.int .i64) _ _ _ (-2147483648) [.int .i64 (-2147483648)] from rfl) (Reps.one (show Kd.M (Kd.int .i64) _ _ _ 9223372036854775807 [.int .i64 9223372036854775807] from rfl) (Reps.one (show Kd.M (Kd.int .i64) _ _ _ (-9223372036854775808) [.int .i64 (-9223372036854775808)] from rfl) (Reps.none _ _)))))))))))))))); intro v176 w3 ho4 hb hg_ hnew_; clear hg_ hnew_; (first | rw [← Ny175.out] at ho4 | (simp only [Int.reduceToNat] at ho4; rw [← Ny175.out] at ho4)); have n0_ := Aside0.mk (Kd.R_lower ho4 (keep_size (w := w) (g := g) (row := none) Z5_32)); have n1_ := Aside0.mk Z5_26; have n2_ := Aside0.mk Z5_25; have n3_ := Aside0.mk Z5_27; clear HI0; clear HK; clear HB; have HO177 := n0_; have HI0 := n1_; have HK := n2_; have HB := n3_; clear n0_ n1_ n2_ n3_; clear hb ho4; obtain ⟨Ao5, co5, eo5⟩ := Kd.R_slice HO177.out; subst eo5) | ((with_reducible refine gate_callee (f := 73) rfl ?_); refine goesL_ (some 5) rfl rfl Try.func73 (by kernel_rfl) rfl #[.pointer (some ⟨g, 0, none⟩), .slice Ao5 y175.length co5] rfl Z5_33 ?_; (with_reducible refine (spec_l1Int.calls g s0_0 s0_1 s0_2 _ _ y175 t178 t179 t180 w0 _ ?side1 ?side2 ?side3 ?side4 ?side5 A2.out).mono ?_); (case side1 => repeat (first | (with_reducible first | exact HI0.out | apply IsS120.alloc | apply IsS120.drewN | apply IsS120.drew | apply IsS120.set_1 | apply IsS120.set_2) | exact HI0.out)); (case side2 => repeat (first | (with_reducible first | exact HB.out | apply below_alloc | apply pw_below_drewN | apply below_drew1 | refine below_set ?_ (IsS120.ge HI0.out)) | exact HB.out)); (case side3 => repeat (first | exact (Kd.R_reads' HO177.out).2.2 | (with_reducible refine Kd.C_alloc ?_ _) | (with_reducible refine Kd.C_drewN ?_ _) | (with_reducible refine Kd.C_drew ?_))); (case side4 => exact (Kd.R_reads' HO177.out).2.1); (case side5 => exact far_slice (IsS120.own_ne HI0.out HO177.out (by decide))); rintro e w6 ⟨rfl, hi, hb, hk⟩; refine ⟨_, rfl, ?_⟩; have n0_ := Aside0.mk (Kd.R_mono (Kd.R_keep (IsS120.apart (show IsS120 w0 _ g s0_0 s0_1 s0_2 from by repeat (first | (with_reducible first | exact HI0.out | apply IsS120.alloc | apply IsS120.drewN | apply IsS120.drew | apply IsS120.set_1 | apply IsS120.set_2) | exact HI0.out)) (by (with_reducible repeat (first | apply Kd.R_alloc | apply Kd.R_drewN | apply Kd.R_drew)); exact HO177.out) (by decide)) hk (fun _ h => h.2)) (fun _ h => h.1)); have n1_ := Aside0.mk Z5_29; have n2_ := Aside0.mk (hb); have n3_ := Aside0.mk (hi); clear HO177; clear HK; clear HB; clear HI0; have HO177 := n0_; have HK := n1_; have HB := n2_; have HI0 := n3_; clear n0_ n1_ n2_ n3_; (try clear hb); (try clear hb2); (try clear hk); (try clear hi)))
  go_ret
  exact ⟨Z5_35, Z5_30, Z5_31, Z5_32⟩

/-! ### spec_l1Raw: function 126 -/
def spec_l1Raw.f (s0_0 : List Int) (s0_1 : Int) (s0_2 : Int) : Option (Int × Int × Int) := (spec_l1Once.f s0_0 s0_1 s0_2 2).bind fun bt181 => (if bt181.1 = true then ((spec_l1Odd.f s0_0 bt181.2.1 bt181.2.2).bind fun bt184 => (some (bt184.1, bt184.2.1, bt184.2.2))) else ((spec_l1Int.f s0_0 bt181.2.1 bt181.2.2 (([(-2147483648), (-2147483647), (-3), (-1), 0, 1, 3, 7, 2147483647, 2147483648] : List Int))).bind fun bt190 => (some (bt190.1, bt190.2.1, bt190.2.2))))
set_option maxHeartbeats 8000000 in
set_option maxRecDepth 100000 in
theorem spec_l1Raw.calls (g : Nat) (s0_0 : List Int) (s0_1 : Int) (s0_2 : Int) (r1 : Int) (r2 : Int) (r3 : Int) (w0 w : World) (hI : IsS120 w0 w g s0_0 s0_1 s0_2) (hB : Below w0.heap.size w0 w) (h : spec_l1Raw.f s0_0 s0_1 s0_2 = some (r1, r2, r3)) :
    Calls Try.prog 126 #[.pointer (some ⟨g, 0, none⟩)] w fun e w' => e = .returned (.int .i64 r1) ∧ IsS120 w0 w' g s0_0 r2 r3 ∧ Below w0.heap.size w0 w' ∧ KeepBut w w' g none := by
  have HI0 := Aside0.mk hI
  have HK := Aside0.mk (KeepBut.refl w g none)
  have HL := Aside0.mk hB.size
  clear hI
  have HW0 := Aside0.mk hB.size
  have HB := Aside0.mk hB
  clear hB
  have H : ((spec_l1Once.f s0_0 s0_1 s0_2 2).bind fun bt181 => (if bt181.1 = true then ((spec_l1Odd.f s0_0 bt181.2.1 bt181.2.2).bind fun bt184 => (some (bt184.1, bt184.2.1, bt184.2.2))) else ((spec_l1Int.f s0_0 bt181.2.1 bt181.2.2 (([(-2147483648), (-2147483647), (-3), (-1), 0, 1, 3, 7, 2147483647, 2147483648] : List Int))).bind fun bt190 => (some (bt190.1, bt190.2.1, bt190.2.2))))) = some (r1, r2, r3) := h
  clear h
  replace H := Option.bind_eq_some_iff.mp H
  obtain ⟨⟨t181, t182, t183⟩, A20, H⟩ := H
  (try dsimp only at H)
  have A2 := Aside0.mk A20
  clear A20
  by_cases c3 : t181 = true
  · subst c3
    have H1 : ((spec_l1Odd.f s0_0 t182 t183).bind fun bt184 => (some (bt184.1, bt184.2.1, bt184.2.2))) = some (r1, r2, r3) := by rw [if_pos rfl] at H; exact H
    clear H
    have H := H1
    clear H1
    replace H := Option.bind_eq_some_iff.mp H
    obtain ⟨⟨t184, t185, t186⟩, A40, H⟩ := H
    replace H : (some (t184, t185, t186)) = some (r1, r2, r3) := H
    have A4 := Aside0.mk A40
    clear A40
    simp only [Option.some.injEq, Prod.mk.injEq] at H
    obtain ⟨rfl, rfl, rfl⟩ := H
    go_enter Try.func126, Try.ntmps126
    go_wp2_with (first | ((with_reducible refine gate_callee (f := 76) rfl ?_); refine goesL_ (some 4) rfl rfl Try.func76 (by kernel_rfl) rfl #[.pointer (some ⟨g, 0, none⟩), .int .i64 2] rfl Z5_33 ?_; (with_reducible refine (spec_l1Once.calls g s0_0 s0_1 s0_2 2 true t182 t183 w0 _ ?side1 ?side2 A2.out).mono ?_); (case side1 => repeat (first | (with_reducible first | exact HI0.out | apply IsS120.alloc | apply IsS120.drewN | apply IsS120.drew | apply IsS120.set_1 | apply IsS120.set_2) | exact HI0.out)); (case side2 => repeat (first | (with_reducible first | exact HB.out | apply below_alloc | apply pw_below_drewN | apply below_drew1 | refine below_set ?_ (IsS120.ge HI0.out)) | exact HB.out)); rintro e w5 ⟨rfl, hi, hb, hk⟩; refine ⟨_, rfl, ?_⟩; have n0_ := Aside0.mk Z5_29; have n1_ := Aside0.mk (hb); have n2_ := Aside0.mk (hi); clear HK; clear HB; clear HI0; have HK := n0_; have HB := n1_; have HI0 := n2_; clear n0_ n1_ n2_; (try clear hb); (try clear hb2); (try clear hk); (try clear hi)) | ((with_reducible refine gate_callee (f := 140) rfl ?_); refine goesL_ (some 6) rfl rfl Try.func140 (by kernel_rfl) rfl #[.pointer (some ⟨g, 0, none⟩)] rfl Z5_33 ?_; (with_reducible refine (spec_l1Odd.calls g s0_0 t182 t183 t184 t185 t186 w0 _ ?side1 ?side2 A4.out).mono ?_); (case side1 => repeat (first | (with_reducible first | exact HI0.out | apply IsS120.alloc | apply IsS120.drewN | apply IsS120.drew | apply IsS120.set_1 | apply IsS120.set_2) | exact HI0.out)); (case side2 => repeat (first | (with_reducible first | exact HB.out | apply below_alloc | apply pw_below_drewN | apply below_drew1 | refine below_set ?_ (IsS120.ge HI0.out)) | exact HB.out)); rintro e w6 ⟨rfl, hi, hb, hk⟩; refine ⟨_, rfl, ?_⟩; have n0_ := Aside0.mk Z5_29; have n1_ := Aside0.mk (hb); have n2_ := Aside0.mk (hi); clear HK; clear HB; clear HI0; have HK := n0_; have HB := n1_; have HI0 := n2_; clear n0_ n1_ n2_; (try clear hb); (try clear hb2); (try clear hk); (try clear hi)))
    go_ret
    exact ⟨Z5_35, Z5_30, Z5_31, Z5_32⟩
  replace c3 := Bool.eq_false_iff.mpr c3
  subst c3
  rw [if_neg (show ¬ (false = true) by decide)] at H
  obtain ⟨y187, hy187⟩ : ∃ y_ : List Int, y_ = (([(-2147483648), (-2147483647), (-3), (-1), 0, 1, 3, 7, 2147483647, 2147483648] : List Int)) := ⟨_, rfl⟩
  replace H : ((spec_l1Int.f s0_0 t182 t183 y187).bind fun bt190 => (some (bt190.1, bt190.2.1, bt190.2.2))) = some (r1, r2, r3) := by first | (rw [hy187]; with_reducible exact H) | (have H2_ := (Option.bind_some _ _).symm.trans H; rw [hy187]; with_reducible exact H2_) | (have H2_ := (Option.bind_some _ _).symm.trans H; with_reducible exact H2_) | with_reducible exact H | (rw [hy187]; exact H) | exact H
  have Ny187 := Aside0.mk hy187
  clear hy187
  replace H := Option.bind_eq_some_iff.mp H
  obtain ⟨⟨t190, t191, t192⟩, A70, H⟩ := H
  replace H : (some (t190, t191, t192)) = some (r1, r2, r3) := H
  have A7 := Aside0.mk A70
  clear A70
  simp only [Option.some.injEq, Prod.mk.injEq] at H
  obtain ⟨rfl, rfl, rfl⟩ := H
  go_enter Try.func126, Try.ntmps126
  go_wp2_with (first | ((with_reducible refine gate_callee (f := 76) rfl ?_); refine goesL_ (some 4) rfl rfl Try.func76 (by kernel_rfl) rfl #[.pointer (some ⟨g, 0, none⟩), .int .i64 2] rfl Z5_33 ?_; (with_reducible refine (spec_l1Once.calls g s0_0 s0_1 s0_2 2 false t182 t183 w0 _ ?side1 ?side2 A2.out).mono ?_); (case side1 => repeat (first | (with_reducible first | exact HI0.out | apply IsS120.alloc | apply IsS120.drewN | apply IsS120.drew | apply IsS120.set_1 | apply IsS120.set_2) | exact HI0.out)); (case side2 => repeat (first | (with_reducible first | exact HB.out | apply below_alloc | apply pw_below_drewN | apply below_drew1 | refine below_set ?_ (IsS120.ge HI0.out)) | exact HB.out)); rintro e w8 ⟨rfl, hi, hb, hk⟩; refine ⟨_, rfl, ?_⟩; have n0_ := Aside0.mk Z5_29; have n1_ := Aside0.mk (hb); have n2_ := Aside0.mk (hi); clear HK; clear HB; clear HI0; have HK := n0_; have HB := n1_; have HI0 := n2_; clear n0_ n1_ n2_; (try clear hb); (try clear hb2); (try clear hk); (try clear hi)) | ((with_reducible refine gate_dst (N := 8) rfl ?_); refine Kd.R_lit (Kd.int .i64) _ 3 ?hg (N := 8) ?hd (xs := ([(-2147483648), (-2147483647), (-3), (-1), 0, 1, 3, 7, 2147483647, 2147483648] : List Int)) (inner := [.int .i64 (-2147483648), .int .i64 (-2147483647), .int .i64 (-3), .int .i64 (-1), .int .i64 0, .int .i64 1, .int .i64 3, .int .i64 7, .int .i64 2147483647, .int .i64 2147483648]) (ok := fun _ => True) (okp := fun _ => True) ?hr ?hp (fun _ hk => hk) trivial (Below.refl _ _) (Nat.le_refl _) (by simp) ?_; (case hd => rfl); (case hg => rfl); (case hr => first | (go_simp; done) | (go_simp; rfl)); (case hp => exact (Reps.one (show Kd.M (Kd.int .i64) _ _ _ (-2147483648) [.int .i64 (-2147483648)] from rfl) (Reps.one (show Kd.M (Kd.int .i64) _ _ _ (-2147483647) [.int .i64 (-2147483647)] from rfl) (Reps.one (show Kd.M (Kd.int .i64) _ _ _ (-3) [.int .i64 (-3)] from rfl) (Reps.one (show Kd.M (Kd.int .i64) _ _ _ (-1) [.int .i64 (-1)] from rfl) (Reps.one (show Kd.M (Kd.int .i64) _ _ _ 0 [.int .i64 0] from rfl) (Reps.one (show Kd.M (Kd.int .i64) _ _ _ 1 [.int .i64 1] from rfl) (Reps.one (show Kd.M (Kd.int .i64) _ _ _ 3 [.int .i64 3] from rfl) (Reps.one (show Kd.M (Kd.int .i64) _ _ _ 7 [.int .i64 7] from rfl) (Reps.one (show Kd.M (Kd.int .i64) _ _ _ 2147483647 [.int .i64 2147483647] from rfl) (Reps.one (show Kd.M (Kd.int .i64) _ _ _ 2147483648 [.int .i64 2147483648] from rfl) (Reps.none _ _)))))))))))); intro v188 w9 ho10 hb hg_ hnew_; clear hg_ hnew_; (first | rw [← Ny187.out] at ho10 | (simp only [Int.reduceToNat] at ho10; rw [← Ny187.out] at ho10)); have n0_ := Aside0.mk (Kd.R_lower ho10 (keep_size (w := w) (g := g) (row := none) Z5_32)); have n1_ := Aside0.mk Z5_26; have n2_ := Aside0.mk Z5_25; have n3_ := Aside0.mk Z5_27; clear HI0; clear HK; clear HB; have HO189 := n0_; have HI0 := n1_; have HK := n2_; have HB := n3_; clear n0_ n1_ n2_ n3_; clear hb ho10; obtain ⟨Ao11, co11, eo11⟩ := Kd.R_slice HO189.out; subst eo11) | ((with_reducible refine gate_callee (f := 73) rfl ?_); refine goesL_ (some 9) rfl rfl Try.func73 (by kernel_rfl) rfl #[.pointer (some ⟨g, 0, none⟩), .slice Ao11 y187.length co11] rfl Z5_33 ?_; (with_reducible refine (spec_l1Int.calls g s0_0 t182 t183 _ _ y187 t190 t191 t192 w0 _ ?side1 ?side2 ?side3 ?side4 ?side5 A7.out).mono ?_); (case side1 => repeat (first | (with_reducible first | exact HI0.out | apply IsS120.alloc | apply IsS120.drewN | apply IsS120.drew | apply IsS120.set_1 | apply IsS120.set_2) | exact HI0.out)); (case side2 => repeat (first | (with_reducible first | exact HB.out | apply below_alloc | apply pw_below_drewN | apply below_drew1 | refine below_set ?_ (IsS120.ge HI0.out)) | exact HB.out)); (case side3 => repeat (first | exact (Kd.R_reads' HO189.out).2.2 | (with_reducible refine Kd.C_alloc ?_ _) | (with_reducible refine Kd.C_drewN ?_ _) | (with_reducible refine Kd.C_drew ?_))); (case side4 => exact (Kd.R_reads' HO189.out).2.1); (case side5 => exact far_slice (IsS120.own_ne HI0.out HO189.out (by decide))); rintro e w12 ⟨rfl, hi, hb, hk⟩; refine ⟨_, rfl, ?_⟩; have n0_ := Aside0.mk (Kd.R_mono (Kd.R_keep (IsS120.apart (show IsS120 w0 _ g s0_0 t182 t183 from by repeat (first | (with_reducible first | exact HI0.out | apply IsS120.alloc | apply IsS120.drewN | apply IsS120.drew | apply IsS120.set_1 | apply IsS120.set_2) | exact HI0.out)) (by (with_reducible repeat (first | apply Kd.R_alloc | apply Kd.R_drewN | apply Kd.R_drew)); exact HO189.out) (by decide)) hk (fun _ h => h.2)) (fun _ h => h.1)); have n1_ := Aside0.mk Z5_29; have n2_ := Aside0.mk (hb); have n3_ := Aside0.mk (hi); clear HO189; clear HK; clear HB; clear HI0; have HO189 := n0_; have HK := n1_; have HB := n2_; have HI0 := n3_; clear n0_ n1_ n2_ n3_; (try clear hb); (try clear hb2); (try clear hk); (try clear hi)))
  go_ret
  exact ⟨Z5_35, Z5_30, Z5_31, Z5_32⟩
end Go.Proofs.Ytfkidiagmekleaa.QAll
