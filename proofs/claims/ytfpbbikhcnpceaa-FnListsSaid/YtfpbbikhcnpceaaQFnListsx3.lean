-- Written by a program of this session (patch_print.py over the print).
import Derived.Test.YtfpbbikhcnpceaaQFnListsx0
import Derived.Test.YtfpbbikhcnpceaaQFnListsx1
namespace Go.Proofs.Ytfpbbikhcnpceaa.QFnLists
open Go.RowKit Go.Proofs.YtfpbbikhcnpceaaW.PrintWords Go.Proofs.YtfpbbikhcnpceaaW.PrintLast Go.Proofs.YtfpbbikhcnpceaaW.PrintMore
attribute [local go_sem] max2_int min2_int max_two min_two max_three min_three max_four min_four   -- for this text's walks alone
set_option linter.unusedVariables false
set_option linter.unusedSimpArgs false

/-! ### spec_l1Bend: function 106 -/
def spec_l1Bend.f (s0_0 : List Int) (s0_1 : Int) (s0_2 : Int) (l1 : List Int) : Option (List Int × Int × Int) := (some (([] : List Int) : List Int)).bind fun y211 => (if y211.length + l1.length < 140737488355328 then ((some (y211 ++ l1 : List Int)).bind fun y214 => ((spec_l1Below.f s0_0 s0_1 s0_2 8).bind fun bt217 => (if bt217.1 = 0 then (if (y214.length : Int) > 0 then ((spec_l1Below.f s0_0 bt217.2.1 bt217.2.2 (y214.length : Int)).bind fun bt220 => (if 0 ≤ bt220.1 then (if bt220.1 < (y214.length : Int) then ((spec_l1Below.f s0_0 bt220.2.1 bt220.2.2 255).bind fun bt224 => (some ((y214.set (bt220.1 : Int).toNat (Go.bits .xor .u8 (rd y214 bt220.1) ((wrap64 (1 + bt224.1)) % 256))), bt224.2.1, bt224.2.2))) else (none)) else (none))) else (some (y214, bt217.2.1, bt217.2.2))) else (if bt217.1 = 1 then (if (y214.length : Int) > 0 then ((spec_l1Below.f s0_0 bt217.2.1 bt217.2.2 (y214.length : Int)).bind fun bt228 => (if 0 ≤ bt228.1 then (if bt228.1 ≤ (y214.length : Int) then (some ((y214.take (bt228.1 : Int).toNat), bt228.2.1, bt228.2.2)) else (none)) else (none))) else (some (y214, bt217.2.1, bt217.2.2))) else (if bt217.1 = 2 then ((spec_l1Byte.f s0_0 bt217.2.1 bt217.2.2).bind fun bt234 => (if y214.length < 140737488355328 then (some ((y214 ++ [(bt234.1) % 256]), bt234.2.1, bt234.2.2)) else (none))) else (some (y214, bt217.2.1, bt217.2.2))))))) else (none))
def spec_l1Bend.T6 : Bool × List (List Nat × List Nat) := (true, [([], []), ([], []), ([], []), ([], []), ([2, 3], [2, 3]), ([4], [4]), ([], []), ([6], [6]), ([7], [7]), ([8], [8]), ([5, 9], [5, 9]), ([0, 1, 0, 1, 2, 3, 4, 5, 6, 7, 8, 9, 10], [0, 1]), ([11, 10, 7, 0, 1, 2, 3, 4, 5, 6, 7, 8, 9, 10], [10, 11])])
def spec_l1Bend.B6 : List Nat := [0, 0, 0, 0, 12, 28, 0, 64, 192, 448, 1020, 2047, 4095]
theorem spec_l1Bend.tab6 : rtab .any (opsOf Try.f106 6) = spec_l1Bend.T6 := by kernel_rfl
theorem spec_l1Bend.bits6 : waitsOk spec_l1Bend.T6.2 spec_l1Bend.B6 = true := by kernel_rfl
set_option maxHeartbeats 8000000 in
set_option maxRecDepth 100000 in
theorem spec_l1Bend.calls (g : Nat) (s0_0 : List Int) (s0_1 : Int) (s0_2 : Int) (A1 : Option Addr) (c1 : Nat) (l1 : List Int) (r1 : List Int) (r2 : Int) (r3 : Int) (w0 w : World) (hI : IsS125 w0 w g s0_0 s0_1 s0_2) (hB : Below w0.heap.size w0 w) (hr1 : Kd.C (Kd.int .u8) w A1 l1.length l1) (hc1 : l1.length ≤ c1) (hf1 : ∀ ad, A1 = some ad → 0 < l1.length → ad.block ≠ g) (h : spec_l1Bend.f s0_0 s0_1 s0_2 l1 = some (r1, r2, r3)) :
    Calls Try.prog 106 #[.pointer (some ⟨g, 0, none⟩), .slice A1 l1.length c1] w fun e w' => ∃ v0_ : Value, e = .returned (v0_) ∧ Kd.R (Kd.int .u8) 5 w' w.heap.size (fun _ => True) v0_ r1 ∧ IsS125 w0 w' g s0_0 r2 r3 ∧ Below w0.heap.size w0 w' ∧ KeepBut w w' g none := by
  have HR1 := Aside0.mk hr1
  have HC1 := Aside0.mk hc1
  clear hr1 hc1
  have HI0 := Aside0.mk hI
  have HK := Aside0.mk (KeepBut.refl w g none)
  have HL := Aside0.mk hB.size
  clear hI
  have HW0 := Aside0.mk hB.size
  have HB := Aside0.mk hB
  clear hB
  have H : ((some (([] : List Int) : List Int)).bind fun y211 => (if y211.length + l1.length < 140737488355328 then ((some (y211 ++ l1 : List Int)).bind fun y214 => ((spec_l1Below.f s0_0 s0_1 s0_2 8).bind fun bt217 => (if bt217.1 = 0 then (if (y214.length : Int) > 0 then ((spec_l1Below.f s0_0 bt217.2.1 bt217.2.2 (y214.length : Int)).bind fun bt220 => (if 0 ≤ bt220.1 then (if bt220.1 < (y214.length : Int) then ((spec_l1Below.f s0_0 bt220.2.1 bt220.2.2 255).bind fun bt224 => (some ((y214.set (bt220.1 : Int).toNat (Go.bits .xor .u8 (rd y214 bt220.1) ((wrap64 (1 + bt224.1)) % 256))), bt224.2.1, bt224.2.2))) else (none)) else (none))) else (some (y214, bt217.2.1, bt217.2.2))) else (if bt217.1 = 1 then (if (y214.length : Int) > 0 then ((spec_l1Below.f s0_0 bt217.2.1 bt217.2.2 (y214.length : Int)).bind fun bt228 => (if 0 ≤ bt228.1 then (if bt228.1 ≤ (y214.length : Int) then (some ((y214.take (bt228.1 : Int).toNat), bt228.2.1, bt228.2.2)) else (none)) else (none))) else (some (y214, bt217.2.1, bt217.2.2))) else (if bt217.1 = 2 then ((spec_l1Byte.f s0_0 bt217.2.1 bt217.2.2).bind fun bt234 => (if y214.length < 140737488355328 then (some ((y214 ++ [(bt234.1) % 256]), bt234.2.1, bt234.2.2)) else (none))) else (some (y214, bt217.2.1, bt217.2.2))))))) else (none))) = some (r1, r2, r3) := h
  clear h
  obtain ⟨y211, hy211⟩ : ∃ y_ : List Int, y_ = (([] : List Int)) := ⟨_, rfl⟩
  replace H : (if y211.length + l1.length < 140737488355328 then ((some (y211 ++ l1 : List Int)).bind fun y214 => ((spec_l1Below.f s0_0 s0_1 s0_2 8).bind fun bt217 => (if bt217.1 = 0 then (if (y214.length : Int) > 0 then ((spec_l1Below.f s0_0 bt217.2.1 bt217.2.2 (y214.length : Int)).bind fun bt220 => (if 0 ≤ bt220.1 then (if bt220.1 < (y214.length : Int) then ((spec_l1Below.f s0_0 bt220.2.1 bt220.2.2 255).bind fun bt224 => (some ((y214.set (bt220.1 : Int).toNat (Go.bits .xor .u8 (rd y214 bt220.1) ((wrap64 (1 + bt224.1)) % 256))), bt224.2.1, bt224.2.2))) else (none)) else (none))) else (some (y214, bt217.2.1, bt217.2.2))) else (if bt217.1 = 1 then (if (y214.length : Int) > 0 then ((spec_l1Below.f s0_0 bt217.2.1 bt217.2.2 (y214.length : Int)).bind fun bt228 => (if 0 ≤ bt228.1 then (if bt228.1 ≤ (y214.length : Int) then (some ((y214.take (bt228.1 : Int).toNat), bt228.2.1, bt228.2.2)) else (none)) else (none))) else (some (y214, bt217.2.1, bt217.2.2))) else (if bt217.1 = 2 then ((spec_l1Byte.f s0_0 bt217.2.1 bt217.2.2).bind fun bt234 => (if y214.length < 140737488355328 then (some ((y214 ++ [(bt234.1) % 256]), bt234.2.1, bt234.2.2)) else (none))) else (some (y214, bt217.2.1, bt217.2.2))))))) else (none)) = some (r1, r2, r3) := by first | (rw [hy211]; with_reducible exact H) | (have H2_ := (Option.bind_some _ _).symm.trans H; rw [hy211]; with_reducible exact H2_) | (have H2_ := (Option.bind_some _ _).symm.trans H; with_reducible exact H2_) | with_reducible exact H | (rw [hy211]; exact H) | exact H
  have Ny211 := Aside0.mk hy211
  clear hy211
  by_cases c3 : y211.length + l1.length < 140737488355328
  · rw [if_pos c3] at H
    have LMc3 := Aside0.mk c3
    clear c3
    obtain ⟨y214, hy214⟩ : ∃ y_ : List Int, y_ = (y211 ++ l1) := ⟨_, rfl⟩
    replace H : ((spec_l1Below.f s0_0 s0_1 s0_2 8).bind fun bt217 => (if bt217.1 = 0 then (if (y214.length : Int) > 0 then ((spec_l1Below.f s0_0 bt217.2.1 bt217.2.2 (y214.length : Int)).bind fun bt220 => (if 0 ≤ bt220.1 then (if bt220.1 < (y214.length : Int) then ((spec_l1Below.f s0_0 bt220.2.1 bt220.2.2 255).bind fun bt224 => (some ((y214.set (bt220.1 : Int).toNat (Go.bits .xor .u8 (rd y214 bt220.1) ((wrap64 (1 + bt224.1)) % 256))), bt224.2.1, bt224.2.2))) else (none)) else (none))) else (some (y214, bt217.2.1, bt217.2.2))) else (if bt217.1 = 1 then (if (y214.length : Int) > 0 then ((spec_l1Below.f s0_0 bt217.2.1 bt217.2.2 (y214.length : Int)).bind fun bt228 => (if 0 ≤ bt228.1 then (if bt228.1 ≤ (y214.length : Int) then (some ((y214.take (bt228.1 : Int).toNat), bt228.2.1, bt228.2.2)) else (none)) else (none))) else (some (y214, bt217.2.1, bt217.2.2))) else (if bt217.1 = 2 then ((spec_l1Byte.f s0_0 bt217.2.1 bt217.2.2).bind fun bt234 => (if y214.length < 140737488355328 then (some ((y214 ++ [(bt234.1) % 256]), bt234.2.1, bt234.2.2)) else (none))) else (some (y214, bt217.2.1, bt217.2.2)))))) = some (r1, r2, r3) := by first | (rw [hy214]; with_reducible exact H) | (have H2_ := (Option.bind_some _ _).symm.trans H; rw [hy214]; with_reducible exact H2_) | (have H2_ := (Option.bind_some _ _).symm.trans H; with_reducible exact H2_) | with_reducible exact H | (rw [hy214]; exact H) | exact H
    have Ny214 := Aside0.mk hy214
    clear hy214
    replace H := Option.bind_eq_some_iff.mp H
    obtain ⟨⟨t217, t218, t219⟩, A40, H⟩ := H
    replace H : (if t217 = 0 then (if (y214.length : Int) > 0 then ((spec_l1Below.f s0_0 t218 t219 (y214.length : Int)).bind fun bt220 => (if 0 ≤ bt220.1 then (if bt220.1 < (y214.length : Int) then ((spec_l1Below.f s0_0 bt220.2.1 bt220.2.2 255).bind fun bt224 => (some ((y214.set (bt220.1 : Int).toNat (Go.bits .xor .u8 (rd y214 bt220.1) ((wrap64 (1 + bt224.1)) % 256))), bt224.2.1, bt224.2.2))) else (none)) else (none))) else (some (y214, t218, t219))) else (if t217 = 1 then (if (y214.length : Int) > 0 then ((spec_l1Below.f s0_0 t218 t219 (y214.length : Int)).bind fun bt228 => (if 0 ≤ bt228.1 then (if bt228.1 ≤ (y214.length : Int) then (some ((y214.take (bt228.1 : Int).toNat), bt228.2.1, bt228.2.2)) else (none)) else (none))) else (some (y214, t218, t219))) else (if t217 = 2 then ((spec_l1Byte.f s0_0 t218 t219).bind fun bt234 => (if y214.length < 140737488355328 then (some ((y214 ++ [(bt234.1) % 256]), bt234.2.1, bt234.2.2)) else (none))) else (some (y214, t218, t219))))) = some (r1, r2, r3) := H
    have A4 := Aside0.mk A40
    clear A40
    by_cases c5 : t217 = 0
    · rw [if_pos c5] at H
      have c5b0 : (t217 == 0) = true := beq_iff_eq.mpr c5
      have c5b1 : (t217 != 0) = false := bne_eq_false_iff_eq.mpr c5
      clear c5
      by_cases c6 : (y214.length : Int) > 0
      · rw [if_pos c6] at H
        have c6b0 : decide (0 < (y214.length : Int)) = true := decide_eq_true c6
        have c6b1 : decide (0 < y214.length) = true := decide_eq_true (by omega)
        clear c6
        replace H := Option.bind_eq_some_iff.mp H
        obtain ⟨⟨t220, t221, t222⟩, A70, H⟩ := H
        replace H : (if 0 ≤ t220 then (if t220 < (y214.length : Int) then ((spec_l1Below.f s0_0 t221 t222 255).bind fun bt224 => (some ((y214.set (t220 : Int).toNat (Go.bits .xor .u8 (rd y214 t220) ((wrap64 (1 + bt224.1)) % 256))), bt224.2.1, bt224.2.2))) else (none)) else (none)) = some (r1, r2, r3) := H
        have A7 := Aside0.mk A70
        clear A70
        by_cases c8 : 0 ≤ t220
        · rw [if_pos c8] at H
          have c8b0 : decide (0 ≤ t220) = true := decide_eq_true c8
          clear c8
          by_cases c9 : t220 < (y214.length : Int)
          · rw [if_pos c9] at H
            have c9b0 : decide (t220 < (y214.length : Int)) = true := decide_eq_true c9
            clear c9
            replace H := Option.bind_eq_some_iff.mp H
            obtain ⟨⟨t224, t225, t226⟩, A100, H⟩ := H
            replace H : (some ((y214.set (t220 : Int).toNat (Go.bits .xor .u8 (rd y214 t220) ((wrap64 (1 + t224)) % 256))), t225, t226)) = some (r1, r2, r3) := H
            have A10 := Aside0.mk A100
            clear A100
            obtain ⟨y227, hy227⟩ : ∃ y_ : List Int, y_ = (y214.set (t220 : Int).toNat (Go.bits .xor .u8 (rd y214 t220) ((wrap64 (1 + t224)) % 256))) := ⟨_, rfl⟩
            replace H : (some (y227, t225, t226)) = some (r1, r2, r3) := by first | (rw [hy227]; with_reducible exact H) | (have H2_ := (Option.bind_some _ _).symm.trans H; rw [hy227]; with_reducible exact H2_) | (have H2_ := (Option.bind_some _ _).symm.trans H; with_reducible exact H2_) | with_reducible exact H | (rw [hy227]; exact H) | exact H
            have Ny227 := Aside0.mk hy227
            clear hy227
            simp only [Option.some.injEq, Prod.mk.injEq] at H
            obtain ⟨rfl, rfl, rfl⟩ := H
            go_enter Try.func106, Try.ntmps106
            try go_wp2_with (first | ((with_reducible refine gate_dst (N := 7) rfl ?_); refine Kd.R_lit (Kd.int .u8) _ 5 ?hg (N := 7) ?hd (xs := ([] : List Int)) (inner := []) (ok := fun _ => True) (okp := fun _ => True) ?hr ?hp (fun _ hk => hk) trivial (Below.refl _ _) (Nat.le_refl _) (by simp) ?_; (case hd => rfl); (case hg => rfl); (case hr => first | (go_simp; done) | (go_simp; rfl)); (case hp => exact (Reps.none _ _)); intro v212 w12 ho13 hb hg_ hnew_; clear hg_ hnew_; (first | rw [← Ny211.out] at ho13 | (simp only [Int.reduceToNat] at ho13; rw [← Ny211.out] at ho13)); have n0_ := Aside0.mk (Kd.R_lower ho13 (keep_size (w := w) (g := g) (row := none) (by repeat (first | (with_reducible first | exact HK.out | apply KeepBut.set_ | apply keep_drewN | apply keep_drew | apply keep_alloc) | exact HK.out)))); have n1_ := Aside0.mk (IsS125.below (by repeat (first | (with_reducible first | exact HI0.out | apply IsS125.alloc | apply IsS125.drewN | apply IsS125.drew | apply IsS125.set_1 | apply IsS125.set_2) | exact HI0.out)) hb); have n2_ := Aside0.mk (KeepBut.trans (by repeat (first | (with_reducible first | exact HK.out | apply KeepBut.set_ | apply keep_drewN | apply keep_drew | apply keep_alloc) | exact HK.out)) (KeepBut.of_below hb g none) (.inl rfl)); have n3_ := Aside0.mk (below_step (by repeat (first | (with_reducible first | exact HB.out | apply below_alloc | apply pw_below_drewN | apply below_drew1 | refine below_set ?_ (IsS125.ge HI0.out)) | exact HB.out)) hb); clear HI0; clear HK; clear HB; have HO213 := n0_; have HI0 := n1_; have HK := n2_; have HB := n3_; clear n0_ n1_ n2_ n3_; clear hb ho13) | ((with_reducible refine gate_builtin (b := .append) (xs := #[.tmp 7, .tmp 8]) rfl ?_); at_builtin; refine Kd.R_append_rows (Kd.int .u8) w.heap.size rfl (.tmp 7) (.tmp 8) 22 5 (.int .u8 0) 1 rfl Try.underlying22 info5 rfl (by decide) (by omega) v212 y211 l1 _ _ _ (fun _ => True) (fun _ => False) rfl rfl ?aO ?aR (fun _ _ h => h) (fun _ h => h.elim) ?aF (Below.refl _ _) ?aS ?aL ?_; (case aR => exact Kd.C_keep 0 HR1.out (by repeat (first | (with_reducible first | exact HK.out | apply KeepBut.set_ | apply keep_drewN | apply keep_drew | apply keep_alloc) | exact HK.out)) hf1); (case aF => exact (fun _ _ => trivial)); (case aO => exact (by (with_reducible repeat (first | apply Kd.R_alloc | apply Kd.R_drewN | apply Kd.R_drew)); exact HO213.out)); (case aS => exact (keep_size (w := w) (g := g) (row := none) (by repeat (first | (with_reducible first | exact HK.out | apply KeepBut.set_ | apply keep_drewN | apply keep_drew | apply keep_alloc) | exact HK.out)))); (case aL => have := LMc3.out; omega); intro v215 w14 ho hb hg hat; rw [← Ny214.out] at ho; have n0_ := Aside0.mk (IsS125.grown (by repeat (first | (with_reducible first | exact HI0.out | apply IsS125.alloc | apply IsS125.drewN | apply IsS125.drew | apply IsS125.set_1 | apply IsS125.set_2) | exact HI0.out)) hg (IsS125.own_ne HI0.out HO213.out (by decide))); have n1_ := Aside0.mk (below_weaken (by repeat (first | (with_reducible first | exact HB.out | apply below_alloc | apply pw_below_drewN | apply below_drew1 | refine below_set ?_ (IsS125.ge HI0.out)) | exact HB.out)) HL.out hb); have n2_ := Aside0.mk (KeepBut.trans (by repeat (first | (with_reducible first | exact HK.out | apply KeepBut.set_ | apply keep_drewN | apply keep_drew | apply keep_alloc) | exact HK.out)) (KeepBut.of_grown hg g) (Kd.R_base2 HO213.out)); have n3_ := Aside0.mk (ho); clear HI0; clear HB; clear HK; clear HO213; have HI0 := n0_; have HB := n1_; have HK := n2_; have HO216 := n3_; clear n0_ n1_ n2_ n3_; clear ho hb hg hat) | ((with_reducible refine gate_callee (f := 97) rfl ?_); refine goesL_ (some 11) rfl rfl Try.func97 (by kernel_rfl) rfl #[.pointer (some ⟨g, 0, none⟩), .int .i64 8] rfl (by (try simp only [List.map_toArray, List.map_cons, List.map_nil]); first | done | rfl | (simp only [List.length_drop, List.length_take]; rfl)) ?_; (with_reducible refine (spec_l1Below.calls g s0_0 s0_1 s0_2 8 t217 t218 t219 w0 _ ?side1 ?side2 A4.out).mono ?_); (case side1 => repeat (first | (with_reducible first | exact HI0.out | apply IsS125.alloc | apply IsS125.drewN | apply IsS125.drew | apply IsS125.set_1 | apply IsS125.set_2) | exact HI0.out)); (case side2 => repeat (first | (with_reducible first | exact HB.out | apply below_alloc | apply pw_below_drewN | apply below_drew1 | refine below_set ?_ (IsS125.ge HI0.out)) | exact HB.out)); rintro e w15 ⟨rfl, hi, hb, hk⟩; refine ⟨_, rfl, ?_⟩; have n0_ := Aside0.mk (Kd.R_mono (Kd.R_keep (IsS125.apart (show IsS125 w0 _ g s0_0 s0_1 s0_2 from by repeat (first | (with_reducible first | exact HI0.out | apply IsS125.alloc | apply IsS125.drewN | apply IsS125.drew | apply IsS125.set_1 | apply IsS125.set_2) | exact HI0.out)) (by (with_reducible repeat (first | apply Kd.R_alloc | apply Kd.R_drewN | apply Kd.R_drew)); exact HO216.out) (by decide)) hk (fun _ h => h.2)) (fun _ h => h.1)); have n1_ := Aside0.mk (KeepBut.trans (by repeat (first | (with_reducible first | exact HK.out | apply KeepBut.set_ | apply keep_drewN | apply keep_drew | apply keep_alloc) | exact HK.out)) hk (.inl rfl)); have n2_ := Aside0.mk (hb); have n3_ := Aside0.mk (hi); clear HO216; clear HK; clear HB; clear HI0; have HO216 := n0_; have HK := n1_; have HB := n2_; have HI0 := n3_; clear n0_ n1_ n2_ n3_; (try clear hb); (try clear hb2); (try clear hk); (try clear hi); obtain ⟨Ao16, co16, eo16⟩ := Kd.R_slice HO216.out; subst eo16) | ((with_reducible refine gate_callee (f := 97) rfl ?_); refine goesL_ (some 20) rfl rfl Try.func97 (by kernel_rfl) rfl #[.pointer (some ⟨g, 0, none⟩), .int .i64 (y214.length : Int)] rfl (by (try simp only [List.map_toArray, List.map_cons, List.map_nil]); first | done | rfl | (simp only [List.length_drop, List.length_take]; rfl)) ?_; (with_reducible refine (spec_l1Below.calls g s0_0 t218 t219 (y214.length : Int) t220 t221 t222 w0 _ ?side1 ?side2 A7.out).mono ?_); (case side1 => repeat (first | (with_reducible first | exact HI0.out | apply IsS125.alloc | apply IsS125.drewN | apply IsS125.drew | apply IsS125.set_1 | apply IsS125.set_2) | exact HI0.out)); (case side2 => repeat (first | (with_reducible first | exact HB.out | apply below_alloc | apply pw_below_drewN | apply below_drew1 | refine below_set ?_ (IsS125.ge HI0.out)) | exact HB.out)); rintro e w17 ⟨rfl, hi, hb, hk⟩; refine ⟨_, rfl, ?_⟩; have n0_ := Aside0.mk (Kd.R_mono (Kd.R_keep (IsS125.apart (show IsS125 w0 _ g s0_0 t218 t219 from by repeat (first | (with_reducible first | exact HI0.out | apply IsS125.alloc | apply IsS125.drewN | apply IsS125.drew | apply IsS125.set_1 | apply IsS125.set_2) | exact HI0.out)) (by (with_reducible repeat (first | apply Kd.R_alloc | apply Kd.R_drewN | apply Kd.R_drew)); exact HO216.out) (by decide)) hk (fun _ h => h.2)) (fun _ h => h.1)); have n1_ := Aside0.mk (KeepBut.trans (by repeat (first | (with_reducible first | exact HK.out | apply KeepBut.set_ | apply keep_drewN | apply keep_drew | apply keep_alloc) | exact HK.out)) hk (.inl rfl)); have n2_ := Aside0.mk (hb); have n3_ := Aside0.mk (hi); clear HO216; clear HK; clear HB; clear HI0; have HO216 := n0_; have HK := n1_; have HB := n2_; have HI0 := n3_; clear n0_ n1_ n2_ n3_; (try clear hb); (try clear hb2); (try clear hk); (try clear hi)))
            have n0_ := Aside0.mk (Kd.R_drew HO216.out)
            have n1_ := Aside0.mk (IsS125.drew HI0.out)
            have n2_ := Aside0.mk (keep_drew HK.out)
            have n3_ := Aside0.mk (below_drew1 HB.out)
            clear HO216
            clear HI0
            clear HK
            clear HB
            have HO216 := n0_
            have HI0 := n1_
            have HK := n2_
            have HB := n3_
            clear n0_ n1_ n2_ n3_
            have p223 : 0 ≤ (t220 : Int) := of_decide_eq_true (by first | (with_reducible assumption) | assumption)
            have q223 : t220 < (y214.length : Int) := of_decide_eq_true (by first | (with_reducible assumption) | assumption)
            obtain ⟨ad223, e223, hx223_0⟩ := Kd.at_int (Kd.R_reads' HO216.out).2.2 t220 p223 q223
            cases e223
            replace p223 := eq_true p223
            replace q223 := eq_true q223
            refine start_ (n := 13) (S := fun w' => w'.cell? (ad223.add (t220).toNat) = some (.int .u8 (rd y214 t220))) (ds := [12]) #[false, false, false, false, false, false, false, false, false, false, false, false, false] (by kernel_rfl) rfl rfl (hx223_0) (fun hHeld => ?_); refine with_tabW spec_l1Bend.tab6 spec_l1Bend.bits6 (fun HT_ HW_ => ?_)
            generalize w17.drew = w18 at HO216 HI0 HK HB hx223_0 hHeld ⊢
            refine pure_ (i := 0) (N := some 21) (v := ?_) (a' := ?_) #[true, false, false, false, false, false, false, false, false, false, false, false, false] rfl rfl (any_of HT_.out (by kernel_rfl)) (fun _ _ _ h => h) (Or.inl ⟨by rfl, ?_⟩) ?_ ?_
            rotate_left
            · intro w'
              go_simp
              with_reducible rfl
            rotate_left
            · simp only [Act.put, List.setIfInBounds_toArray, List.set_cons_zero, List.set_cons_succ, i64_w, i32_w]
              rfl
            refine pure_ (i := 1) (N := some 22) (v := ?_) (a' := ?_) #[true, true, false, false, false, false, false, false, false, false, false, false, false] rfl rfl (any_of HT_.out (by kernel_rfl)) (fun _ _ _ h => h) (Or.inl ⟨by rfl, ?_⟩) ?_ ?_
            rotate_left
            · intro w'
              go_simp
              with_reducible rfl
            rotate_left
            · simp only [Act.put, List.setIfInBounds_toArray, List.set_cons_zero, List.set_cons_succ, i64_w, i32_w]
              rfl
            refine pure_ (i := 2) (N := some 23) (v := ?_) (a' := ?_) #[true, true, true, false, false, false, false, false, false, false, false, false, false] rfl rfl (any_of HT_.out (by kernel_rfl)) (fun _ _ _ h => h) (Or.inl ⟨by rfl, ?_⟩) ?_ ?_
            rotate_left
            · intro w'
              go_simp
              with_reducible rfl
            rotate_left
            · simp only [Act.put, List.setIfInBounds_toArray, List.set_cons_zero, List.set_cons_succ, i64_w, i32_w]
              rfl
            refine pure_ (i := 3) (N := some 24) (v := ?_) (a' := ?_) #[true, true, true, true, false, false, false, false, false, false, false, false, false] rfl rfl (any_of HT_.out (by kernel_rfl)) (fun _ _ _ h => h) (Or.inl ⟨by rfl, ?_⟩) ?_ ?_
            rotate_left
            · intro w'
              go_simp
              with_reducible rfl
            rotate_left
            · simp only [Act.put, List.setIfInBounds_toArray, List.set_cons_zero, List.set_cons_succ, i64_w, i32_w]
              rfl
            refine pure_ (i := 4) (N := some 25) (v := ?_) (a' := ?_) #[true, true, true, true, true, false, false, false, false, false, false, false, false] rfl rfl (any_of HT_.out (by kernel_rfl)) (fun _ _ _ h => h) (Or.inl ⟨by rfl, ?_⟩) ?_ ?_
            rotate_left
            · intro w'
              go_simp
              with_reducible rfl
            rotate_left
            · simp only [Act.put, List.setIfInBounds_toArray, List.set_cons_zero, List.set_cons_succ, i64_w, i32_w]
              rfl
            refine pure_ (i := 6) (N := some 27) (v := ?_) (a' := ?_) #[true, true, true, true, true, false, true, false, false, false, false, false, false] rfl rfl (any_of HT_.out (by kernel_rfl)) (fun _ _ _ h => h) (Or.inl ⟨by rfl, ?_⟩) ?_ ?_
            rotate_left
            · intro w'
              go_simp
              with_reducible rfl
            rotate_left
            · simp only [Act.put, List.setIfInBounds_toArray, List.set_cons_zero, List.set_cons_succ, i64_w, i32_w]
              rfl
            refine take_ (i := 5) (N := some 26) (v := ?_) (a' := ?_) #[true, true, true, true, true, true, true, false, false, false, false, false, false] rfl rfl (take_ofW HT_.out HW_.out (by kernel_rfl)) (fun _ _ _ h => h) (Or.inl ⟨by rfl, ?_⟩) hHeld ?_ ?_
            rotate_left
            · intro w' s0
              go_simp
              with_reducible rfl
            rotate_left
            · simp only [Act.put, List.setIfInBounds_toArray, List.set_cons_zero, List.set_cons_succ, i64_w, i32_w]
              rfl
            refine one_ (i := 7) (N := some 28) #[true, true, true, true, true, true, true, true, false, false, false, false, false] rfl rfl (one_of HT_.out (by kernel_rfl)) (by decide) (fun K hK => ?_)
            refine goes_ Try.func97 (by kernel_rfl) rfl #[.pointer (some ⟨g, 0, none⟩), .int .i64 255] (by rfl) rfl rfl (by (try simp only [List.map_toArray, List.map_cons, List.map_nil]); first | done | rfl | (simp only [List.length_drop, List.length_take]; rfl)) ?_
            with_reducible refine (spec_l1Below.calls g s0_0 t221 t222 255 t224 t225 t226 w0 _ ?side1 ?side2 A10.out).mono ?_
            (case side1 => repeat (first | (with_reducible first | exact HI0.out | apply IsS125.alloc | apply IsS125.drewN | apply IsS125.drew | apply IsS125.set_1 | apply IsS125.set_2) | exact HI0.out))
            (case side2 => repeat (first | (with_reducible first | exact HB.out | apply below_alloc | apply pw_below_drewN | apply below_drew1 | refine below_set ?_ (IsS125.ge HI0.out)) | exact HB.out))
            rintro e w19 ⟨rfl, hi, hb, hk⟩
            have HS0_ := keep_cell hk (hHeld) (by first | (rw [add_block]; exact Kd.own_blk (IsS125.own_ne HI0.out HO216.out (by decide))) | (show (Addr.add _ _).block ≠ _; rw [add_block]; exact Kd.own_blk (IsS125.own_ne HI0.out HO216.out (by decide))) | exact Kd.own_blk (IsS125.own_ne HI0.out HO216.out (by decide)))
            refine ⟨_, rfl, ?_⟩
            have n0_ := Aside0.mk (Kd.R_mono (Kd.R_keep (IsS125.apart (show IsS125 w0 _ g s0_0 t221 t222 from by repeat (first | (with_reducible first | exact HI0.out | apply IsS125.alloc | apply IsS125.drewN | apply IsS125.drew | apply IsS125.set_1 | apply IsS125.set_2) | exact HI0.out)) (by (with_reducible repeat (first | apply Kd.R_alloc | apply Kd.R_drewN | apply Kd.R_drew)); exact HO216.out) (by decide)) hk (fun _ h => h.2)) (fun _ h => h.1))
            have n1_ := Aside0.mk (KeepBut.trans (by repeat (first | (with_reducible first | exact HK.out | apply KeepBut.set_ | apply keep_drewN | apply keep_drew | apply keep_alloc) | exact HK.out)) hk (.inl rfl))
            have n2_ := Aside0.mk (hb)
            have n3_ := Aside0.mk (hi)
            clear HO216
            clear HK
            clear HB
            clear HI0
            have HO216 := n0_
            have HK := n1_
            have HB := n2_
            have HI0 := n3_
            clear n0_ n1_ n2_ n3_
            (try clear hb)
            (try clear hb2)
            (try clear hk)
            (try clear hi)
            have p11 : 0 ≤ (t220 : Int) := of_decide_eq_true (by first | (with_reducible assumption) | assumption)
            have q11 : (t220 : Int) < ((y214.length : Int) : Int) := of_decide_eq_true (by first | (with_reducible assumption) | assumption)
            obtain ⟨go11, co11, eo11, gb11, gl11, cl11, HG11⟩ := Kd.R_form HO216.out (by omega)
            (first | cases eo11 | (injection eo11 with ea_ en_ ec_; (first | subst ea_ | (injection ea_ with ea_; subst ea_)); subst ec_; clear en_))
            have GB11 := Aside0.mk gb11
            have GG11 := Aside0.mk HG11
            clear gb11 gl11 HG11
            (first | simp only [add_plain] at hx223_0 | skip)
            obtain ⟨hx11_0, hf11_0⟩ := Kd.R_celln 0 HO216.out (t220 : Int) p11 q11
            replace p11 := eq_true p11
            replace q11 := eq_true q11
            have HN0_go11 := Aside0.mk (show g ≠ go11 from by have h_ := IsS125.own_ne HI0.out HO216.out (by decide); intro e_; exact h_ (by rw [e_]; rfl))
            have HP20 := Kd.R_putn HO216.out (t220 : Int) (Go.bits .xor .u8 (rd y214 t220) ((wrap64 (1 + t224)) % 256))
            rw [← Ny227.out] at HP20
            have HQ20 := Aside0.mk HP20
            clear HP20
            refine hK.out _ _ (HS0_) (fun hHeld => ?_)
            clear hK K
            refine norm_ (a' := ?_) ?_ ?_
            rotate_left
            · show Act.put _ (some 28) _ = _
              simp only [Act.put, List.setIfInBounds_toArray, List.set_cons_zero, List.set_cons_succ, i64_w, i32_w]
              rfl
            refine pure_ (i := 8) (N := some 29) (v := ?_) (a' := ?_) #[true, true, true, true, true, true, true, true, true, false, false, false, false] rfl rfl (any_of HT_.out (by kernel_rfl)) (fun _ _ _ h => h) (Or.inl ⟨by rfl, ?_⟩) ?_ ?_
            rotate_left
            · intro w'
              go_simp
              with_reducible rfl
            rotate_left
            · simp only [Act.put, List.setIfInBounds_toArray, List.set_cons_zero, List.set_cons_succ, i64_w, i32_w]
              rfl
            refine pure_ (i := 9) (N := some 30) (v := ?_) (a' := ?_) #[true, true, true, true, true, true, true, true, true, true, false, false, false] rfl rfl (any_of HT_.out (by kernel_rfl)) (fun _ _ _ h => h) (Or.inl ⟨by rfl, ?_⟩) ?_ ?_
            rotate_left
            · intro w'
              go_simp
              with_reducible rfl
            rotate_left
            · simp only [Act.put, List.setIfInBounds_toArray, List.set_cons_zero, List.set_cons_succ, i64_w, i32_w]
              rfl
            refine pure_ (i := 10) (N := some 31) (v := ?_) (a' := ?_) #[true, true, true, true, true, true, true, true, true, true, true, false, false] rfl rfl (any_of HT_.out (by kernel_rfl)) (fun _ _ _ h => h) (Or.inl ⟨by rfl, ?_⟩) ?_ ?_
            rotate_left
            · intro w'
              go_simp
              with_reducible rfl
            rotate_left
            · simp only [Act.put, List.setIfInBounds_toArray, List.set_cons_zero, List.set_cons_succ, i64_w, i32_w]
              rfl
            refine pure_ (i := 11) (N := some 32) (v := ?_) (a' := ?_) #[true, true, true, true, true, true, true, true, true, true, true, true, false] rfl rfl (any_of HT_.out (by kernel_rfl)) (fun _ _ _ h => h) (Or.inl ⟨by rfl, ?_⟩) ?_ ?_
            rotate_left
            · intro w'
              go_simp
              with_reducible rfl
            rotate_left
            · simp only [Act.put, List.setIfInBounds_toArray, List.set_cons_zero, List.set_cons_succ, i64_w, i32_w]
              rfl
            refine last_ (i := 12) (N := none) #[true, true, true, true, true, true, true, true, true, true, true, true, true] rfl rfl (one_of HT_.out (by kernel_rfl)) (by decide) (fun K hK => ?_)
            refine skip_ (w1 := ?_) (by rfl) rfl ?_ ?_
            rotate_left
            · go_simp
              rfl
            refine hK.out _ _ ?_
            clear hK K
            refine done_ (done_of HT_.out (by kernel_rfl)) ?_
            try go_wp2
            go_ret
            exact ⟨_, by first | rfl | (simp [errW_none, errW_some] <;> rfl) | (simp [*, errW_none, errW_some] <;> rfl), by (with_reducible repeat (first | apply Kd.R_alloc | apply Kd.R_drewN | apply Kd.R_drew)); exact HQ20.out, by repeat (first | (with_reducible first | exact HI0.out | apply IsS125.alloc | apply IsS125.drewN | apply IsS125.drew | apply IsS125.set_1 | apply IsS125.set_2 | refine IsS125.far ?_ HN0_go11.out _) | exact HI0.out), by repeat (first | (with_reducible first | exact HB.out | apply below_alloc | apply pw_below_drewN | apply below_drew1 | refine below_set ?_ (Nat.le_trans HL.out GB11.out) | refine below_set ?_ (IsS125.ge HI0.out)) | exact HB.out), by repeat (first | (with_reducible first | exact HK.out | apply KeepBut.set_ | apply keep_drewN | apply keep_drew | apply keep_alloc | refine keep_far ?_ GB11.out _) | exact HK.out)⟩
          · rw [if_neg c9] at H
            exact absurd H (by simp)
        · rw [if_neg c8] at H
          exact absurd H (by simp)
      · rw [if_neg c6] at H
        have c6b0 : decide (0 < (y214.length : Int)) = false := decide_eq_false c6
        have c6b1 : decide (0 < y214.length) = false := decide_eq_false (by omega)
        clear c6
        simp only [Option.some.injEq, Prod.mk.injEq] at H
        obtain ⟨rfl, rfl, rfl⟩ := H
        go_enter Try.func106, Try.ntmps106
        go_wp2_with (first | ((with_reducible refine gate_dst (N := 7) rfl ?_); refine Kd.R_lit (Kd.int .u8) _ 5 ?hg (N := 7) ?hd (xs := ([] : List Int)) (inner := []) (ok := fun _ => True) (okp := fun _ => True) ?hr ?hp (fun _ hk => hk) trivial (Below.refl _ _) (Nat.le_refl _) (by simp) ?_; (case hd => rfl); (case hg => rfl); (case hr => first | (go_simp; done) | (go_simp; rfl)); (case hp => exact (Reps.none _ _)); intro v212 w21 ho22 hb hg_ hnew_; clear hg_ hnew_; (first | rw [← Ny211.out] at ho22 | (simp only [Int.reduceToNat] at ho22; rw [← Ny211.out] at ho22)); have n0_ := Aside0.mk (Kd.R_lower ho22 (keep_size (w := w) (g := g) (row := none) (by repeat (first | (with_reducible first | exact HK.out | apply KeepBut.set_ | apply keep_drewN | apply keep_drew | apply keep_alloc) | exact HK.out)))); have n1_ := Aside0.mk (IsS125.below (by repeat (first | (with_reducible first | exact HI0.out | apply IsS125.alloc | apply IsS125.drewN | apply IsS125.drew | apply IsS125.set_1 | apply IsS125.set_2) | exact HI0.out)) hb); have n2_ := Aside0.mk (KeepBut.trans (by repeat (first | (with_reducible first | exact HK.out | apply KeepBut.set_ | apply keep_drewN | apply keep_drew | apply keep_alloc) | exact HK.out)) (KeepBut.of_below hb g none) (.inl rfl)); have n3_ := Aside0.mk (below_step (by repeat (first | (with_reducible first | exact HB.out | apply below_alloc | apply pw_below_drewN | apply below_drew1 | refine below_set ?_ (IsS125.ge HI0.out)) | exact HB.out)) hb); clear HI0; clear HK; clear HB; have HO213 := n0_; have HI0 := n1_; have HK := n2_; have HB := n3_; clear n0_ n1_ n2_ n3_; clear hb ho22) | ((with_reducible refine gate_builtin (b := .append) (xs := #[.tmp 7, .tmp 8]) rfl ?_); at_builtin; refine Kd.R_append_rows (Kd.int .u8) w.heap.size rfl (.tmp 7) (.tmp 8) 22 5 (.int .u8 0) 1 rfl Try.underlying22 info5 rfl (by decide) (by omega) v212 y211 l1 _ _ _ (fun _ => True) (fun _ => False) rfl rfl ?aO ?aR (fun _ _ h => h) (fun _ h => h.elim) ?aF (Below.refl _ _) ?aS ?aL ?_; (case aR => exact Kd.C_keep 0 HR1.out (by repeat (first | (with_reducible first | exact HK.out | apply KeepBut.set_ | apply keep_drewN | apply keep_drew | apply keep_alloc) | exact HK.out)) hf1); (case aF => exact (fun _ _ => trivial)); (case aO => exact (by (with_reducible repeat (first | apply Kd.R_alloc | apply Kd.R_drewN | apply Kd.R_drew)); exact HO213.out)); (case aS => exact (keep_size (w := w) (g := g) (row := none) (by repeat (first | (with_reducible first | exact HK.out | apply KeepBut.set_ | apply keep_drewN | apply keep_drew | apply keep_alloc) | exact HK.out)))); (case aL => have := LMc3.out; omega); intro v215 w23 ho hb hg hat; rw [← Ny214.out] at ho; have n0_ := Aside0.mk (IsS125.grown (by repeat (first | (with_reducible first | exact HI0.out | apply IsS125.alloc | apply IsS125.drewN | apply IsS125.drew | apply IsS125.set_1 | apply IsS125.set_2) | exact HI0.out)) hg (IsS125.own_ne HI0.out HO213.out (by decide))); have n1_ := Aside0.mk (below_weaken (by repeat (first | (with_reducible first | exact HB.out | apply below_alloc | apply pw_below_drewN | apply below_drew1 | refine below_set ?_ (IsS125.ge HI0.out)) | exact HB.out)) HL.out hb); have n2_ := Aside0.mk (KeepBut.trans (by repeat (first | (with_reducible first | exact HK.out | apply KeepBut.set_ | apply keep_drewN | apply keep_drew | apply keep_alloc) | exact HK.out)) (KeepBut.of_grown hg g) (Kd.R_base2 HO213.out)); have n3_ := Aside0.mk (ho); clear HI0; clear HB; clear HK; clear HO213; have HI0 := n0_; have HB := n1_; have HK := n2_; have HO216 := n3_; clear n0_ n1_ n2_ n3_; clear ho hb hg hat) | ((with_reducible refine gate_callee (f := 97) rfl ?_); refine goesL_ (some 11) rfl rfl Try.func97 (by kernel_rfl) rfl #[.pointer (some ⟨g, 0, none⟩), .int .i64 8] rfl (by (try simp only [List.map_toArray, List.map_cons, List.map_nil]); first | done | rfl | (simp only [List.length_drop, List.length_take]; rfl)) ?_; (with_reducible refine (spec_l1Below.calls g s0_0 s0_1 s0_2 8 t217 t218 t219 w0 _ ?side1 ?side2 A4.out).mono ?_); (case side1 => repeat (first | (with_reducible first | exact HI0.out | apply IsS125.alloc | apply IsS125.drewN | apply IsS125.drew | apply IsS125.set_1 | apply IsS125.set_2) | exact HI0.out)); (case side2 => repeat (first | (with_reducible first | exact HB.out | apply below_alloc | apply pw_below_drewN | apply below_drew1 | refine below_set ?_ (IsS125.ge HI0.out)) | exact HB.out)); rintro e w24 ⟨rfl, hi, hb, hk⟩; refine ⟨_, rfl, ?_⟩; have n0_ := Aside0.mk (Kd.R_mono (Kd.R_keep (IsS125.apart (show IsS125 w0 _ g s0_0 s0_1 s0_2 from by repeat (first | (with_reducible first | exact HI0.out | apply IsS125.alloc | apply IsS125.drewN | apply IsS125.drew | apply IsS125.set_1 | apply IsS125.set_2) | exact HI0.out)) (by (with_reducible repeat (first | apply Kd.R_alloc | apply Kd.R_drewN | apply Kd.R_drew)); exact HO216.out) (by decide)) hk (fun _ h => h.2)) (fun _ h => h.1)); have n1_ := Aside0.mk (KeepBut.trans (by repeat (first | (with_reducible first | exact HK.out | apply KeepBut.set_ | apply keep_drewN | apply keep_drew | apply keep_alloc) | exact HK.out)) hk (.inl rfl)); have n2_ := Aside0.mk (hb); have n3_ := Aside0.mk (hi); clear HO216; clear HK; clear HB; clear HI0; have HO216 := n0_; have HK := n1_; have HB := n2_; have HI0 := n3_; clear n0_ n1_ n2_ n3_; (try clear hb); (try clear hb2); (try clear hk); (try clear hi); obtain ⟨Ao25, co25, eo25⟩ := Kd.R_slice HO216.out; subst eo25))
        go_ret
        exact ⟨_, by first | rfl | (simp [errW_none, errW_some] <;> rfl) | (simp [*, errW_none, errW_some] <;> rfl), by (with_reducible repeat (first | apply Kd.R_alloc | apply Kd.R_drewN | apply Kd.R_drew)); exact HO216.out, by repeat (first | (with_reducible first | exact HI0.out | apply IsS125.alloc | apply IsS125.drewN | apply IsS125.drew | apply IsS125.set_1 | apply IsS125.set_2) | exact HI0.out), by repeat (first | (with_reducible first | exact HB.out | apply below_alloc | apply pw_below_drewN | apply below_drew1 | refine below_set ?_ (IsS125.ge HI0.out)) | exact HB.out), by repeat (first | (with_reducible first | exact HK.out | apply KeepBut.set_ | apply keep_drewN | apply keep_drew | apply keep_alloc) | exact HK.out)⟩
    · rw [if_neg c5] at H
      have c5b0 : (t217 == 0) = false := beq_eq_false_iff_ne.mpr c5
      have c5b1 : (t217 != 0) = true := bne_iff_ne.mpr c5
      by_cases c26 : t217 = 1
      · rw [if_pos c26] at H
        have c26b0 : (t217 == 1) = true := beq_iff_eq.mpr c26
        have c26b1 : (t217 != 1) = false := bne_eq_false_iff_eq.mpr c26
        clear c26
        by_cases c27 : (y214.length : Int) > 0
        · rw [if_pos c27] at H
          have c27b0 : decide (0 < (y214.length : Int)) = true := decide_eq_true c27
          have c27b1 : decide (0 < y214.length) = true := decide_eq_true (by omega)
          clear c27
          replace H := Option.bind_eq_some_iff.mp H
          obtain ⟨⟨t228, t229, t230⟩, A280, H⟩ := H
          replace H : (if 0 ≤ t228 then (if t228 ≤ (y214.length : Int) then (some ((y214.take (t228 : Int).toNat), t229, t230)) else (none)) else (none)) = some (r1, r2, r3) := H
          have A28 := Aside0.mk A280
          clear A280
          by_cases c29 : 0 ≤ t228
          · rw [if_pos c29] at H
            have c29b0 := eq_true c29
            have c29b1 : decide (0 ≤ t228) = true := decide_eq_true c29
            clear c29
            by_cases c30 : t228 ≤ (y214.length : Int)
            · rw [if_pos c30] at H
              have c30b0 := eq_true c30
              have c30b1 : decide (t228 ≤ (y214.length : Int)) = true := decide_eq_true c30
              clear c30
              obtain ⟨y231, hy231⟩ : ∃ y_ : List Int, y_ = (y214.take (t228 : Int).toNat) := ⟨_, rfl⟩
              replace H : (some (y231, t229, t230)) = some (r1, r2, r3) := by first | (rw [hy231]; with_reducible exact H) | (have H2_ := (Option.bind_some _ _).symm.trans H; rw [hy231]; with_reducible exact H2_) | (have H2_ := (Option.bind_some _ _).symm.trans H; with_reducible exact H2_) | with_reducible exact H | (rw [hy231]; exact H) | exact H
              have Ny231 := Aside0.mk hy231
              clear hy231
              simp only [Option.some.injEq, Prod.mk.injEq] at H
              obtain ⟨rfl, rfl, rfl⟩ := H
              go_enter Try.func106, Try.ntmps106
              go_wp2_with (first | ((with_reducible refine gate_dst (N := 7) rfl ?_); refine Kd.R_lit (Kd.int .u8) _ 5 ?hg (N := 7) ?hd (xs := ([] : List Int)) (inner := []) (ok := fun _ => True) (okp := fun _ => True) ?hr ?hp (fun _ hk => hk) trivial (Below.refl _ _) (Nat.le_refl _) (by simp) ?_; (case hd => rfl); (case hg => rfl); (case hr => first | (go_simp; done) | (go_simp; rfl)); (case hp => exact (Reps.none _ _)); intro v212 w31 ho32 hb hg_ hnew_; clear hg_ hnew_; (first | rw [← Ny211.out] at ho32 | (simp only [Int.reduceToNat] at ho32; rw [← Ny211.out] at ho32)); have n0_ := Aside0.mk (Kd.R_lower ho32 (keep_size (w := w) (g := g) (row := none) (by repeat (first | (with_reducible first | exact HK.out | apply KeepBut.set_ | apply keep_drewN | apply keep_drew | apply keep_alloc) | exact HK.out)))); have n1_ := Aside0.mk (IsS125.below (by repeat (first | (with_reducible first | exact HI0.out | apply IsS125.alloc | apply IsS125.drewN | apply IsS125.drew | apply IsS125.set_1 | apply IsS125.set_2) | exact HI0.out)) hb); have n2_ := Aside0.mk (KeepBut.trans (by repeat (first | (with_reducible first | exact HK.out | apply KeepBut.set_ | apply keep_drewN | apply keep_drew | apply keep_alloc) | exact HK.out)) (KeepBut.of_below hb g none) (.inl rfl)); have n3_ := Aside0.mk (below_step (by repeat (first | (with_reducible first | exact HB.out | apply below_alloc | apply pw_below_drewN | apply below_drew1 | refine below_set ?_ (IsS125.ge HI0.out)) | exact HB.out)) hb); clear HI0; clear HK; clear HB; have HO213 := n0_; have HI0 := n1_; have HK := n2_; have HB := n3_; clear n0_ n1_ n2_ n3_; clear hb ho32) | ((with_reducible refine gate_builtin (b := .append) (xs := #[.tmp 7, .tmp 8]) rfl ?_); at_builtin; refine Kd.R_append_rows (Kd.int .u8) w.heap.size rfl (.tmp 7) (.tmp 8) 22 5 (.int .u8 0) 1 rfl Try.underlying22 info5 rfl (by decide) (by omega) v212 y211 l1 _ _ _ (fun _ => True) (fun _ => False) rfl rfl ?aO ?aR (fun _ _ h => h) (fun _ h => h.elim) ?aF (Below.refl _ _) ?aS ?aL ?_; (case aR => exact Kd.C_keep 0 HR1.out (by repeat (first | (with_reducible first | exact HK.out | apply KeepBut.set_ | apply keep_drewN | apply keep_drew | apply keep_alloc) | exact HK.out)) hf1); (case aF => exact (fun _ _ => trivial)); (case aO => exact (by (with_reducible repeat (first | apply Kd.R_alloc | apply Kd.R_drewN | apply Kd.R_drew)); exact HO213.out)); (case aS => exact (keep_size (w := w) (g := g) (row := none) (by repeat (first | (with_reducible first | exact HK.out | apply KeepBut.set_ | apply keep_drewN | apply keep_drew | apply keep_alloc) | exact HK.out)))); (case aL => have := LMc3.out; omega); intro v215 w33 ho hb hg hat; rw [← Ny214.out] at ho; have n0_ := Aside0.mk (IsS125.grown (by repeat (first | (with_reducible first | exact HI0.out | apply IsS125.alloc | apply IsS125.drewN | apply IsS125.drew | apply IsS125.set_1 | apply IsS125.set_2) | exact HI0.out)) hg (IsS125.own_ne HI0.out HO213.out (by decide))); have n1_ := Aside0.mk (below_weaken (by repeat (first | (with_reducible first | exact HB.out | apply below_alloc | apply pw_below_drewN | apply below_drew1 | refine below_set ?_ (IsS125.ge HI0.out)) | exact HB.out)) HL.out hb); have n2_ := Aside0.mk (KeepBut.trans (by repeat (first | (with_reducible first | exact HK.out | apply KeepBut.set_ | apply keep_drewN | apply keep_drew | apply keep_alloc) | exact HK.out)) (KeepBut.of_grown hg g) (Kd.R_base2 HO213.out)); have n3_ := Aside0.mk (ho); clear HI0; clear HB; clear HK; clear HO213; have HI0 := n0_; have HB := n1_; have HK := n2_; have HO216 := n3_; clear n0_ n1_ n2_ n3_; clear ho hb hg hat) | ((with_reducible refine gate_callee (f := 97) rfl ?_); refine goesL_ (some 11) rfl rfl Try.func97 (by kernel_rfl) rfl #[.pointer (some ⟨g, 0, none⟩), .int .i64 8] rfl (by (try simp only [List.map_toArray, List.map_cons, List.map_nil]); first | done | rfl | (simp only [List.length_drop, List.length_take]; rfl)) ?_; (with_reducible refine (spec_l1Below.calls g s0_0 s0_1 s0_2 8 t217 t218 t219 w0 _ ?side1 ?side2 A4.out).mono ?_); (case side1 => repeat (first | (with_reducible first | exact HI0.out | apply IsS125.alloc | apply IsS125.drewN | apply IsS125.drew | apply IsS125.set_1 | apply IsS125.set_2) | exact HI0.out)); (case side2 => repeat (first | (with_reducible first | exact HB.out | apply below_alloc | apply pw_below_drewN | apply below_drew1 | refine below_set ?_ (IsS125.ge HI0.out)) | exact HB.out)); rintro e w34 ⟨rfl, hi, hb, hk⟩; refine ⟨_, rfl, ?_⟩; have n0_ := Aside0.mk (Kd.R_mono (Kd.R_keep (IsS125.apart (show IsS125 w0 _ g s0_0 s0_1 s0_2 from by repeat (first | (with_reducible first | exact HI0.out | apply IsS125.alloc | apply IsS125.drewN | apply IsS125.drew | apply IsS125.set_1 | apply IsS125.set_2) | exact HI0.out)) (by (with_reducible repeat (first | apply Kd.R_alloc | apply Kd.R_drewN | apply Kd.R_drew)); exact HO216.out) (by decide)) hk (fun _ h => h.2)) (fun _ h => h.1)); have n1_ := Aside0.mk (KeepBut.trans (by repeat (first | (with_reducible first | exact HK.out | apply KeepBut.set_ | apply keep_drewN | apply keep_drew | apply keep_alloc) | exact HK.out)) hk (.inl rfl)); have n2_ := Aside0.mk (hb); have n3_ := Aside0.mk (hi); clear HO216; clear HK; clear HB; clear HI0; have HO216 := n0_; have HK := n1_; have HB := n2_; have HI0 := n3_; clear n0_ n1_ n2_ n3_; (try clear hb); (try clear hb2); (try clear hk); (try clear hi); obtain ⟨Ao35, co35, eo35⟩ := Kd.R_slice HO216.out; subst eo35) | ((with_reducible refine gate_callee (f := 97) rfl ?_); refine goesL_ (some 42) rfl rfl Try.func97 (by kernel_rfl) rfl #[.pointer (some ⟨g, 0, none⟩), .int .i64 (y214.length : Int)] rfl (by (try simp only [List.map_toArray, List.map_cons, List.map_nil]); first | done | rfl | (simp only [List.length_drop, List.length_take]; rfl)) ?_; (with_reducible refine (spec_l1Below.calls g s0_0 t218 t219 (y214.length : Int) t228 t229 t230 w0 _ ?side1 ?side2 A28.out).mono ?_); (case side1 => repeat (first | (with_reducible first | exact HI0.out | apply IsS125.alloc | apply IsS125.drewN | apply IsS125.drew | apply IsS125.set_1 | apply IsS125.set_2) | exact HI0.out)); (case side2 => repeat (first | (with_reducible first | exact HB.out | apply below_alloc | apply pw_below_drewN | apply below_drew1 | refine below_set ?_ (IsS125.ge HI0.out)) | exact HB.out)); rintro e w36 ⟨rfl, hi, hb, hk⟩; refine ⟨_, rfl, ?_⟩; have n0_ := Aside0.mk (Kd.R_mono (Kd.R_keep (IsS125.apart (show IsS125 w0 _ g s0_0 t218 t219 from by repeat (first | (with_reducible first | exact HI0.out | apply IsS125.alloc | apply IsS125.drewN | apply IsS125.drew | apply IsS125.set_1 | apply IsS125.set_2) | exact HI0.out)) (by (with_reducible repeat (first | apply Kd.R_alloc | apply Kd.R_drewN | apply Kd.R_drew)); exact HO216.out) (by decide)) hk (fun _ h => h.2)) (fun _ h => h.1)); have n1_ := Aside0.mk (KeepBut.trans (by repeat (first | (with_reducible first | exact HK.out | apply KeepBut.set_ | apply keep_drewN | apply keep_drew | apply keep_alloc) | exact HK.out)) hk (.inl rfl)); have n2_ := Aside0.mk (hb); have n3_ := Aside0.mk (hi); clear HO216; clear HK; clear HB; clear HI0; have HO216 := n0_; have HK := n1_; have HB := n2_; have HI0 := n3_; clear n0_ n1_ n2_ n3_; (try clear hb); (try clear hb2); (try clear hk); (try clear hi); have q37 : (t228 : Int) ≤ ((y214.length : Int) : Int) := of_decide_eq_true (by first | (with_reducible assumption) | assumption); obtain ⟨i037, hi037, _, hsz37, _⟩ := info_parts info5; have hcut37 := cut_to (P := Try.prog) 22 5 .i64 Try.underlying22 hi037 Ao35 y214.length co35 t228 (of_decide_eq_true (by first | (with_reducible assumption) | assumption)) q37 (Kd.R_reads' HO216.out).2.1; have hr37 := Kd.R_take (m := (t228 : Int).toNat) HO216.out (by omega); have hy37 : y231.length = (t228 : Int).toNat := (by rw [Ny231.out, List.length_take]; omega); rw [← Ny231.out] at hr37; rw [← hy37] at hr37 hcut37; clear hy37 hi037 hsz37 HO216; have HO233 := Aside0.mk hr37; clear hr37; replace q37 := eq_true q37))
              go_ret
              exact ⟨_, by first | rfl | (simp [errW_none, errW_some] <;> rfl) | (simp [*, errW_none, errW_some] <;> rfl), by (with_reducible repeat (first | apply Kd.R_alloc | apply Kd.R_drewN | apply Kd.R_drew)); exact HO233.out, by repeat (first | (with_reducible first | exact HI0.out | apply IsS125.alloc | apply IsS125.drewN | apply IsS125.drew | apply IsS125.set_1 | apply IsS125.set_2) | exact HI0.out), by repeat (first | (with_reducible first | exact HB.out | apply below_alloc | apply pw_below_drewN | apply below_drew1 | refine below_set ?_ (IsS125.ge HI0.out)) | exact HB.out), by repeat (first | (with_reducible first | exact HK.out | apply KeepBut.set_ | apply keep_drewN | apply keep_drew | apply keep_alloc) | exact HK.out)⟩
            · rw [if_neg c30] at H
              exact absurd H (by simp)
          · rw [if_neg c29] at H
            exact absurd H (by simp)
        · rw [if_neg c27] at H
          have c27b0 : decide (0 < (y214.length : Int)) = false := decide_eq_false c27
          have c27b1 : decide (0 < y214.length) = false := decide_eq_false (by omega)
          clear c27
          simp only [Option.some.injEq, Prod.mk.injEq] at H
          obtain ⟨rfl, rfl, rfl⟩ := H
          go_enter Try.func106, Try.ntmps106
          go_wp2_with (first | ((with_reducible refine gate_dst (N := 7) rfl ?_); refine Kd.R_lit (Kd.int .u8) _ 5 ?hg (N := 7) ?hd (xs := ([] : List Int)) (inner := []) (ok := fun _ => True) (okp := fun _ => True) ?hr ?hp (fun _ hk => hk) trivial (Below.refl _ _) (Nat.le_refl _) (by simp) ?_; (case hd => rfl); (case hg => rfl); (case hr => first | (go_simp; done) | (go_simp; rfl)); (case hp => exact (Reps.none _ _)); intro v212 w38 ho39 hb hg_ hnew_; clear hg_ hnew_; (first | rw [← Ny211.out] at ho39 | (simp only [Int.reduceToNat] at ho39; rw [← Ny211.out] at ho39)); have n0_ := Aside0.mk (Kd.R_lower ho39 (keep_size (w := w) (g := g) (row := none) (by repeat (first | (with_reducible first | exact HK.out | apply KeepBut.set_ | apply keep_drewN | apply keep_drew | apply keep_alloc) | exact HK.out)))); have n1_ := Aside0.mk (IsS125.below (by repeat (first | (with_reducible first | exact HI0.out | apply IsS125.alloc | apply IsS125.drewN | apply IsS125.drew | apply IsS125.set_1 | apply IsS125.set_2) | exact HI0.out)) hb); have n2_ := Aside0.mk (KeepBut.trans (by repeat (first | (with_reducible first | exact HK.out | apply KeepBut.set_ | apply keep_drewN | apply keep_drew | apply keep_alloc) | exact HK.out)) (KeepBut.of_below hb g none) (.inl rfl)); have n3_ := Aside0.mk (below_step (by repeat (first | (with_reducible first | exact HB.out | apply below_alloc | apply pw_below_drewN | apply below_drew1 | refine below_set ?_ (IsS125.ge HI0.out)) | exact HB.out)) hb); clear HI0; clear HK; clear HB; have HO213 := n0_; have HI0 := n1_; have HK := n2_; have HB := n3_; clear n0_ n1_ n2_ n3_; clear hb ho39) | ((with_reducible refine gate_builtin (b := .append) (xs := #[.tmp 7, .tmp 8]) rfl ?_); at_builtin; refine Kd.R_append_rows (Kd.int .u8) w.heap.size rfl (.tmp 7) (.tmp 8) 22 5 (.int .u8 0) 1 rfl Try.underlying22 info5 rfl (by decide) (by omega) v212 y211 l1 _ _ _ (fun _ => True) (fun _ => False) rfl rfl ?aO ?aR (fun _ _ h => h) (fun _ h => h.elim) ?aF (Below.refl _ _) ?aS ?aL ?_; (case aR => exact Kd.C_keep 0 HR1.out (by repeat (first | (with_reducible first | exact HK.out | apply KeepBut.set_ | apply keep_drewN | apply keep_drew | apply keep_alloc) | exact HK.out)) hf1); (case aF => exact (fun _ _ => trivial)); (case aO => exact (by (with_reducible repeat (first | apply Kd.R_alloc | apply Kd.R_drewN | apply Kd.R_drew)); exact HO213.out)); (case aS => exact (keep_size (w := w) (g := g) (row := none) (by repeat (first | (with_reducible first | exact HK.out | apply KeepBut.set_ | apply keep_drewN | apply keep_drew | apply keep_alloc) | exact HK.out)))); (case aL => have := LMc3.out; omega); intro v215 w40 ho hb hg hat; rw [← Ny214.out] at ho; have n0_ := Aside0.mk (IsS125.grown (by repeat (first | (with_reducible first | exact HI0.out | apply IsS125.alloc | apply IsS125.drewN | apply IsS125.drew | apply IsS125.set_1 | apply IsS125.set_2) | exact HI0.out)) hg (IsS125.own_ne HI0.out HO213.out (by decide))); have n1_ := Aside0.mk (below_weaken (by repeat (first | (with_reducible first | exact HB.out | apply below_alloc | apply pw_below_drewN | apply below_drew1 | refine below_set ?_ (IsS125.ge HI0.out)) | exact HB.out)) HL.out hb); have n2_ := Aside0.mk (KeepBut.trans (by repeat (first | (with_reducible first | exact HK.out | apply KeepBut.set_ | apply keep_drewN | apply keep_drew | apply keep_alloc) | exact HK.out)) (KeepBut.of_grown hg g) (Kd.R_base2 HO213.out)); have n3_ := Aside0.mk (ho); clear HI0; clear HB; clear HK; clear HO213; have HI0 := n0_; have HB := n1_; have HK := n2_; have HO216 := n3_; clear n0_ n1_ n2_ n3_; clear ho hb hg hat) | ((with_reducible refine gate_callee (f := 97) rfl ?_); refine goesL_ (some 11) rfl rfl Try.func97 (by kernel_rfl) rfl #[.pointer (some ⟨g, 0, none⟩), .int .i64 8] rfl (by (try simp only [List.map_toArray, List.map_cons, List.map_nil]); first | done | rfl | (simp only [List.length_drop, List.length_take]; rfl)) ?_; (with_reducible refine (spec_l1Below.calls g s0_0 s0_1 s0_2 8 t217 t218 t219 w0 _ ?side1 ?side2 A4.out).mono ?_); (case side1 => repeat (first | (with_reducible first | exact HI0.out | apply IsS125.alloc | apply IsS125.drewN | apply IsS125.drew | apply IsS125.set_1 | apply IsS125.set_2) | exact HI0.out)); (case side2 => repeat (first | (with_reducible first | exact HB.out | apply below_alloc | apply pw_below_drewN | apply below_drew1 | refine below_set ?_ (IsS125.ge HI0.out)) | exact HB.out)); rintro e w41 ⟨rfl, hi, hb, hk⟩; refine ⟨_, rfl, ?_⟩; have n0_ := Aside0.mk (Kd.R_mono (Kd.R_keep (IsS125.apart (show IsS125 w0 _ g s0_0 s0_1 s0_2 from by repeat (first | (with_reducible first | exact HI0.out | apply IsS125.alloc | apply IsS125.drewN | apply IsS125.drew | apply IsS125.set_1 | apply IsS125.set_2) | exact HI0.out)) (by (with_reducible repeat (first | apply Kd.R_alloc | apply Kd.R_drewN | apply Kd.R_drew)); exact HO216.out) (by decide)) hk (fun _ h => h.2)) (fun _ h => h.1)); have n1_ := Aside0.mk (KeepBut.trans (by repeat (first | (with_reducible first | exact HK.out | apply KeepBut.set_ | apply keep_drewN | apply keep_drew | apply keep_alloc) | exact HK.out)) hk (.inl rfl)); have n2_ := Aside0.mk (hb); have n3_ := Aside0.mk (hi); clear HO216; clear HK; clear HB; clear HI0; have HO216 := n0_; have HK := n1_; have HB := n2_; have HI0 := n3_; clear n0_ n1_ n2_ n3_; (try clear hb); (try clear hb2); (try clear hk); (try clear hi); obtain ⟨Ao42, co42, eo42⟩ := Kd.R_slice HO216.out; subst eo42))
          go_ret
          exact ⟨_, by first | rfl | (simp [errW_none, errW_some] <;> rfl) | (simp [*, errW_none, errW_some] <;> rfl), by (with_reducible repeat (first | apply Kd.R_alloc | apply Kd.R_drewN | apply Kd.R_drew)); exact HO216.out, by repeat (first | (with_reducible first | exact HI0.out | apply IsS125.alloc | apply IsS125.drewN | apply IsS125.drew | apply IsS125.set_1 | apply IsS125.set_2) | exact HI0.out), by repeat (first | (with_reducible first | exact HB.out | apply below_alloc | apply pw_below_drewN | apply below_drew1 | refine below_set ?_ (IsS125.ge HI0.out)) | exact HB.out), by repeat (first | (with_reducible first | exact HK.out | apply KeepBut.set_ | apply keep_drewN | apply keep_drew | apply keep_alloc) | exact HK.out)⟩
      · rw [if_neg c26] at H
        have c26b0 : (t217 == 1) = false := beq_eq_false_iff_ne.mpr c26
        have c26b1 : (t217 != 1) = true := bne_iff_ne.mpr c26
        by_cases c43 : t217 = 2
        · rw [if_pos c43] at H
          have c43b0 : (t217 == 2) = true := beq_iff_eq.mpr c43
          have c43b1 : (t217 != 2) = false := bne_eq_false_iff_eq.mpr c43
          clear c43
          replace H := Option.bind_eq_some_iff.mp H
          obtain ⟨⟨t234, t235, t236⟩, A440, H⟩ := H
          replace H : (if y214.length < 140737488355328 then (some ((y214 ++ [(t234) % 256]), t235, t236)) else (none)) = some (r1, r2, r3) := H
          have A44 := Aside0.mk A440
          clear A440
          by_cases c45 : y214.length < 140737488355328
          · rw [if_pos c45] at H
            have LMc45 := Aside0.mk c45
            clear c45
            obtain ⟨y237, hy237⟩ : ∃ y_ : List Int, y_ = (y214 ++ [(t234) % 256]) := ⟨_, rfl⟩
            replace H : (some (y237, t235, t236)) = some (r1, r2, r3) := by first | (rw [hy237]; with_reducible exact H) | (have H2_ := (Option.bind_some _ _).symm.trans H; rw [hy237]; with_reducible exact H2_) | (have H2_ := (Option.bind_some _ _).symm.trans H; with_reducible exact H2_) | with_reducible exact H | (rw [hy237]; exact H) | exact H
            have Ny237 := Aside0.mk hy237
            clear hy237
            simp only [Option.some.injEq, Prod.mk.injEq] at H
            obtain ⟨rfl, rfl, rfl⟩ := H
            go_enter Try.func106, Try.ntmps106
            go_wp2_with (first | ((with_reducible refine gate_dst (N := 7) rfl ?_); refine Kd.R_lit (Kd.int .u8) _ 5 ?hg (N := 7) ?hd (xs := ([] : List Int)) (inner := []) (ok := fun _ => True) (okp := fun _ => True) ?hr ?hp (fun _ hk => hk) trivial (Below.refl _ _) (Nat.le_refl _) (by simp) ?_; (case hd => rfl); (case hg => rfl); (case hr => first | (go_simp; done) | (go_simp; rfl)); (case hp => exact (Reps.none _ _)); intro v212 w46 ho47 hb hg_ hnew_; clear hg_ hnew_; (first | rw [← Ny211.out] at ho47 | (simp only [Int.reduceToNat] at ho47; rw [← Ny211.out] at ho47)); have n0_ := Aside0.mk (Kd.R_lower ho47 (keep_size (w := w) (g := g) (row := none) (by repeat (first | (with_reducible first | exact HK.out | apply KeepBut.set_ | apply keep_drewN | apply keep_drew | apply keep_alloc) | exact HK.out)))); have n1_ := Aside0.mk (IsS125.below (by repeat (first | (with_reducible first | exact HI0.out | apply IsS125.alloc | apply IsS125.drewN | apply IsS125.drew | apply IsS125.set_1 | apply IsS125.set_2) | exact HI0.out)) hb); have n2_ := Aside0.mk (KeepBut.trans (by repeat (first | (with_reducible first | exact HK.out | apply KeepBut.set_ | apply keep_drewN | apply keep_drew | apply keep_alloc) | exact HK.out)) (KeepBut.of_below hb g none) (.inl rfl)); have n3_ := Aside0.mk (below_step (by repeat (first | (with_reducible first | exact HB.out | apply below_alloc | apply pw_below_drewN | apply below_drew1 | refine below_set ?_ (IsS125.ge HI0.out)) | exact HB.out)) hb); clear HI0; clear HK; clear HB; have HO213 := n0_; have HI0 := n1_; have HK := n2_; have HB := n3_; clear n0_ n1_ n2_ n3_; clear hb ho47) | ((with_reducible refine gate_builtin (b := .append) (xs := #[.tmp 7, .tmp 8]) rfl ?_); at_builtin; refine Kd.R_append_rows (Kd.int .u8) w.heap.size rfl (.tmp 7) (.tmp 8) 22 5 (.int .u8 0) 1 rfl Try.underlying22 info5 rfl (by decide) (by omega) v212 y211 l1 _ _ _ (fun _ => True) (fun _ => False) rfl rfl ?aO ?aR (fun _ _ h => h) (fun _ h => h.elim) ?aF (Below.refl _ _) ?aS ?aL ?_; (case aR => exact Kd.C_keep 0 HR1.out (by repeat (first | (with_reducible first | exact HK.out | apply KeepBut.set_ | apply keep_drewN | apply keep_drew | apply keep_alloc) | exact HK.out)) hf1); (case aF => exact (fun _ _ => trivial)); (case aO => exact (by (with_reducible repeat (first | apply Kd.R_alloc | apply Kd.R_drewN | apply Kd.R_drew)); exact HO213.out)); (case aS => exact (keep_size (w := w) (g := g) (row := none) (by repeat (first | (with_reducible first | exact HK.out | apply KeepBut.set_ | apply keep_drewN | apply keep_drew | apply keep_alloc) | exact HK.out)))); (case aL => have := LMc3.out; omega); intro v215 w48 ho hb hg hat; rw [← Ny214.out] at ho; have n0_ := Aside0.mk (IsS125.grown (by repeat (first | (with_reducible first | exact HI0.out | apply IsS125.alloc | apply IsS125.drewN | apply IsS125.drew | apply IsS125.set_1 | apply IsS125.set_2) | exact HI0.out)) hg (IsS125.own_ne HI0.out HO213.out (by decide))); have n1_ := Aside0.mk (below_weaken (by repeat (first | (with_reducible first | exact HB.out | apply below_alloc | apply pw_below_drewN | apply below_drew1 | refine below_set ?_ (IsS125.ge HI0.out)) | exact HB.out)) HL.out hb); have n2_ := Aside0.mk (KeepBut.trans (by repeat (first | (with_reducible first | exact HK.out | apply KeepBut.set_ | apply keep_drewN | apply keep_drew | apply keep_alloc) | exact HK.out)) (KeepBut.of_grown hg g) (Kd.R_base2 HO213.out)); have n3_ := Aside0.mk (ho); clear HI0; clear HB; clear HK; clear HO213; have HI0 := n0_; have HB := n1_; have HK := n2_; have HO216 := n3_; clear n0_ n1_ n2_ n3_; clear ho hb hg hat) | ((with_reducible refine gate_callee (f := 97) rfl ?_); refine goesL_ (some 11) rfl rfl Try.func97 (by kernel_rfl) rfl #[.pointer (some ⟨g, 0, none⟩), .int .i64 8] rfl (by (try simp only [List.map_toArray, List.map_cons, List.map_nil]); first | done | rfl | (simp only [List.length_drop, List.length_take]; rfl)) ?_; (with_reducible refine (spec_l1Below.calls g s0_0 s0_1 s0_2 8 t217 t218 t219 w0 _ ?side1 ?side2 A4.out).mono ?_); (case side1 => repeat (first | (with_reducible first | exact HI0.out | apply IsS125.alloc | apply IsS125.drewN | apply IsS125.drew | apply IsS125.set_1 | apply IsS125.set_2) | exact HI0.out)); (case side2 => repeat (first | (with_reducible first | exact HB.out | apply below_alloc | apply pw_below_drewN | apply below_drew1 | refine below_set ?_ (IsS125.ge HI0.out)) | exact HB.out)); rintro e w49 ⟨rfl, hi, hb, hk⟩; refine ⟨_, rfl, ?_⟩; have n0_ := Aside0.mk (Kd.R_mono (Kd.R_keep (IsS125.apart (show IsS125 w0 _ g s0_0 s0_1 s0_2 from by repeat (first | (with_reducible first | exact HI0.out | apply IsS125.alloc | apply IsS125.drewN | apply IsS125.drew | apply IsS125.set_1 | apply IsS125.set_2) | exact HI0.out)) (by (with_reducible repeat (first | apply Kd.R_alloc | apply Kd.R_drewN | apply Kd.R_drew)); exact HO216.out) (by decide)) hk (fun _ h => h.2)) (fun _ h => h.1)); have n1_ := Aside0.mk (KeepBut.trans (by repeat (first | (with_reducible first | exact HK.out | apply KeepBut.set_ | apply keep_drewN | apply keep_drew | apply keep_alloc) | exact HK.out)) hk (.inl rfl)); have n2_ := Aside0.mk (hb); have n3_ := Aside0.mk (hi); clear HO216; clear HK; clear HB; clear HI0; have HO216 := n0_; have HK := n1_; have HB := n2_; have HI0 := n3_; clear n0_ n1_ n2_ n3_; (try clear hb); (try clear hb2); (try clear hk); (try clear hi)) | ((with_reducible refine gate_callee (f := 100) rfl ?_); refine goesL_ (some 48) rfl rfl Try.func100 (by kernel_rfl) rfl #[.pointer (some ⟨g, 0, none⟩)] rfl (by (try simp only [List.map_toArray, List.map_cons, List.map_nil]); first | done | rfl | (simp only [List.length_drop, List.length_take]; rfl)) ?_; (with_reducible refine (spec_l1Byte.calls g s0_0 t218 t219 t234 t235 t236 w0 _ ?side1 ?side2 A44.out).mono ?_); (case side1 => repeat (first | (with_reducible first | exact HI0.out | apply IsS125.alloc | apply IsS125.drewN | apply IsS125.drew | apply IsS125.set_1 | apply IsS125.set_2) | exact HI0.out)); (case side2 => repeat (first | (with_reducible first | exact HB.out | apply below_alloc | apply pw_below_drewN | apply below_drew1 | refine below_set ?_ (IsS125.ge HI0.out)) | exact HB.out)); rintro e w50 ⟨rfl, hi, hb, hk⟩; refine ⟨_, rfl, ?_⟩; have n0_ := Aside0.mk (Kd.R_mono (Kd.R_keep (IsS125.apart (show IsS125 w0 _ g s0_0 t218 t219 from by repeat (first | (with_reducible first | exact HI0.out | apply IsS125.alloc | apply IsS125.drewN | apply IsS125.drew | apply IsS125.set_1 | apply IsS125.set_2) | exact HI0.out)) (by (with_reducible repeat (first | apply Kd.R_alloc | apply Kd.R_drewN | apply Kd.R_drew)); exact HO216.out) (by decide)) hk (fun _ h => h.2)) (fun _ h => h.1)); have n1_ := Aside0.mk (KeepBut.trans (by repeat (first | (with_reducible first | exact HK.out | apply KeepBut.set_ | apply keep_drewN | apply keep_drew | apply keep_alloc) | exact HK.out)) hk (.inl rfl)); have n2_ := Aside0.mk (hb); have n3_ := Aside0.mk (hi); clear HO216; clear HK; clear HB; clear HI0; have HO216 := n0_; have HK := n1_; have HB := n2_; have HI0 := n3_; clear n0_ n1_ n2_ n3_; (try clear hb); (try clear hb2); (try clear hk); (try clear hi)) | ((with_reducible refine gate_builtin (b := .append) (xs := #[.tmp 46, .tmp 50]) rfl ?_); at_builtin; refine Kd.R_append (Kd.int .u8) w.heap.size rfl (.tmp 46) (.tmp 50) 22 5 (.int .u8 0) 1 rfl Try.underlying22 info5 rfl (by decide) (by omega) v215 y214 ((t234) % 256) [.int .u8 ((t234) % 256)] (fun _ => True) (fun _ => False) rfl rfl ?aP (fun _ hk => hk.elim) ?aF ?aO (Below.refl _ _) ?aS ?aL ?_; (case aP => exact rfl); (case aF => exact (fun _ _ => trivial)); (case aO => exact (by (with_reducible repeat (first | apply Kd.R_alloc | apply Kd.R_drewN | apply Kd.R_drew)); exact HO216.out)); (case aS => exact (keep_size (w := w) (g := g) (row := none) (by repeat (first | (with_reducible first | exact HK.out | apply KeepBut.set_ | apply keep_drewN | apply keep_drew | apply keep_alloc) | exact HK.out)))); (case aL => have := LMc45.out; omega); intro v238 w51 ho hb hg hat; rw [← Ny237.out] at ho; have n0_ := Aside0.mk (IsS125.grown (by repeat (first | (with_reducible first | exact HI0.out | apply IsS125.alloc | apply IsS125.drewN | apply IsS125.drew | apply IsS125.set_1 | apply IsS125.set_2) | exact HI0.out)) hg (IsS125.own_ne HI0.out HO216.out (by decide))); have n1_ := Aside0.mk (below_weaken (by repeat (first | (with_reducible first | exact HB.out | apply below_alloc | apply pw_below_drewN | apply below_drew1 | refine below_set ?_ (IsS125.ge HI0.out)) | exact HB.out)) HL.out hb); have n2_ := Aside0.mk (KeepBut.trans (by repeat (first | (with_reducible first | exact HK.out | apply KeepBut.set_ | apply keep_drewN | apply keep_drew | apply keep_alloc) | exact HK.out)) (KeepBut.of_grown hg g) (Kd.R_base2 HO216.out)); have n3_ := Aside0.mk (ho); clear HI0; clear HB; clear HK; clear HO216; have HI0 := n0_; have HB := n1_; have HK := n2_; have HO239 := n3_; clear n0_ n1_ n2_ n3_; clear ho hb hg hat))
            go_ret
            exact ⟨_, by first | rfl | (simp [errW_none, errW_some] <;> rfl) | (simp [*, errW_none, errW_some] <;> rfl), by (with_reducible repeat (first | apply Kd.R_alloc | apply Kd.R_drewN | apply Kd.R_drew)); exact HO239.out, by repeat (first | (with_reducible first | exact HI0.out | apply IsS125.alloc | apply IsS125.drewN | apply IsS125.drew | apply IsS125.set_1 | apply IsS125.set_2) | exact HI0.out), by repeat (first | (with_reducible first | exact HB.out | apply below_alloc | apply pw_below_drewN | apply below_drew1 | refine below_set ?_ (IsS125.ge HI0.out)) | exact HB.out), by repeat (first | (with_reducible first | exact HK.out | apply KeepBut.set_ | apply keep_drewN | apply keep_drew | apply keep_alloc) | exact HK.out)⟩
          · rw [if_neg c45] at H
            exact absurd H (by simp)
        · rw [if_neg c43] at H
          have c43b0 : (t217 == 2) = false := beq_eq_false_iff_ne.mpr c43
          have c43b1 : (t217 != 2) = true := bne_iff_ne.mpr c43
          simp only [Option.some.injEq, Prod.mk.injEq] at H
          obtain ⟨rfl, rfl, rfl⟩ := H
          go_enter Try.func106, Try.ntmps106
          go_wp2_with (first | ((with_reducible refine gate_dst (N := 7) rfl ?_); refine Kd.R_lit (Kd.int .u8) _ 5 ?hg (N := 7) ?hd (xs := ([] : List Int)) (inner := []) (ok := fun _ => True) (okp := fun _ => True) ?hr ?hp (fun _ hk => hk) trivial (Below.refl _ _) (Nat.le_refl _) (by simp) ?_; (case hd => rfl); (case hg => rfl); (case hr => first | (go_simp; done) | (go_simp; rfl)); (case hp => exact (Reps.none _ _)); intro v212 w52 ho53 hb hg_ hnew_; clear hg_ hnew_; (first | rw [← Ny211.out] at ho53 | (simp only [Int.reduceToNat] at ho53; rw [← Ny211.out] at ho53)); have n0_ := Aside0.mk (Kd.R_lower ho53 (keep_size (w := w) (g := g) (row := none) (by repeat (first | (with_reducible first | exact HK.out | apply KeepBut.set_ | apply keep_drewN | apply keep_drew | apply keep_alloc) | exact HK.out)))); have n1_ := Aside0.mk (IsS125.below (by repeat (first | (with_reducible first | exact HI0.out | apply IsS125.alloc | apply IsS125.drewN | apply IsS125.drew | apply IsS125.set_1 | apply IsS125.set_2) | exact HI0.out)) hb); have n2_ := Aside0.mk (KeepBut.trans (by repeat (first | (with_reducible first | exact HK.out | apply KeepBut.set_ | apply keep_drewN | apply keep_drew | apply keep_alloc) | exact HK.out)) (KeepBut.of_below hb g none) (.inl rfl)); have n3_ := Aside0.mk (below_step (by repeat (first | (with_reducible first | exact HB.out | apply below_alloc | apply pw_below_drewN | apply below_drew1 | refine below_set ?_ (IsS125.ge HI0.out)) | exact HB.out)) hb); clear HI0; clear HK; clear HB; have HO213 := n0_; have HI0 := n1_; have HK := n2_; have HB := n3_; clear n0_ n1_ n2_ n3_; clear hb ho53) | ((with_reducible refine gate_builtin (b := .append) (xs := #[.tmp 7, .tmp 8]) rfl ?_); at_builtin; refine Kd.R_append_rows (Kd.int .u8) w.heap.size rfl (.tmp 7) (.tmp 8) 22 5 (.int .u8 0) 1 rfl Try.underlying22 info5 rfl (by decide) (by omega) v212 y211 l1 _ _ _ (fun _ => True) (fun _ => False) rfl rfl ?aO ?aR (fun _ _ h => h) (fun _ h => h.elim) ?aF (Below.refl _ _) ?aS ?aL ?_; (case aR => exact Kd.C_keep 0 HR1.out (by repeat (first | (with_reducible first | exact HK.out | apply KeepBut.set_ | apply keep_drewN | apply keep_drew | apply keep_alloc) | exact HK.out)) hf1); (case aF => exact (fun _ _ => trivial)); (case aO => exact (by (with_reducible repeat (first | apply Kd.R_alloc | apply Kd.R_drewN | apply Kd.R_drew)); exact HO213.out)); (case aS => exact (keep_size (w := w) (g := g) (row := none) (by repeat (first | (with_reducible first | exact HK.out | apply KeepBut.set_ | apply keep_drewN | apply keep_drew | apply keep_alloc) | exact HK.out)))); (case aL => have := LMc3.out; omega); intro v215 w54 ho hb hg hat; rw [← Ny214.out] at ho; have n0_ := Aside0.mk (IsS125.grown (by repeat (first | (with_reducible first | exact HI0.out | apply IsS125.alloc | apply IsS125.drewN | apply IsS125.drew | apply IsS125.set_1 | apply IsS125.set_2) | exact HI0.out)) hg (IsS125.own_ne HI0.out HO213.out (by decide))); have n1_ := Aside0.mk (below_weaken (by repeat (first | (with_reducible first | exact HB.out | apply below_alloc | apply pw_below_drewN | apply below_drew1 | refine below_set ?_ (IsS125.ge HI0.out)) | exact HB.out)) HL.out hb); have n2_ := Aside0.mk (KeepBut.trans (by repeat (first | (with_reducible first | exact HK.out | apply KeepBut.set_ | apply keep_drewN | apply keep_drew | apply keep_alloc) | exact HK.out)) (KeepBut.of_grown hg g) (Kd.R_base2 HO213.out)); have n3_ := Aside0.mk (ho); clear HI0; clear HB; clear HK; clear HO213; have HI0 := n0_; have HB := n1_; have HK := n2_; have HO216 := n3_; clear n0_ n1_ n2_ n3_; clear ho hb hg hat) | ((with_reducible refine gate_callee (f := 97) rfl ?_); refine goesL_ (some 11) rfl rfl Try.func97 (by kernel_rfl) rfl #[.pointer (some ⟨g, 0, none⟩), .int .i64 8] rfl (by (try simp only [List.map_toArray, List.map_cons, List.map_nil]); first | done | rfl | (simp only [List.length_drop, List.length_take]; rfl)) ?_; (with_reducible refine (spec_l1Below.calls g s0_0 s0_1 s0_2 8 t217 t218 t219 w0 _ ?side1 ?side2 A4.out).mono ?_); (case side1 => repeat (first | (with_reducible first | exact HI0.out | apply IsS125.alloc | apply IsS125.drewN | apply IsS125.drew | apply IsS125.set_1 | apply IsS125.set_2) | exact HI0.out)); (case side2 => repeat (first | (with_reducible first | exact HB.out | apply below_alloc | apply pw_below_drewN | apply below_drew1 | refine below_set ?_ (IsS125.ge HI0.out)) | exact HB.out)); rintro e w55 ⟨rfl, hi, hb, hk⟩; refine ⟨_, rfl, ?_⟩; have n0_ := Aside0.mk (Kd.R_mono (Kd.R_keep (IsS125.apart (show IsS125 w0 _ g s0_0 s0_1 s0_2 from by repeat (first | (with_reducible first | exact HI0.out | apply IsS125.alloc | apply IsS125.drewN | apply IsS125.drew | apply IsS125.set_1 | apply IsS125.set_2) | exact HI0.out)) (by (with_reducible repeat (first | apply Kd.R_alloc | apply Kd.R_drewN | apply Kd.R_drew)); exact HO216.out) (by decide)) hk (fun _ h => h.2)) (fun _ h => h.1)); have n1_ := Aside0.mk (KeepBut.trans (by repeat (first | (with_reducible first | exact HK.out | apply KeepBut.set_ | apply keep_drewN | apply keep_drew | apply keep_alloc) | exact HK.out)) hk (.inl rfl)); have n2_ := Aside0.mk (hb); have n3_ := Aside0.mk (hi); clear HO216; clear HK; clear HB; clear HI0; have HO216 := n0_; have HK := n1_; have HB := n2_; have HI0 := n3_; clear n0_ n1_ n2_ n3_; (try clear hb); (try clear hb2); (try clear hk); (try clear hi)))
          go_ret
          exact ⟨_, by first | rfl | (simp [errW_none, errW_some] <;> rfl) | (simp [*, errW_none, errW_some] <;> rfl), by (with_reducible repeat (first | apply Kd.R_alloc | apply Kd.R_drewN | apply Kd.R_drew)); exact HO216.out, by repeat (first | (with_reducible first | exact HI0.out | apply IsS125.alloc | apply IsS125.drewN | apply IsS125.drew | apply IsS125.set_1 | apply IsS125.set_2) | exact HI0.out), by repeat (first | (with_reducible first | exact HB.out | apply below_alloc | apply pw_below_drewN | apply below_drew1 | refine below_set ?_ (IsS125.ge HI0.out)) | exact HB.out), by repeat (first | (with_reducible first | exact HK.out | apply KeepBut.set_ | apply keep_drewN | apply keep_drew | apply keep_alloc) | exact HK.out)⟩
  · rw [if_neg c3] at H
    exact absurd H (by simp)

/-! ### spec_Bound: function 29 -/
def spec_Bound.f (a0 : Int) : Option (Int) := if a0 > 2147483647 then (some 2147483647) else (if a0 < (-2147483647) then (some (-2147483647)) else (some a0))
set_option maxHeartbeats 8000000 in
set_option maxRecDepth 100000 in
theorem spec_Bound.calls (a0 : Int) (r : Int) (w : World) (h : spec_Bound.f a0 = some r) :
    Calls Try.prog 29 #[.int .i64 a0] w fun e w' => e = .returned (.int .i64 r) ∧ Drawn0 w w' := by
  have H : (if a0 > 2147483647 then (some 2147483647) else (if a0 < (-2147483647) then (some (-2147483647)) else (some a0))) = some r := h
  clear h
  by_cases c2 : a0 > 2147483647
  · rw [if_pos c2] at H
    have c2b0 : decide (2147483647 < a0) = true := decide_eq_true c2
    clear c2
    obtain rfl := Option.some.inj H
    go_enter Try.func29, Try.ntmps29
    go_wp2
    go_ret
    exact ⟨by first | rfl | (simp; done) | (simp [*]; done), by repeat (first | exact Drawn0.refl _ | apply Drawn0.step)⟩
  · rw [if_neg c2] at H
    have c2b0 : decide (2147483647 < a0) = false := decide_eq_false c2
    clear c2
    by_cases c3 : a0 < (-2147483647)
    · rw [if_pos c3] at H
      have c3b0 : decide (a0 < (-2147483647)) = true := decide_eq_true c3
      clear c3
      obtain rfl := Option.some.inj H
      go_enter Try.func29, Try.ntmps29
      go_wp2
      go_ret
      exact ⟨by first | rfl | (simp; done) | (simp [*]; done), by repeat (first | exact Drawn0.refl _ | apply Drawn0.step)⟩
    · rw [if_neg c3] at H
      have c3b0 : decide (a0 < (-2147483647)) = false := decide_eq_false c3
      clear c3
      obtain rfl := Option.some.inj H
      go_enter Try.func29, Try.ntmps29
      go_wp2
      go_ret
      exact ⟨by first | rfl | (simp; done) | (simp [*]; done), by repeat (first | exact Drawn0.refl _ | apply Drawn0.step)⟩

/-! ### spec_PutNum: function 101 -/
def spec_PutNum.f (l0 : List Int) (a1 : Int) : Option (List Int) := (spec_Bound.f a1).bind fun t240 => ((some (([] : List Int) : List Int)).bind fun y241 => (if y241.length + l0.length < 140737488355328 then ((some (y241 ++ l0 : List Int)).bind fun y244 => ((some (([(Go.bits .and .i64 ((wrap64 (t240 + 2147483648)) / 16777216) 255) % 256, (Go.bits .and .i64 ((wrap64 (t240 + 2147483648)) / 65536) 255) % 256, (Go.bits .and .i64 ((wrap64 (t240 + 2147483648)) / 256) 255) % 256, (Go.bits .and .i64 (wrap64 (t240 + 2147483648)) 255) % 256] : List Int) : List Int)).bind fun y247 => (if y244.length + y247.length < 140737488355328 then (some (y244 ++ y247)) else (none)))) else (none)))
set_option maxHeartbeats 8000000 in
set_option maxRecDepth 100000 in
theorem spec_PutNum.calls (A0 : Option Addr) (c0 : Nat) (l0 : List Int) (a1 : Int) (r : List Int) (w : World) (hr0 : Kd.C (Kd.int .u8) w A0 l0.length l0) (hc0 : l0.length ≤ c0) (h : spec_PutNum.f l0 a1 = some r) :
    Calls Try.prog 101 #[.slice A0 l0.length c0, .int .i64 a1] w fun e w' => ∃ v0_ : Value, e = .returned (v0_) ∧ Kd.R (Kd.int .u8) 5 w' w.heap.size (fun _ => True) v0_ r ∧ Below w.heap.size w w' := by
  have HR0 := Aside0.mk hr0
  have HC0 := Aside0.mk hc0
  clear hr0 hc0
  have HB := Aside0.mk (Below.refl w.heap.size w)
  have H : ((spec_Bound.f a1).bind fun t240 => ((some (([] : List Int) : List Int)).bind fun y241 => (if y241.length + l0.length < 140737488355328 then ((some (y241 ++ l0 : List Int)).bind fun y244 => ((some (([(Go.bits .and .i64 ((wrap64 (t240 + 2147483648)) / 16777216) 255) % 256, (Go.bits .and .i64 ((wrap64 (t240 + 2147483648)) / 65536) 255) % 256, (Go.bits .and .i64 ((wrap64 (t240 + 2147483648)) / 256) 255) % 256, (Go.bits .and .i64 (wrap64 (t240 + 2147483648)) 255) % 256] : List Int) : List Int)).bind fun y247 => (if y244.length + y247.length < 140737488355328 then (some (y244 ++ y247)) else (none)))) else (none)))) = some r := h
  clear h
  replace H := Option.bind_eq_some_iff.mp H
  obtain ⟨t240, A30, H⟩ := H
  replace H : ((some (([] : List Int) : List Int)).bind fun y241 => (if y241.length + l0.length < 140737488355328 then ((some (y241 ++ l0 : List Int)).bind fun y244 => ((some (([(Go.bits .and .i64 ((wrap64 (t240 + 2147483648)) / 16777216) 255) % 256, (Go.bits .and .i64 ((wrap64 (t240 + 2147483648)) / 65536) 255) % 256, (Go.bits .and .i64 ((wrap64 (t240 + 2147483648)) / 256) 255) % 256, (Go.bits .and .i64 (wrap64 (t240 + 2147483648)) 255) % 256] : List Int) : List Int)).bind fun y247 => (if y244.length + y247.length < 140737488355328 then (some (y244 ++ y247)) else (none)))) else (none))) = some r := H
  have A3 := Aside0.mk A30
  clear A30
  obtain ⟨y241, hy241⟩ : ∃ y_ : List Int, y_ = (([] : List Int)) := ⟨_, rfl⟩
  replace H : (if y241.length + l0.length < 140737488355328 then ((some (y241 ++ l0 : List Int)).bind fun y244 => ((some (([(Go.bits .and .i64 ((wrap64 (t240 + 2147483648)) / 16777216) 255) % 256, (Go.bits .and .i64 ((wrap64 (t240 + 2147483648)) / 65536) 255) % 256, (Go.bits .and .i64 ((wrap64 (t240 + 2147483648)) / 256) 255) % 256, (Go.bits .and .i64 (wrap64 (t240 + 2147483648)) 255) % 256] : List Int) : List Int)).bind fun y247 => (if y244.length + y247.length < 140737488355328 then (some (y244 ++ y247)) else (none)))) else (none)) = some r := by first | (rw [hy241]; with_reducible exact H) | (have H2_ := (Option.bind_some _ _).symm.trans H; rw [hy241]; with_reducible exact H2_) | (have H2_ := (Option.bind_some _ _).symm.trans H; with_reducible exact H2_) | with_reducible exact H | (rw [hy241]; exact H) | exact H
  have Ny241 := Aside0.mk hy241
  clear hy241
  by_cases c4 : y241.length + l0.length < 140737488355328
  · rw [if_pos c4] at H
    have LMc4 := Aside0.mk c4
    clear c4
    obtain ⟨y244, hy244⟩ : ∃ y_ : List Int, y_ = (y241 ++ l0) := ⟨_, rfl⟩
    replace H : ((some (([(Go.bits .and .i64 ((wrap64 (t240 + 2147483648)) / 16777216) 255) % 256, (Go.bits .and .i64 ((wrap64 (t240 + 2147483648)) / 65536) 255) % 256, (Go.bits .and .i64 ((wrap64 (t240 + 2147483648)) / 256) 255) % 256, (Go.bits .and .i64 (wrap64 (t240 + 2147483648)) 255) % 256] : List Int) : List Int)).bind fun y247 => (if y244.length + y247.length < 140737488355328 then (some (y244 ++ y247)) else (none))) = some r := by first | (rw [hy244]; with_reducible exact H) | (have H2_ := (Option.bind_some _ _).symm.trans H; rw [hy244]; with_reducible exact H2_) | (have H2_ := (Option.bind_some _ _).symm.trans H; with_reducible exact H2_) | with_reducible exact H | (rw [hy244]; exact H) | exact H
    have Ny244 := Aside0.mk hy244
    clear hy244
    obtain ⟨y247, hy247⟩ : ∃ y_ : List Int, y_ = (([(Go.bits .and .i64 ((wrap64 (t240 + 2147483648)) / 16777216) 255) % 256, (Go.bits .and .i64 ((wrap64 (t240 + 2147483648)) / 65536) 255) % 256, (Go.bits .and .i64 ((wrap64 (t240 + 2147483648)) / 256) 255) % 256, (Go.bits .and .i64 (wrap64 (t240 + 2147483648)) 255) % 256] : List Int)) := ⟨_, rfl⟩
    replace H : (if y244.length + y247.length < 140737488355328 then (some (y244 ++ y247)) else (none)) = some r := by first | (rw [hy247]; with_reducible exact H) | (have H2_ := (Option.bind_some _ _).symm.trans H; rw [hy247]; with_reducible exact H2_) | (have H2_ := (Option.bind_some _ _).symm.trans H; with_reducible exact H2_) | with_reducible exact H | (rw [hy247]; exact H) | exact H
    have Ny247 := Aside0.mk hy247
    clear hy247
    by_cases c5 : y244.length + y247.length < 140737488355328
    · rw [if_pos c5] at H
      have LMc5 := Aside0.mk c5
      clear c5
      obtain ⟨y250, hy250⟩ : ∃ y_ : List Int, y_ = (y244 ++ y247) := ⟨_, rfl⟩
      replace H : (some y250) = some r := by first | (rw [hy250]; with_reducible exact H) | (have H2_ := (Option.bind_some _ _).symm.trans H; rw [hy250]; with_reducible exact H2_) | (have H2_ := (Option.bind_some _ _).symm.trans H; with_reducible exact H2_) | with_reducible exact H | (rw [hy250]; exact H) | exact H
      have Ny250 := Aside0.mk hy250
      clear hy250
      obtain rfl := Option.some.inj H
      go_enter Try.func101, Try.ntmps101
      go_wp2_with (first | ((with_reducible refine gate_callee (f := 29) rfl ?_); refine goesL_ (some 7) rfl rfl Try.func29 (by kernel_rfl) rfl #[.int .i64 a1] rfl (by (try simp only [List.map_toArray, List.map_cons, List.map_nil]); first | done | rfl | (simp only [List.length_drop, List.length_take]; rfl)) ?_; (with_reducible refine (spec_Bound.calls a1 t240 _ A3.out).mono ?_); rintro e w' ⟨rfl, ⟨nd, rfl⟩⟩; refine ⟨_, rfl, ?_⟩) | ((with_reducible refine gate_dst (N := 9) rfl ?_); refine Kd.R_lit (Kd.int .u8) _ 5 ?hg (N := 9) ?hd (xs := ([] : List Int)) (inner := []) (ok := fun _ => True) (okp := fun _ => True) ?hr ?hp (fun _ hk => hk) trivial (Below.refl _ _) (Nat.le_refl _) (by simp) ?_; (case hd => rfl); (case hg => rfl); (case hr => first | (go_simp; done) | (go_simp; rfl)); (case hp => exact (Reps.none _ _)); intro v242 w6 ho7 hb hg_ hnew_; clear hg_ hnew_; (first | rw [← Ny241.out] at ho7 | (simp only [Int.reduceToNat] at ho7; rw [← Ny241.out] at ho7)); have n0_ := Aside0.mk (Kd.R_lower ho7 (below_size (by repeat (first | (with_reducible first | exact HB.out | apply below_alloc | apply pw_below_drewN | apply below_drew1) | exact HB.out)))); have n1_ := Aside0.mk (below_step (by repeat (first | (with_reducible first | exact HB.out | apply below_alloc | apply pw_below_drewN | apply below_drew1) | exact HB.out)) hb); clear HB; have HO243 := n0_; have HB := n1_; clear n0_ n1_; clear hb ho7) | ((with_reducible refine gate_builtin (b := .append) (xs := #[.tmp 9, .tmp 10]) rfl ?_); at_builtin; refine Kd.R_append_rows (Kd.int .u8) (w0 := w) w.heap.size rfl (.tmp 9) (.tmp 10) 22 5 (.int .u8 0) 1 rfl Try.underlying22 info5 rfl (by decide) (by omega) v242 y241 l0 _ _ _ (fun _ => True) (fun _ => False) rfl rfl ?aO ?aR (fun _ _ h => h) (fun _ h => h.elim) ?aF ?aB ?aS ?aL ?_; (case aR => repeat (first | exact (Kd.C_below HR0.out HB.out) | (with_reducible refine Kd.C_alloc ?_ _) | (with_reducible refine Kd.C_drewN ?_ _) | (with_reducible refine Kd.C_drew ?_))); (case aB => exact (by repeat (first | (with_reducible first | exact HB.out | apply below_alloc | apply pw_below_drewN | apply below_drew1) | exact HB.out))); (case aF => exact (fun _ _ => trivial)); (case aO => exact (by (with_reducible repeat (first | apply Kd.R_alloc | apply Kd.R_drewN | apply Kd.R_drew)); exact HO243.out)); (case aS => exact (below_size (by repeat (first | (with_reducible first | exact HB.out | apply below_alloc | apply pw_below_drewN | apply below_drew1) | exact HB.out)))); (case aL => have := LMc4.out; omega); intro v245 w8 ho hb hg hat; rw [← Ny244.out] at ho; have n0_ := Aside0.mk (hb); have n1_ := Aside0.mk (ho); clear HB; clear HO243; have HB := n0_; have HO246 := n1_; clear n0_ n1_; clear ho hb hg hat) | ((with_reducible refine gate_dst (N := 27) rfl ?_); refine Kd.R_lit (Kd.int .u8) _ 5 ?hg (N := 27) ?hd (xs := ([(Go.bits .and .i64 ((wrap64 (t240 + 2147483648)) / 16777216) 255) % 256, (Go.bits .and .i64 ((wrap64 (t240 + 2147483648)) / 65536) 255) % 256, (Go.bits .and .i64 ((wrap64 (t240 + 2147483648)) / 256) 255) % 256, (Go.bits .and .i64 (wrap64 (t240 + 2147483648)) 255) % 256] : List Int)) (inner := [.int .u8 ((Go.bits .and .i64 ((wrap64 (t240 + 2147483648)) / 16777216) 255) % 256), .int .u8 ((Go.bits .and .i64 ((wrap64 (t240 + 2147483648)) / 65536) 255) % 256), .int .u8 ((Go.bits .and .i64 ((wrap64 (t240 + 2147483648)) / 256) 255) % 256), .int .u8 ((Go.bits .and .i64 (wrap64 (t240 + 2147483648)) 255) % 256)]) (ok := fun _ => True) (okp := fun _ => True) ?hr ?hp (fun _ hk => hk) trivial (Below.refl _ _) (Nat.le_refl _) (by simp) ?_; (case hd => rfl); (case hg => rfl); (case hr => first | (go_simp; done) | (go_simp; rfl)); (case hp => exact (Reps.one (show Kd.M (Kd.int .u8) _ _ _ ((Go.bits .and .i64 ((wrap64 (t240 + 2147483648)) / 16777216) 255) % 256) [.int .u8 ((Go.bits .and .i64 ((wrap64 (t240 + 2147483648)) / 16777216) 255) % 256)] from rfl) (Reps.one (show Kd.M (Kd.int .u8) _ _ _ ((Go.bits .and .i64 ((wrap64 (t240 + 2147483648)) / 65536) 255) % 256) [.int .u8 ((Go.bits .and .i64 ((wrap64 (t240 + 2147483648)) / 65536) 255) % 256)] from rfl) (Reps.one (show Kd.M (Kd.int .u8) _ _ _ ((Go.bits .and .i64 ((wrap64 (t240 + 2147483648)) / 256) 255) % 256) [.int .u8 ((Go.bits .and .i64 ((wrap64 (t240 + 2147483648)) / 256) 255) % 256)] from rfl) (Reps.one (show Kd.M (Kd.int .u8) _ _ _ ((Go.bits .and .i64 (wrap64 (t240 + 2147483648)) 255) % 256) [.int .u8 ((Go.bits .and .i64 (wrap64 (t240 + 2147483648)) 255) % 256)] from rfl) (Reps.none _ _)))))); intro v248 w9 ho10 hb hg_ hnew_; clear hg_ hnew_; (first | rw [← Ny247.out] at ho10 | (simp only [Int.reduceToNat] at ho10; rw [← Ny247.out] at ho10)); have n0_ := Aside0.mk (Kd.R_elder' (by (with_reducible repeat (first | apply Kd.R_alloc | apply Kd.R_drewN | apply Kd.R_drew)); exact HO246.out) (Kd.R_base ho10) hb); have n1_ := Aside0.mk (Kd.R_lower (Kd.R_new' ho10 (Kd.R_lt (by (with_reducible repeat (first | apply Kd.R_alloc | apply Kd.R_drewN | apply Kd.R_drew)); exact HO246.out))) (below_size (by repeat (first | (with_reducible first | exact HB.out | apply below_alloc | apply pw_below_drewN | apply below_drew1) | exact HB.out)))); have n2_ := Aside0.mk (below_step (by repeat (first | (with_reducible first | exact HB.out | apply below_alloc | apply pw_below_drewN | apply below_drew1) | exact HB.out)) hb); clear HO246; clear HB; have HO246 := n0_; have HO249 := n1_; have HB := n2_; clear n0_ n1_ n2_; clear hb ho10; obtain ⟨Ao12, co12, eo12⟩ := Kd.R_slice HO249.out; subst eo12) | ((with_reducible refine gate_builtin (b := .append) (xs := #[.tmp 11, .tmp 27]) rfl ?_); at_builtin; refine Kd.R_append_rows (Kd.int .u8) (w0 := w) w.heap.size rfl (.tmp 11) (.tmp 27) 22 5 (.int .u8 0) 1 rfl Try.underlying22 info5 rfl (by decide) (by omega) v245 y244 y247 _ _ _ (fun k_ => some k_ ≠ (.slice Ao12 y247.length co12 : Value).ownBlock) (fun _ => False) rfl rfl ?aO ?aR (fun _ _ h => h) (fun _ h => h.elim) ?aF ?aB ?aS ?aL ?_; (case aR => repeat (first | exact (Kd.R_reads' HO249.out).2.2 | (with_reducible refine Kd.C_alloc ?_ _) | (with_reducible refine Kd.C_drewN ?_ _) | (with_reducible refine Kd.C_drew ?_))); (case aB => exact (by repeat (first | (with_reducible first | exact HB.out | apply below_alloc | apply pw_below_drewN | apply below_drew1) | exact HB.out))); (case aF => exact (fun k_ hk => Kd.fresh' (Kd.R_lt (by (with_reducible repeat (first | apply Kd.R_alloc | apply Kd.R_drewN | apply Kd.R_drew)); exact HO249.out)) k_ hk)); (case aO => exact (by (with_reducible repeat (first | apply Kd.R_alloc | apply Kd.R_drewN | apply Kd.R_drew)); exact Kd.R_mono HO246.out (fun _ hk => hk.2))); (case aS => exact (below_size (by repeat (first | (with_reducible first | exact HB.out | apply below_alloc | apply pw_below_drewN | apply below_drew1) | exact HB.out)))); (case aL => have := LMc5.out; omega); intro v251 w11 ho hb hg hat; rw [← Ny250.out] at ho; have n0_ := Aside0.mk (Kd.R_after (ok := (fun _ => True)) (by (with_reducible repeat (first | apply Kd.R_alloc | apply Kd.R_drewN | apply Kd.R_drew)); exact HO249.out) hg hat); have n1_ := Aside0.mk (hb); have n2_ := Aside0.mk (ho); clear HO249; clear HB; clear HO246; have HO249 := n0_; have HB := n1_; have HO252 := n2_; clear n0_ n1_ n2_; clear ho hb hg hat))
      go_ret
      exact ⟨_, by first | rfl | (simp [errW_none, errW_some] <;> rfl) | (simp [*, errW_none, errW_some] <;> rfl), by (with_reducible repeat (first | apply Kd.R_alloc | apply Kd.R_drewN | apply Kd.R_drew)); exact Kd.R_mono HO252.out (fun _ hk => trivial), by repeat (first | (with_reducible first | exact HB.out | apply below_alloc | apply pw_below_drewN | apply below_drew1) | exact HB.out)⟩
    · rw [if_neg c5] at H
      exact absurd H (by simp)
  · rw [if_neg c4] at H
    exact absurd H (by simp)

/-! ### spec_PutList: function 53 -/
def spec_PutList.l0 : Nat → List Int → List Int → Int → Option (List Int)
  | 0, _, _, _ => none
  | k + 1, x1, x5, x6 => if x6 < (x1.length : Int) then (if 0 ≤ x6 then ((spec_PutNum.f x5 (rd x1 x6)).bind fun t263 => (spec_PutList.l0 k x1 t263 (wrap64 (x6 + 1)))) else (none)) else (some x5)
def spec_PutList.f (k : Nat) (l0 : List Int) (l1 : List Int) : Option (List Int) := (some (([] : List Int) : List Int)).bind fun y253 => (if y253.length + l0.length < 140737488355328 then ((some (y253 ++ l0 : List Int)).bind fun y256 => (if (l1.length : Int) > 255 then (some y256) else (if y256.length < 140737488355328 then (spec_PutList.l0 k l1 (y256 ++ [((l1.length : Int)) % 256]) 0) else (none)))) else (none))
theorem spec_PutList.mono_l : ∀ k, (∀ y0 y1 y2, LeO (spec_PutList.l0 k y0 y1 y2) (spec_PutList.l0 (k + 1) y0 y1 y2))
  | 0 => fun _ _ _ r h => by simp [spec_PutList.l0] at h
  | k + 1 => by
    have ih0 := spec_PutList.mono_l k
    · intro y0 y1 y2
      unfold spec_PutList.l0
      repeat' first
      | (with_reducible exact ih0 _ _ _)
      | (with_reducible exact LeO.refl _)
      | (with_reducible exact LeO.none _)
      | (with_reducible refine LeO.ite ?_ ?_)
      | (with_reducible refine LeO.bind ?_ (fun _ => ?_))
      | exact ih0 _ _ _
      | exact LeO.none _
      | refine LeO.ite ?_ ?_
      | refine LeO.bind ?_ (fun _ => ?_)
theorem spec_PutList.mono : ∀ a0 a1 k, LeO (spec_PutList.f k a0 a1) (spec_PutList.f (k + 1) a0 a1) := by
  intro a0 a1 k
  have ih0 := spec_PutList.mono_l k
  unfold spec_PutList.f
  repeat' first
      | (with_reducible exact ih0 _ _ _)
      | (with_reducible exact LeO.refl _)
      | (with_reducible exact LeO.none _)
      | (with_reducible refine LeO.ite ?_ ?_)
      | (with_reducible refine LeO.bind ?_ (fun _ => ?_))
      | exact ih0 _ _ _
      | exact LeO.none _
      | refine LeO.ite ?_ ?_
      | refine LeO.bind ?_ (fun _ => ?_)
set_option maxHeartbeats 8000000 in
set_option maxRecDepth 100000 in
theorem spec_PutList.calls (k : Nat) (A0 : Option Addr) (c0 : Nat) (l0 : List Int) (A1 : Option Addr) (c1 : Nat) (l1 : List Int) (r : List Int) (w : World) (hr0 : Kd.C (Kd.int .u8) w A0 l0.length l0) (hc0 : l0.length ≤ c0) (hr1 : Kd.C (Kd.int .i64) w A1 l1.length l1) (hc1 : l1.length ≤ c1) (h : spec_PutList.f k l0 l1 = some r) :
    Calls Try.prog 53 #[.slice A0 l0.length c0, .slice A1 l1.length c1] w fun e w' => ∃ v0_ : Value, e = .returned (v0_) ∧ Kd.R (Kd.int .u8) 5 w' w.heap.size (fun _ => True) v0_ r ∧ Below w.heap.size w w' := by
  have HR0 := Aside0.mk hr0
  have HC0 := Aside0.mk hc0
  clear hr0 hc0
  have HR1 := Aside0.mk hr1
  have HC1 := Aside0.mk hc1
  clear hr1 hc1
  have HB := Aside0.mk (Below.refl w.heap.size w)
  have H : ((some (([] : List Int) : List Int)).bind fun y253 => (if y253.length + l0.length < 140737488355328 then ((some (y253 ++ l0 : List Int)).bind fun y256 => (if (l1.length : Int) > 255 then (some y256) else (if y256.length < 140737488355328 then (spec_PutList.l0 k l1 (y256 ++ [((l1.length : Int)) % 256]) 0) else (none)))) else (none))) = some r := h
  clear h
  obtain ⟨y253, hy253⟩ : ∃ y_ : List Int, y_ = (([] : List Int)) := ⟨_, rfl⟩
  replace H : (if y253.length + l0.length < 140737488355328 then ((some (y253 ++ l0 : List Int)).bind fun y256 => (if (l1.length : Int) > 255 then (some y256) else (if y256.length < 140737488355328 then (spec_PutList.l0 k l1 (y256 ++ [((l1.length : Int)) % 256]) 0) else (none)))) else (none)) = some r := by first | (rw [hy253]; with_reducible exact H) | (have H2_ := (Option.bind_some _ _).symm.trans H; rw [hy253]; with_reducible exact H2_) | (have H2_ := (Option.bind_some _ _).symm.trans H; with_reducible exact H2_) | with_reducible exact H | (rw [hy253]; exact H) | exact H
  have Ny253 := Aside0.mk hy253
  clear hy253
  by_cases c3 : y253.length + l0.length < 140737488355328
  · rw [if_pos c3] at H
    have LMc3 := Aside0.mk c3
    clear c3
    obtain ⟨y256, hy256⟩ : ∃ y_ : List Int, y_ = (y253 ++ l0) := ⟨_, rfl⟩
    replace H : (if (l1.length : Int) > 255 then (some y256) else (if y256.length < 140737488355328 then (spec_PutList.l0 k l1 (y256 ++ [((l1.length : Int)) % 256]) 0) else (none))) = some r := by first | (rw [hy256]; with_reducible exact H) | (have H2_ := (Option.bind_some _ _).symm.trans H; rw [hy256]; with_reducible exact H2_) | (have H2_ := (Option.bind_some _ _).symm.trans H; with_reducible exact H2_) | with_reducible exact H | (rw [hy256]; exact H) | exact H
    have Ny256 := Aside0.mk hy256
    clear hy256
    by_cases c4 : (l1.length : Int) > 255
    · rw [if_pos c4] at H
      have c4b0 : decide (255 < (l1.length : Int)) = true := decide_eq_true c4
      have c4b1 : decide (255 < l1.length) = true := decide_eq_true (by omega)
      clear c4
      obtain rfl := Option.some.inj H
      go_enter Try.func53, Try.ntmps53
      go_wp2_with (first | ((with_reducible refine gate_dst (N := 7) rfl ?_); refine Kd.R_lit (Kd.int .u8) _ 5 ?hg (N := 7) ?hd (xs := ([] : List Int)) (inner := []) (ok := fun _ => True) (okp := fun _ => True) ?hr ?hp (fun _ hk => hk) trivial (Below.refl _ _) (Nat.le_refl _) (by simp) ?_; (case hd => rfl); (case hg => rfl); (case hr => first | (go_simp; done) | (go_simp; rfl)); (case hp => exact (Reps.none _ _)); intro v254 w5 ho6 hb hg_ hnew_; clear hg_ hnew_; (first | rw [← Ny253.out] at ho6 | (simp only [Int.reduceToNat] at ho6; rw [← Ny253.out] at ho6)); have n0_ := Aside0.mk (Kd.R_lower ho6 (below_size (by repeat (first | (with_reducible first | exact HB.out | apply below_alloc | apply pw_below_drewN | apply below_drew1) | exact HB.out)))); have n1_ := Aside0.mk (below_step (by repeat (first | (with_reducible first | exact HB.out | apply below_alloc | apply pw_below_drewN | apply below_drew1) | exact HB.out)) hb); clear HB; have HO255 := n0_; have HB := n1_; clear n0_ n1_; clear hb ho6) | ((with_reducible refine gate_builtin (b := .append) (xs := #[.tmp 7, .tmp 8]) rfl ?_); at_builtin; refine Kd.R_append_rows (Kd.int .u8) (w0 := w) w.heap.size rfl (.tmp 7) (.tmp 8) 22 5 (.int .u8 0) 1 rfl Try.underlying22 info5 rfl (by decide) (by omega) v254 y253 l0 _ _ _ (fun _ => True) (fun _ => False) rfl rfl ?aO ?aR (fun _ _ h => h) (fun _ h => h.elim) ?aF ?aB ?aS ?aL ?_; (case aR => repeat (first | exact (Kd.C_below HR0.out HB.out) | (with_reducible refine Kd.C_alloc ?_ _) | (with_reducible refine Kd.C_drewN ?_ _) | (with_reducible refine Kd.C_drew ?_))); (case aB => exact (by repeat (first | (with_reducible first | exact HB.out | apply below_alloc | apply pw_below_drewN | apply below_drew1) | exact HB.out))); (case aF => exact (fun _ _ => trivial)); (case aO => exact (by (with_reducible repeat (first | apply Kd.R_alloc | apply Kd.R_drewN | apply Kd.R_drew)); exact HO255.out)); (case aS => exact (below_size (by repeat (first | (with_reducible first | exact HB.out | apply below_alloc | apply pw_below_drewN | apply below_drew1) | exact HB.out)))); (case aL => have := LMc3.out; omega); intro v257 w7 ho hb hg hat; rw [← Ny256.out] at ho; have n0_ := Aside0.mk (hb); have n1_ := Aside0.mk (ho); clear HB; clear HO255; have HB := n0_; have HO258 := n1_; clear n0_ n1_; clear ho hb hg hat))
      go_ret
      exact ⟨_, by first | rfl | (simp [errW_none, errW_some] <;> rfl) | (simp [*, errW_none, errW_some] <;> rfl), by (with_reducible repeat (first | apply Kd.R_alloc | apply Kd.R_drewN | apply Kd.R_drew)); exact HO258.out, by repeat (first | (with_reducible first | exact HB.out | apply below_alloc | apply pw_below_drewN | apply below_drew1) | exact HB.out)⟩
    · rw [if_neg c4] at H
      have c4b0 : decide (255 < (l1.length : Int)) = false := decide_eq_false c4
      have c4b1 : decide (255 < l1.length) = false := decide_eq_false (by omega)
      clear c4
      by_cases c8 : y256.length < 140737488355328
      · rw [if_pos c8] at H
        have LMc8 := Aside0.mk c8
        clear c8
        obtain ⟨y259, hy259⟩ : ∃ y_ : List Int, y_ = (y256 ++ [((l1.length : Int)) % 256]) := ⟨_, rfl⟩
        replace H : (spec_PutList.l0 k l1 y259 0) = some r := by first | (rw [hy259]; with_reducible exact H) | (have H2_ := (Option.bind_some _ _).symm.trans H; rw [hy259]; with_reducible exact H2_) | (have H2_ := (Option.bind_some _ _).symm.trans H; with_reducible exact H2_) | with_reducible exact H | (rw [hy259]; exact H) | exact H
        have Ny259 := Aside0.mk hy259
        clear hy259
        have H' := Aside0.mk H
        clear H
        go_enter Try.func53, Try.ntmps53
        go_wp2_with (first | ((with_reducible refine gate_dst (N := 7) rfl ?_); refine Kd.R_lit (Kd.int .u8) _ 5 ?hg (N := 7) ?hd (xs := ([] : List Int)) (inner := []) (ok := fun _ => True) (okp := fun _ => True) ?hr ?hp (fun _ hk => hk) trivial (Below.refl _ _) (Nat.le_refl _) (by simp) ?_; (case hd => rfl); (case hg => rfl); (case hr => first | (go_simp; done) | (go_simp; rfl)); (case hp => exact (Reps.none _ _)); intro v254 w9 ho10 hb hg_ hnew_; clear hg_ hnew_; (first | rw [← Ny253.out] at ho10 | (simp only [Int.reduceToNat] at ho10; rw [← Ny253.out] at ho10)); have n0_ := Aside0.mk (Kd.R_lower ho10 (below_size (by repeat (first | (with_reducible first | exact HB.out | apply below_alloc | apply pw_below_drewN | apply below_drew1) | exact HB.out)))); have n1_ := Aside0.mk (below_step (by repeat (first | (with_reducible first | exact HB.out | apply below_alloc | apply pw_below_drewN | apply below_drew1) | exact HB.out)) hb); clear HB; have HO255 := n0_; have HB := n1_; clear n0_ n1_; clear hb ho10) | ((with_reducible refine gate_builtin (b := .append) (xs := #[.tmp 7, .tmp 8]) rfl ?_); at_builtin; refine Kd.R_append_rows (Kd.int .u8) (w0 := w) w.heap.size rfl (.tmp 7) (.tmp 8) 22 5 (.int .u8 0) 1 rfl Try.underlying22 info5 rfl (by decide) (by omega) v254 y253 l0 _ _ _ (fun _ => True) (fun _ => False) rfl rfl ?aO ?aR (fun _ _ h => h) (fun _ h => h.elim) ?aF ?aB ?aS ?aL ?_; (case aR => repeat (first | exact (Kd.C_below HR0.out HB.out) | (with_reducible refine Kd.C_alloc ?_ _) | (with_reducible refine Kd.C_drewN ?_ _) | (with_reducible refine Kd.C_drew ?_))); (case aB => exact (by repeat (first | (with_reducible first | exact HB.out | apply below_alloc | apply pw_below_drewN | apply below_drew1) | exact HB.out))); (case aF => exact (fun _ _ => trivial)); (case aO => exact (by (with_reducible repeat (first | apply Kd.R_alloc | apply Kd.R_drewN | apply Kd.R_drew)); exact HO255.out)); (case aS => exact (below_size (by repeat (first | (with_reducible first | exact HB.out | apply below_alloc | apply pw_below_drewN | apply below_drew1) | exact HB.out)))); (case aL => have := LMc3.out; omega); intro v257 w11 ho hb hg hat; rw [← Ny256.out] at ho; have n0_ := Aside0.mk (hb); have n1_ := Aside0.mk (ho); clear HB; clear HO255; have HB := n0_; have HO258 := n1_; clear n0_ n1_; clear ho hb hg hat) | ((with_reducible refine gate_builtin (b := .append) (xs := #[.tmp 14, .tmp 18]) rfl ?_); at_builtin; refine Kd.R_append (Kd.int .u8) (w0 := w) w.heap.size rfl (.tmp 14) (.tmp 18) 22 5 (.int .u8 0) 1 rfl Try.underlying22 info5 rfl (by decide) (by omega) v257 y256 (((l1.length : Int)) % 256) [.int .u8 (((l1.length : Int)) % 256)] (fun _ => True) (fun _ => False) rfl rfl ?aP (fun _ hk => hk.elim) ?aF ?aO ?aB ?aS ?aL ?_; (case aP => exact rfl); (case aB => exact (by repeat (first | (with_reducible first | exact HB.out | apply below_alloc | apply pw_below_drewN | apply below_drew1) | exact HB.out))); (case aF => exact (fun _ _ => trivial)); (case aO => exact (by (with_reducible repeat (first | apply Kd.R_alloc | apply Kd.R_drewN | apply Kd.R_drew)); exact HO258.out)); (case aS => exact (below_size (by repeat (first | (with_reducible first | exact HB.out | apply below_alloc | apply pw_below_drewN | apply below_drew1) | exact HB.out)))); (case aL => have := LMc8.out; omega); intro v260 w12 ho hb hg hat; rw [← Ny259.out] at ho; have n0_ := Aside0.mk (hb); have n1_ := Aside0.mk (ho); clear HB; clear HO258; have HB := n0_; have HO261 := n1_; clear n0_ n1_; clear ho hb hg hat))
        go_loopg [5, 6] k (fun kq v5 v6 w' => ∃ (x5_1 : List Int) (x6_1 : Int), v6 = .int .i64 x6_1 ∧ Aside0 (spec_PutList.l0 kq l1 x5_1 x6_1 = some r) ∧ Aside0 (kq ≤ k) ∧ Aside0 (Kd.R (Kd.int .u8) 5 w' w.heap.size (fun _ => True) v5 x5_1) ∧ Aside0 (Below w.heap.size w w'))
        case atStart => exact ⟨(y259), (0), (by first | rfl | (simp; done) | (simp [*]; done)), H', ⟨Nat.le_refl _⟩, ⟨by (with_reducible repeat (first | apply Kd.R_alloc | apply Kd.R_drewN | apply Kd.R_drew)); exact HO261.out⟩, ⟨by repeat (first | (with_reducible first | exact HB.out | apply below_alloc | apply pw_below_drewN | apply below_drew1) | exact HB.out)⟩⟩
        case round =>
          clear H'
          try clear c1
          try clear p2
          try clear c3
          try clear c4
          try clear c4b0
          try clear c4b1
          try clear c5
          try clear c8
          obtain ⟨x5_1, x6_1, rfl, HA, HK1, HO_5, HB⟩ := hrel
          cases gk with
          | zero => exact absurd HA.out (by simp [spec_PutList.l0])
          | succ k1 =>
            have H := HA.out
            clear HA
            simp only [spec_PutList.l0] at H
            by_cases c13 : x6_1 < (l1.length : Int)
            · rw [if_pos c13] at H
              have c13b0 : decide (x6_1 < (l1.length : Int)) = true := decide_eq_true c13
              clear c13
              by_cases c14 : 0 ≤ x6_1
              · rw [if_pos c14] at H
                have c14b0 : decide (0 ≤ x6_1) = true := decide_eq_true c14
                clear c14
                replace H := Option.bind_eq_some_iff.mp H
                obtain ⟨t263, A150, H⟩ := H
                replace H : (spec_PutList.l0 k1 l1 t263 (wrap64 (x6_1 + 1))) = some r := H
                have A15 := Aside0.mk A150
                clear A150
                have H' := Aside0.mk H
                clear H
                have p262 : 0 ≤ (x6_1 : Int) := of_decide_eq_true (by first | (with_reducible assumption) | assumption)
                have q262 : x6_1 < (l1.length : Int) := of_decide_eq_true (by first | (with_reducible assumption) | assumption)
                obtain ⟨ad262, e262, hx262_0⟩ := Kd.at_int HR1.out x6_1 p262 q262
                cases e262
                replace hx262_0 := (HB.out.cell (World.block_lt_of_cell? w _ hx262_0)).trans hx262_0
                replace p262 := eq_true p262
                replace q262 := eq_true q262
                obtain ⟨Ao16, co16, eo16⟩ := Kd.R_slice HO_5.out
                subst eo16
                go_wp2_with (first | ((with_reducible refine gate_callee (f := 101) rfl ?_); refine goesL_ (some 31) rfl rfl Try.func101 (by kernel_rfl) rfl #[.slice Ao16 x5_1.length co16, .int .i64 (rd l1 x6_1)] rfl (by (try simp only [List.map_toArray, List.map_cons, List.map_nil]); first | done | rfl | (simp only [List.length_drop, List.length_take]; rfl)) ?_; (with_reducible refine (spec_PutNum.calls _ _ x5_1 (rd l1 x6_1) t263 _ ?side1 ?side2 A15.out).mono ?_); (case side1 => repeat (first | exact (Kd.R_reads' HO_5.out).2.2 | (with_reducible refine Kd.C_alloc ?_ _) | (with_reducible refine Kd.C_drewN ?_ _) | (with_reducible refine Kd.C_drew ?_))); (case side2 => exact (Kd.R_reads' HO_5.out).2.1); rintro e w17 ⟨v264, rfl, ho0, hb⟩; refine ⟨_, rfl, ?_⟩; have n0_ := Aside0.mk (Kd.R_elder' (by (with_reducible repeat (first | apply Kd.R_alloc | apply Kd.R_drewN | apply Kd.R_drew)); exact HO_5.out) (Kd.R_base ho0) hb); have n1_ := Aside0.mk (Kd.R_lower (Kd.R_new' ho0 (Kd.R_lt (by (with_reducible repeat (first | apply Kd.R_alloc | apply Kd.R_drewN | apply Kd.R_drew)); exact HO_5.out))) (below_size (by repeat (first | (with_reducible first | exact HB.out | apply below_alloc | apply pw_below_drewN | apply below_drew1) | exact HB.out)))); have n2_ := Aside0.mk (below_step (by repeat (first | (with_reducible first | exact HB.out | apply below_alloc | apply pw_below_drewN | apply below_drew1) | exact HB.out)) hb); clear HO_5; clear HB; have HO_5 := n0_; have HO265 := n1_; have HB := n2_; clear n0_ n1_ n2_; (try clear hb); (try clear hb2); (try clear hk); (try clear hi); (try clear ho0)))
                go_roundg k1
                case measure => have := HK1.out; omega
                case rel => exact ⟨(t263), (wrap64 (x6_1 + 1)), (by first | rfl | (simp; done) | (simp [*]; done)), H', ⟨by have := HK1.out; omega⟩, ⟨by (with_reducible repeat (first | apply Kd.R_alloc | apply Kd.R_drewN | apply Kd.R_drew)); exact Kd.R_mono HO265.out (fun _ hk => trivial)⟩, ⟨by repeat (first | (with_reducible first | exact HB.out | apply below_alloc | apply pw_below_drewN | apply below_drew1) | exact HB.out)⟩⟩
              · rw [if_neg c14] at H
                exact absurd H (by simp)
            · rw [if_neg c13] at H
              have c13b0 : decide (x6_1 < (l1.length : Int)) = false := decide_eq_false c13
              clear c13
              obtain rfl := Option.some.inj H
              go_wp2
              go_ret
              exact ⟨_, by first | rfl | (simp [errW_none, errW_some] <;> rfl) | (simp [*, errW_none, errW_some] <;> rfl), by (with_reducible repeat (first | apply Kd.R_alloc | apply Kd.R_drewN | apply Kd.R_drew)); exact HO_5.out, by repeat (first | (with_reducible first | exact HB.out | apply below_alloc | apply pw_below_drewN | apply below_drew1) | exact HB.out)⟩
      · rw [if_neg c8] at H
        exact absurd H (by simp)
  · rw [if_neg c3] at H
    exact absurd H (by simp)

/-! ### spec_Packed: function 107 -/
def spec_Packed.f (k : Nat) (l0 : List Int) : Option (List Int) := (spec_PutList.f k (([] : List Int)) l0).bind fun t269 => (some t269)
theorem spec_Packed.mono : ∀ a0 k, LeO (spec_Packed.f k a0) (spec_Packed.f (k + 1) a0) := by
  intro a0 k
  unfold spec_Packed.f
  repeat' first
      | (with_reducible exact spec_PutList.mono _ _ _)
      | (with_reducible exact LeO.refl _)
      | (with_reducible exact LeO.none _)
      | (with_reducible refine LeO.ite ?_ ?_)
      | (with_reducible refine LeO.bind ?_ (fun _ => ?_))
      | exact spec_PutList.mono _ _ _
      | exact LeO.none _
      | refine LeO.ite ?_ ?_
      | refine LeO.bind ?_ (fun _ => ?_)
set_option maxHeartbeats 8000000 in
set_option maxRecDepth 100000 in
theorem spec_Packed.calls (k : Nat) (A0 : Option Addr) (c0 : Nat) (l0 : List Int) (r : List Int) (w : World) (hr0 : Kd.C (Kd.int .i64) w A0 l0.length l0) (hc0 : l0.length ≤ c0) (h : spec_Packed.f k l0 = some r) :
    Calls Try.prog 107 #[.slice A0 l0.length c0] w fun e w' => ∃ v0_ : Value, e = .returned (v0_) ∧ Kd.R (Kd.int .u8) 5 w' w.heap.size (fun _ => True) v0_ r ∧ Below w.heap.size w w' := by
  have HR0 := Aside0.mk hr0
  have HC0 := Aside0.mk hc0
  clear hr0 hc0
  have HB := Aside0.mk (Below.refl w.heap.size w)
  have H : ((spec_PutList.f k (([] : List Int)) l0).bind fun t269 => (some t269)) = some r := h
  clear h
  obtain ⟨y266, hy266⟩ : ∃ y_ : List Int, y_ = (([] : List Int)) := ⟨_, rfl⟩
  replace H : ((spec_PutList.f k y266 l0).bind fun t269 => (some t269)) = some r := by first | (rw [hy266]; with_reducible exact H) | (have H2_ := (Option.bind_some _ _).symm.trans H; rw [hy266]; with_reducible exact H2_) | (have H2_ := (Option.bind_some _ _).symm.trans H; with_reducible exact H2_) | with_reducible exact H | (rw [hy266]; exact H) | exact H
  have Ny266 := Aside0.mk hy266
  clear hy266
  replace H := Option.bind_eq_some_iff.mp H
  obtain ⟨t269, A20, H⟩ := H
  replace H : (some t269) = some r := H
  have A2 := Aside0.mk A20
  clear A20
  obtain rfl := Option.some.inj H
  go_enter Try.func107, Try.ntmps107
  go_wp2_with (first | ((with_reducible refine gate_dst (N := 3) rfl ?_); refine Kd.R_lit (Kd.int .u8) _ 5 ?hg (N := 3) ?hd (xs := ([] : List Int)) (inner := []) (ok := fun _ => True) (okp := fun _ => True) ?hr ?hp (fun _ hk => hk) trivial (Below.refl _ _) (Nat.le_refl _) (by simp) ?_; (case hd => rfl); (case hg => rfl); (case hr => first | (go_simp; done) | (go_simp; rfl)); (case hp => exact (Reps.none _ _)); intro v267 w3 ho4 hb hg_ hnew_; clear hg_ hnew_; (first | rw [← Ny266.out] at ho4 | (simp only [Int.reduceToNat] at ho4; rw [← Ny266.out] at ho4)); have n0_ := Aside0.mk (Kd.R_lower ho4 (below_size (by repeat (first | (with_reducible first | exact HB.out | apply below_alloc | apply pw_below_drewN | apply below_drew1) | exact HB.out)))); have n1_ := Aside0.mk (below_step (by repeat (first | (with_reducible first | exact HB.out | apply below_alloc | apply pw_below_drewN | apply below_drew1) | exact HB.out)) hb); clear HB; have HO268 := n0_; have HB := n1_; clear n0_ n1_; clear hb ho4; obtain ⟨Ao5, co5, eo5⟩ := Kd.R_slice HO268.out; subst eo5) | ((with_reducible refine gate_callee (f := 53) rfl ?_); refine goesL_ (some 5) rfl rfl Try.func53 (by kernel_rfl) rfl #[.slice Ao5 y266.length co5, .slice A0 l0.length c0] rfl (by (try simp only [List.map_toArray, List.map_cons, List.map_nil]); first | done | rfl | (simp only [List.length_drop, List.length_take]; rfl)) ?_; (with_reducible refine (spec_PutList.calls k _ _ y266 _ _ l0 t269 _ ?side1 ?side2 ?side3 ?side4 A2.out).mono ?_); (case side1 => repeat (first | exact (Kd.R_reads' HO268.out).2.2 | (with_reducible refine Kd.C_alloc ?_ _) | (with_reducible refine Kd.C_drewN ?_ _) | (with_reducible refine Kd.C_drew ?_))); (case side2 => exact (Kd.R_reads' HO268.out).2.1); (case side3 => repeat (first | exact (Kd.C_below HR0.out HB.out) | (with_reducible refine Kd.C_alloc ?_ _) | (with_reducible refine Kd.C_drewN ?_ _) | (with_reducible refine Kd.C_drew ?_))); (case side4 => exact HC0.out); rintro e w6 ⟨v270, rfl, ho0, hb⟩; refine ⟨_, rfl, ?_⟩; have n0_ := Aside0.mk (Kd.R_elder' (by (with_reducible repeat (first | apply Kd.R_alloc | apply Kd.R_drewN | apply Kd.R_drew)); exact HO268.out) (Kd.R_base ho0) hb); have n1_ := Aside0.mk (Kd.R_lower (Kd.R_new' ho0 (Kd.R_lt (by (with_reducible repeat (first | apply Kd.R_alloc | apply Kd.R_drewN | apply Kd.R_drew)); exact HO268.out))) (below_size (by repeat (first | (with_reducible first | exact HB.out | apply below_alloc | apply pw_below_drewN | apply below_drew1) | exact HB.out)))); have n2_ := Aside0.mk (below_step (by repeat (first | (with_reducible first | exact HB.out | apply below_alloc | apply pw_below_drewN | apply below_drew1) | exact HB.out)) hb); clear HO268; clear HB; have HO268 := n0_; have HO271 := n1_; have HB := n2_; clear n0_ n1_ n2_; (try clear hb); (try clear hb2); (try clear hk); (try clear hi); (try clear ho0)))
  go_ret
  exact ⟨_, by first | rfl | (simp [errW_none, errW_some] <;> rfl) | (simp [*, errW_none, errW_some] <;> rfl), by (with_reducible repeat (first | apply Kd.R_alloc | apply Kd.R_drewN | apply Kd.R_drew)); exact Kd.R_mono HO271.out (fun _ hk => trivial), by repeat (first | (with_reducible first | exact HB.out | apply below_alloc | apply pw_below_drewN | apply below_drew1) | exact HB.out)⟩

/-! ### spec_DrawUnpacked: function 45 -/
def spec_DrawUnpacked.f (k : Nat) (l0 : List Int) : Option (List Int) := (spec_l1New.f k l0).bind fun bt272 => ((spec_l2List.f k bt272.1 bt272.2.1 bt272.2.2).bind fun bt276 => ((spec_Packed.f k bt276.1).bind fun t281 => ((spec_l1Bend.f bt272.1 bt276.2.1 bt276.2.2 t281).bind fun bt284 => (some bt284.1))))
theorem spec_DrawUnpacked.mono : ∀ a0 k, LeO (spec_DrawUnpacked.f k a0) (spec_DrawUnpacked.f (k + 1) a0) := by
  intro a0 k
  unfold spec_DrawUnpacked.f
  repeat' first
      | (with_reducible exact spec_Packed.mono _ _)
      | (with_reducible exact spec_l1New.mono _ _)
      | (with_reducible exact spec_l2List.mono _ _ _ _)
      | (with_reducible exact LeO.refl _)
      | (with_reducible exact LeO.none _)
      | (with_reducible refine LeO.ite ?_ ?_)
      | (with_reducible refine LeO.bind ?_ (fun _ => ?_))
      | exact spec_Packed.mono _ _
      | exact spec_l1New.mono _ _
      | exact spec_l2List.mono _ _ _ _
      | exact LeO.none _
      | refine LeO.ite ?_ ?_
      | refine LeO.bind ?_ (fun _ => ?_)
set_option maxHeartbeats 8000000 in
set_option maxRecDepth 100000 in
theorem spec_DrawUnpacked.calls (k : Nat) (A0 : Option Addr) (c0 : Nat) (l0 : List Int) (r : List Int) (w : World) (hr0 : Kd.C (Kd.int .u8) w A0 l0.length l0) (hc0 : l0.length ≤ c0) (h : spec_DrawUnpacked.f k l0 = some r) :
    Calls Try.prog 45 #[.slice A0 l0.length c0] w fun e w' => ∃ v0_ : Value, e = .returned (v0_) ∧ Kd.R (Kd.int .u8) 5 w' w.heap.size (fun _ => True) v0_ r ∧ Below w.heap.size w w' := by
  have HR0 := Aside0.mk hr0
  have HC0 := Aside0.mk hc0
  clear hr0 hc0
  have HB := Aside0.mk (Below.refl w.heap.size w)
  have H : ((spec_l1New.f k l0).bind fun bt272 => ((spec_l2List.f k bt272.1 bt272.2.1 bt272.2.2).bind fun bt276 => ((spec_Packed.f k bt276.1).bind fun t281 => ((spec_l1Bend.f bt272.1 bt276.2.1 bt276.2.2 t281).bind fun bt284 => (some bt284.1))))) = some r := h
  clear h
  replace H := Option.bind_eq_some_iff.mp H
  obtain ⟨⟨t272, t273, t274⟩, A20, H⟩ := H
  replace H : ((spec_l2List.f k t272 t273 t274).bind fun bt276 => ((spec_Packed.f k bt276.1).bind fun t281 => ((spec_l1Bend.f t272 bt276.2.1 bt276.2.2 t281).bind fun bt284 => (some bt284.1)))) = some r := H
  have A2 := Aside0.mk A20
  clear A20
  replace H := Option.bind_eq_some_iff.mp H
  obtain ⟨⟨t276, t279, t280⟩, A30, H⟩ := H
  replace H : ((spec_Packed.f k t276).bind fun t281 => ((spec_l1Bend.f t272 t279 t280 t281).bind fun bt284 => (some bt284.1))) = some r := H
  have A3 := Aside0.mk A30
  clear A30
  replace H := Option.bind_eq_some_iff.mp H
  obtain ⟨t281, A40, H⟩ := H
  replace H : ((spec_l1Bend.f t272 t279 t280 t281).bind fun bt284 => (some bt284.1)) = some r := H
  have A4 := Aside0.mk A40
  clear A40
  replace H := Option.bind_eq_some_iff.mp H
  obtain ⟨⟨t284, t287, t288⟩, A50, H⟩ := H
  replace H : (some t284) = some r := H
  have A5 := Aside0.mk A50
  clear A50
  obtain rfl := Option.some.inj H
  go_enter Try.func45, Try.ntmps45
  go_wp2_with (first | ((with_reducible refine gate_callee (f := 94) rfl ?_); refine goesL_ (some 5) rfl rfl Try.func94 (by kernel_rfl) rfl #[.slice A0 l0.length c0] rfl (by (try simp only [List.map_toArray, List.map_cons, List.map_nil]); first | done | rfl | (simp only [List.length_drop, List.length_take]; rfl)) ?_; (with_reducible refine (spec_l1New.calls k _ _ l0 t272 t273 t274 w _ ?side1 ?side2 ?side3 A2.out).mono ?_); (case side1 => repeat (first | (with_reducible first | exact HB.out | apply below_alloc | apply pw_below_drewN | apply below_drew1) | exact HB.out)); (case side2 => exact HR0.out); (case side3 => exact HC0.out); rintro e w6 ⟨g275, rfl, hi, hb, hb2⟩; refine ⟨_, rfl, ?_⟩; have n0_ := Aside0.mk (hb); have n1_ := Aside0.mk (hi); clear HB; have HB := n0_; have HI275 := n1_; clear n0_ n1_; (try clear hb); (try clear hb2); (try clear hk); (try clear hi)) | ((with_reducible refine gate_callee (f := 105) rfl ?_); refine goesL_ (some 8) rfl rfl Try.func105 (by kernel_rfl) rfl #[.pointer (some ⟨g275, 0, none⟩)] rfl (by (try simp only [List.map_toArray, List.map_cons, List.map_nil]); first | done | rfl | (simp only [List.length_drop, List.length_take]; rfl)) ?_; (with_reducible refine (spec_l2List.calls k g275 t272 t273 t274 t276 t279 t280 w _ ?side1 ?side2 A3.out).mono ?_); (case side1 => repeat (first | (with_reducible first | exact HI275.out | apply IsS125.alloc | apply IsS125.drewN | apply IsS125.drew | apply IsS125.set_1 | apply IsS125.set_2) | exact HI275.out)); (case side2 => repeat (first | (with_reducible first | exact HB.out | apply below_alloc | apply pw_below_drewN | apply below_drew1 | refine below_set ?_ (IsS125.ge HI275.out)) | exact HB.out)); rintro e w7 ⟨v277, rfl, ho0, hi, hb, hk⟩; refine ⟨_, rfl, ?_⟩; have n0_ := Aside0.mk (Kd.R_lower ho0 (below_size (by repeat (first | (with_reducible first | exact HB.out | apply below_alloc | apply pw_below_drewN | apply below_drew1 | refine below_set ?_ (IsS125.ge HI275.out)) | exact HB.out)))); have n1_ := Aside0.mk (hb); have n2_ := Aside0.mk (hi); clear HB; clear HI275; have HO278 := n0_; have HB := n1_; have HI275 := n2_; clear n0_ n1_ n2_; (try clear hb); (try clear hb2); (try clear hk); (try clear hi); (try clear ho0); obtain ⟨Ao8, co8, eo8⟩ := Kd.R_slice HO278.out; subst eo8) | ((with_reducible refine gate_callee (f := 107) rfl ?_); refine goesL_ (some 9) rfl rfl Try.func107 (by kernel_rfl) rfl #[.slice Ao8 t276.length co8] rfl (by (try simp only [List.map_toArray, List.map_cons, List.map_nil]); first | done | rfl | (simp only [List.length_drop, List.length_take]; rfl)) ?_; (with_reducible refine (spec_Packed.calls k _ _ t276 t281 _ ?side1 ?side2 A4.out).mono ?_); (case side1 => repeat (first | exact (Kd.R_reads' HO278.out).2.2 | (with_reducible refine Kd.C_alloc ?_ _) | (with_reducible refine Kd.C_drewN ?_ _) | (with_reducible refine Kd.C_drew ?_))); (case side2 => exact (Kd.R_reads' HO278.out).2.1); rintro e w9 ⟨v282, rfl, ho0, hb⟩; refine ⟨_, rfl, ?_⟩; have n0_ := Aside0.mk (Kd.R_below (by (with_reducible repeat (first | apply Kd.R_alloc | apply Kd.R_drewN | apply Kd.R_drew)); exact HO278.out) hb); have n1_ := Aside0.mk (Kd.R_lower ho0 (below_size (by repeat (first | (with_reducible first | exact HB.out | apply below_alloc | apply pw_below_drewN | apply below_drew1 | refine below_set ?_ (IsS125.ge HI275.out)) | exact HB.out)))); have n2_ := Aside0.mk (IsS125.below (by repeat (first | (with_reducible first | exact HI275.out | apply IsS125.alloc | apply IsS125.drewN | apply IsS125.drew | apply IsS125.set_1 | apply IsS125.set_2) | exact HI275.out)) hb); have n3_ := Aside0.mk (below_step (by repeat (first | (with_reducible first | exact HB.out | apply below_alloc | apply pw_below_drewN | apply below_drew1 | refine below_set ?_ (IsS125.ge HI275.out)) | exact HB.out)) hb); clear HO278; clear HI275; clear HB; have HO278 := n0_; have HO283 := n1_; have HI275 := n2_; have HB := n3_; clear n0_ n1_ n2_ n3_; (try clear hb); (try clear hb2); (try clear hk); (try clear hi); (try clear ho0); obtain ⟨Ao10, co10, eo10⟩ := Kd.R_slice HO283.out; subst eo10) | ((with_reducible refine gate_callee (f := 106) rfl ?_); refine goesL_ (some 10) rfl rfl Try.func106 (by kernel_rfl) rfl #[.pointer (some ⟨g275, 0, none⟩), .slice Ao10 t281.length co10] rfl (by (try simp only [List.map_toArray, List.map_cons, List.map_nil]); first | done | rfl | (simp only [List.length_drop, List.length_take]; rfl)) ?_; (with_reducible refine (spec_l1Bend.calls g275 t272 t279 t280 _ _ t281 t284 t287 t288 w _ ?side1 ?side2 ?side3 ?side4 ?side5 A5.out).mono ?_); (case side1 => repeat (first | (with_reducible first | exact HI275.out | apply IsS125.alloc | apply IsS125.drewN | apply IsS125.drew | apply IsS125.set_1 | apply IsS125.set_2) | exact HI275.out)); (case side2 => repeat (first | (with_reducible first | exact HB.out | apply below_alloc | apply pw_below_drewN | apply below_drew1 | refine below_set ?_ (IsS125.ge HI275.out)) | exact HB.out)); (case side3 => repeat (first | exact (Kd.R_reads' HO283.out).2.2 | (with_reducible refine Kd.C_alloc ?_ _) | (with_reducible refine Kd.C_drewN ?_ _) | (with_reducible refine Kd.C_drew ?_))); (case side4 => exact (Kd.R_reads' HO283.out).2.1); (case side5 => exact far_slice (IsS125.own_ne HI275.out HO283.out (by decide))); rintro e w11 ⟨v285, rfl, ho0, hi, hb, hk⟩; refine ⟨_, rfl, ?_⟩; have n0_ := Aside0.mk (Kd.R_mono (Kd.R_keep (IsS125.apart (show IsS125 w _ g275 t272 t279 t280 from by repeat (first | (with_reducible first | exact HI275.out | apply IsS125.alloc | apply IsS125.drewN | apply IsS125.drew | apply IsS125.set_1 | apply IsS125.set_2) | exact HI275.out)) (by (with_reducible repeat (first | apply Kd.R_alloc | apply Kd.R_drewN | apply Kd.R_drew)); exact HO278.out) (by decide)) hk (fun _ h => h.2)) (fun _ h => h.1)); have n1_ := Aside0.mk (Kd.R_mono (Kd.R_told (Kd.R_oldK (IsS125.apart (show IsS125 w _ g275 t272 t279 t280 from by repeat (first | (with_reducible first | exact HI275.out | apply IsS125.alloc | apply IsS125.drewN | apply IsS125.drew | apply IsS125.set_1 | apply IsS125.set_2) | exact HI275.out)) (by (with_reducible repeat (first | apply Kd.R_alloc | apply Kd.R_drewN | apply Kd.R_drew)); exact HO283.out) (by decide)) hk) (Kd.R_base ho0)) (fun _ h_ => h_.1)); have n2_ := Aside0.mk (Kd.R_lower (Kd.R_new' ho0 (Kd.R_lt (by (with_reducible repeat (first | apply Kd.R_alloc | apply Kd.R_drewN | apply Kd.R_drew)); exact HO283.out))) (below_size (by repeat (first | (with_reducible first | exact HB.out | apply below_alloc | apply pw_below_drewN | apply below_drew1 | refine below_set ?_ (IsS125.ge HI275.out)) | exact HB.out)))); have n3_ := Aside0.mk (hb); have n4_ := Aside0.mk (hi); clear HO278; clear HO283; clear HB; clear HI275; have HO278 := n0_; have HO283 := n1_; have HO286 := n2_; have HB := n3_; have HI275 := n4_; clear n0_ n1_ n2_ n3_ n4_; (try clear hb); (try clear hb2); (try clear hk); (try clear hi); (try clear ho0)))
  go_ret
  exact ⟨_, by first | rfl | (simp [errW_none, errW_some] <;> rfl) | (simp [*, errW_none, errW_some] <;> rfl), by (with_reducible repeat (first | apply Kd.R_alloc | apply Kd.R_drewN | apply Kd.R_drew)); exact Kd.R_mono HO286.out (fun _ hk => trivial), by repeat (first | (with_reducible first | exact HB.out | apply below_alloc | apply pw_below_drewN | apply below_drew1 | refine below_set ?_ (IsS125.ge HI275.out)) | exact HB.out)⟩

/-! ### spec_GetNum: function 34 -/
mutual
def spec_GetNum.j0 : Nat → List Int → Int → Bool → Option (Int × Int × Bool)
  | 0, _, _, _ => none
  | k + 1, x0, x1, x17 => if x17 = true then (some (0, 0, false)) else (spec_GetNum.l0 k x0 x1 0 0)
def spec_GetNum.l0 : Nat → List Int → Int → Int → Int → Option (Int × Int × Bool)
  | 0, _, _, _, _ => none
  | k + 1, x0, x1, x7, x8 => if x8 < 4 then (if 0 ≤ (wrap64 (x1 + x8)) then (if (wrap64 (x1 + x8)) < (x0.length : Int) then (spec_GetNum.l0 k x0 x1 (wrap64 ((wrap64 (x7 * 256)) + (wrap64 (rd x0 (wrap64 (x1 + x8)))))) (wrap64 (x8 + 1))) else (none)) else (none)) else (if x7 = 0 then (some (0, 0, false)) else (some (wrap64 (x7 - 2147483648), wrap64 (x1 + 4), true)))
end
def spec_GetNum.f (k : Nat) (l0 : List Int) (a1 : Int) : Option (Int × Int × Bool) := if a1 < 0 then (spec_GetNum.j0 k l0 a1 true) else (spec_GetNum.j0 k l0 a1 (decide (a1 > (wrap64 ((l0.length : Int) - 4)))))
theorem spec_GetNum.mono_l : ∀ k, (∀ y0 y1 y2, LeO (spec_GetNum.j0 k y0 y1 y2) (spec_GetNum.j0 (k + 1) y0 y1 y2)) ∧ (∀ y0 y1 y2 y3, LeO (spec_GetNum.l0 k y0 y1 y2 y3) (spec_GetNum.l0 (k + 1) y0 y1 y2 y3))
  | 0 => ⟨fun _ _ _ r h => by simp [spec_GetNum.j0] at h, fun _ _ _ _ r h => by simp [spec_GetNum.l0] at h⟩
  | k + 1 => by
    obtain ⟨ih0, ih1⟩ := spec_GetNum.mono_l k
    refine ⟨?_, ?_⟩
    · intro y0 y1 y2
      unfold spec_GetNum.j0
      repeat' first
      | (with_reducible exact ih0 _ _ _)
      | (with_reducible exact ih1 _ _ _ _)
      | (with_reducible exact LeO.refl _)
      | (with_reducible exact LeO.none _)
      | (with_reducible refine LeO.ite ?_ ?_)
      | (with_reducible refine LeO.bind ?_ (fun _ => ?_))
      | exact ih0 _ _ _
      | exact ih1 _ _ _ _
      | exact LeO.none _
      | refine LeO.ite ?_ ?_
      | refine LeO.bind ?_ (fun _ => ?_)
    · intro y0 y1 y2 y3
      unfold spec_GetNum.l0
      repeat' first
      | (with_reducible exact ih0 _ _ _)
      | (with_reducible exact ih1 _ _ _ _)
      | (with_reducible exact LeO.refl _)
      | (with_reducible exact LeO.none _)
      | (with_reducible refine LeO.ite ?_ ?_)
      | (with_reducible refine LeO.bind ?_ (fun _ => ?_))
      | exact ih0 _ _ _
      | exact ih1 _ _ _ _
      | exact LeO.none _
      | refine LeO.ite ?_ ?_
      | refine LeO.bind ?_ (fun _ => ?_)
theorem spec_GetNum.mono : ∀ a0 a1 k, LeO (spec_GetNum.f k a0 a1) (spec_GetNum.f (k + 1) a0 a1) := by
  intro a0 a1 k
  obtain ⟨ih0, ih1⟩ := spec_GetNum.mono_l k
  unfold spec_GetNum.f
  repeat' first
      | (with_reducible exact ih0 _ _ _)
      | (with_reducible exact ih1 _ _ _ _)
      | (with_reducible exact LeO.refl _)
      | (with_reducible exact LeO.none _)
      | (with_reducible refine LeO.ite ?_ ?_)
      | (with_reducible refine LeO.bind ?_ (fun _ => ?_))
      | exact ih0 _ _ _
      | exact ih1 _ _ _ _
      | exact LeO.none _
      | refine LeO.ite ?_ ?_
      | refine LeO.bind ?_ (fun _ => ?_)
set_option maxHeartbeats 8000000 in
set_option maxRecDepth 100000 in
theorem spec_GetNum.calls (k : Nat) (A0 : Option Addr) (c0 : Nat) (l0 : List Int) (a1 : Int) (r1 : Int) (r2 : Int) (r3 : Bool) (w : World) (hr0 : Kd.C (Kd.int .u8) w A0 l0.length l0) (hc0 : l0.length ≤ c0) (h : spec_GetNum.f k l0 a1 = some (r1, r2, r3)) :
    Calls Try.prog 34 #[.slice A0 l0.length c0, .int .i64 a1] w fun e w' => e = .returned (.tuple #[.int .i64 r1, .int .i64 r2, .bool r3]) ∧ Drawn0 w w' := by
  have HR0 := Aside0.mk hr0
  have HC0 := Aside0.mk hc0
  clear hr0 hc0
  have H : (if a1 < 0 then (spec_GetNum.j0 k l0 a1 true) else (spec_GetNum.j0 k l0 a1 (decide (a1 > (wrap64 ((l0.length : Int) - 4)))))) = some (r1, r2, r3) := h
  clear h
  have HC3 := Aside0.mk H
  clear H
  go_enter Try.func34, Try.ntmps34
  go_upto_region 1 with (fail)
  go_cut [17] (fun v17 wc => ∃ (kq : Nat) (x17_2 : Bool), v17 = .bool x17_2 ∧ Aside0 (spec_GetNum.j0 kq l0 a1 x17_2 = some (r1, r2, r3)) ∧ Aside0 (kq ≤ k) ∧ Drawn0 w wc)
  case first =>
    have H := HC3.out
    clear HC3
    by_cases c4 : a1 < 0
    · rw [if_pos c4] at H
      have c4b0 : decide (a1 < 0) = true := decide_eq_true c4
      clear c4
      (first | rw [c4b0] | (simp only [i64_w, i32_w]; rw [c4b0]) | skip)
      have H' := Aside0.mk H
      clear H
      go_wp2
      go_meet
      case rel => exact ⟨_, (true), (by first | rfl | (simp; done) | (simp [*]; done)), H', ⟨by first | omega | exact Nat.le_refl _⟩, by repeat (first | exact Drawn0.refl _ | apply Drawn0.step)⟩
    · rw [if_neg c4] at H
      have c4b0 : decide (a1 < 0) = false := decide_eq_false c4
      clear c4
      (first | rw [c4b0] | (simp only [i64_w, i32_w]; rw [c4b0]) | skip)
      have H' := Aside0.mk H
      clear H
      go_wp2
      go_meet
      case rel => exact ⟨_, (decide (a1 > (wrap64 ((l0.length : Int) - 4)))), (by first | rfl | (simp; done) | (simp [*]; done)), H', ⟨by first | omega | exact Nat.le_refl _⟩, by repeat (first | exact Drawn0.refl _ | apply Drawn0.step)⟩
  case rest =>
    clear HC3
    try clear p2
    try clear c3
    try clear c4
    try clear c4b0
    obtain ⟨kq, x17_2, rfl, HA, HJ2, ⟨mc2, rfl⟩⟩ := hcut
    cases kq with
    | zero => exact absurd HA.out (by simp [spec_GetNum.j0])
    | succ kj2 =>
      have H := HA.out
      clear HA
      simp only [spec_GetNum.j0] at H
      by_cases c5 : x17_2 = true
      · subst c5
        have H1 : (some (0, 0, false)) = some (r1, r2, r3) := by rw [if_pos rfl] at H; exact H
        clear H
        have H := H1
        clear H1
        simp only [Option.some.injEq, Prod.mk.injEq] at H
        obtain ⟨rfl, rfl, rfl⟩ := H
        go_wp2
        go_ret3
        exact ⟨by first | rfl | (simp; done) | (simp [*]; done), by repeat (first | exact Drawn0.refl _ | apply Drawn0.step)⟩
      · replace c5 := Bool.eq_false_iff.mpr c5
        subst c5
        have H1 : (spec_GetNum.l0 kj2 l0 a1 0 0) = some (r1, r2, r3) := by rw [if_neg (show ¬ (false = true) by decide)] at H; exact H
        clear H
        have H := H1
        clear H1
        have H' := Aside0.mk H
        clear H
        go_wp2
        go_loopg [7, 8] kj2 (fun kq v7 v8 w' => ∃ (x7_2 : Int) (x8_2 : Int), v7 = .int .i64 x7_2 ∧ v8 = .int .i64 x8_2 ∧ Aside0 (spec_GetNum.l0 kq l0 a1 x7_2 x8_2 = some (r1, r2, r3)) ∧ Aside0 (kq ≤ kj2) ∧ Drawn0 w w')
        case atStart => exact ⟨(0), (0), (by first | rfl | (simp; done) | (simp [*]; done)), (by first | rfl | (simp; done) | (simp [*]; done)), H', ⟨Nat.le_refl _⟩, by repeat (first | exact Drawn0.refl _ | apply Drawn0.step)⟩
        case round =>
          clear H'
          try clear c2
          try clear p2
          try clear c3
          try clear c4
          try clear c4b0
          try clear c5
          try clear p2
          obtain ⟨x7_2, x8_2, rfl, rfl, HA, HK2, ⟨m2, rfl⟩⟩ := hrel
          cases gk with
          | zero => exact absurd HA.out (by simp [spec_GetNum.l0])
          | succ k2 =>
            have H := HA.out
            clear HA
            simp only [spec_GetNum.l0] at H
            by_cases c6 : x8_2 < 4
            · rw [if_pos c6] at H
              have c6b0 : decide (x8_2 < 4) = true := decide_eq_true c6
              clear c6
              obtain ⟨ji7, hji7⟩ : ∃ j_ : Int, (wrap64 (a1 + x8_2)) = j_ := ⟨_, rfl⟩
              replace H : (if 0 ≤ (ji7) then (if (ji7) < (l0.length : Int) then (spec_GetNum.l0 k2 l0 a1 (wrap64 ((wrap64 (x7_2 * 256)) + (wrap64 (rd l0 (ji7))))) (wrap64 (x8_2 + 1))) else (none)) else (none)) = some (r1, r2, r3) := by first | (rw [hji7] at H; exact H) | (simp only [hji7] at H ⊢; exact H)
              have hji7w : (IntKind.i64.wrap (a1 + x8_2)) = ji7 := (i64_w _).trans hji7
              by_cases c8 : 0 ≤ (ji7)
              · rw [if_pos c8] at H
                have c8b0 : decide (0 ≤ (ji7)) = true := decide_eq_true c8
                clear c8
                by_cases c9 : (ji7) < (l0.length : Int)
                · rw [if_pos c9] at H
                  have c9b0 : decide ((ji7) < (l0.length : Int)) = true := decide_eq_true c9
                  clear c9
                  have H' := Aside0.mk H
                  clear H
                  have p289 : 0 ≤ ((ji7) : Int) := of_decide_eq_true (by first | (with_reducible assumption) | assumption)
                  have q289 : (ji7) < (l0.length : Int) := of_decide_eq_true (by first | (with_reducible assumption) | assumption)
                  obtain ⟨ad289, e289, hx289_0⟩ := Kd.at_int HR0.out (ji7) p289 q289
                  cases e289
                  replace p289 := eq_true p289
                  replace q289 := eq_true q289
                  go_wp2
                  go_roundg k2
                  case measure => have := HJ2.out; have := HK2.out; omega
                  case rel => exact ⟨(wrap64 ((wrap64 (x7_2 * 256)) + (wrap64 (rd l0 (ji7))))), (wrap64 (x8_2 + 1)), (by first | rfl | (simp; done) | (simp only [← hji7] <;> (first | rfl | simp)) | (simp [*]; done)), (by first | rfl | (simp; done) | (simp [*]; done)), H', ⟨by have := HJ2.out; have := HK2.out; omega⟩, by repeat (first | exact Drawn0.refl _ | apply Drawn0.step)⟩
                · rw [if_neg c9] at H
                  exact absurd H (by simp)
              · rw [if_neg c8] at H
                exact absurd H (by simp)
            · rw [if_neg c6] at H
              have c6b0 : decide (x8_2 < 4) = false := decide_eq_false c6
              clear c6
              by_cases c10 : x7_2 = 0
              · rw [if_pos c10] at H
                have c10b0 : (x7_2 == 0) = true := beq_iff_eq.mpr c10
                have c10b1 : (x7_2 != 0) = false := bne_eq_false_iff_eq.mpr c10
                clear c10
                simp only [Option.some.injEq, Prod.mk.injEq] at H
                obtain ⟨rfl, rfl, rfl⟩ := H
                go_wp2
                go_ret3
                exact ⟨by first | rfl | (simp; done) | (simp [*]; done), by repeat (first | exact Drawn0.refl _ | apply Drawn0.step)⟩
              · rw [if_neg c10] at H
                have c10b0 : (x7_2 == 0) = false := beq_eq_false_iff_ne.mpr c10
                have c10b1 : (x7_2 != 0) = true := bne_iff_ne.mpr c10
                simp only [Option.some.injEq, Prod.mk.injEq] at H
                obtain ⟨rfl, rfl, rfl⟩ := H
                go_wp2
                go_ret3
                exact ⟨by first | rfl | (simp; done) | (simp [*]; done), by repeat (first | exact Drawn0.refl _ | apply Drawn0.step)⟩

end Go.Proofs.Ytfpbbikhcnpceaa.QFnLists
