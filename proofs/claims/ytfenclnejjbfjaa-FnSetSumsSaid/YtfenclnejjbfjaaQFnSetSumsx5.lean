-- Written by a program of this session (patch_print.py over the print).
import Derived.Test.YtfenclnejjbfjaaQFnSetSumsx0
import Derived.Test.YtfenclnejjbfjaaQFnSetSumsx1
import Derived.Test.YtfenclnejjbfjaaQFnSetSumsx2
import Derived.Test.YtfenclnejjbfjaaQFnSetSumsx4
namespace Go.Proofs.Ytfenclnejjbfjaa.QFnSetSums
open Go.RowKit Go.Proofs.YtfenclnejjbfjaaW.PrintWords Go.Proofs.YtfenclnejjbfjaaW.PrintLast Go.Proofs.YtfenclnejjbfjaaW.PrintMore
attribute [local go_sem] max2_int min2_int max_two min_two max_three min_three max_four min_four   -- for this text's walks alone
set_option linter.unusedVariables false
set_option linter.unusedSimpArgs false

theorem Z5_46 {p : Prop} (h : p := by (with_reducible repeat (first | apply Kd.R_alloc | apply Kd.R_drewN | apply Kd.R_drew)); exact HO277.out) : p := h
theorem Z5_1 {p : Prop} (h : p := by exact (Kd.R_mono (Kd.R_told (Kd.R_oldK (IsS81.apart (show IsS81 w _ g274 t271 t281 t282 from by repeat (first | (with_reducible first | exact HI274.out | apply IsS81.alloc | apply IsS81.drewN | apply IsS81.drew | apply IsS81.set_1 | apply IsS81.set_2) | exact HI274.out)) Z5_46 (by decide)) hk) (Kd.R_base ho0)) (fun _ h_ => h_.1))) : p := h
theorem Z5_2 {p : Prop} (h : p := by exact (Kd.R_mono (Kd.R_keep (IsS81.apart (show IsS81 w _ g274 t271 t278 t279 from by repeat (first | (with_reducible first | exact HI274.out | apply IsS81.alloc | apply IsS81.drewN | apply IsS81.drew | apply IsS81.set_1 | apply IsS81.set_2) | exact HI274.out)) Z5_46 (by decide)) hk (fun _ h => h.2)) (fun _ h => h.1))) : p := h
theorem Z5_7 {p : Prop} (h : p := by repeat (first | (with_reducible first | exact HB.out | apply below_alloc | apply pw_below_drewN | apply below_drew1 | refine below_set ?_ (IsS81.ge HI274.out)) | exact HB.out)) : p := h
theorem Z5_3 {p : Prop} (h : p := by exact (Kd.R_lower (Kd.R_new' ho0 (Kd.R_lt Z5_46)) (below_size Z5_7))) : p := h
theorem Z5_4 {p : Prop} (h : p := by exact (Kd.R_lower ho0 (below_size Z5_7))) : p := h
theorem Z5_11 {p : Prop} (h : p := by repeat (first | (with_reducible first | exact HK.out | apply KeepBut.set_ | apply keep_drewN | apply keep_drew | apply keep_alloc) | exact HK.out)) : p := h
theorem Z5_5 {p : Prop} (h : p := by exact (KeepBut.trans Z5_11 hk (.inl rfl))) : p := h
theorem Z5_6 {p : Prop} (h : p := by repeat (first | (with_reducible first | exact HB.out | apply below_alloc | apply pw_below_drewN | apply below_drew1 | refine below_set ?_ (IsS81.ge HI257.out)) | exact HB.out)) : p := h
theorem Z5_8 {p : Prop} (h : p := by repeat (first | (with_reducible first | exact HB.out | apply below_alloc | apply pw_below_drewN | apply below_drew1 | refine below_set ?_ (IsS81.ge HI0.out)) | exact HB.out)) : p := h
theorem Z5_9 {p : Prop} (h : p := by repeat (first | (with_reducible first | exact HI0.out | apply IsS81.alloc | apply IsS81.drewN | apply IsS81.drew | apply IsS81.set_1 | apply IsS81.set_2) | exact HI0.out)) : p := h
theorem Z5_29 {p : Prop} (h : p := by repeat (first | (with_reducible first | exact HB.out | apply below_alloc | apply pw_below_drewN | apply below_drew1) | exact HB.out)) : p := h
theorem Z5_10 {p : Prop} (h : p := by exact (below_step Z5_29 hb)) : p := h
theorem Z5_12 {p : Prop} (h : p := by (try simp only [List.map_toArray, List.map_cons, List.map_nil]); first | done | rfl | (simp only [List.length_drop, List.length_take]; rfl)) : p := h
theorem Z5_48 {p : Prop} (h : p := by (with_reducible repeat (first | apply Kd.R_alloc | apply Kd.R_drewN | apply Kd.R_drew)); exact HO300.out) : p := h
theorem Z5_13 {p : Prop} (h : p := by exact (Kd.R_elder' Z5_48 (Kd.R_base ho0) hb)) : p := h
theorem Z5_49 {p : Prop} (h : p := by (with_reducible repeat (first | apply Kd.R_alloc | apply Kd.R_drewN | apply Kd.R_drew)); exact HO302.out) : p := h
theorem Z5_14 {p : Prop} (h : p := by exact (Kd.R_elder' Z5_49 (Kd.R_base ho0) hb)) : p := h
theorem Z5_50 {p : Prop} (h : p := by (with_reducible repeat (first | apply Kd.R_alloc | apply Kd.R_drewN | apply Kd.R_drew)); exact HO305.out) : p := h
theorem Z5_15 {p : Prop} (h : p := by exact (Kd.R_elder' Z5_50 (Kd.R_base ho0) hb)) : p := h
theorem Z5_51 {p : Prop} (h : p := by (with_reducible repeat (first | apply Kd.R_alloc | apply Kd.R_drewN | apply Kd.R_drew)); exact HO308.out) : p := h
theorem Z5_16 {p : Prop} (h : p := by exact (Kd.R_elder' Z5_51 (Kd.R_base ho0) hb)) : p := h
theorem Z5_52 {p : Prop} (h : p := by (with_reducible repeat (first | apply Kd.R_alloc | apply Kd.R_drewN | apply Kd.R_drew)); exact HO311.out) : p := h
theorem Z5_17 {p : Prop} (h : p := by exact (Kd.R_elder' Z5_52 (Kd.R_base ho0) hb)) : p := h
theorem Z5_53 {p : Prop} (h : p := by (with_reducible repeat (first | apply Kd.R_alloc | apply Kd.R_drewN | apply Kd.R_drew)); exact HO315.out) : p := h
theorem Z5_18 {p : Prop} (h : p := by exact (Kd.R_elder' Z5_53 (Kd.R_base ho0) hb)) : p := h
theorem Z5_54 {p : Prop} (h : p := by (with_reducible repeat (first | apply Kd.R_alloc | apply Kd.R_drewN | apply Kd.R_drew)); exact HO317.out) : p := h
theorem Z5_19 {p : Prop} (h : p := by exact (Kd.R_elder' Z5_54 (Kd.R_base ho0) hb)) : p := h
theorem Z5_55 {p : Prop} (h : p := by (with_reducible repeat (first | apply Kd.R_alloc | apply Kd.R_drewN | apply Kd.R_drew)); exact HO320.out) : p := h
theorem Z5_20 {p : Prop} (h : p := by exact (Kd.R_elder' Z5_55 (Kd.R_base ho0) hb)) : p := h
theorem Z5_56 {p : Prop} (h : p := by (with_reducible repeat (first | apply Kd.R_alloc | apply Kd.R_drewN | apply Kd.R_drew)); exact HO324.out) : p := h
theorem Z5_21 {p : Prop} (h : p := by exact (Kd.R_elder' Z5_56 (Kd.R_base ho0) hb)) : p := h
theorem Z5_57 {p : Prop} (h : p := by (with_reducible repeat (first | apply Kd.R_alloc | apply Kd.R_drewN | apply Kd.R_drew)); exact HO328.out) : p := h
theorem Z5_22 {p : Prop} (h : p := by exact (Kd.R_elder' Z5_57 (Kd.R_base ho0) hb)) : p := h
theorem Z5_58 {p : Prop} (h : p := by (with_reducible repeat (first | apply Kd.R_alloc | apply Kd.R_drewN | apply Kd.R_drew)); exact HO335.out) : p := h
theorem Z5_23 {p : Prop} (h : p := by exact (Kd.R_elder' Z5_58 (Kd.R_base ho0) hb)) : p := h
theorem Z5_59 {p : Prop} (h : p := by (with_reducible repeat (first | apply Kd.R_alloc | apply Kd.R_drewN | apply Kd.R_drew)); exact HO338.out) : p := h
theorem Z5_24 {p : Prop} (h : p := by exact (Kd.R_elder' Z5_59 (Kd.R_base ho0) hb)) : p := h
theorem Z5_60 {p : Prop} (h : p := by (with_reducible repeat (first | apply Kd.R_alloc | apply Kd.R_drewN | apply Kd.R_drew)); exact HO342.out) : p := h
theorem Z5_25 {p : Prop} (h : p := by exact (Kd.R_elder' Z5_60 (Kd.R_base ho0) hb)) : p := h
theorem Z5_61 {p : Prop} (h : p := by (with_reducible repeat (first | apply Kd.R_alloc | apply Kd.R_drewN | apply Kd.R_drew)); exact HO345.out) : p := h
theorem Z5_26 {p : Prop} (h : p := by exact (Kd.R_elder' Z5_61 (Kd.R_base ho0) hb)) : p := h
theorem Z5_62 {p : Prop} (h : p := by (with_reducible repeat (first | apply Kd.R_alloc | apply Kd.R_drewN | apply Kd.R_drew)); exact HO353.out) : p := h
theorem Z5_27 {p : Prop} (h : p := by exact (Kd.R_elder' Z5_62 (Kd.R_base ho0) hb)) : p := h
theorem Z5_28 {p : Prop} (h : p := by (with_reducible repeat (first | apply Kd.R_alloc | apply Kd.R_drewN | apply Kd.R_drew)); exact Kd.R_mono HO277.out (fun _ hk => hk.2)) : p := h
theorem Z5_30 {p : Prop} (h : p := by exact (Kd.R_below Z5_48 hb)) : p := h
theorem Z5_31 {p : Prop} (h : p := by exact (Kd.R_below Z5_49 hb)) : p := h
theorem Z5_32 {p : Prop} (h : p := by exact (Kd.R_below Z5_50 hb)) : p := h
theorem Z5_33 {p : Prop} (h : p := by exact (Kd.R_below Z5_51 hb)) : p := h
theorem Z5_34 {p : Prop} (h : p := by exact (Kd.R_below Z5_52 hb)) : p := h
theorem Z5_35 {p : Prop} (h : p := by exact (Kd.R_below Z5_53 hb)) : p := h
theorem Z5_36 {p : Prop} (h : p := by exact (Kd.R_below Z5_54 hb)) : p := h
theorem Z5_37 {p : Prop} (h : p := by exact (Kd.R_below Z5_55 hb)) : p := h
theorem Z5_38 {p : Prop} (h : p := by exact (Kd.R_below Z5_56 hb)) : p := h
theorem Z5_39 {p : Prop} (h : p := by exact (Kd.R_below Z5_57 hb)) : p := h
theorem Z5_40 {p : Prop} (h : p := by exact (Kd.R_below Z5_58 hb)) : p := h
theorem Z5_41 {p : Prop} (h : p := by exact (Kd.R_below Z5_59 hb)) : p := h
theorem Z5_42 {p : Prop} (h : p := by exact (Kd.R_below Z5_60 hb)) : p := h
theorem Z5_43 {p : Prop} (h : p := by exact (Kd.R_below Z5_61 hb)) : p := h
theorem Z5_44 {p : Prop} (h : p := by (with_reducible repeat (first | apply Kd.R_alloc | apply Kd.R_drewN | apply Kd.R_drew)); exact HO244.out) : p := h
theorem Z5_45 {p : Prop} (h : p := by (with_reducible repeat (first | apply Kd.R_alloc | apply Kd.R_drewN | apply Kd.R_drew)); exact HO260.out) : p := h
theorem Z5_47 {p : Prop} (h : p := by (with_reducible repeat (first | apply Kd.R_alloc | apply Kd.R_drewN | apply Kd.R_drew)); exact HO285.out) : p := h
theorem Z5_63 {p : Prop} (h : p := by (with_reducible repeat (first | apply Kd.R_alloc | apply Kd.R_drewN | apply Kd.R_drew)); exact HO356.out) : p := h
theorem Z5_64 {p : Prop} (h : p := by (with_reducible repeat (first | apply Kd.R_alloc | apply Kd.R_drewN | apply Kd.R_drew)); exact HO_3.out) : p := h
theorem Z5_65 {p : Prop} (h : p := by first | rfl | (simp [errW_none, errW_some] <;> rfl) | (simp [*, errW_none, errW_some] <;> rfl)) : p := h
/-! ### spec_l1Byte: function 84 -/
def spec_l1Byte.f (s0_0 : List Int) (s0_1 : Int) (s0_2 : Int) : Option (Int × Int × Int) := if s0_1 < (s0_0.length : Int) then (if 0 ≤ s0_1 then (some (Go.bits .and .i64 (wrap64 ((Go.bits .and .i64 (Go.bits .xor .i64 ((wrap64 ((wrap64 (s0_2 * 6364136223846793005)) + 1442695040888963407)) / 8589934592) ((wrap64 ((wrap64 (s0_2 * 6364136223846793005)) + 1442695040888963407)) / 140737488355328)) 255) + (wrap64 (rd s0_0 s0_1)))) 255, wrap64 (s0_1 + 1), wrap64 ((wrap64 (s0_2 * 6364136223846793005)) + 1442695040888963407))) else (none)) else (some (Go.bits .and .i64 (Go.bits .xor .i64 ((wrap64 ((wrap64 (s0_2 * 6364136223846793005)) + 1442695040888963407)) / 8589934592) ((wrap64 ((wrap64 (s0_2 * 6364136223846793005)) + 1442695040888963407)) / 140737488355328)) 255, s0_1, wrap64 ((wrap64 (s0_2 * 6364136223846793005)) + 1442695040888963407)))
set_option maxHeartbeats 8000000 in
set_option maxRecDepth 100000 in
theorem spec_l1Byte.calls (g : Nat) (s0_0 : List Int) (s0_1 : Int) (s0_2 : Int) (r1 : Int) (r2 : Int) (r3 : Int) (w0 w : World) (hI : IsS81 w0 w g s0_0 s0_1 s0_2) (hB : Below w0.heap.size w0 w) (h : spec_l1Byte.f s0_0 s0_1 s0_2 = some (r1, r2, r3)) :
    Calls Try.prog 84 #[.pointer (some ⟨g, 0, none⟩)] w fun e w' => e = .returned (.int .i64 r1) ∧ IsS81 w0 w' g s0_0 r2 r3 ∧ Below w0.heap.size w0 w' ∧ KeepBut w w' g none := by
  have HI0 := Aside0.mk hI
  have HK := Aside0.mk (KeepBut.refl w g none)
  have HL := Aside0.mk hB.size
  clear hI
  have HW0 := Aside0.mk hB.size
  have HB := Aside0.mk hB
  clear hB
  have H : (if s0_1 < (s0_0.length : Int) then (if 0 ≤ s0_1 then (some (Go.bits .and .i64 (wrap64 ((Go.bits .and .i64 (Go.bits .xor .i64 ((wrap64 ((wrap64 (s0_2 * 6364136223846793005)) + 1442695040888963407)) / 8589934592) ((wrap64 ((wrap64 (s0_2 * 6364136223846793005)) + 1442695040888963407)) / 140737488355328)) 255) + (wrap64 (rd s0_0 s0_1)))) 255, wrap64 (s0_1 + 1), wrap64 ((wrap64 (s0_2 * 6364136223846793005)) + 1442695040888963407))) else (none)) else (some (Go.bits .and .i64 (Go.bits .xor .i64 ((wrap64 ((wrap64 (s0_2 * 6364136223846793005)) + 1442695040888963407)) / 8589934592) ((wrap64 ((wrap64 (s0_2 * 6364136223846793005)) + 1442695040888963407)) / 140737488355328)) 255, s0_1, wrap64 ((wrap64 (s0_2 * 6364136223846793005)) + 1442695040888963407)))) = some (r1, r2, r3) := h
  clear h
  by_cases c2 : s0_1 < (s0_0.length : Int)
  rotate_left
  · rw [if_neg c2] at H
    have c2b0 : decide (s0_1 < (s0_0.length : Int)) = false := decide_eq_false c2
    clear c2
    simp only [Option.some.injEq, Prod.mk.injEq] at H
    obtain ⟨rfl, rfl, rfl⟩ := H
    obtain ⟨ASz5_0, cSz5_0, HGz5, hgz5, HSz5_0⟩ := HI0.out
    have hcz5_0 := cellS81_0 HGz5
    have hcz5_1 := cellS81_1 HGz5
    have hcz5_2 := cellS81_2 HGz5
    have hfz5_1 := blk_frozen HGz5 1
    have hfz5_2 := blk_frozen HGz5 2
    clear HGz5 hgz5
    go_enter Try.func84, Try.ntmps84
    go_wp2
    repeat (go_quiet (fail); try go_wp2)
    go_ret
    exact ⟨Z5_65, Z5_9, Z5_8, Z5_11⟩
  rw [if_pos c2] at H
  have c2b0 : decide (s0_1 < (s0_0.length : Int)) = true := decide_eq_true c2
  clear c2
  by_cases c3 : 0 ≤ s0_1
  rotate_left
  · rw [if_neg c3] at H
    exact absurd H (by simp)
  rw [if_pos c3] at H
  have c3b0 : decide (0 ≤ s0_1) = true := decide_eq_true c3
  clear c3
  simp only [Option.some.injEq, Prod.mk.injEq] at H
  obtain ⟨rfl, rfl, rfl⟩ := H
  obtain ⟨ASz4_0, cSz4_0, HGz4, hgz4, HSz4_0⟩ := HI0.out
  have hcz4_0 := cellS81_0 HGz4
  have hcz4_1 := cellS81_1 HGz4
  have hcz4_2 := cellS81_2 HGz4
  have hfz4_1 := blk_frozen HGz4 1
  have hfz4_2 := blk_frozen HGz4 2
  clear HGz4 hgz4
  have p229 : 0 ≤ (s0_1 : Int) := of_decide_eq_true (by first | (with_reducible assumption) | assumption)
  have q229 : s0_1 < (s0_0.length : Int) := of_decide_eq_true (by first | (with_reducible assumption) | assumption)
  obtain ⟨ad229, e229, hx229_0⟩ := Kd.at_int HSz4_0 s0_1 p229 q229
  cases e229
  have hn229_0 : ad229.block ≠ g := Nat.ne_of_lt (Nat.lt_of_lt_of_le (by have := World.block_lt_of_cell? _ _ hx229_0; first | rwa [add_block] at this | exact this) (IsS81.ge HI0.out))
  replace hx229_0 := pw_cell_below HB.out hx229_0
  replace hx229_0 := (cell_far (p := ⟨g, 2, none⟩) (by first | (rw [add_block]; exact hn229_0) | (show (Addr.add _ _).block ≠ _; rw [add_block]; exact hn229_0) | exact hn229_0) (.int .i64 (wrap64 ((wrap64 (s0_2 * 6364136223846793005)) + 1442695040888963407)))).trans hx229_0
  (try have hy229_0 := fun (n_ : Nat) => (show (((w.drewN n_).setCell ⟨g, 2, none⟩ (.int .i64 (wrap64 ((wrap64 (s0_2 * 6364136223846793005)) + 1442695040888963407))))).cell? _ = some _ from hx229_0))
  clear hn229_0
  replace p229 := eq_true p229
  replace q229 := eq_true q229
  go_enter Try.func84, Try.ntmps84
  go_wp2
  repeat (go_quiet (fail); try go_wp2)
  go_ret
  exact ⟨Z5_65, Z5_9, Z5_8, Z5_11⟩

/-! ### spec_l1Below: function 61 -/
def spec_l1Below.f (s0_0 : List Int) (s0_1 : Int) (s0_2 : Int) (a1 : Int) : Option (Int × Int × Int) := if a1 ≤ 0 then (some (0, s0_1, s0_2)) else (if a1 ≤ 256 then ((spec_l1Byte.f s0_0 s0_1 s0_2).bind fun bt230 => (if a1 = 0 then (none) else (some (Int.tmod bt230.1 a1, bt230.2.1, bt230.2.2)))) else ((spec_l1Byte.f s0_0 s0_1 s0_2).bind fun bt233 => ((spec_l1Byte.f s0_0 bt233.2.1 bt233.2.2).bind fun bt236 => ((spec_l1Byte.f s0_0 bt236.2.1 bt236.2.2).bind fun bt239 => (if a1 = 0 then (none) else (some (Int.tmod (wrap64 ((wrap64 ((wrap64 (bt233.1 * 65536)) + (wrap64 (bt236.1 * 256)))) + bt239.1)) a1, bt239.2.1, bt239.2.2)))))))
set_option maxHeartbeats 8000000 in
set_option maxRecDepth 100000 in
theorem spec_l1Below.calls (g : Nat) (s0_0 : List Int) (s0_1 : Int) (s0_2 : Int) (a1 : Int) (r1 : Int) (r2 : Int) (r3 : Int) (w0 w : World) (hI : IsS81 w0 w g s0_0 s0_1 s0_2) (hB : Below w0.heap.size w0 w) (h : spec_l1Below.f s0_0 s0_1 s0_2 a1 = some (r1, r2, r3)) :
    Calls Try.prog 61 #[.pointer (some ⟨g, 0, none⟩), .int .i64 a1] w fun e w' => e = .returned (.int .i64 r1) ∧ IsS81 w0 w' g s0_0 r2 r3 ∧ Below w0.heap.size w0 w' ∧ KeepBut w w' g none := by
  have HI0 := Aside0.mk hI
  have HK := Aside0.mk (KeepBut.refl w g none)
  have HL := Aside0.mk hB.size
  clear hI
  have HW0 := Aside0.mk hB.size
  have HB := Aside0.mk hB
  clear hB
  have H : (if a1 ≤ 0 then (some (0, s0_1, s0_2)) else (if a1 ≤ 256 then ((spec_l1Byte.f s0_0 s0_1 s0_2).bind fun bt230 => (if a1 = 0 then (none) else (some (Int.tmod bt230.1 a1, bt230.2.1, bt230.2.2)))) else ((spec_l1Byte.f s0_0 s0_1 s0_2).bind fun bt233 => ((spec_l1Byte.f s0_0 bt233.2.1 bt233.2.2).bind fun bt236 => ((spec_l1Byte.f s0_0 bt236.2.1 bt236.2.2).bind fun bt239 => (if a1 = 0 then (none) else (some (Int.tmod (wrap64 ((wrap64 ((wrap64 (bt233.1 * 65536)) + (wrap64 (bt236.1 * 256)))) + bt239.1)) a1, bt239.2.1, bt239.2.2)))))))) = some (r1, r2, r3) := h
  clear h
  by_cases c3 : a1 ≤ 0
  · rw [if_pos c3] at H
    have c3b0 : decide (a1 ≤ 0) = true := decide_eq_true c3
    clear c3
    simp only [Option.some.injEq, Prod.mk.injEq] at H
    obtain ⟨rfl, rfl, rfl⟩ := H
    go_enter Try.func61, Try.ntmps61
    go_wp2
    go_ret
    exact ⟨Z5_65, Z5_9, Z5_8, Z5_11⟩
  rw [if_neg c3] at H
  have c3b0 : decide (a1 ≤ 0) = false := decide_eq_false c3
  clear c3
  by_cases c4 : a1 ≤ 256
  · rw [if_pos c4] at H
    have c4b0 : decide (a1 ≤ 256) = true := decide_eq_true c4
    clear c4
    replace H := Option.bind_eq_some_iff.mp H
    obtain ⟨⟨t230, t231, t232⟩, A50, H⟩ := H
    replace H : (if a1 = 0 then (none) else (some (Int.tmod t230 a1, t231, t232))) = some (r1, r2, r3) := H
    have A5 := Aside0.mk A50
    clear A50
    by_cases c6 : a1 = 0
    · rw [if_pos c6] at H
      exact absurd H (by simp)
    rw [if_neg c6] at H
    have c6b0 : (a1 == 0) = false := beq_eq_false_iff_ne.mpr c6
    have c6b1 : (a1 != 0) = true := bne_iff_ne.mpr c6
    simp only [Option.some.injEq, Prod.mk.injEq] at H
    obtain ⟨rfl, rfl, rfl⟩ := H
    go_enter Try.func61, Try.ntmps61
    go_wp2_with (first | ((with_reducible refine gate_callee (f := 84) rfl ?_); refine goesL_ (some 13) rfl rfl Try.func84 (by kernel_rfl) rfl #[.pointer (some ⟨g, 0, none⟩)] rfl Z5_12 ?_; (with_reducible refine (spec_l1Byte.calls g s0_0 s0_1 s0_2 t230 t231 t232 w0 _ ?side1 ?side2 A5.out).mono ?_); (case side1 => repeat (first | (with_reducible first | exact HI0.out | apply IsS81.alloc | apply IsS81.drewN | apply IsS81.drew | apply IsS81.set_1 | apply IsS81.set_2) | exact HI0.out)); (case side2 => repeat (first | (with_reducible first | exact HB.out | apply below_alloc | apply pw_below_drewN | apply below_drew1 | refine below_set ?_ (IsS81.ge HI0.out)) | exact HB.out)); rintro e w7 ⟨rfl, hi, hb, hk⟩; refine ⟨_, rfl, ?_⟩; have n0_ := Aside0.mk Z5_5; have n1_ := Aside0.mk (hb); have n2_ := Aside0.mk (hi); clear HK; clear HB; clear HI0; have HK := n0_; have HB := n1_; have HI0 := n2_; clear n0_ n1_ n2_; (try clear hb); (try clear hb2); (try clear hk); (try clear hi)))
    go_ret
    exact ⟨Z5_65, Z5_9, Z5_8, Z5_11⟩
  rw [if_neg c4] at H
  have c4b0 : decide (a1 ≤ 256) = false := decide_eq_false c4
  clear c4
  replace H := Option.bind_eq_some_iff.mp H
  obtain ⟨⟨t233, t234, t235⟩, A80, H⟩ := H
  replace H : ((spec_l1Byte.f s0_0 t234 t235).bind fun bt236 => ((spec_l1Byte.f s0_0 bt236.2.1 bt236.2.2).bind fun bt239 => (if a1 = 0 then (none) else (some (Int.tmod (wrap64 ((wrap64 ((wrap64 (t233 * 65536)) + (wrap64 (bt236.1 * 256)))) + bt239.1)) a1, bt239.2.1, bt239.2.2))))) = some (r1, r2, r3) := H
  have A8 := Aside0.mk A80
  clear A80
  replace H := Option.bind_eq_some_iff.mp H
  obtain ⟨⟨t236, t237, t238⟩, A90, H⟩ := H
  replace H : ((spec_l1Byte.f s0_0 t237 t238).bind fun bt239 => (if a1 = 0 then (none) else (some (Int.tmod (wrap64 ((wrap64 ((wrap64 (t233 * 65536)) + (wrap64 (t236 * 256)))) + bt239.1)) a1, bt239.2.1, bt239.2.2)))) = some (r1, r2, r3) := H
  have A9 := Aside0.mk A90
  clear A90
  replace H := Option.bind_eq_some_iff.mp H
  obtain ⟨⟨t239, t240, t241⟩, A100, H⟩ := H
  replace H : (if a1 = 0 then (none) else (some (Int.tmod (wrap64 ((wrap64 ((wrap64 (t233 * 65536)) + (wrap64 (t236 * 256)))) + t239)) a1, t240, t241))) = some (r1, r2, r3) := H
  have A10 := Aside0.mk A100
  clear A100
  by_cases c11 : a1 = 0
  · rw [if_pos c11] at H
    exact absurd H (by simp)
  rw [if_neg c11] at H
  have c11b0 : (a1 == 0) = false := beq_eq_false_iff_ne.mpr c11
  have c11b1 : (a1 != 0) = true := bne_iff_ne.mpr c11
  simp only [Option.some.injEq, Prod.mk.injEq] at H
  obtain ⟨rfl, rfl, rfl⟩ := H
  go_enter Try.func61, Try.ntmps61
  go_wp2_with (first | ((with_reducible refine gate_callee (f := 84) rfl ?_); refine goesL_ (some 17) rfl rfl Try.func84 (by kernel_rfl) rfl #[.pointer (some ⟨g, 0, none⟩)] rfl Z5_12 ?_; (with_reducible refine (spec_l1Byte.calls g s0_0 s0_1 s0_2 t233 t234 t235 w0 _ ?side1 ?side2 A8.out).mono ?_); (case side1 => repeat (first | (with_reducible first | exact HI0.out | apply IsS81.alloc | apply IsS81.drewN | apply IsS81.drew | apply IsS81.set_1 | apply IsS81.set_2) | exact HI0.out)); (case side2 => repeat (first | (with_reducible first | exact HB.out | apply below_alloc | apply pw_below_drewN | apply below_drew1 | refine below_set ?_ (IsS81.ge HI0.out)) | exact HB.out)); rintro e w12 ⟨rfl, hi, hb, hk⟩; refine ⟨_, rfl, ?_⟩; have n0_ := Aside0.mk Z5_5; have n1_ := Aside0.mk (hb); have n2_ := Aside0.mk (hi); clear HK; clear HB; clear HI0; have HK := n0_; have HB := n1_; have HI0 := n2_; clear n0_ n1_ n2_; (try clear hb); (try clear hb2); (try clear hk); (try clear hi)) | ((with_reducible refine gate_callee (f := 84) rfl ?_); refine goesL_ (some 19) rfl rfl Try.func84 (by kernel_rfl) rfl #[.pointer (some ⟨g, 0, none⟩)] rfl Z5_12 ?_; (with_reducible refine (spec_l1Byte.calls g s0_0 t234 t235 t236 t237 t238 w0 _ ?side1 ?side2 A9.out).mono ?_); (case side1 => repeat (first | (with_reducible first | exact HI0.out | apply IsS81.alloc | apply IsS81.drewN | apply IsS81.drew | apply IsS81.set_1 | apply IsS81.set_2) | exact HI0.out)); (case side2 => repeat (first | (with_reducible first | exact HB.out | apply below_alloc | apply pw_below_drewN | apply below_drew1 | refine below_set ?_ (IsS81.ge HI0.out)) | exact HB.out)); rintro e w13 ⟨rfl, hi, hb, hk⟩; refine ⟨_, rfl, ?_⟩; have n0_ := Aside0.mk Z5_5; have n1_ := Aside0.mk (hb); have n2_ := Aside0.mk (hi); clear HK; clear HB; clear HI0; have HK := n0_; have HB := n1_; have HI0 := n2_; clear n0_ n1_ n2_; (try clear hb); (try clear hb2); (try clear hk); (try clear hi)) | ((with_reducible refine gate_callee (f := 84) rfl ?_); refine goesL_ (some 21) rfl rfl Try.func84 (by kernel_rfl) rfl #[.pointer (some ⟨g, 0, none⟩)] rfl Z5_12 ?_; (with_reducible refine (spec_l1Byte.calls g s0_0 t237 t238 t239 t240 t241 w0 _ ?side1 ?side2 A10.out).mono ?_); (case side1 => repeat (first | (with_reducible first | exact HI0.out | apply IsS81.alloc | apply IsS81.drewN | apply IsS81.drew | apply IsS81.set_1 | apply IsS81.set_2) | exact HI0.out)); (case side2 => repeat (first | (with_reducible first | exact HB.out | apply below_alloc | apply pw_below_drewN | apply below_drew1 | refine below_set ?_ (IsS81.ge HI0.out)) | exact HB.out)); rintro e w14 ⟨rfl, hi, hb, hk⟩; refine ⟨_, rfl, ?_⟩; have n0_ := Aside0.mk Z5_5; have n1_ := Aside0.mk (hb); have n2_ := Aside0.mk (hi); clear HK; clear HB; clear HI0; have HK := n0_; have HB := n1_; have HI0 := n2_; clear n0_ n1_ n2_; (try clear hb); (try clear hb2); (try clear hk); (try clear hi)))
  go_ret
  exact ⟨Z5_65, Z5_9, Z5_8, Z5_11⟩

/-! ### spec_l3Draw: function 58 -/
def spec_l3Draw.l0 : Nat → List Int → Int → List Int → Int → Int → Option (List Int × Int × Int)
  | 0, _, _, _, _, _ => none
  | k + 1, x3, x4, x1000, x1001, x1002 => if x4 > 0 then ((spec_l1Below.f x1000 x1001 x1002 6).bind fun bt248 => (if x3.length < 17592186044416 then (spec_l3Draw.l0 k (x3 ++ [wrap64 (bt248.1 - 1)]) (wrap64 (x4 - 1)) x1000 bt248.2.1 bt248.2.2) else (none))) else (some (x3, x1001, x1002))
def spec_l3Draw.f (k : Nat) (s0_0 : List Int) (s0_1 : Int) (s0_2 : Int) : Option (List Int × Int × Int) := (spec_l1Below.f s0_0 s0_1 s0_2 7).bind fun bt245 => (spec_l3Draw.l0 k (([] : List Int)) bt245.1 s0_0 bt245.2.1 bt245.2.2)
theorem spec_l3Draw.mono_l : ∀ k, (∀ y0 y1 y2 y3 y4, LeO (spec_l3Draw.l0 k y0 y1 y2 y3 y4) (spec_l3Draw.l0 (k + 1) y0 y1 y2 y3 y4))
  | 0 => fun _ _ _ _ _ r h => by simp [spec_l3Draw.l0] at h
  | k + 1 => by
    have ih0 := spec_l3Draw.mono_l k
    · intro y0 y1 y2 y3 y4
      unfold spec_l3Draw.l0
      repeat' first
      | (with_reducible exact ih0 _ _ _ _ _)
      | (with_reducible exact LeO.refl _)
      | (with_reducible exact LeO.none _)
      | (with_reducible refine LeO.ite ?_ ?_)
      | (with_reducible refine LeO.bind ?_ (fun _ => ?_))
      | exact ih0 _ _ _ _ _
      | exact LeO.none _
      | refine LeO.ite ?_ ?_
      | refine LeO.bind ?_ (fun _ => ?_)
theorem spec_l3Draw.mono : ∀ a0 a1 a2 k, LeO (spec_l3Draw.f k a0 a1 a2) (spec_l3Draw.f (k + 1) a0 a1 a2) := by
  intro a0 a1 a2 k
  have ih0 := spec_l3Draw.mono_l k
  unfold spec_l3Draw.f
  repeat' first
      | (with_reducible exact ih0 _ _ _ _ _)
      | (with_reducible exact LeO.refl _)
      | (with_reducible exact LeO.none _)
      | (with_reducible refine LeO.ite ?_ ?_)
      | (with_reducible refine LeO.bind ?_ (fun _ => ?_))
      | exact ih0 _ _ _ _ _
      | exact LeO.none _
      | refine LeO.ite ?_ ?_
      | refine LeO.bind ?_ (fun _ => ?_)
set_option maxHeartbeats 8000000 in
set_option maxRecDepth 100000 in
theorem spec_l3Draw.calls (k : Nat) (g : Nat) (s0_0 : List Int) (s0_1 : Int) (s0_2 : Int) (r1 : List Int) (r2 : Int) (r3 : Int) (w0 w : World) (hI : IsS81 w0 w g s0_0 s0_1 s0_2) (hB : Below w0.heap.size w0 w) (h : spec_l3Draw.f k s0_0 s0_1 s0_2 = some (r1, r2, r3)) :
    Calls Try.prog 58 #[.pointer (some ⟨g, 0, none⟩)] w fun e w' => ∃ v0_ : Value, e = .returned (v0_) ∧ Kd.R (Kd.int .i64) 3 w' w.heap.size (fun _ => True) v0_ r1 ∧ IsS81 w0 w' g s0_0 r2 r3 ∧ Below w0.heap.size w0 w' ∧ KeepBut w w' g none := by
  have HI0 := Aside0.mk hI
  have HK := Aside0.mk (KeepBut.refl w g none)
  have HL := Aside0.mk hB.size
  clear hI
  have HW0 := Aside0.mk hB.size
  have HB := Aside0.mk hB
  clear hB
  have H : ((spec_l1Below.f s0_0 s0_1 s0_2 7).bind fun bt245 => (spec_l3Draw.l0 k (([] : List Int)) bt245.1 s0_0 bt245.2.1 bt245.2.2)) = some (r1, r2, r3) := h
  clear h
  obtain ⟨y242, hy242⟩ : ∃ y_ : List Int, y_ = (([] : List Int)) := ⟨_, rfl⟩
  replace H : ((spec_l1Below.f s0_0 s0_1 s0_2 7).bind fun bt245 => (spec_l3Draw.l0 k y242 bt245.1 s0_0 bt245.2.1 bt245.2.2)) = some (r1, r2, r3) := by first | (rw [hy242]; with_reducible exact H) | (have H2_ := (Option.bind_some _ _).symm.trans H; rw [hy242]; with_reducible exact H2_) | (have H2_ := (Option.bind_some _ _).symm.trans H; with_reducible exact H2_) | with_reducible exact H | (rw [hy242]; exact H) | exact H
  have Ny242 := Aside0.mk hy242
  clear hy242
  replace H := Option.bind_eq_some_iff.mp H
  obtain ⟨⟨t245, t246, t247⟩, A20, H⟩ := H
  replace H : (spec_l3Draw.l0 k y242 t245 s0_0 t246 t247) = some (r1, r2, r3) := H
  have A2 := Aside0.mk A20
  clear A20
  have H' := Aside0.mk H
  clear H
  go_enter Try.func58, Try.ntmps58
  go_wp2_with (first | ((with_reducible refine gate_dst (N := 5) rfl ?_); refine Kd.R_lit (Kd.int .i64) _ 3 ?hg (N := 5) ?hd (xs := ([] : List Int)) (inner := []) (ok := fun _ => True) (okp := fun _ => True) ?hr ?hp (fun _ hk => hk) trivial (Below.refl _ _) (Nat.le_refl _) (by simp) ?_; (case hd => rfl); (case hg => rfl); (case hr => first | (go_simp; done) | (go_simp; rfl)); (case hp => exact (Reps.none _ _)); intro v243 w3 ho4 hb hg_ hnew_; clear hg_ hnew_; (first | rw [← Ny242.out] at ho4 | (simp only [Int.reduceToNat] at ho4; rw [← Ny242.out] at ho4)); have n0_ := Aside0.mk (Kd.R_lower ho4 (keep_size (w := w) (g := g) (row := none) Z5_11)); have n1_ := Aside0.mk (IsS81.below Z5_9 hb); have n2_ := Aside0.mk (KeepBut.trans Z5_11 (KeepBut.of_below hb g none) (.inl rfl)); have n3_ := Aside0.mk (below_step Z5_8 hb); clear HI0; clear HK; clear HB; have HO244 := n0_; have HI0 := n1_; have HK := n2_; have HB := n3_; clear n0_ n1_ n2_ n3_; clear hb ho4) | ((with_reducible refine gate_callee (f := 61) rfl ?_); refine goesL_ (some 7) rfl rfl Try.func61 (by kernel_rfl) rfl #[.pointer (some ⟨g, 0, none⟩), .int .i64 7] rfl Z5_12 ?_; (with_reducible refine (spec_l1Below.calls g s0_0 s0_1 s0_2 7 t245 t246 t247 w0 _ ?side1 ?side2 A2.out).mono ?_); (case side1 => repeat (first | (with_reducible first | exact HI0.out | apply IsS81.alloc | apply IsS81.drewN | apply IsS81.drew | apply IsS81.set_1 | apply IsS81.set_2) | exact HI0.out)); (case side2 => repeat (first | (with_reducible first | exact HB.out | apply below_alloc | apply pw_below_drewN | apply below_drew1 | refine below_set ?_ (IsS81.ge HI0.out)) | exact HB.out)); rintro e w5 ⟨rfl, hi, hb, hk⟩; refine ⟨_, rfl, ?_⟩; have n0_ := Aside0.mk (Kd.R_mono (Kd.R_keep (IsS81.apart (show IsS81 w0 _ g s0_0 s0_1 s0_2 from by repeat (first | (with_reducible first | exact HI0.out | apply IsS81.alloc | apply IsS81.drewN | apply IsS81.drew | apply IsS81.set_1 | apply IsS81.set_2) | exact HI0.out)) Z5_44 (by decide)) hk (fun _ h => h.2)) (fun _ h => h.1)); have n1_ := Aside0.mk Z5_5; have n2_ := Aside0.mk (hb); have n3_ := Aside0.mk (hi); clear HO244; clear HK; clear HB; clear HI0; have HO244 := n0_; have HK := n1_; have HB := n2_; have HI0 := n3_; clear n0_ n1_ n2_ n3_; (try clear hb); (try clear hb2); (try clear hk); (try clear hi)))
  go_loopg [3, 4] k (fun kq v3 v4 w' => ∃ (x3_1 : List Int) (x4_1 : Int) (x1001_1 : Int) (x1002_1 : Int), v4 = .int .i64 x4_1 ∧ Aside0 (spec_l3Draw.l0 kq x3_1 x4_1 s0_0 x1001_1 x1002_1 = some (r1, r2, r3)) ∧ Aside0 (kq ≤ k) ∧ Aside0 (Kd.R (Kd.int .i64) 3 w' w.heap.size (fun _ => True) v3 x3_1) ∧ Aside0 (IsS81 w0 w' g s0_0 x1001_1 x1002_1) ∧ Aside0 (KeepBut w w' g none) ∧ Aside0 (Below w0.heap.size w0 w'))
  case atStart => exact ⟨(y242), (t245), (t246), (t247), (by first | rfl | (simp; done) | (simp [*]; done)), H', ⟨Nat.le_refl _⟩, ⟨Z5_44⟩, ⟨Z5_9⟩, ⟨Z5_11⟩, ⟨Z5_8⟩⟩
  case round =>
    clear H'
    try clear p2
    try clear c5
    obtain ⟨x3_1, x4_1, x1001_1, x1002_1, rfl, HA, HK1, HO_3, HI0, HK, HB⟩ := hrel
    cases gk with
    | zero => exact absurd HA.out (by simp [spec_l3Draw.l0])
    | succ k1 =>
      have H := HA.out
      clear HA
      simp only [spec_l3Draw.l0] at H
      by_cases c6 : x4_1 > 0
      rotate_left
      · rw [if_neg c6] at H
        have c6b0 : decide (0 < x4_1) = false := decide_eq_false c6
        clear c6
        simp only [Option.some.injEq, Prod.mk.injEq] at H
        obtain ⟨rfl, rfl, rfl⟩ := H
        go_wp2
        go_ret
        exact ⟨_, Z5_65, Z5_64, Z5_9, Z5_8, Z5_11⟩
      rw [if_pos c6] at H
      have c6b0 : decide (0 < x4_1) = true := decide_eq_true c6
      clear c6
      replace H := Option.bind_eq_some_iff.mp H
      obtain ⟨⟨t248, t249, t250⟩, A70, H⟩ := H
      replace H : (if x3_1.length < 17592186044416 then (spec_l3Draw.l0 k1 (x3_1 ++ [wrap64 (t248 - 1)]) (wrap64 (x4_1 - 1)) s0_0 t249 t250) else (none)) = some (r1, r2, r3) := H
      have A7 := Aside0.mk A70
      clear A70
      by_cases c8 : x3_1.length < 17592186044416
      rotate_left
      · rw [if_neg c8] at H
        exact absurd H (by simp)
      rw [if_pos c8] at H
      have LMc8 := Aside0.mk c8
      clear c8
      obtain ⟨y251, hy251⟩ : ∃ y_ : List Int, y_ = (x3_1 ++ [wrap64 (t248 - 1)]) := ⟨_, rfl⟩
      replace H : (spec_l3Draw.l0 k1 y251 (wrap64 (x4_1 - 1)) s0_0 t249 t250) = some (r1, r2, r3) := by first | (rw [hy251]; with_reducible exact H) | (have H2_ := (Option.bind_some _ _).symm.trans H; rw [hy251]; with_reducible exact H2_) | (have H2_ := (Option.bind_some _ _).symm.trans H; with_reducible exact H2_) | with_reducible exact H | (rw [hy251]; exact H) | exact H
      have Ny251 := Aside0.mk hy251
      clear hy251
      have H' := Aside0.mk H
      clear H
      go_wp2_with (first | ((with_reducible refine gate_callee (f := 61) rfl ?_); refine goesL_ (some 14) rfl rfl Try.func61 (by kernel_rfl) rfl #[.pointer (some ⟨g, 0, none⟩), .int .i64 6] rfl Z5_12 ?_; (with_reducible refine (spec_l1Below.calls g s0_0 x1001_1 x1002_1 6 t248 t249 t250 w0 _ ?side1 ?side2 A7.out).mono ?_); (case side1 => repeat (first | (with_reducible first | exact HI0.out | apply IsS81.alloc | apply IsS81.drewN | apply IsS81.drew | apply IsS81.set_1 | apply IsS81.set_2) | exact HI0.out)); (case side2 => repeat (first | (with_reducible first | exact HB.out | apply below_alloc | apply pw_below_drewN | apply below_drew1 | refine below_set ?_ (IsS81.ge HI0.out)) | exact HB.out)); rintro e w9 ⟨rfl, hi, hb, hk⟩; refine ⟨_, rfl, ?_⟩; have n0_ := Aside0.mk (Kd.R_mono (Kd.R_keep (IsS81.apart (show IsS81 w0 _ g s0_0 x1001_1 x1002_1 from by repeat (first | (with_reducible first | exact HI0.out | apply IsS81.alloc | apply IsS81.drewN | apply IsS81.drew | apply IsS81.set_1 | apply IsS81.set_2) | exact HI0.out)) Z5_64 (by decide)) hk (fun _ h => h.2)) (fun _ h => h.1)); have n1_ := Aside0.mk Z5_5; have n2_ := Aside0.mk (hb); have n3_ := Aside0.mk (hi); clear HO_3; clear HK; clear HB; clear HI0; have HO_3 := n0_; have HK := n1_; have HB := n2_; have HI0 := n3_; clear n0_ n1_ n2_ n3_; (try clear hb); (try clear hb2); (try clear hk); (try clear hi)) | ((with_reducible refine gate_builtin (b := .append) (xs := #[.tmp 12, .tmp 16]) rfl ?_); at_builtin; refine Kd.R_append (Kd.int .i64) w.heap.size rfl (.tmp 12) (.tmp 16) 22 3 (.int .i64 0) 8 rfl Try.underlying22 info3 rfl (by decide) (by omega) u3 x3_1 (wrap64 (t248 - 1)) [.int .i64 (wrap64 (t248 - 1))] (fun _ => True) (fun _ => False) rfl rfl ?aP (fun _ hk => hk.elim) ?aF ?aO (Below.refl _ _) ?aS ?aL ?_; (case aP => exact rfl); (case aF => exact (fun _ _ => trivial)); (case aO => exact Z5_64); (case aS => exact (keep_size (w := w) (g := g) (row := none) Z5_11)); (case aL => have := LMc8.out; omega); intro v252 w10 ho hb hg hat; rw [← Ny251.out] at ho; have n0_ := Aside0.mk (IsS81.grown Z5_9 hg (IsS81.own_ne HI0.out HO_3.out (by decide))); have n1_ := Aside0.mk (below_weaken Z5_8 HL.out hb); have n2_ := Aside0.mk (KeepBut.trans Z5_11 (KeepBut.of_grown hg g) (Kd.R_base2 HO_3.out)); have n3_ := Aside0.mk (ho); clear HI0; clear HB; clear HK; clear HO_3; have HI0 := n0_; have HB := n1_; have HK := n2_; have HO253 := n3_; clear n0_ n1_ n2_ n3_; clear ho hb hg hat))
      go_roundg k1
      case measure => have := HK1.out; omega
      case rel => exact ⟨(y251), (wrap64 (x4_1 - 1)), (t249), (t250), (by first | rfl | (simp; done) | (simp [*]; done)), H', ⟨(by have := HK1.out; omega)⟩, ⟨(by (with_reducible repeat (first | apply Kd.R_alloc | apply Kd.R_drewN | apply Kd.R_drew)); exact HO253.out)⟩, ⟨Z5_9⟩, ⟨Z5_11⟩, ⟨Z5_8⟩⟩

/-! ### spec_DrawMeet: function 37 -/
def spec_DrawMeet.f (k : Nat) (l0 : List Int) : Option (List Int × List Int) := (spec_l1New.f k l0).bind fun bt254 => ((spec_l3Draw.f k bt254.1 bt254.2.1 bt254.2.2).bind fun bt258 => ((spec_l3Draw.f k bt254.1 bt258.2.1 bt258.2.2).bind fun bt263 => (some (bt258.1, bt263.1))))
theorem spec_DrawMeet.mono : ∀ a0 k, LeO (spec_DrawMeet.f k a0) (spec_DrawMeet.f (k + 1) a0) := by
  intro a0 k
  unfold spec_DrawMeet.f
  repeat' first
      | (with_reducible exact spec_l1New.mono _ _)
      | (with_reducible exact spec_l3Draw.mono _ _ _ _)
      | (with_reducible exact LeO.refl _)
      | (with_reducible exact LeO.none _)
      | (with_reducible refine LeO.ite ?_ ?_)
      | (with_reducible refine LeO.bind ?_ (fun _ => ?_))
      | exact spec_l1New.mono _ _
      | exact spec_l3Draw.mono _ _ _ _
      | exact LeO.none _
      | refine LeO.ite ?_ ?_
      | refine LeO.bind ?_ (fun _ => ?_)
set_option maxHeartbeats 8000000 in
set_option maxRecDepth 100000 in
theorem spec_DrawMeet.calls (k : Nat) (A0 : Option Addr) (c0 : Nat) (l0 : List Int) (r1 : List Int) (r2 : List Int) (w : World) (hr0 : Kd.C (Kd.int .u8) w A0 l0.length l0) (hc0 : l0.length ≤ c0) (h : spec_DrawMeet.f k l0 = some (r1, r2)) :
    Calls Try.prog 37 #[.slice A0 l0.length c0] w fun e w' => ∃ v0_ v1_ : Value, e = .returned (.tuple #[v0_, v1_]) ∧ Kd.R (Kd.int .i64) 3 w' w.heap.size (fun k_ => some k_ ≠ (v1_ : Value).ownBlock) v0_ r1 ∧ Kd.R (Kd.int .i64) 3 w' w.heap.size (fun k_ => some k_ ≠ (v0_ : Value).ownBlock) v1_ r2 ∧ Below w.heap.size w w' := by
  have HR0 := Aside0.mk hr0
  have HC0 := Aside0.mk hc0
  clear hr0 hc0
  have HB := Aside0.mk (Below.refl w.heap.size w)
  have H : ((spec_l1New.f k l0).bind fun bt254 => ((spec_l3Draw.f k bt254.1 bt254.2.1 bt254.2.2).bind fun bt258 => ((spec_l3Draw.f k bt254.1 bt258.2.1 bt258.2.2).bind fun bt263 => (some (bt258.1, bt263.1))))) = some (r1, r2) := h
  clear h
  replace H := Option.bind_eq_some_iff.mp H
  obtain ⟨⟨t254, t255, t256⟩, A20, H⟩ := H
  replace H : ((spec_l3Draw.f k t254 t255 t256).bind fun bt258 => ((spec_l3Draw.f k t254 bt258.2.1 bt258.2.2).bind fun bt263 => (some (bt258.1, bt263.1)))) = some (r1, r2) := H
  have A2 := Aside0.mk A20
  clear A20
  replace H := Option.bind_eq_some_iff.mp H
  obtain ⟨⟨t258, t261, t262⟩, A30, H⟩ := H
  replace H : ((spec_l3Draw.f k t254 t261 t262).bind fun bt263 => (some (t258, bt263.1))) = some (r1, r2) := H
  have A3 := Aside0.mk A30
  clear A30
  replace H := Option.bind_eq_some_iff.mp H
  obtain ⟨⟨t263, t266, t267⟩, A40, H⟩ := H
  replace H : (some (t258, t263)) = some (r1, r2) := H
  have A4 := Aside0.mk A40
  clear A40
  simp only [Option.some.injEq, Prod.mk.injEq] at H
  obtain ⟨rfl, rfl⟩ := H
  go_enter Try.func37, Try.ntmps37
  go_wp2_with (first | ((with_reducible refine gate_callee (f := 57) rfl ?_); refine goesL_ (some 7) rfl rfl Try.func57 (by kernel_rfl) rfl #[.slice A0 l0.length c0] rfl Z5_12 ?_; (with_reducible refine (spec_l1New.calls k _ _ l0 t254 t255 t256 w _ ?side1 ?side2 ?side3 A2.out).mono ?_); (case side1 => repeat (first | (with_reducible first | exact HB.out | apply below_alloc | apply pw_below_drewN | apply below_drew1) | exact HB.out)); (case side2 => exact HR0.out); (case side3 => exact HC0.out); rintro e w5 ⟨g257, rfl, hi, hb, hb2⟩; refine ⟨_, rfl, ?_⟩; have n0_ := Aside0.mk (hb); have n1_ := Aside0.mk (hi); clear HB; have HB := n0_; have HI257 := n1_; clear n0_ n1_; (try clear hb); (try clear hb2); (try clear hk); (try clear hi)) | ((with_reducible refine gate_callee (f := 58) rfl ?_); refine goesL_ (some 9) rfl rfl Try.func58 (by kernel_rfl) rfl #[.pointer (some ⟨g257, 0, none⟩)] rfl Z5_12 ?_; (with_reducible refine (spec_l3Draw.calls k g257 t254 t255 t256 t258 t261 t262 w _ ?side1 ?side2 A3.out).mono ?_); (case side1 => repeat (first | (with_reducible first | exact HI257.out | apply IsS81.alloc | apply IsS81.drewN | apply IsS81.drew | apply IsS81.set_1 | apply IsS81.set_2) | exact HI257.out)); (case side2 => repeat (first | (with_reducible first | exact HB.out | apply below_alloc | apply pw_below_drewN | apply below_drew1 | refine below_set ?_ (IsS81.ge HI257.out)) | exact HB.out)); rintro e w6 ⟨v259, rfl, ho0, hi, hb, hk⟩; refine ⟨_, rfl, ?_⟩; have n0_ := Aside0.mk (Kd.R_lower ho0 (below_size Z5_6)); have n1_ := Aside0.mk (hb); have n2_ := Aside0.mk (hi); clear HB; clear HI257; have HO260 := n0_; have HB := n1_; have HI257 := n2_; clear n0_ n1_ n2_; (try clear hb); (try clear hb2); (try clear hk); (try clear hi); (try clear ho0)) | ((with_reducible refine gate_callee (f := 58) rfl ?_); refine goesL_ (some 12) rfl rfl Try.func58 (by kernel_rfl) rfl #[.pointer (some ⟨g257, 0, none⟩)] rfl Z5_12 ?_; (with_reducible refine (spec_l3Draw.calls k g257 t254 t261 t262 t263 t266 t267 w _ ?side1 ?side2 A4.out).mono ?_); (case side1 => repeat (first | (with_reducible first | exact HI257.out | apply IsS81.alloc | apply IsS81.drewN | apply IsS81.drew | apply IsS81.set_1 | apply IsS81.set_2) | exact HI257.out)); (case side2 => repeat (first | (with_reducible first | exact HB.out | apply below_alloc | apply pw_below_drewN | apply below_drew1 | refine below_set ?_ (IsS81.ge HI257.out)) | exact HB.out)); rintro e w7 ⟨v264, rfl, ho0, hi, hb, hk⟩; refine ⟨_, rfl, ?_⟩; have n0_ := Aside0.mk (Kd.R_mono (Kd.R_told (Kd.R_oldK (IsS81.apart (show IsS81 w _ g257 t254 t261 t262 from by repeat (first | (with_reducible first | exact HI257.out | apply IsS81.alloc | apply IsS81.drewN | apply IsS81.drew | apply IsS81.set_1 | apply IsS81.set_2) | exact HI257.out)) Z5_45 (by decide)) hk) (Kd.R_base ho0)) (fun _ h_ => h_.1)); have n1_ := Aside0.mk (Kd.R_lower (Kd.R_new' ho0 (Kd.R_lt Z5_45)) (below_size Z5_6)); have n2_ := Aside0.mk (hb); have n3_ := Aside0.mk (hi); clear HO260; clear HB; clear HI257; have HO260 := n0_; have HO265 := n1_; have HB := n2_; have HI257 := n3_; clear n0_ n1_ n2_ n3_; (try clear hb); (try clear hb2); (try clear hk); (try clear hi); (try clear ho0)))
  go_ret2
  exact ⟨_, _, Z5_65, (by (with_reducible repeat (first | apply Kd.R_alloc | apply Kd.R_drewN | apply Kd.R_drew)); exact Kd.R_mono HO260.out (fun _ hk => hk.2)), (by (with_reducible repeat (first | apply Kd.R_alloc | apply Kd.R_drewN | apply Kd.R_drew)); exact Kd.R_mono HO265.out (fun _ hk => hk.2)), Z5_6⟩

/-! ### spec_l1Once: function 59 -/
def spec_l1Once.f (s0_0 : List Int) (s0_1 : Int) (s0_2 : Int) (a1 : Int) : Option (Bool × Int × Int) := (spec_l1Below.f s0_0 s0_1 s0_2 a1).bind fun bt268 => (some ((bt268.1 == 0), bt268.2.1, bt268.2.2))
set_option maxHeartbeats 8000000 in
set_option maxRecDepth 100000 in
theorem spec_l1Once.calls (g : Nat) (s0_0 : List Int) (s0_1 : Int) (s0_2 : Int) (a1 : Int) (r1 : Bool) (r2 : Int) (r3 : Int) (w0 w : World) (hI : IsS81 w0 w g s0_0 s0_1 s0_2) (hB : Below w0.heap.size w0 w) (h : spec_l1Once.f s0_0 s0_1 s0_2 a1 = some (r1, r2, r3)) :
    Calls Try.prog 59 #[.pointer (some ⟨g, 0, none⟩), .int .i64 a1] w fun e w' => e = .returned (.bool r1) ∧ IsS81 w0 w' g s0_0 r2 r3 ∧ Below w0.heap.size w0 w' ∧ KeepBut w w' g none := by
  have HI0 := Aside0.mk hI
  have HK := Aside0.mk (KeepBut.refl w g none)
  have HL := Aside0.mk hB.size
  clear hI
  have HW0 := Aside0.mk hB.size
  have HB := Aside0.mk hB
  clear hB
  have H : ((spec_l1Below.f s0_0 s0_1 s0_2 a1).bind fun bt268 => (some ((bt268.1 == 0), bt268.2.1, bt268.2.2))) = some (r1, r2, r3) := h
  clear h
  replace H := Option.bind_eq_some_iff.mp H
  obtain ⟨⟨t268, t269, t270⟩, A30, H⟩ := H
  replace H : (some ((t268 == 0), t269, t270)) = some (r1, r2, r3) := H
  have A3 := Aside0.mk A30
  clear A30
  simp only [Option.some.injEq, Prod.mk.injEq] at H
  obtain ⟨rfl, rfl, rfl⟩ := H
  go_enter Try.func59, Try.ntmps59
  go_wp2_with (first | ((with_reducible refine gate_callee (f := 61) rfl ?_); refine goesL_ (some 7) rfl rfl Try.func61 (by kernel_rfl) rfl #[.pointer (some ⟨g, 0, none⟩), .int .i64 a1] rfl Z5_12 ?_; (with_reducible refine (spec_l1Below.calls g s0_0 s0_1 s0_2 a1 t268 t269 t270 w0 _ ?side1 ?side2 A3.out).mono ?_); (case side1 => repeat (first | (with_reducible first | exact HI0.out | apply IsS81.alloc | apply IsS81.drewN | apply IsS81.drew | apply IsS81.set_1 | apply IsS81.set_2) | exact HI0.out)); (case side2 => repeat (first | (with_reducible first | exact HB.out | apply below_alloc | apply pw_below_drewN | apply below_drew1 | refine below_set ?_ (IsS81.ge HI0.out)) | exact HB.out)); rintro e w4 ⟨rfl, hi, hb, hk⟩; refine ⟨_, rfl, ?_⟩; have n0_ := Aside0.mk Z5_5; have n1_ := Aside0.mk (hb); have n2_ := Aside0.mk (hi); clear HK; clear HB; clear HI0; have HK := n0_; have HB := n1_; have HI0 := n2_; clear n0_ n1_ n2_; (try clear hb); (try clear hb2); (try clear hk); (try clear hi)))
  go_ret
  exact ⟨Z5_65, Z5_9, Z5_8, Z5_11⟩

/-! ### spec_DrawWithin: function 38 -/
def spec_DrawWithin.f (k : Nat) (l0 : List Int) : Option (List Int × List Int) := (spec_l1New.f k l0).bind fun bt271 => ((spec_l3Draw.f k bt271.1 bt271.2.1 bt271.2.2).bind fun bt275 => ((spec_l1Once.f bt271.1 bt275.2.1 bt275.2.2 2).bind fun bt280 => (if bt280.1 = true then ((spec_l3Draw.f k bt271.1 bt280.2.1 bt280.2.2).bind fun bt283 => ((spec_Meet.f k bt275.1 bt283.1).bind fun t288 => (some (t288, bt275.1)))) else ((spec_l3Draw.f k bt271.1 bt280.2.1 bt280.2.2).bind fun bt291 => (some (bt275.1, bt291.1))))))
theorem spec_DrawWithin.mono : ∀ a0 k, LeO (spec_DrawWithin.f k a0) (spec_DrawWithin.f (k + 1) a0) := by
  intro a0 k
  unfold spec_DrawWithin.f
  repeat' first
      | (with_reducible exact spec_Meet.mono _ _ _)
      | (with_reducible exact spec_l1New.mono _ _)
      | (with_reducible exact spec_l3Draw.mono _ _ _ _)
      | (with_reducible exact LeO.refl _)
      | (with_reducible exact LeO.none _)
      | (with_reducible refine LeO.ite ?_ ?_)
      | (with_reducible refine LeO.bind ?_ (fun _ => ?_))
      | exact spec_Meet.mono _ _ _
      | exact spec_l1New.mono _ _
      | exact spec_l3Draw.mono _ _ _ _
      | exact LeO.none _
      | refine LeO.ite ?_ ?_
      | refine LeO.bind ?_ (fun _ => ?_)
set_option maxHeartbeats 8000000 in
set_option maxRecDepth 100000 in
theorem spec_DrawWithin.calls (k : Nat) (A0 : Option Addr) (c0 : Nat) (l0 : List Int) (r1 : List Int) (r2 : List Int) (w : World) (hr0 : Kd.C (Kd.int .u8) w A0 l0.length l0) (hc0 : l0.length ≤ c0) (h : spec_DrawWithin.f k l0 = some (r1, r2)) :
    Calls Try.prog 38 #[.slice A0 l0.length c0] w fun e w' => ∃ v0_ v1_ : Value, e = .returned (.tuple #[v0_, v1_]) ∧ Kd.R (Kd.int .i64) 3 w' w.heap.size (fun k_ => some k_ ≠ (v1_ : Value).ownBlock) v0_ r1 ∧ Kd.R (Kd.int .i64) 3 w' w.heap.size (fun k_ => some k_ ≠ (v0_ : Value).ownBlock) v1_ r2 ∧ Below w.heap.size w w' := by
  have HR0 := Aside0.mk hr0
  have HC0 := Aside0.mk hc0
  clear hr0 hc0
  have HB := Aside0.mk (Below.refl w.heap.size w)
  have H : ((spec_l1New.f k l0).bind fun bt271 => ((spec_l3Draw.f k bt271.1 bt271.2.1 bt271.2.2).bind fun bt275 => ((spec_l1Once.f bt271.1 bt275.2.1 bt275.2.2 2).bind fun bt280 => (if bt280.1 = true then ((spec_l3Draw.f k bt271.1 bt280.2.1 bt280.2.2).bind fun bt283 => ((spec_Meet.f k bt275.1 bt283.1).bind fun t288 => (some (t288, bt275.1)))) else ((spec_l3Draw.f k bt271.1 bt280.2.1 bt280.2.2).bind fun bt291 => (some (bt275.1, bt291.1))))))) = some (r1, r2) := h
  clear h
  replace H := Option.bind_eq_some_iff.mp H
  obtain ⟨⟨t271, t272, t273⟩, A20, H⟩ := H
  replace H : ((spec_l3Draw.f k t271 t272 t273).bind fun bt275 => ((spec_l1Once.f t271 bt275.2.1 bt275.2.2 2).bind fun bt280 => (if bt280.1 = true then ((spec_l3Draw.f k t271 bt280.2.1 bt280.2.2).bind fun bt283 => ((spec_Meet.f k bt275.1 bt283.1).bind fun t288 => (some (t288, bt275.1)))) else ((spec_l3Draw.f k t271 bt280.2.1 bt280.2.2).bind fun bt291 => (some (bt275.1, bt291.1)))))) = some (r1, r2) := H
  have A2 := Aside0.mk A20
  clear A20
  replace H := Option.bind_eq_some_iff.mp H
  obtain ⟨⟨t275, t278, t279⟩, A30, H⟩ := H
  replace H : ((spec_l1Once.f t271 t278 t279 2).bind fun bt280 => (if bt280.1 = true then ((spec_l3Draw.f k t271 bt280.2.1 bt280.2.2).bind fun bt283 => ((spec_Meet.f k t275 bt283.1).bind fun t288 => (some (t288, t275)))) else ((spec_l3Draw.f k t271 bt280.2.1 bt280.2.2).bind fun bt291 => (some (t275, bt291.1))))) = some (r1, r2) := H
  have A3 := Aside0.mk A30
  clear A30
  replace H := Option.bind_eq_some_iff.mp H
  obtain ⟨⟨t280, t281, t282⟩, A40, H⟩ := H
  replace H : (if t280 = true then ((spec_l3Draw.f k t271 t281 t282).bind fun bt283 => ((spec_Meet.f k t275 bt283.1).bind fun t288 => (some (t288, t275)))) else ((spec_l3Draw.f k t271 t281 t282).bind fun bt291 => (some (t275, bt291.1)))) = some (r1, r2) := H
  have A4 := Aside0.mk A40
  clear A40
  go_enter Try.func38, Try.ntmps38
  repeat' (first | ((with_reducible refine gate_callee (f := 57) rfl ?_); refine goesL_ (some 7) rfl rfl Try.func57 (by kernel_rfl) rfl #[.slice A0 l0.length c0] rfl Z5_12 ?_; (with_reducible refine (spec_l1New.calls k _ _ l0 t271 t272 t273 w _ ?side1 ?side2 ?side3 A2.out).mono ?_); (case side1 => repeat (first | (with_reducible first | exact HB.out | apply below_alloc | apply pw_below_drewN | apply below_drew1) | exact HB.out)); (case side2 => exact HR0.out); (case side3 => exact HC0.out); rintro e w8 ⟨g274, rfl, hi, hb, hb2⟩; refine ⟨_, rfl, ?_⟩; have n0_ := Aside0.mk (hb); have n1_ := Aside0.mk (hi); clear HB; have HB := n0_; have HI274 := n1_; clear n0_ n1_; (try clear hb); (try clear hb2); (try clear hk); (try clear hi); clear A2) | ((fail_if_success (with_reducible refine gate_callee (f := 58) rfl ?_)); (first | go_values | go_skip | go_guarded | go_step | go_upon | go_back | (simp only [Int.not_lt, Int.not_le] at *; go_simp) | (go_ite <;> go_prune <;> (try go_simp)) | (split <;> (first | (rename_i hx; exact (hx _ rfl).elim) | go_prune)))))
  by_cases c5 : t280 = true
  rotate_left
  · replace c5 := Bool.eq_false_iff.mpr c5
    subst c5
    have H1 : ((spec_l3Draw.f k t271 t281 t282).bind fun bt291 => (some (t275, bt291.1))) = some (r1, r2) := by rw [if_neg (show ¬ (false = true) by decide)] at H; exact H
    clear H
    have H := H1
    clear H1
    replace H := Option.bind_eq_some_iff.mp H
    obtain ⟨⟨t291, t294, t295⟩, A150, H⟩ := H
    replace H : (some (t275, t291)) = some (r1, r2) := H
    have A15 := Aside0.mk A150
    clear A150
    simp only [Option.some.injEq, Prod.mk.injEq] at H
    obtain ⟨rfl, rfl⟩ := H
    go_wp2_with (first | ((with_reducible refine gate_callee (f := 58) rfl ?_); refine goesL_ (some 9) rfl rfl Try.func58 (by kernel_rfl) rfl #[.pointer (some ⟨g274, 0, none⟩)] rfl Z5_12 ?_; (with_reducible refine (spec_l3Draw.calls k g274 t271 t272 t273 t275 t278 t279 w _ ?side1 ?side2 A3.out).mono ?_); (case side1 => repeat (first | (with_reducible first | exact HI274.out | apply IsS81.alloc | apply IsS81.drewN | apply IsS81.drew | apply IsS81.set_1 | apply IsS81.set_2) | exact HI274.out)); (case side2 => repeat (first | (with_reducible first | exact HB.out | apply below_alloc | apply pw_below_drewN | apply below_drew1 | refine below_set ?_ (IsS81.ge HI274.out)) | exact HB.out)); rintro e w9 ⟨v276, rfl, ho0, hi, hb, hk⟩; refine ⟨_, rfl, ?_⟩; have n0_ := Aside0.mk Z5_4; have n1_ := Aside0.mk (hb); have n2_ := Aside0.mk (hi); clear HB; clear HI274; have HO277 := n0_; have HB := n1_; have HI274 := n2_; clear n0_ n1_ n2_; (try clear hb); (try clear hb2); (try clear hk); (try clear hi); (try clear ho0)) | ((with_reducible refine gate_callee (f := 59) rfl ?_); refine goesL_ (some 11) rfl rfl Try.func59 (by kernel_rfl) rfl #[.pointer (some ⟨g274, 0, none⟩), .int .i64 2] rfl Z5_12 ?_; (with_reducible refine (spec_l1Once.calls g274 t271 t278 t279 2 false t281 t282 w _ ?side1 ?side2 A4.out).mono ?_); (case side1 => repeat (first | (with_reducible first | exact HI274.out | apply IsS81.alloc | apply IsS81.drewN | apply IsS81.drew | apply IsS81.set_1 | apply IsS81.set_2) | exact HI274.out)); (case side2 => repeat (first | (with_reducible first | exact HB.out | apply below_alloc | apply pw_below_drewN | apply below_drew1 | refine below_set ?_ (IsS81.ge HI274.out)) | exact HB.out)); rintro e w18 ⟨rfl, hi, hb, hk⟩; refine ⟨_, rfl, ?_⟩; have n0_ := Aside0.mk Z5_2; have n1_ := Aside0.mk (hb); have n2_ := Aside0.mk (hi); clear HO277; clear HB; clear HI274; have HO277 := n0_; have HB := n1_; have HI274 := n2_; clear n0_ n1_ n2_; (try clear hb); (try clear hb2); (try clear hk); (try clear hi)) | ((with_reducible refine gate_callee (f := 58) rfl ?_); refine goesL_ (some 19) rfl rfl Try.func58 (by kernel_rfl) rfl #[.pointer (some ⟨g274, 0, none⟩)] rfl Z5_12 ?_; (with_reducible refine (spec_l3Draw.calls k g274 t271 t281 t282 t291 t294 t295 w _ ?side1 ?side2 A15.out).mono ?_); (case side1 => repeat (first | (with_reducible first | exact HI274.out | apply IsS81.alloc | apply IsS81.drewN | apply IsS81.drew | apply IsS81.set_1 | apply IsS81.set_2) | exact HI274.out)); (case side2 => repeat (first | (with_reducible first | exact HB.out | apply below_alloc | apply pw_below_drewN | apply below_drew1 | refine below_set ?_ (IsS81.ge HI274.out)) | exact HB.out)); rintro e w19 ⟨v292, rfl, ho0, hi, hb, hk⟩; refine ⟨_, rfl, ?_⟩; have n0_ := Aside0.mk Z5_1; have n1_ := Aside0.mk Z5_3; have n2_ := Aside0.mk (hb); have n3_ := Aside0.mk (hi); clear HO277; clear HB; clear HI274; have HO277 := n0_; have HO293 := n1_; have HB := n2_; have HI274 := n3_; clear n0_ n1_ n2_ n3_; (try clear hb); (try clear hb2); (try clear hk); (try clear hi); (try clear ho0)))
    go_ret2
    exact ⟨_, _, Z5_65, Z5_28, (by (with_reducible repeat (first | apply Kd.R_alloc | apply Kd.R_drewN | apply Kd.R_drew)); exact Kd.R_mono HO293.out (fun _ hk => hk.2)), Z5_7⟩
  subst c5
  have H1 : ((spec_l3Draw.f k t271 t281 t282).bind fun bt283 => ((spec_Meet.f k t275 bt283.1).bind fun t288 => (some (t288, t275)))) = some (r1, r2) := by rw [if_pos rfl] at H; exact H
  clear H
  have H := H1
  clear H1
  replace H := Option.bind_eq_some_iff.mp H
  obtain ⟨⟨t283, t286, t287⟩, A60, H⟩ := H
  replace H : ((spec_Meet.f k t275 t283).bind fun t288 => (some (t288, t275))) = some (r1, r2) := H
  have A6 := Aside0.mk A60
  clear A60
  replace H := Option.bind_eq_some_iff.mp H
  obtain ⟨t288, A70, H⟩ := H
  replace H : (some (t288, t275)) = some (r1, r2) := H
  have A7 := Aside0.mk A70
  clear A70
  simp only [Option.some.injEq, Prod.mk.injEq] at H
  obtain ⟨rfl, rfl⟩ := H
  go_wp2_with (first | ((with_reducible refine gate_callee (f := 58) rfl ?_); refine goesL_ (some 9) rfl rfl Try.func58 (by kernel_rfl) rfl #[.pointer (some ⟨g274, 0, none⟩)] rfl Z5_12 ?_; (with_reducible refine (spec_l3Draw.calls k g274 t271 t272 t273 t275 t278 t279 w _ ?side1 ?side2 A3.out).mono ?_); (case side1 => repeat (first | (with_reducible first | exact HI274.out | apply IsS81.alloc | apply IsS81.drewN | apply IsS81.drew | apply IsS81.set_1 | apply IsS81.set_2) | exact HI274.out)); (case side2 => repeat (first | (with_reducible first | exact HB.out | apply below_alloc | apply pw_below_drewN | apply below_drew1 | refine below_set ?_ (IsS81.ge HI274.out)) | exact HB.out)); rintro e w9 ⟨v276, rfl, ho0, hi, hb, hk⟩; refine ⟨_, rfl, ?_⟩; have n0_ := Aside0.mk Z5_4; have n1_ := Aside0.mk (hb); have n2_ := Aside0.mk (hi); clear HB; clear HI274; have HO277 := n0_; have HB := n1_; have HI274 := n2_; clear n0_ n1_ n2_; (try clear hb); (try clear hb2); (try clear hk); (try clear hi); (try clear ho0)) | ((with_reducible refine gate_callee (f := 59) rfl ?_); refine goesL_ (some 11) rfl rfl Try.func59 (by kernel_rfl) rfl #[.pointer (some ⟨g274, 0, none⟩), .int .i64 2] rfl Z5_12 ?_; (with_reducible refine (spec_l1Once.calls g274 t271 t278 t279 2 true t281 t282 w _ ?side1 ?side2 A4.out).mono ?_); (case side1 => repeat (first | (with_reducible first | exact HI274.out | apply IsS81.alloc | apply IsS81.drewN | apply IsS81.drew | apply IsS81.set_1 | apply IsS81.set_2) | exact HI274.out)); (case side2 => repeat (first | (with_reducible first | exact HB.out | apply below_alloc | apply pw_below_drewN | apply below_drew1 | refine below_set ?_ (IsS81.ge HI274.out)) | exact HB.out)); rintro e w10 ⟨rfl, hi, hb, hk⟩; refine ⟨_, rfl, ?_⟩; have n0_ := Aside0.mk Z5_2; have n1_ := Aside0.mk (hb); have n2_ := Aside0.mk (hi); clear HO277; clear HB; clear HI274; have HO277 := n0_; have HB := n1_; have HI274 := n2_; clear n0_ n1_ n2_; (try clear hb); (try clear hb2); (try clear hk); (try clear hi)) | ((with_reducible refine gate_callee (f := 58) rfl ?_); refine goesL_ (some 14) rfl rfl Try.func58 (by kernel_rfl) rfl #[.pointer (some ⟨g274, 0, none⟩)] rfl Z5_12 ?_; (with_reducible refine (spec_l3Draw.calls k g274 t271 t281 t282 t283 t286 t287 w _ ?side1 ?side2 A6.out).mono ?_); (case side1 => repeat (first | (with_reducible first | exact HI274.out | apply IsS81.alloc | apply IsS81.drewN | apply IsS81.drew | apply IsS81.set_1 | apply IsS81.set_2) | exact HI274.out)); (case side2 => repeat (first | (with_reducible first | exact HB.out | apply below_alloc | apply pw_below_drewN | apply below_drew1 | refine below_set ?_ (IsS81.ge HI274.out)) | exact HB.out)); rintro e w11 ⟨v284, rfl, ho0, hi, hb, hk⟩; refine ⟨_, rfl, ?_⟩; have n0_ := Aside0.mk Z5_1; have n1_ := Aside0.mk Z5_3; have n2_ := Aside0.mk (hb); have n3_ := Aside0.mk (hi); clear HO277; clear HB; clear HI274; have HO277 := n0_; have HO285 := n1_; have HB := n2_; have HI274 := n3_; clear n0_ n1_ n2_ n3_; (try clear hb); (try clear hb2); (try clear hk); (try clear hi); (try clear ho0); obtain ⟨Ao12, co12, eo12⟩ := Kd.R_slice HO277.out; subst eo12; obtain ⟨Ao13, co13, eo13⟩ := Kd.R_slice HO285.out; subst eo13) | ((with_reducible refine gate_callee (f := 25) rfl ?_); refine goesL_ (some 15) rfl rfl Try.func25 (by kernel_rfl) rfl #[.slice Ao12 t275.length co12, .slice Ao13 t283.length co13] rfl Z5_12 ?_; (with_reducible refine (spec_Meet.calls k _ _ t275 _ _ t283 t288 _ ?side1 ?side2 ?side3 ?side4 A7.out).mono ?_); (case side1 => repeat (first | exact (Kd.R_reads' HO277.out).2.2 | (with_reducible refine Kd.C_alloc ?_ _) | (with_reducible refine Kd.C_drewN ?_ _) | (with_reducible refine Kd.C_drew ?_))); (case side2 => exact (Kd.R_reads' HO277.out).2.1); (case side3 => repeat (first | exact (Kd.R_reads' HO285.out).2.2 | (with_reducible refine Kd.C_alloc ?_ _) | (with_reducible refine Kd.C_drewN ?_ _) | (with_reducible refine Kd.C_drew ?_))); (case side4 => exact (Kd.R_reads' HO285.out).2.1); rintro e w14 ⟨v289, rfl, ho0, hb⟩; refine ⟨_, rfl, ?_⟩; have n0_ := Aside0.mk (Kd.R_elder' Z5_46 (Kd.R_base ho0) hb); have n1_ := Aside0.mk (Kd.R_elder' Z5_47 (Kd.R_base ho0) hb); have n2_ := Aside0.mk (Kd.R_lower (Kd.R_new' (Kd.R_new' ho0 (Kd.R_lt Z5_46)) (Kd.R_lt Z5_47)) (below_size Z5_7)); have n3_ := Aside0.mk (IsS81.below (by repeat (first | (with_reducible first | exact HI274.out | apply IsS81.alloc | apply IsS81.drewN | apply IsS81.drew | apply IsS81.set_1 | apply IsS81.set_2) | exact HI274.out)) hb); have n4_ := Aside0.mk (below_step Z5_7 hb); clear HO277; clear HO285; clear HI274; clear HB; have HO277 := n0_; have HO285 := n1_; have HO290 := n2_; have HI274 := n3_; have HB := n4_; clear n0_ n1_ n2_ n3_ n4_; (try clear hb); (try clear hb2); (try clear hk); (try clear hi); (try clear ho0)))
  go_ret2
  exact ⟨_, _, Z5_65, (by (with_reducible repeat (first | apply Kd.R_alloc | apply Kd.R_drewN | apply Kd.R_drew)); exact Kd.R_mono HO290.out (fun _ hk => hk.1.2)), Z5_28, Z5_7⟩

/-! ### laws_FnSetSums: function 11 -/
def laws_FnSetSums.f (k : Nat) (l0 : List Int) : Option (Bool) := (laws_big.f l0).bind fun t296 => (if t296 = true then (some true) else ((spec_DrawMeet.f k l0).bind fun bt297 => ((impl_Union.f bt297.1 bt297.2).bind fun t303 => ((impl_Meet.f k bt297.1 bt297.2).bind fun t306 => ((impl_Rest.f k bt297.1 bt297.2).bind fun t309 => ((spec_DrawWithin.f k l0).bind fun bt312 => ((spec_Union.f k bt297.1 bt297.2).bind fun t318 => ((laws_sameInts.f k t303 t318).bind fun t321 => (if t321 = true then ((spec_Meet.f k bt297.1 bt297.2).bind fun t322 => ((laws_sameInts.f k t306 t322).bind fun t325 => (if t325 = true then ((spec_Rest.f k bt297.1 bt297.2).bind fun t326 => ((laws_sameInts.f k t309 t326).bind fun t329 => (if t329 = true then ((impl_Within.f k bt312.1 bt312.2).bind fun t330 => ((spec_Within.f k bt312.1 bt312.2).bind fun t331 => (if (t330 != t331) = true then (some false) else ((impl_Within.f k bt312.1 bt312.2).bind fun t332 => ((impl_Meet.f k bt312.1 bt312.2).bind fun t333 => ((impl_SetOf.f bt312.1).bind fun t336 => ((laws_sameInts.f k t333 t336).bind fun t339 => (if (t332 != t339) = true then (some false) else ((impl_Union.f t306 t309).bind fun t340 => ((impl_SetOf.f bt297.1).bind fun t343 => ((laws_sameInts.f k t340 t343).bind fun t346 => (if t346 = true then ((impl_Within.f k t306 bt297.1).bind fun t347 => (if t347 = true then ((impl_Within.f k t306 bt297.2).bind fun t348 => (if t348 = true then ((impl_Within.f k bt297.1 t303).bind fun t349 => (if t349 = true then ((impl_Within.f k bt297.2 t303).bind fun t350 => (if t350 = true then ((impl_SetOf.f bt297.1).bind fun t351 => ((impl_SetOf.f bt297.2).bind fun t354 => (if (t303.length : Int) = (wrap64 ((wrap64 ((t351.length : Int) + (t354.length : Int))) - (t306.length : Int))) then ((impl_Meet.f k t309 bt297.2).bind fun t357 => (some ((t357.length : Int) == 0))) else (some false)))) else (some false))) else (some false))) else (some false))) else (some false))) else (some false))))))))))))) else (some false)))) else (some false)))) else (some false))))))))))
theorem laws_FnSetSums.mono : ∀ a0 k, LeO (laws_FnSetSums.f k a0) (laws_FnSetSums.f (k + 1) a0) := by
  intro a0 k
  unfold laws_FnSetSums.f
  repeat' first
      | (with_reducible exact impl_Meet.mono _ _ _)
      | (with_reducible exact impl_Rest.mono _ _ _)
      | (with_reducible exact impl_Within.mono _ _ _)
      | (with_reducible exact laws_sameInts.mono _ _ _)
      | (with_reducible exact spec_DrawMeet.mono _ _)
      | (with_reducible exact spec_DrawWithin.mono _ _)
      | (with_reducible exact spec_Meet.mono _ _ _)
      | (with_reducible exact spec_Rest.mono _ _ _)
      | (with_reducible exact spec_Union.mono _ _ _)
      | (with_reducible exact spec_Within.mono _ _ _)
      | (with_reducible exact LeO.refl _)
      | (with_reducible exact LeO.none _)
      | (with_reducible refine LeO.ite ?_ ?_)
      | (with_reducible refine LeO.bind ?_ (fun _ => ?_))
      | exact impl_Meet.mono _ _ _
      | exact impl_Rest.mono _ _ _
      | exact impl_Within.mono _ _ _
      | exact laws_sameInts.mono _ _ _
      | exact spec_DrawMeet.mono _ _
      | exact spec_DrawWithin.mono _ _
      | exact spec_Meet.mono _ _ _
      | exact spec_Rest.mono _ _ _
      | exact spec_Union.mono _ _ _
      | exact spec_Within.mono _ _ _
      | exact LeO.none _
      | refine LeO.ite ?_ ?_
      | refine LeO.bind ?_ (fun _ => ?_)
set_option maxHeartbeats 8000000 in
set_option maxRecDepth 100000 in
theorem laws_FnSetSums.calls (k : Nat) (A0 : Option Addr) (c0 : Nat) (l0 : List Int) (r : Bool) (w : World) (hr0 : Kd.C (Kd.int .u8) w A0 l0.length l0) (hc0 : l0.length ≤ c0) (hrt : r = true) (h : laws_FnSetSums.f k l0 = some r) :
    Calls Try.prog 11 #[.slice A0 l0.length c0] w fun e w' => e = .returned (.bool r) ∧ Below w.heap.size w w' := by
  have HRT := Aside0.mk hrt
  clear hrt
  have HR0 := Aside0.mk hr0
  have HC0 := Aside0.mk hc0
  clear hr0 hc0
  have HB := Aside0.mk (Below.refl w.heap.size w)
  have H : ((laws_big.f l0).bind fun t296 => (if t296 = true then (some true) else ((spec_DrawMeet.f k l0).bind fun bt297 => ((impl_Union.f bt297.1 bt297.2).bind fun t303 => ((impl_Meet.f k bt297.1 bt297.2).bind fun t306 => ((impl_Rest.f k bt297.1 bt297.2).bind fun t309 => ((spec_DrawWithin.f k l0).bind fun bt312 => ((spec_Union.f k bt297.1 bt297.2).bind fun t318 => ((laws_sameInts.f k t303 t318).bind fun t321 => (if t321 = true then ((spec_Meet.f k bt297.1 bt297.2).bind fun t322 => ((laws_sameInts.f k t306 t322).bind fun t325 => (if t325 = true then ((spec_Rest.f k bt297.1 bt297.2).bind fun t326 => ((laws_sameInts.f k t309 t326).bind fun t329 => (if t329 = true then ((impl_Within.f k bt312.1 bt312.2).bind fun t330 => ((spec_Within.f k bt312.1 bt312.2).bind fun t331 => (if (t330 != t331) = true then (some false) else ((impl_Within.f k bt312.1 bt312.2).bind fun t332 => ((impl_Meet.f k bt312.1 bt312.2).bind fun t333 => ((impl_SetOf.f bt312.1).bind fun t336 => ((laws_sameInts.f k t333 t336).bind fun t339 => (if (t332 != t339) = true then (some false) else ((impl_Union.f t306 t309).bind fun t340 => ((impl_SetOf.f bt297.1).bind fun t343 => ((laws_sameInts.f k t340 t343).bind fun t346 => (if t346 = true then ((impl_Within.f k t306 bt297.1).bind fun t347 => (if t347 = true then ((impl_Within.f k t306 bt297.2).bind fun t348 => (if t348 = true then ((impl_Within.f k bt297.1 t303).bind fun t349 => (if t349 = true then ((impl_Within.f k bt297.2 t303).bind fun t350 => (if t350 = true then ((impl_SetOf.f bt297.1).bind fun t351 => ((impl_SetOf.f bt297.2).bind fun t354 => (if (t303.length : Int) = (wrap64 ((wrap64 ((t351.length : Int) + (t354.length : Int))) - (t306.length : Int))) then ((impl_Meet.f k t309 bt297.2).bind fun t357 => (some ((t357.length : Int) == 0))) else (some false)))) else (some false))) else (some false))) else (some false))) else (some false))) else (some false))))))))))))) else (some false)))) else (some false)))) else (some false))))))))))) = some r := h
  clear h
  replace H := Option.bind_eq_some_iff.mp H
  obtain ⟨t296, A20, H⟩ := H
  replace H : (if t296 = true then (some true) else ((spec_DrawMeet.f k l0).bind fun bt297 => ((impl_Union.f bt297.1 bt297.2).bind fun t303 => ((impl_Meet.f k bt297.1 bt297.2).bind fun t306 => ((impl_Rest.f k bt297.1 bt297.2).bind fun t309 => ((spec_DrawWithin.f k l0).bind fun bt312 => ((spec_Union.f k bt297.1 bt297.2).bind fun t318 => ((laws_sameInts.f k t303 t318).bind fun t321 => (if t321 = true then ((spec_Meet.f k bt297.1 bt297.2).bind fun t322 => ((laws_sameInts.f k t306 t322).bind fun t325 => (if t325 = true then ((spec_Rest.f k bt297.1 bt297.2).bind fun t326 => ((laws_sameInts.f k t309 t326).bind fun t329 => (if t329 = true then ((impl_Within.f k bt312.1 bt312.2).bind fun t330 => ((spec_Within.f k bt312.1 bt312.2).bind fun t331 => (if (t330 != t331) = true then (some false) else ((impl_Within.f k bt312.1 bt312.2).bind fun t332 => ((impl_Meet.f k bt312.1 bt312.2).bind fun t333 => ((impl_SetOf.f bt312.1).bind fun t336 => ((laws_sameInts.f k t333 t336).bind fun t339 => (if (t332 != t339) = true then (some false) else ((impl_Union.f t306 t309).bind fun t340 => ((impl_SetOf.f bt297.1).bind fun t343 => ((laws_sameInts.f k t340 t343).bind fun t346 => (if t346 = true then ((impl_Within.f k t306 bt297.1).bind fun t347 => (if t347 = true then ((impl_Within.f k t306 bt297.2).bind fun t348 => (if t348 = true then ((impl_Within.f k bt297.1 t303).bind fun t349 => (if t349 = true then ((impl_Within.f k bt297.2 t303).bind fun t350 => (if t350 = true then ((impl_SetOf.f bt297.1).bind fun t351 => ((impl_SetOf.f bt297.2).bind fun t354 => (if (t303.length : Int) = (wrap64 ((wrap64 ((t351.length : Int) + (t354.length : Int))) - (t306.length : Int))) then ((impl_Meet.f k t309 bt297.2).bind fun t357 => (some ((t357.length : Int) == 0))) else (some false)))) else (some false))) else (some false))) else (some false))) else (some false))) else (some false))))))))))))) else (some false)))) else (some false)))) else (some false)))))))))) = some r := H
  have A2 := Aside0.mk A20
  clear A20
  by_cases c3 : t296 = true
  · subst c3
    have H1 : (some true) = some r := by rw [if_pos rfl] at H; exact H
    clear H
    have H := H1
    clear H1
    obtain rfl := Option.some.inj H
    go_enter Try.func11, Try.ntmps11
    go_wp2_with (first | ((with_reducible refine gate_callee (f := 31) rfl ?_); refine goesL_ (some 11) rfl rfl Try.func31 (by kernel_rfl) rfl #[.slice A0 l0.length c0] rfl Z5_12 ?_; (with_reducible refine (laws_big.calls _ _ l0 true _ ?side1 ?side2 A2.out).mono ?_); (case side1 => repeat (first | exact HR0.out | (with_reducible refine Kd.C_alloc ?_ _) | (with_reducible refine Kd.C_drewN ?_ _) | (with_reducible refine Kd.C_drew ?_))); (case side2 => exact HC0.out); rintro e w' ⟨rfl, ⟨nd, rfl⟩⟩; refine ⟨_, rfl, ?_⟩))
    go_ret
    exact ⟨Z5_65, Z5_29⟩
  replace c3 := Bool.eq_false_iff.mpr c3
  subst c3
  have H1 : ((spec_DrawMeet.f k l0).bind fun bt297 => ((impl_Union.f bt297.1 bt297.2).bind fun t303 => ((impl_Meet.f k bt297.1 bt297.2).bind fun t306 => ((impl_Rest.f k bt297.1 bt297.2).bind fun t309 => ((spec_DrawWithin.f k l0).bind fun bt312 => ((spec_Union.f k bt297.1 bt297.2).bind fun t318 => ((laws_sameInts.f k t303 t318).bind fun t321 => (if t321 = true then ((spec_Meet.f k bt297.1 bt297.2).bind fun t322 => ((laws_sameInts.f k t306 t322).bind fun t325 => (if t325 = true then ((spec_Rest.f k bt297.1 bt297.2).bind fun t326 => ((laws_sameInts.f k t309 t326).bind fun t329 => (if t329 = true then ((impl_Within.f k bt312.1 bt312.2).bind fun t330 => ((spec_Within.f k bt312.1 bt312.2).bind fun t331 => (if (t330 != t331) = true then (some false) else ((impl_Within.f k bt312.1 bt312.2).bind fun t332 => ((impl_Meet.f k bt312.1 bt312.2).bind fun t333 => ((impl_SetOf.f bt312.1).bind fun t336 => ((laws_sameInts.f k t333 t336).bind fun t339 => (if (t332 != t339) = true then (some false) else ((impl_Union.f t306 t309).bind fun t340 => ((impl_SetOf.f bt297.1).bind fun t343 => ((laws_sameInts.f k t340 t343).bind fun t346 => (if t346 = true then ((impl_Within.f k t306 bt297.1).bind fun t347 => (if t347 = true then ((impl_Within.f k t306 bt297.2).bind fun t348 => (if t348 = true then ((impl_Within.f k bt297.1 t303).bind fun t349 => (if t349 = true then ((impl_Within.f k bt297.2 t303).bind fun t350 => (if t350 = true then ((impl_SetOf.f bt297.1).bind fun t351 => ((impl_SetOf.f bt297.2).bind fun t354 => (if (t303.length : Int) = (wrap64 ((wrap64 ((t351.length : Int) + (t354.length : Int))) - (t306.length : Int))) then ((impl_Meet.f k t309 bt297.2).bind fun t357 => (some ((t357.length : Int) == 0))) else (some false)))) else (some false))) else (some false))) else (some false))) else (some false))) else (some false))))))))))))) else (some false)))) else (some false)))) else (some false))))))))) = some r := by rw [if_neg (show ¬ (false = true) by decide)] at H; exact H
  clear H
  have H := H1
  clear H1
  replace H := Option.bind_eq_some_iff.mp H
  obtain ⟨⟨t297, t298⟩, A40, H⟩ := H
  replace H : ((impl_Union.f t297 t298).bind fun t303 => ((impl_Meet.f k t297 t298).bind fun t306 => ((impl_Rest.f k t297 t298).bind fun t309 => ((spec_DrawWithin.f k l0).bind fun bt312 => ((spec_Union.f k t297 t298).bind fun t318 => ((laws_sameInts.f k t303 t318).bind fun t321 => (if t321 = true then ((spec_Meet.f k t297 t298).bind fun t322 => ((laws_sameInts.f k t306 t322).bind fun t325 => (if t325 = true then ((spec_Rest.f k t297 t298).bind fun t326 => ((laws_sameInts.f k t309 t326).bind fun t329 => (if t329 = true then ((impl_Within.f k bt312.1 bt312.2).bind fun t330 => ((spec_Within.f k bt312.1 bt312.2).bind fun t331 => (if (t330 != t331) = true then (some false) else ((impl_Within.f k bt312.1 bt312.2).bind fun t332 => ((impl_Meet.f k bt312.1 bt312.2).bind fun t333 => ((impl_SetOf.f bt312.1).bind fun t336 => ((laws_sameInts.f k t333 t336).bind fun t339 => (if (t332 != t339) = true then (some false) else ((impl_Union.f t306 t309).bind fun t340 => ((impl_SetOf.f t297).bind fun t343 => ((laws_sameInts.f k t340 t343).bind fun t346 => (if t346 = true then ((impl_Within.f k t306 t297).bind fun t347 => (if t347 = true then ((impl_Within.f k t306 t298).bind fun t348 => (if t348 = true then ((impl_Within.f k t297 t303).bind fun t349 => (if t349 = true then ((impl_Within.f k t298 t303).bind fun t350 => (if t350 = true then ((impl_SetOf.f t297).bind fun t351 => ((impl_SetOf.f t298).bind fun t354 => (if (t303.length : Int) = (wrap64 ((wrap64 ((t351.length : Int) + (t354.length : Int))) - (t306.length : Int))) then ((impl_Meet.f k t309 t298).bind fun t357 => (some ((t357.length : Int) == 0))) else (some false)))) else (some false))) else (some false))) else (some false))) else (some false))) else (some false))))))))))))) else (some false)))) else (some false)))) else (some false)))))))) = some r := H
  have A4 := Aside0.mk A40
  clear A40
  replace H := Option.bind_eq_some_iff.mp H
  obtain ⟨t303, A50, H⟩ := H
  replace H : ((impl_Meet.f k t297 t298).bind fun t306 => ((impl_Rest.f k t297 t298).bind fun t309 => ((spec_DrawWithin.f k l0).bind fun bt312 => ((spec_Union.f k t297 t298).bind fun t318 => ((laws_sameInts.f k t303 t318).bind fun t321 => (if t321 = true then ((spec_Meet.f k t297 t298).bind fun t322 => ((laws_sameInts.f k t306 t322).bind fun t325 => (if t325 = true then ((spec_Rest.f k t297 t298).bind fun t326 => ((laws_sameInts.f k t309 t326).bind fun t329 => (if t329 = true then ((impl_Within.f k bt312.1 bt312.2).bind fun t330 => ((spec_Within.f k bt312.1 bt312.2).bind fun t331 => (if (t330 != t331) = true then (some false) else ((impl_Within.f k bt312.1 bt312.2).bind fun t332 => ((impl_Meet.f k bt312.1 bt312.2).bind fun t333 => ((impl_SetOf.f bt312.1).bind fun t336 => ((laws_sameInts.f k t333 t336).bind fun t339 => (if (t332 != t339) = true then (some false) else ((impl_Union.f t306 t309).bind fun t340 => ((impl_SetOf.f t297).bind fun t343 => ((laws_sameInts.f k t340 t343).bind fun t346 => (if t346 = true then ((impl_Within.f k t306 t297).bind fun t347 => (if t347 = true then ((impl_Within.f k t306 t298).bind fun t348 => (if t348 = true then ((impl_Within.f k t297 t303).bind fun t349 => (if t349 = true then ((impl_Within.f k t298 t303).bind fun t350 => (if t350 = true then ((impl_SetOf.f t297).bind fun t351 => ((impl_SetOf.f t298).bind fun t354 => (if (t303.length : Int) = (wrap64 ((wrap64 ((t351.length : Int) + (t354.length : Int))) - (t306.length : Int))) then ((impl_Meet.f k t309 t298).bind fun t357 => (some ((t357.length : Int) == 0))) else (some false)))) else (some false))) else (some false))) else (some false))) else (some false))) else (some false))))))))))))) else (some false)))) else (some false)))) else (some false))))))) = some r := H
  have A5 := Aside0.mk A50
  clear A50
  replace H := Option.bind_eq_some_iff.mp H
  obtain ⟨t306, A60, H⟩ := H
  replace H : ((impl_Rest.f k t297 t298).bind fun t309 => ((spec_DrawWithin.f k l0).bind fun bt312 => ((spec_Union.f k t297 t298).bind fun t318 => ((laws_sameInts.f k t303 t318).bind fun t321 => (if t321 = true then ((spec_Meet.f k t297 t298).bind fun t322 => ((laws_sameInts.f k t306 t322).bind fun t325 => (if t325 = true then ((spec_Rest.f k t297 t298).bind fun t326 => ((laws_sameInts.f k t309 t326).bind fun t329 => (if t329 = true then ((impl_Within.f k bt312.1 bt312.2).bind fun t330 => ((spec_Within.f k bt312.1 bt312.2).bind fun t331 => (if (t330 != t331) = true then (some false) else ((impl_Within.f k bt312.1 bt312.2).bind fun t332 => ((impl_Meet.f k bt312.1 bt312.2).bind fun t333 => ((impl_SetOf.f bt312.1).bind fun t336 => ((laws_sameInts.f k t333 t336).bind fun t339 => (if (t332 != t339) = true then (some false) else ((impl_Union.f t306 t309).bind fun t340 => ((impl_SetOf.f t297).bind fun t343 => ((laws_sameInts.f k t340 t343).bind fun t346 => (if t346 = true then ((impl_Within.f k t306 t297).bind fun t347 => (if t347 = true then ((impl_Within.f k t306 t298).bind fun t348 => (if t348 = true then ((impl_Within.f k t297 t303).bind fun t349 => (if t349 = true then ((impl_Within.f k t298 t303).bind fun t350 => (if t350 = true then ((impl_SetOf.f t297).bind fun t351 => ((impl_SetOf.f t298).bind fun t354 => (if (t303.length : Int) = (wrap64 ((wrap64 ((t351.length : Int) + (t354.length : Int))) - (t306.length : Int))) then ((impl_Meet.f k t309 t298).bind fun t357 => (some ((t357.length : Int) == 0))) else (some false)))) else (some false))) else (some false))) else (some false))) else (some false))) else (some false))))))))))))) else (some false)))) else (some false)))) else (some false)))))) = some r := H
  have A6 := Aside0.mk A60
  clear A60
  replace H := Option.bind_eq_some_iff.mp H
  obtain ⟨t309, A70, H⟩ := H
  replace H : ((spec_DrawWithin.f k l0).bind fun bt312 => ((spec_Union.f k t297 t298).bind fun t318 => ((laws_sameInts.f k t303 t318).bind fun t321 => (if t321 = true then ((spec_Meet.f k t297 t298).bind fun t322 => ((laws_sameInts.f k t306 t322).bind fun t325 => (if t325 = true then ((spec_Rest.f k t297 t298).bind fun t326 => ((laws_sameInts.f k t309 t326).bind fun t329 => (if t329 = true then ((impl_Within.f k bt312.1 bt312.2).bind fun t330 => ((spec_Within.f k bt312.1 bt312.2).bind fun t331 => (if (t330 != t331) = true then (some false) else ((impl_Within.f k bt312.1 bt312.2).bind fun t332 => ((impl_Meet.f k bt312.1 bt312.2).bind fun t333 => ((impl_SetOf.f bt312.1).bind fun t336 => ((laws_sameInts.f k t333 t336).bind fun t339 => (if (t332 != t339) = true then (some false) else ((impl_Union.f t306 t309).bind fun t340 => ((impl_SetOf.f t297).bind fun t343 => ((laws_sameInts.f k t340 t343).bind fun t346 => (if t346 = true then ((impl_Within.f k t306 t297).bind fun t347 => (if t347 = true then ((impl_Within.f k t306 t298).bind fun t348 => (if t348 = true then ((impl_Within.f k t297 t303).bind fun t349 => (if t349 = true then ((impl_Within.f k t298 t303).bind fun t350 => (if t350 = true then ((impl_SetOf.f t297).bind fun t351 => ((impl_SetOf.f t298).bind fun t354 => (if (t303.length : Int) = (wrap64 ((wrap64 ((t351.length : Int) + (t354.length : Int))) - (t306.length : Int))) then ((impl_Meet.f k t309 t298).bind fun t357 => (some ((t357.length : Int) == 0))) else (some false)))) else (some false))) else (some false))) else (some false))) else (some false))) else (some false))))))))))))) else (some false)))) else (some false)))) else (some false))))) = some r := H
  have A7 := Aside0.mk A70
  clear A70
  replace H := Option.bind_eq_some_iff.mp H
  obtain ⟨⟨t312, t313⟩, A80, H⟩ := H
  replace H : ((spec_Union.f k t297 t298).bind fun t318 => ((laws_sameInts.f k t303 t318).bind fun t321 => (if t321 = true then ((spec_Meet.f k t297 t298).bind fun t322 => ((laws_sameInts.f k t306 t322).bind fun t325 => (if t325 = true then ((spec_Rest.f k t297 t298).bind fun t326 => ((laws_sameInts.f k t309 t326).bind fun t329 => (if t329 = true then ((impl_Within.f k t312 t313).bind fun t330 => ((spec_Within.f k t312 t313).bind fun t331 => (if (t330 != t331) = true then (some false) else ((impl_Within.f k t312 t313).bind fun t332 => ((impl_Meet.f k t312 t313).bind fun t333 => ((impl_SetOf.f t312).bind fun t336 => ((laws_sameInts.f k t333 t336).bind fun t339 => (if (t332 != t339) = true then (some false) else ((impl_Union.f t306 t309).bind fun t340 => ((impl_SetOf.f t297).bind fun t343 => ((laws_sameInts.f k t340 t343).bind fun t346 => (if t346 = true then ((impl_Within.f k t306 t297).bind fun t347 => (if t347 = true then ((impl_Within.f k t306 t298).bind fun t348 => (if t348 = true then ((impl_Within.f k t297 t303).bind fun t349 => (if t349 = true then ((impl_Within.f k t298 t303).bind fun t350 => (if t350 = true then ((impl_SetOf.f t297).bind fun t351 => ((impl_SetOf.f t298).bind fun t354 => (if (t303.length : Int) = (wrap64 ((wrap64 ((t351.length : Int) + (t354.length : Int))) - (t306.length : Int))) then ((impl_Meet.f k t309 t298).bind fun t357 => (some ((t357.length : Int) == 0))) else (some false)))) else (some false))) else (some false))) else (some false))) else (some false))) else (some false))))))))))))) else (some false)))) else (some false)))) else (some false)))) = some r := H
  have A8 := Aside0.mk A80
  clear A80
  replace H := Option.bind_eq_some_iff.mp H
  obtain ⟨t318, A90, H⟩ := H
  replace H : ((laws_sameInts.f k t303 t318).bind fun t321 => (if t321 = true then ((spec_Meet.f k t297 t298).bind fun t322 => ((laws_sameInts.f k t306 t322).bind fun t325 => (if t325 = true then ((spec_Rest.f k t297 t298).bind fun t326 => ((laws_sameInts.f k t309 t326).bind fun t329 => (if t329 = true then ((impl_Within.f k t312 t313).bind fun t330 => ((spec_Within.f k t312 t313).bind fun t331 => (if (t330 != t331) = true then (some false) else ((impl_Within.f k t312 t313).bind fun t332 => ((impl_Meet.f k t312 t313).bind fun t333 => ((impl_SetOf.f t312).bind fun t336 => ((laws_sameInts.f k t333 t336).bind fun t339 => (if (t332 != t339) = true then (some false) else ((impl_Union.f t306 t309).bind fun t340 => ((impl_SetOf.f t297).bind fun t343 => ((laws_sameInts.f k t340 t343).bind fun t346 => (if t346 = true then ((impl_Within.f k t306 t297).bind fun t347 => (if t347 = true then ((impl_Within.f k t306 t298).bind fun t348 => (if t348 = true then ((impl_Within.f k t297 t303).bind fun t349 => (if t349 = true then ((impl_Within.f k t298 t303).bind fun t350 => (if t350 = true then ((impl_SetOf.f t297).bind fun t351 => ((impl_SetOf.f t298).bind fun t354 => (if (t303.length : Int) = (wrap64 ((wrap64 ((t351.length : Int) + (t354.length : Int))) - (t306.length : Int))) then ((impl_Meet.f k t309 t298).bind fun t357 => (some ((t357.length : Int) == 0))) else (some false)))) else (some false))) else (some false))) else (some false))) else (some false))) else (some false))))))))))))) else (some false)))) else (some false)))) else (some false))) = some r := H
  have A9 := Aside0.mk A90
  clear A90
  replace H := Option.bind_eq_some_iff.mp H
  obtain ⟨t321, A100, H⟩ := H
  replace H : (if t321 = true then ((spec_Meet.f k t297 t298).bind fun t322 => ((laws_sameInts.f k t306 t322).bind fun t325 => (if t325 = true then ((spec_Rest.f k t297 t298).bind fun t326 => ((laws_sameInts.f k t309 t326).bind fun t329 => (if t329 = true then ((impl_Within.f k t312 t313).bind fun t330 => ((spec_Within.f k t312 t313).bind fun t331 => (if (t330 != t331) = true then (some false) else ((impl_Within.f k t312 t313).bind fun t332 => ((impl_Meet.f k t312 t313).bind fun t333 => ((impl_SetOf.f t312).bind fun t336 => ((laws_sameInts.f k t333 t336).bind fun t339 => (if (t332 != t339) = true then (some false) else ((impl_Union.f t306 t309).bind fun t340 => ((impl_SetOf.f t297).bind fun t343 => ((laws_sameInts.f k t340 t343).bind fun t346 => (if t346 = true then ((impl_Within.f k t306 t297).bind fun t347 => (if t347 = true then ((impl_Within.f k t306 t298).bind fun t348 => (if t348 = true then ((impl_Within.f k t297 t303).bind fun t349 => (if t349 = true then ((impl_Within.f k t298 t303).bind fun t350 => (if t350 = true then ((impl_SetOf.f t297).bind fun t351 => ((impl_SetOf.f t298).bind fun t354 => (if (t303.length : Int) = (wrap64 ((wrap64 ((t351.length : Int) + (t354.length : Int))) - (t306.length : Int))) then ((impl_Meet.f k t309 t298).bind fun t357 => (some ((t357.length : Int) == 0))) else (some false)))) else (some false))) else (some false))) else (some false))) else (some false))) else (some false))))))))))))) else (some false)))) else (some false)))) else (some false)) = some r := H
  have A10 := Aside0.mk A100
  clear A100
  by_cases c11 : t321 = true
  rotate_left
  · replace c11 := Bool.eq_false_iff.mpr c11
    subst c11
    have H1 : (some false) = some r := by rw [if_neg (show ¬ (false = true) by decide)] at H; exact H
    clear H
    have H := H1
    clear H1
    exact absurd (H.trans (congrArg some HRT.out)) (by simp)
  subst c11
  have H1 : ((spec_Meet.f k t297 t298).bind fun t322 => ((laws_sameInts.f k t306 t322).bind fun t325 => (if t325 = true then ((spec_Rest.f k t297 t298).bind fun t326 => ((laws_sameInts.f k t309 t326).bind fun t329 => (if t329 = true then ((impl_Within.f k t312 t313).bind fun t330 => ((spec_Within.f k t312 t313).bind fun t331 => (if (t330 != t331) = true then (some false) else ((impl_Within.f k t312 t313).bind fun t332 => ((impl_Meet.f k t312 t313).bind fun t333 => ((impl_SetOf.f t312).bind fun t336 => ((laws_sameInts.f k t333 t336).bind fun t339 => (if (t332 != t339) = true then (some false) else ((impl_Union.f t306 t309).bind fun t340 => ((impl_SetOf.f t297).bind fun t343 => ((laws_sameInts.f k t340 t343).bind fun t346 => (if t346 = true then ((impl_Within.f k t306 t297).bind fun t347 => (if t347 = true then ((impl_Within.f k t306 t298).bind fun t348 => (if t348 = true then ((impl_Within.f k t297 t303).bind fun t349 => (if t349 = true then ((impl_Within.f k t298 t303).bind fun t350 => (if t350 = true then ((impl_SetOf.f t297).bind fun t351 => ((impl_SetOf.f t298).bind fun t354 => (if (t303.length : Int) = (wrap64 ((wrap64 ((t351.length : Int) + (t354.length : Int))) - (t306.length : Int))) then ((impl_Meet.f k t309 t298).bind fun t357 => (some ((t357.length : Int) == 0))) else (some false)))) else (some false))) else (some false))) else (some false))) else (some false))) else (some false))))))))))))) else (some false)))) else (some false)))) = some r := by rw [if_pos rfl] at H; exact H
  clear H
  have H := H1
  clear H1
  replace H := Option.bind_eq_some_iff.mp H
  obtain ⟨t322, A120, H⟩ := H
  replace H : ((laws_sameInts.f k t306 t322).bind fun t325 => (if t325 = true then ((spec_Rest.f k t297 t298).bind fun t326 => ((laws_sameInts.f k t309 t326).bind fun t329 => (if t329 = true then ((impl_Within.f k t312 t313).bind fun t330 => ((spec_Within.f k t312 t313).bind fun t331 => (if (t330 != t331) = true then (some false) else ((impl_Within.f k t312 t313).bind fun t332 => ((impl_Meet.f k t312 t313).bind fun t333 => ((impl_SetOf.f t312).bind fun t336 => ((laws_sameInts.f k t333 t336).bind fun t339 => (if (t332 != t339) = true then (some false) else ((impl_Union.f t306 t309).bind fun t340 => ((impl_SetOf.f t297).bind fun t343 => ((laws_sameInts.f k t340 t343).bind fun t346 => (if t346 = true then ((impl_Within.f k t306 t297).bind fun t347 => (if t347 = true then ((impl_Within.f k t306 t298).bind fun t348 => (if t348 = true then ((impl_Within.f k t297 t303).bind fun t349 => (if t349 = true then ((impl_Within.f k t298 t303).bind fun t350 => (if t350 = true then ((impl_SetOf.f t297).bind fun t351 => ((impl_SetOf.f t298).bind fun t354 => (if (t303.length : Int) = (wrap64 ((wrap64 ((t351.length : Int) + (t354.length : Int))) - (t306.length : Int))) then ((impl_Meet.f k t309 t298).bind fun t357 => (some ((t357.length : Int) == 0))) else (some false)))) else (some false))) else (some false))) else (some false))) else (some false))) else (some false))))))))))))) else (some false)))) else (some false))) = some r := H
  have A12 := Aside0.mk A120
  clear A120
  replace H := Option.bind_eq_some_iff.mp H
  obtain ⟨t325, A130, H⟩ := H
  replace H : (if t325 = true then ((spec_Rest.f k t297 t298).bind fun t326 => ((laws_sameInts.f k t309 t326).bind fun t329 => (if t329 = true then ((impl_Within.f k t312 t313).bind fun t330 => ((spec_Within.f k t312 t313).bind fun t331 => (if (t330 != t331) = true then (some false) else ((impl_Within.f k t312 t313).bind fun t332 => ((impl_Meet.f k t312 t313).bind fun t333 => ((impl_SetOf.f t312).bind fun t336 => ((laws_sameInts.f k t333 t336).bind fun t339 => (if (t332 != t339) = true then (some false) else ((impl_Union.f t306 t309).bind fun t340 => ((impl_SetOf.f t297).bind fun t343 => ((laws_sameInts.f k t340 t343).bind fun t346 => (if t346 = true then ((impl_Within.f k t306 t297).bind fun t347 => (if t347 = true then ((impl_Within.f k t306 t298).bind fun t348 => (if t348 = true then ((impl_Within.f k t297 t303).bind fun t349 => (if t349 = true then ((impl_Within.f k t298 t303).bind fun t350 => (if t350 = true then ((impl_SetOf.f t297).bind fun t351 => ((impl_SetOf.f t298).bind fun t354 => (if (t303.length : Int) = (wrap64 ((wrap64 ((t351.length : Int) + (t354.length : Int))) - (t306.length : Int))) then ((impl_Meet.f k t309 t298).bind fun t357 => (some ((t357.length : Int) == 0))) else (some false)))) else (some false))) else (some false))) else (some false))) else (some false))) else (some false))))))))))))) else (some false)))) else (some false)) = some r := H
  have A13 := Aside0.mk A130
  clear A130
  by_cases c14 : t325 = true
  rotate_left
  · replace c14 := Bool.eq_false_iff.mpr c14
    subst c14
    have H1 : (some false) = some r := by rw [if_neg (show ¬ (false = true) by decide)] at H; exact H
    clear H
    have H := H1
    clear H1
    exact absurd (H.trans (congrArg some HRT.out)) (by simp)
  subst c14
  have H1 : ((spec_Rest.f k t297 t298).bind fun t326 => ((laws_sameInts.f k t309 t326).bind fun t329 => (if t329 = true then ((impl_Within.f k t312 t313).bind fun t330 => ((spec_Within.f k t312 t313).bind fun t331 => (if (t330 != t331) = true then (some false) else ((impl_Within.f k t312 t313).bind fun t332 => ((impl_Meet.f k t312 t313).bind fun t333 => ((impl_SetOf.f t312).bind fun t336 => ((laws_sameInts.f k t333 t336).bind fun t339 => (if (t332 != t339) = true then (some false) else ((impl_Union.f t306 t309).bind fun t340 => ((impl_SetOf.f t297).bind fun t343 => ((laws_sameInts.f k t340 t343).bind fun t346 => (if t346 = true then ((impl_Within.f k t306 t297).bind fun t347 => (if t347 = true then ((impl_Within.f k t306 t298).bind fun t348 => (if t348 = true then ((impl_Within.f k t297 t303).bind fun t349 => (if t349 = true then ((impl_Within.f k t298 t303).bind fun t350 => (if t350 = true then ((impl_SetOf.f t297).bind fun t351 => ((impl_SetOf.f t298).bind fun t354 => (if (t303.length : Int) = (wrap64 ((wrap64 ((t351.length : Int) + (t354.length : Int))) - (t306.length : Int))) then ((impl_Meet.f k t309 t298).bind fun t357 => (some ((t357.length : Int) == 0))) else (some false)))) else (some false))) else (some false))) else (some false))) else (some false))) else (some false))))))))))))) else (some false)))) = some r := by rw [if_pos rfl] at H; exact H
  clear H
  have H := H1
  clear H1
  replace H := Option.bind_eq_some_iff.mp H
  obtain ⟨t326, A150, H⟩ := H
  replace H : ((laws_sameInts.f k t309 t326).bind fun t329 => (if t329 = true then ((impl_Within.f k t312 t313).bind fun t330 => ((spec_Within.f k t312 t313).bind fun t331 => (if (t330 != t331) = true then (some false) else ((impl_Within.f k t312 t313).bind fun t332 => ((impl_Meet.f k t312 t313).bind fun t333 => ((impl_SetOf.f t312).bind fun t336 => ((laws_sameInts.f k t333 t336).bind fun t339 => (if (t332 != t339) = true then (some false) else ((impl_Union.f t306 t309).bind fun t340 => ((impl_SetOf.f t297).bind fun t343 => ((laws_sameInts.f k t340 t343).bind fun t346 => (if t346 = true then ((impl_Within.f k t306 t297).bind fun t347 => (if t347 = true then ((impl_Within.f k t306 t298).bind fun t348 => (if t348 = true then ((impl_Within.f k t297 t303).bind fun t349 => (if t349 = true then ((impl_Within.f k t298 t303).bind fun t350 => (if t350 = true then ((impl_SetOf.f t297).bind fun t351 => ((impl_SetOf.f t298).bind fun t354 => (if (t303.length : Int) = (wrap64 ((wrap64 ((t351.length : Int) + (t354.length : Int))) - (t306.length : Int))) then ((impl_Meet.f k t309 t298).bind fun t357 => (some ((t357.length : Int) == 0))) else (some false)))) else (some false))) else (some false))) else (some false))) else (some false))) else (some false))))))))))))) else (some false))) = some r := H
  have A15 := Aside0.mk A150
  clear A150
  replace H := Option.bind_eq_some_iff.mp H
  obtain ⟨t329, A160, H⟩ := H
  replace H : (if t329 = true then ((impl_Within.f k t312 t313).bind fun t330 => ((spec_Within.f k t312 t313).bind fun t331 => (if (t330 != t331) = true then (some false) else ((impl_Within.f k t312 t313).bind fun t332 => ((impl_Meet.f k t312 t313).bind fun t333 => ((impl_SetOf.f t312).bind fun t336 => ((laws_sameInts.f k t333 t336).bind fun t339 => (if (t332 != t339) = true then (some false) else ((impl_Union.f t306 t309).bind fun t340 => ((impl_SetOf.f t297).bind fun t343 => ((laws_sameInts.f k t340 t343).bind fun t346 => (if t346 = true then ((impl_Within.f k t306 t297).bind fun t347 => (if t347 = true then ((impl_Within.f k t306 t298).bind fun t348 => (if t348 = true then ((impl_Within.f k t297 t303).bind fun t349 => (if t349 = true then ((impl_Within.f k t298 t303).bind fun t350 => (if t350 = true then ((impl_SetOf.f t297).bind fun t351 => ((impl_SetOf.f t298).bind fun t354 => (if (t303.length : Int) = (wrap64 ((wrap64 ((t351.length : Int) + (t354.length : Int))) - (t306.length : Int))) then ((impl_Meet.f k t309 t298).bind fun t357 => (some ((t357.length : Int) == 0))) else (some false)))) else (some false))) else (some false))) else (some false))) else (some false))) else (some false))))))))))))) else (some false)) = some r := H
  have A16 := Aside0.mk A160
  clear A160
  by_cases c17 : t329 = true
  rotate_left
  · replace c17 := Bool.eq_false_iff.mpr c17
    subst c17
    have H1 : (some false) = some r := by rw [if_neg (show ¬ (false = true) by decide)] at H; exact H
    clear H
    have H := H1
    clear H1
    exact absurd (H.trans (congrArg some HRT.out)) (by simp)
  subst c17
  have H1 : ((impl_Within.f k t312 t313).bind fun t330 => ((spec_Within.f k t312 t313).bind fun t331 => (if (t330 != t331) = true then (some false) else ((impl_Within.f k t312 t313).bind fun t332 => ((impl_Meet.f k t312 t313).bind fun t333 => ((impl_SetOf.f t312).bind fun t336 => ((laws_sameInts.f k t333 t336).bind fun t339 => (if (t332 != t339) = true then (some false) else ((impl_Union.f t306 t309).bind fun t340 => ((impl_SetOf.f t297).bind fun t343 => ((laws_sameInts.f k t340 t343).bind fun t346 => (if t346 = true then ((impl_Within.f k t306 t297).bind fun t347 => (if t347 = true then ((impl_Within.f k t306 t298).bind fun t348 => (if t348 = true then ((impl_Within.f k t297 t303).bind fun t349 => (if t349 = true then ((impl_Within.f k t298 t303).bind fun t350 => (if t350 = true then ((impl_SetOf.f t297).bind fun t351 => ((impl_SetOf.f t298).bind fun t354 => (if (t303.length : Int) = (wrap64 ((wrap64 ((t351.length : Int) + (t354.length : Int))) - (t306.length : Int))) then ((impl_Meet.f k t309 t298).bind fun t357 => (some ((t357.length : Int) == 0))) else (some false)))) else (some false))) else (some false))) else (some false))) else (some false))) else (some false))))))))))))) = some r := by rw [if_pos rfl] at H; exact H
  clear H
  have H := H1
  clear H1
  replace H := Option.bind_eq_some_iff.mp H
  obtain ⟨t330, A180, H⟩ := H
  replace H : ((spec_Within.f k t312 t313).bind fun t331 => (if (t330 != t331) = true then (some false) else ((impl_Within.f k t312 t313).bind fun t332 => ((impl_Meet.f k t312 t313).bind fun t333 => ((impl_SetOf.f t312).bind fun t336 => ((laws_sameInts.f k t333 t336).bind fun t339 => (if (t332 != t339) = true then (some false) else ((impl_Union.f t306 t309).bind fun t340 => ((impl_SetOf.f t297).bind fun t343 => ((laws_sameInts.f k t340 t343).bind fun t346 => (if t346 = true then ((impl_Within.f k t306 t297).bind fun t347 => (if t347 = true then ((impl_Within.f k t306 t298).bind fun t348 => (if t348 = true then ((impl_Within.f k t297 t303).bind fun t349 => (if t349 = true then ((impl_Within.f k t298 t303).bind fun t350 => (if t350 = true then ((impl_SetOf.f t297).bind fun t351 => ((impl_SetOf.f t298).bind fun t354 => (if (t303.length : Int) = (wrap64 ((wrap64 ((t351.length : Int) + (t354.length : Int))) - (t306.length : Int))) then ((impl_Meet.f k t309 t298).bind fun t357 => (some ((t357.length : Int) == 0))) else (some false)))) else (some false))) else (some false))) else (some false))) else (some false))) else (some false)))))))))))) = some r := H
  have A18 := Aside0.mk A180
  clear A180
  replace H := Option.bind_eq_some_iff.mp H
  obtain ⟨t331, A190, H⟩ := H
  replace H : (if (t330 != t331) = true then (some false) else ((impl_Within.f k t312 t313).bind fun t332 => ((impl_Meet.f k t312 t313).bind fun t333 => ((impl_SetOf.f t312).bind fun t336 => ((laws_sameInts.f k t333 t336).bind fun t339 => (if (t332 != t339) = true then (some false) else ((impl_Union.f t306 t309).bind fun t340 => ((impl_SetOf.f t297).bind fun t343 => ((laws_sameInts.f k t340 t343).bind fun t346 => (if t346 = true then ((impl_Within.f k t306 t297).bind fun t347 => (if t347 = true then ((impl_Within.f k t306 t298).bind fun t348 => (if t348 = true then ((impl_Within.f k t297 t303).bind fun t349 => (if t349 = true then ((impl_Within.f k t298 t303).bind fun t350 => (if t350 = true then ((impl_SetOf.f t297).bind fun t351 => ((impl_SetOf.f t298).bind fun t354 => (if (t303.length : Int) = (wrap64 ((wrap64 ((t351.length : Int) + (t354.length : Int))) - (t306.length : Int))) then ((impl_Meet.f k t309 t298).bind fun t357 => (some ((t357.length : Int) == 0))) else (some false)))) else (some false))) else (some false))) else (some false))) else (some false))) else (some false))))))))))) = some r := H
  have A19 := Aside0.mk A190
  clear A190
  by_cases c20 : (t330 != t331) = true
  · rw [if_pos c20] at H
    exact absurd (H.trans (congrArg some HRT.out)) (by simp)
  rw [if_neg c20] at H
  have c20b0 : (t330 != t331) = false := by simpa using c20
  (try (have c20b1 : decide (t330 = t331) = true := by simpa using c20))
  (try (have c20b2 : (t330 == t331) = true := by simpa using c20))
  clear c20
  replace H := Option.bind_eq_some_iff.mp H
  obtain ⟨t332, A210, H⟩ := H
  replace H : ((impl_Meet.f k t312 t313).bind fun t333 => ((impl_SetOf.f t312).bind fun t336 => ((laws_sameInts.f k t333 t336).bind fun t339 => (if (t332 != t339) = true then (some false) else ((impl_Union.f t306 t309).bind fun t340 => ((impl_SetOf.f t297).bind fun t343 => ((laws_sameInts.f k t340 t343).bind fun t346 => (if t346 = true then ((impl_Within.f k t306 t297).bind fun t347 => (if t347 = true then ((impl_Within.f k t306 t298).bind fun t348 => (if t348 = true then ((impl_Within.f k t297 t303).bind fun t349 => (if t349 = true then ((impl_Within.f k t298 t303).bind fun t350 => (if t350 = true then ((impl_SetOf.f t297).bind fun t351 => ((impl_SetOf.f t298).bind fun t354 => (if (t303.length : Int) = (wrap64 ((wrap64 ((t351.length : Int) + (t354.length : Int))) - (t306.length : Int))) then ((impl_Meet.f k t309 t298).bind fun t357 => (some ((t357.length : Int) == 0))) else (some false)))) else (some false))) else (some false))) else (some false))) else (some false))) else (some false))))))))) = some r := H
  have A21 := Aside0.mk A210
  clear A210
  replace H := Option.bind_eq_some_iff.mp H
  obtain ⟨t333, A220, H⟩ := H
  replace H : ((impl_SetOf.f t312).bind fun t336 => ((laws_sameInts.f k t333 t336).bind fun t339 => (if (t332 != t339) = true then (some false) else ((impl_Union.f t306 t309).bind fun t340 => ((impl_SetOf.f t297).bind fun t343 => ((laws_sameInts.f k t340 t343).bind fun t346 => (if t346 = true then ((impl_Within.f k t306 t297).bind fun t347 => (if t347 = true then ((impl_Within.f k t306 t298).bind fun t348 => (if t348 = true then ((impl_Within.f k t297 t303).bind fun t349 => (if t349 = true then ((impl_Within.f k t298 t303).bind fun t350 => (if t350 = true then ((impl_SetOf.f t297).bind fun t351 => ((impl_SetOf.f t298).bind fun t354 => (if (t303.length : Int) = (wrap64 ((wrap64 ((t351.length : Int) + (t354.length : Int))) - (t306.length : Int))) then ((impl_Meet.f k t309 t298).bind fun t357 => (some ((t357.length : Int) == 0))) else (some false)))) else (some false))) else (some false))) else (some false))) else (some false))) else (some false)))))))) = some r := H
  have A22 := Aside0.mk A220
  clear A220
  replace H := Option.bind_eq_some_iff.mp H
  obtain ⟨t336, A230, H⟩ := H
  replace H : ((laws_sameInts.f k t333 t336).bind fun t339 => (if (t332 != t339) = true then (some false) else ((impl_Union.f t306 t309).bind fun t340 => ((impl_SetOf.f t297).bind fun t343 => ((laws_sameInts.f k t340 t343).bind fun t346 => (if t346 = true then ((impl_Within.f k t306 t297).bind fun t347 => (if t347 = true then ((impl_Within.f k t306 t298).bind fun t348 => (if t348 = true then ((impl_Within.f k t297 t303).bind fun t349 => (if t349 = true then ((impl_Within.f k t298 t303).bind fun t350 => (if t350 = true then ((impl_SetOf.f t297).bind fun t351 => ((impl_SetOf.f t298).bind fun t354 => (if (t303.length : Int) = (wrap64 ((wrap64 ((t351.length : Int) + (t354.length : Int))) - (t306.length : Int))) then ((impl_Meet.f k t309 t298).bind fun t357 => (some ((t357.length : Int) == 0))) else (some false)))) else (some false))) else (some false))) else (some false))) else (some false))) else (some false))))))) = some r := H
  have A23 := Aside0.mk A230
  clear A230
  replace H := Option.bind_eq_some_iff.mp H
  obtain ⟨t339, A240, H⟩ := H
  replace H : (if (t332 != t339) = true then (some false) else ((impl_Union.f t306 t309).bind fun t340 => ((impl_SetOf.f t297).bind fun t343 => ((laws_sameInts.f k t340 t343).bind fun t346 => (if t346 = true then ((impl_Within.f k t306 t297).bind fun t347 => (if t347 = true then ((impl_Within.f k t306 t298).bind fun t348 => (if t348 = true then ((impl_Within.f k t297 t303).bind fun t349 => (if t349 = true then ((impl_Within.f k t298 t303).bind fun t350 => (if t350 = true then ((impl_SetOf.f t297).bind fun t351 => ((impl_SetOf.f t298).bind fun t354 => (if (t303.length : Int) = (wrap64 ((wrap64 ((t351.length : Int) + (t354.length : Int))) - (t306.length : Int))) then ((impl_Meet.f k t309 t298).bind fun t357 => (some ((t357.length : Int) == 0))) else (some false)))) else (some false))) else (some false))) else (some false))) else (some false))) else (some false)))))) = some r := H
  have A24 := Aside0.mk A240
  clear A240
  by_cases c25 : (t332 != t339) = true
  · rw [if_pos c25] at H
    exact absurd (H.trans (congrArg some HRT.out)) (by simp)
  rw [if_neg c25] at H
  have c25b0 : (t332 != t339) = false := by simpa using c25
  (try (have c25b1 : decide (t332 = t339) = true := by simpa using c25))
  (try (have c25b2 : (t332 == t339) = true := by simpa using c25))
  clear c25
  replace H := Option.bind_eq_some_iff.mp H
  obtain ⟨t340, A260, H⟩ := H
  replace H : ((impl_SetOf.f t297).bind fun t343 => ((laws_sameInts.f k t340 t343).bind fun t346 => (if t346 = true then ((impl_Within.f k t306 t297).bind fun t347 => (if t347 = true then ((impl_Within.f k t306 t298).bind fun t348 => (if t348 = true then ((impl_Within.f k t297 t303).bind fun t349 => (if t349 = true then ((impl_Within.f k t298 t303).bind fun t350 => (if t350 = true then ((impl_SetOf.f t297).bind fun t351 => ((impl_SetOf.f t298).bind fun t354 => (if (t303.length : Int) = (wrap64 ((wrap64 ((t351.length : Int) + (t354.length : Int))) - (t306.length : Int))) then ((impl_Meet.f k t309 t298).bind fun t357 => (some ((t357.length : Int) == 0))) else (some false)))) else (some false))) else (some false))) else (some false))) else (some false))) else (some false)))) = some r := H
  have A26 := Aside0.mk A260
  clear A260
  replace H := Option.bind_eq_some_iff.mp H
  obtain ⟨t343, A270, H⟩ := H
  replace H : ((laws_sameInts.f k t340 t343).bind fun t346 => (if t346 = true then ((impl_Within.f k t306 t297).bind fun t347 => (if t347 = true then ((impl_Within.f k t306 t298).bind fun t348 => (if t348 = true then ((impl_Within.f k t297 t303).bind fun t349 => (if t349 = true then ((impl_Within.f k t298 t303).bind fun t350 => (if t350 = true then ((impl_SetOf.f t297).bind fun t351 => ((impl_SetOf.f t298).bind fun t354 => (if (t303.length : Int) = (wrap64 ((wrap64 ((t351.length : Int) + (t354.length : Int))) - (t306.length : Int))) then ((impl_Meet.f k t309 t298).bind fun t357 => (some ((t357.length : Int) == 0))) else (some false)))) else (some false))) else (some false))) else (some false))) else (some false))) else (some false))) = some r := H
  have A27 := Aside0.mk A270
  clear A270
  replace H := Option.bind_eq_some_iff.mp H
  obtain ⟨t346, A280, H⟩ := H
  replace H : (if t346 = true then ((impl_Within.f k t306 t297).bind fun t347 => (if t347 = true then ((impl_Within.f k t306 t298).bind fun t348 => (if t348 = true then ((impl_Within.f k t297 t303).bind fun t349 => (if t349 = true then ((impl_Within.f k t298 t303).bind fun t350 => (if t350 = true then ((impl_SetOf.f t297).bind fun t351 => ((impl_SetOf.f t298).bind fun t354 => (if (t303.length : Int) = (wrap64 ((wrap64 ((t351.length : Int) + (t354.length : Int))) - (t306.length : Int))) then ((impl_Meet.f k t309 t298).bind fun t357 => (some ((t357.length : Int) == 0))) else (some false)))) else (some false))) else (some false))) else (some false))) else (some false))) else (some false)) = some r := H
  have A28 := Aside0.mk A280
  clear A280
  by_cases c29 : t346 = true
  rotate_left
  · replace c29 := Bool.eq_false_iff.mpr c29
    subst c29
    have H1 : (some false) = some r := by rw [if_neg (show ¬ (false = true) by decide)] at H; exact H
    clear H
    have H := H1
    clear H1
    exact absurd (H.trans (congrArg some HRT.out)) (by simp)
  subst c29
  have H1 : ((impl_Within.f k t306 t297).bind fun t347 => (if t347 = true then ((impl_Within.f k t306 t298).bind fun t348 => (if t348 = true then ((impl_Within.f k t297 t303).bind fun t349 => (if t349 = true then ((impl_Within.f k t298 t303).bind fun t350 => (if t350 = true then ((impl_SetOf.f t297).bind fun t351 => ((impl_SetOf.f t298).bind fun t354 => (if (t303.length : Int) = (wrap64 ((wrap64 ((t351.length : Int) + (t354.length : Int))) - (t306.length : Int))) then ((impl_Meet.f k t309 t298).bind fun t357 => (some ((t357.length : Int) == 0))) else (some false)))) else (some false))) else (some false))) else (some false))) else (some false))) = some r := by rw [if_pos rfl] at H; exact H
  clear H
  have H := H1
  clear H1
  replace H := Option.bind_eq_some_iff.mp H
  obtain ⟨t347, A300, H⟩ := H
  replace H : (if t347 = true then ((impl_Within.f k t306 t298).bind fun t348 => (if t348 = true then ((impl_Within.f k t297 t303).bind fun t349 => (if t349 = true then ((impl_Within.f k t298 t303).bind fun t350 => (if t350 = true then ((impl_SetOf.f t297).bind fun t351 => ((impl_SetOf.f t298).bind fun t354 => (if (t303.length : Int) = (wrap64 ((wrap64 ((t351.length : Int) + (t354.length : Int))) - (t306.length : Int))) then ((impl_Meet.f k t309 t298).bind fun t357 => (some ((t357.length : Int) == 0))) else (some false)))) else (some false))) else (some false))) else (some false))) else (some false)) = some r := H
  have A30 := Aside0.mk A300
  clear A300
  by_cases c31 : t347 = true
  rotate_left
  · replace c31 := Bool.eq_false_iff.mpr c31
    subst c31
    have H1 : (some false) = some r := by rw [if_neg (show ¬ (false = true) by decide)] at H; exact H
    clear H
    have H := H1
    clear H1
    exact absurd (H.trans (congrArg some HRT.out)) (by simp)
  subst c31
  have H1 : ((impl_Within.f k t306 t298).bind fun t348 => (if t348 = true then ((impl_Within.f k t297 t303).bind fun t349 => (if t349 = true then ((impl_Within.f k t298 t303).bind fun t350 => (if t350 = true then ((impl_SetOf.f t297).bind fun t351 => ((impl_SetOf.f t298).bind fun t354 => (if (t303.length : Int) = (wrap64 ((wrap64 ((t351.length : Int) + (t354.length : Int))) - (t306.length : Int))) then ((impl_Meet.f k t309 t298).bind fun t357 => (some ((t357.length : Int) == 0))) else (some false)))) else (some false))) else (some false))) else (some false))) = some r := by rw [if_pos rfl] at H; exact H
  clear H
  have H := H1
  clear H1
  replace H := Option.bind_eq_some_iff.mp H
  obtain ⟨t348, A320, H⟩ := H
  replace H : (if t348 = true then ((impl_Within.f k t297 t303).bind fun t349 => (if t349 = true then ((impl_Within.f k t298 t303).bind fun t350 => (if t350 = true then ((impl_SetOf.f t297).bind fun t351 => ((impl_SetOf.f t298).bind fun t354 => (if (t303.length : Int) = (wrap64 ((wrap64 ((t351.length : Int) + (t354.length : Int))) - (t306.length : Int))) then ((impl_Meet.f k t309 t298).bind fun t357 => (some ((t357.length : Int) == 0))) else (some false)))) else (some false))) else (some false))) else (some false)) = some r := H
  have A32 := Aside0.mk A320
  clear A320
  by_cases c33 : t348 = true
  rotate_left
  · replace c33 := Bool.eq_false_iff.mpr c33
    subst c33
    have H1 : (some false) = some r := by rw [if_neg (show ¬ (false = true) by decide)] at H; exact H
    clear H
    have H := H1
    clear H1
    exact absurd (H.trans (congrArg some HRT.out)) (by simp)
  subst c33
  have H1 : ((impl_Within.f k t297 t303).bind fun t349 => (if t349 = true then ((impl_Within.f k t298 t303).bind fun t350 => (if t350 = true then ((impl_SetOf.f t297).bind fun t351 => ((impl_SetOf.f t298).bind fun t354 => (if (t303.length : Int) = (wrap64 ((wrap64 ((t351.length : Int) + (t354.length : Int))) - (t306.length : Int))) then ((impl_Meet.f k t309 t298).bind fun t357 => (some ((t357.length : Int) == 0))) else (some false)))) else (some false))) else (some false))) = some r := by rw [if_pos rfl] at H; exact H
  clear H
  have H := H1
  clear H1
  replace H := Option.bind_eq_some_iff.mp H
  obtain ⟨t349, A340, H⟩ := H
  replace H : (if t349 = true then ((impl_Within.f k t298 t303).bind fun t350 => (if t350 = true then ((impl_SetOf.f t297).bind fun t351 => ((impl_SetOf.f t298).bind fun t354 => (if (t303.length : Int) = (wrap64 ((wrap64 ((t351.length : Int) + (t354.length : Int))) - (t306.length : Int))) then ((impl_Meet.f k t309 t298).bind fun t357 => (some ((t357.length : Int) == 0))) else (some false)))) else (some false))) else (some false)) = some r := H
  have A34 := Aside0.mk A340
  clear A340
  by_cases c35 : t349 = true
  rotate_left
  · replace c35 := Bool.eq_false_iff.mpr c35
    subst c35
    have H1 : (some false) = some r := by rw [if_neg (show ¬ (false = true) by decide)] at H; exact H
    clear H
    have H := H1
    clear H1
    exact absurd (H.trans (congrArg some HRT.out)) (by simp)
  subst c35
  have H1 : ((impl_Within.f k t298 t303).bind fun t350 => (if t350 = true then ((impl_SetOf.f t297).bind fun t351 => ((impl_SetOf.f t298).bind fun t354 => (if (t303.length : Int) = (wrap64 ((wrap64 ((t351.length : Int) + (t354.length : Int))) - (t306.length : Int))) then ((impl_Meet.f k t309 t298).bind fun t357 => (some ((t357.length : Int) == 0))) else (some false)))) else (some false))) = some r := by rw [if_pos rfl] at H; exact H
  clear H
  have H := H1
  clear H1
  replace H := Option.bind_eq_some_iff.mp H
  obtain ⟨t350, A360, H⟩ := H
  replace H : (if t350 = true then ((impl_SetOf.f t297).bind fun t351 => ((impl_SetOf.f t298).bind fun t354 => (if (t303.length : Int) = (wrap64 ((wrap64 ((t351.length : Int) + (t354.length : Int))) - (t306.length : Int))) then ((impl_Meet.f k t309 t298).bind fun t357 => (some ((t357.length : Int) == 0))) else (some false)))) else (some false)) = some r := H
  have A36 := Aside0.mk A360
  clear A360
  by_cases c37 : t350 = true
  rotate_left
  · replace c37 := Bool.eq_false_iff.mpr c37
    subst c37
    have H1 : (some false) = some r := by rw [if_neg (show ¬ (false = true) by decide)] at H; exact H
    clear H
    have H := H1
    clear H1
    exact absurd (H.trans (congrArg some HRT.out)) (by simp)
  subst c37
  have H1 : ((impl_SetOf.f t297).bind fun t351 => ((impl_SetOf.f t298).bind fun t354 => (if (t303.length : Int) = (wrap64 ((wrap64 ((t351.length : Int) + (t354.length : Int))) - (t306.length : Int))) then ((impl_Meet.f k t309 t298).bind fun t357 => (some ((t357.length : Int) == 0))) else (some false)))) = some r := by rw [if_pos rfl] at H; exact H
  clear H
  have H := H1
  clear H1
  replace H := Option.bind_eq_some_iff.mp H
  obtain ⟨t351, A380, H⟩ := H
  replace H : ((impl_SetOf.f t298).bind fun t354 => (if (t303.length : Int) = (wrap64 ((wrap64 ((t351.length : Int) + (t354.length : Int))) - (t306.length : Int))) then ((impl_Meet.f k t309 t298).bind fun t357 => (some ((t357.length : Int) == 0))) else (some false))) = some r := H
  have A38 := Aside0.mk A380
  clear A380
  replace H := Option.bind_eq_some_iff.mp H
  obtain ⟨t354, A390, H⟩ := H
  replace H : (if (t303.length : Int) = (wrap64 ((wrap64 ((t351.length : Int) + (t354.length : Int))) - (t306.length : Int))) then ((impl_Meet.f k t309 t298).bind fun t357 => (some ((t357.length : Int) == 0))) else (some false)) = some r := H
  have A39 := Aside0.mk A390
  clear A390
  by_cases c40 : (t303.length : Int) = (wrap64 ((wrap64 ((t351.length : Int) + (t354.length : Int))) - (t306.length : Int)))
  rotate_left
  · rw [if_neg c40] at H
    exact absurd (H.trans (congrArg some HRT.out)) (by simp)
  rw [if_pos c40] at H
  have c40b0 : ((t303.length : Int) == (wrap64 ((wrap64 ((t351.length : Int) + (t354.length : Int))) - (t306.length : Int)))) = true := beq_iff_eq.mpr c40
  have c40b1 : ((t303.length : Int) != (wrap64 ((wrap64 ((t351.length : Int) + (t354.length : Int))) - (t306.length : Int)))) = false := bne_eq_false_iff_eq.mpr c40
  clear c40
  replace H := Option.bind_eq_some_iff.mp H
  obtain ⟨t357, A410, H⟩ := H
  replace H : (some ((t357.length : Int) == 0)) = some r := H
  have A41 := Aside0.mk A410
  clear A410
  obtain rfl := Option.some.inj H
  go_enter Try.func11, Try.ntmps11
  go_wp2_with (first | ((with_reducible refine gate_callee (f := 31) rfl ?_); refine goesL_ (some 11) rfl rfl Try.func31 (by kernel_rfl) rfl #[.slice A0 l0.length c0] rfl Z5_12 ?_; (with_reducible refine (laws_big.calls _ _ l0 false _ ?side1 ?side2 A2.out).mono ?_); (case side1 => repeat (first | exact HR0.out | (with_reducible refine Kd.C_alloc ?_ _) | (with_reducible refine Kd.C_drewN ?_ _) | (with_reducible refine Kd.C_drew ?_))); (case side2 => exact HC0.out); rintro e w' ⟨rfl, ⟨nd, rfl⟩⟩; refine ⟨_, rfl, ?_⟩) | ((with_reducible refine gate_callee (f := 37) rfl ?_); refine goesL_ (some 14) rfl rfl Try.func37 (by kernel_rfl) rfl #[.slice A0 l0.length c0] rfl Z5_12 ?_; (with_reducible refine (spec_DrawMeet.calls k _ _ l0 t297 t298 _ ?side1 ?side2 A4.out).mono ?_); (case side1 => repeat (first | exact HR0.out | (with_reducible refine Kd.C_alloc ?_ _) | (with_reducible refine Kd.C_drewN ?_ _) | (with_reducible refine Kd.C_drew ?_))); (case side2 => exact HC0.out); rintro e w42 ⟨v299, v301, rfl, ho0, ho1, hb⟩; refine ⟨_, rfl, ?_⟩; have n0_ := Aside0.mk (Kd.R_lower ho0 (below_size Z5_29)); have n1_ := Aside0.mk (Kd.R_lower ho1 (below_size Z5_29)); have n2_ := Aside0.mk Z5_10; clear HB; have HO300 := n0_; have HO302 := n1_; have HB := n2_; clear n0_ n1_ n2_; (try clear hb); (try clear hb2); (try clear hk); (try clear hi); (try clear ho0); (try clear ho1); obtain ⟨Ao43, co43, eo43⟩ := Kd.R_slice HO300.out; subst eo43; obtain ⟨Ao44, co44, eo44⟩ := Kd.R_slice HO302.out; subst eo44) | ((with_reducible refine gate_callee (f := 24) rfl ?_); refine goesL_ (some 19) rfl rfl Try.func24 (by kernel_rfl) rfl #[.slice Ao43 t297.length co43, .slice Ao44 t298.length co44] rfl Z5_12 ?_; (with_reducible refine (impl_Union.calls _ _ t297 _ _ t298 t303 _ ?side1 ?side2 ?side3 ?side4 A5.out).mono ?_); (case side1 => repeat (first | exact (Kd.R_reads' HO300.out).2.2 | (with_reducible refine Kd.C_alloc ?_ _) | (with_reducible refine Kd.C_drewN ?_ _) | (with_reducible refine Kd.C_drew ?_))); (case side2 => exact (Kd.R_reads' HO300.out).2.1); (case side3 => repeat (first | exact (Kd.R_reads' HO302.out).2.2 | (with_reducible refine Kd.C_alloc ?_ _) | (with_reducible refine Kd.C_drewN ?_ _) | (with_reducible refine Kd.C_drew ?_))); (case side4 => exact (Kd.R_reads' HO302.out).2.1); rintro e w45 ⟨v304, rfl, ho0, hb⟩; refine ⟨_, rfl, ?_⟩; have n0_ := Aside0.mk Z5_13; have n1_ := Aside0.mk Z5_14; have n2_ := Aside0.mk (Kd.R_lower (Kd.R_new' (Kd.R_new' ho0 (Kd.R_lt Z5_48)) (Kd.R_lt Z5_49)) (below_size Z5_29)); have n3_ := Aside0.mk Z5_10; clear HO300; clear HO302; clear HB; have HO300 := n0_; have HO302 := n1_; have HO305 := n2_; have HB := n3_; clear n0_ n1_ n2_ n3_; (try clear hb); (try clear hb2); (try clear hk); (try clear hi); (try clear ho0); clear A5) | ((with_reducible refine gate_callee (f := 26) rfl ?_); refine goesL_ (some 22) rfl rfl Try.func26 (by kernel_rfl) rfl #[.slice Ao43 t297.length co43, .slice Ao44 t298.length co44] rfl Z5_12 ?_; (with_reducible refine (impl_Meet.calls k _ _ t297 _ _ t298 t306 _ ?side1 ?side2 ?side3 ?side4 A6.out).mono ?_); (case side1 => repeat (first | exact (Kd.R_reads' HO300.out).2.2 | (with_reducible refine Kd.C_alloc ?_ _) | (with_reducible refine Kd.C_drewN ?_ _) | (with_reducible refine Kd.C_drew ?_))); (case side2 => exact (Kd.R_reads' HO300.out).2.1); (case side3 => repeat (first | exact (Kd.R_reads' HO302.out).2.2 | (with_reducible refine Kd.C_alloc ?_ _) | (with_reducible refine Kd.C_drewN ?_ _) | (with_reducible refine Kd.C_drew ?_))); (case side4 => exact (Kd.R_reads' HO302.out).2.1); rintro e w46 ⟨v307, rfl, ho0, hb⟩; refine ⟨_, rfl, ?_⟩; have n0_ := Aside0.mk Z5_13; have n1_ := Aside0.mk Z5_14; have n2_ := Aside0.mk Z5_15; have n3_ := Aside0.mk (Kd.R_lower (Kd.R_new' (Kd.R_new' (Kd.R_new' ho0 (Kd.R_lt Z5_48)) (Kd.R_lt Z5_49)) (Kd.R_lt Z5_50)) (below_size Z5_29)); have n4_ := Aside0.mk Z5_10; clear HO300; clear HO302; clear HO305; clear HB; have HO300 := n0_; have HO302 := n1_; have HO305 := n2_; have HO308 := n3_; have HB := n4_; clear n0_ n1_ n2_ n3_ n4_; (try clear hb); (try clear hb2); (try clear hk); (try clear hi); (try clear ho0); clear A6) | ((with_reducible refine gate_callee (f := 28) rfl ?_); refine goesL_ (some 25) rfl rfl Try.func28 (by kernel_rfl) rfl #[.slice Ao43 t297.length co43, .slice Ao44 t298.length co44] rfl Z5_12 ?_; (with_reducible refine (impl_Rest.calls k _ _ t297 _ _ t298 t309 _ ?side1 ?side2 ?side3 ?side4 A7.out).mono ?_); (case side1 => repeat (first | exact (Kd.R_reads' HO300.out).2.2 | (with_reducible refine Kd.C_alloc ?_ _) | (with_reducible refine Kd.C_drewN ?_ _) | (with_reducible refine Kd.C_drew ?_))); (case side2 => exact (Kd.R_reads' HO300.out).2.1); (case side3 => repeat (first | exact (Kd.R_reads' HO302.out).2.2 | (with_reducible refine Kd.C_alloc ?_ _) | (with_reducible refine Kd.C_drewN ?_ _) | (with_reducible refine Kd.C_drew ?_))); (case side4 => exact (Kd.R_reads' HO302.out).2.1); rintro e w47 ⟨v310, rfl, ho0, hb⟩; refine ⟨_, rfl, ?_⟩; have n0_ := Aside0.mk Z5_13; have n1_ := Aside0.mk Z5_14; have n2_ := Aside0.mk Z5_15; have n3_ := Aside0.mk Z5_16; have n4_ := Aside0.mk (Kd.R_lower (Kd.R_new' (Kd.R_new' (Kd.R_new' (Kd.R_new' ho0 (Kd.R_lt Z5_48)) (Kd.R_lt Z5_49)) (Kd.R_lt Z5_50)) (Kd.R_lt Z5_51)) (below_size Z5_29)); have n5_ := Aside0.mk Z5_10; clear HO300; clear HO302; clear HO305; clear HO308; clear HB; have HO300 := n0_; have HO302 := n1_; have HO305 := n2_; have HO308 := n3_; have HO311 := n4_; have HB := n5_; clear n0_ n1_ n2_ n3_ n4_ n5_; (try clear hb); (try clear hb2); (try clear hk); (try clear hi); (try clear ho0)) | ((with_reducible refine gate_callee (f := 38) rfl ?_); refine goesL_ (some 28) rfl rfl Try.func38 (by kernel_rfl) rfl #[.slice A0 l0.length c0] rfl Z5_12 ?_; (with_reducible refine (spec_DrawWithin.calls k _ _ l0 t312 t313 _ ?side1 ?side2 A8.out).mono ?_); (case side1 => repeat (first | exact (Kd.C_below HR0.out HB.out) | (with_reducible refine Kd.C_alloc ?_ _) | (with_reducible refine Kd.C_drewN ?_ _) | (with_reducible refine Kd.C_drew ?_))); (case side2 => exact HC0.out); rintro e w48 ⟨v314, v316, rfl, ho0, ho1, hb⟩; refine ⟨_, rfl, ?_⟩; have n0_ := Aside0.mk (Kd.R_mono (Kd.R_told (Kd.R_told (Kd.R_old Z5_48 hb) (Kd.R_base ho0)) (Kd.R_base ho1)) (fun _ h_ => h_.1)); have n1_ := Aside0.mk (Kd.R_mono (Kd.R_told (Kd.R_told (Kd.R_old Z5_49 hb) (Kd.R_base ho0)) (Kd.R_base ho1)) (fun _ h_ => h_.1)); have n2_ := Aside0.mk (Kd.R_mono (Kd.R_told (Kd.R_told (Kd.R_old Z5_50 hb) (Kd.R_base ho0)) (Kd.R_base ho1)) (fun _ h_ => h_.1)); have n3_ := Aside0.mk (Kd.R_mono (Kd.R_told (Kd.R_told (Kd.R_old Z5_51 hb) (Kd.R_base ho0)) (Kd.R_base ho1)) (fun _ h_ => h_.1)); have n4_ := Aside0.mk (Kd.R_mono (Kd.R_told (Kd.R_told (Kd.R_old Z5_52 hb) (Kd.R_base ho0)) (Kd.R_base ho1)) (fun _ h_ => h_.1)); have n5_ := Aside0.mk (Kd.R_lower (Kd.R_new' (Kd.R_new' (Kd.R_new' (Kd.R_new' (Kd.R_new' ho0 (Kd.R_lt Z5_48)) (Kd.R_lt Z5_49)) (Kd.R_lt Z5_50)) (Kd.R_lt Z5_51)) (Kd.R_lt Z5_52)) (below_size Z5_29)); have n6_ := Aside0.mk (Kd.R_lower (Kd.R_new' (Kd.R_new' (Kd.R_new' (Kd.R_new' (Kd.R_new' ho1 (Kd.R_lt Z5_48)) (Kd.R_lt Z5_49)) (Kd.R_lt Z5_50)) (Kd.R_lt Z5_51)) (Kd.R_lt Z5_52)) (below_size Z5_29)); have n7_ := Aside0.mk Z5_10; clear HO300; clear HO302; clear HO305; clear HO308; clear HO311; clear HB; have HO300 := n0_; have HO302 := n1_; have HO305 := n2_; have HO308 := n3_; have HO311 := n4_; have HO315 := n5_; have HO317 := n6_; have HB := n7_; clear n0_ n1_ n2_ n3_ n4_ n5_ n6_ n7_; (try clear hb); (try clear hb2); (try clear hk); (try clear hi); (try clear ho0); (try clear ho1)) | ((with_reducible refine gate_callee (f := 23) rfl ?_); refine goesL_ (some 34) rfl rfl Try.func23 (by kernel_rfl) rfl #[.slice Ao43 t297.length co43, .slice Ao44 t298.length co44] rfl Z5_12 ?_; (with_reducible refine (spec_Union.calls k _ _ t297 _ _ t298 t318 _ ?side1 ?side2 ?side3 ?side4 A9.out).mono ?_); (case side1 => repeat (first | exact (Kd.R_reads' HO300.out).2.2 | (with_reducible refine Kd.C_alloc ?_ _) | (with_reducible refine Kd.C_drewN ?_ _) | (with_reducible refine Kd.C_drew ?_))); (case side2 => exact (Kd.R_reads' HO300.out).2.1); (case side3 => repeat (first | exact (Kd.R_reads' HO302.out).2.2 | (with_reducible refine Kd.C_alloc ?_ _) | (with_reducible refine Kd.C_drewN ?_ _) | (with_reducible refine Kd.C_drew ?_))); (case side4 => exact (Kd.R_reads' HO302.out).2.1); rintro e w49 ⟨v319, rfl, ho0, hb⟩; refine ⟨_, rfl, ?_⟩; have n0_ := Aside0.mk Z5_13; have n1_ := Aside0.mk Z5_14; have n2_ := Aside0.mk Z5_15; have n3_ := Aside0.mk Z5_16; have n4_ := Aside0.mk Z5_17; have n5_ := Aside0.mk Z5_18; have n6_ := Aside0.mk Z5_19; have n7_ := Aside0.mk (Kd.R_lower (Kd.R_new' (Kd.R_new' (Kd.R_new' (Kd.R_new' (Kd.R_new' (Kd.R_new' (Kd.R_new' ho0 (Kd.R_lt Z5_48)) (Kd.R_lt Z5_49)) (Kd.R_lt Z5_50)) (Kd.R_lt Z5_51)) (Kd.R_lt Z5_52)) (Kd.R_lt Z5_53)) (Kd.R_lt Z5_54)) (below_size Z5_29)); have n8_ := Aside0.mk Z5_10; clear HO300; clear HO302; clear HO305; clear HO308; clear HO311; clear HO315; clear HO317; clear HB; have HO300 := n0_; have HO302 := n1_; have HO305 := n2_; have HO308 := n3_; have HO311 := n4_; have HO315 := n5_; have HO317 := n6_; have HO320 := n7_; have HB := n8_; clear n0_ n1_ n2_ n3_ n4_ n5_ n6_ n7_ n8_; (try clear hb); (try clear hb2); (try clear hk); (try clear hi); (try clear ho0); obtain ⟨Ao50, co50, eo50⟩ := Kd.R_slice HO305.out; subst eo50; obtain ⟨Ao51, co51, eo51⟩ := Kd.R_slice HO320.out; subst eo51) | ((with_reducible refine gate_callee (f := 35) rfl ?_); refine goesL_ (some 35) rfl rfl Try.func35 (by kernel_rfl) rfl #[.slice Ao50 t303.length co50, .slice Ao51 t318.length co51] rfl Z5_12 ?_; (with_reducible refine (laws_sameInts.calls k _ _ t303 _ _ t318 true _ ?side1 ?side2 ?side3 ?side4 A10.out).mono ?_); (case side1 => repeat (first | exact (Kd.R_reads' HO305.out).2.2 | (with_reducible refine Kd.C_alloc ?_ _) | (with_reducible refine Kd.C_drewN ?_ _) | (with_reducible refine Kd.C_drew ?_))); (case side2 => exact (Kd.R_reads' HO305.out).2.1); (case side3 => repeat (first | exact (Kd.R_reads' HO320.out).2.2 | (with_reducible refine Kd.C_alloc ?_ _) | (with_reducible refine Kd.C_drewN ?_ _) | (with_reducible refine Kd.C_drew ?_))); (case side4 => exact (Kd.R_reads' HO320.out).2.1); rintro e w' ⟨rfl, ⟨nd, rfl⟩⟩; refine ⟨_, rfl, ?_⟩) | (go_at_call 25; (with_reducible refine (spec_Meet.calls k _ _ t297 _ _ t298 t322 _ ?side1 ?side2 ?side3 ?side4 A12.out).mono ?_); (case side1 => repeat (first | exact (Kd.R_reads' HO300.out).2.2 | (with_reducible refine Kd.C_alloc ?_ _) | (with_reducible refine Kd.C_drewN ?_ _) | (with_reducible refine Kd.C_drew ?_))); (case side2 => exact (Kd.R_reads' HO300.out).2.1); (case side3 => repeat (first | exact (Kd.R_reads' HO302.out).2.2 | (with_reducible refine Kd.C_alloc ?_ _) | (with_reducible refine Kd.C_drewN ?_ _) | (with_reducible refine Kd.C_drew ?_))); (case side4 => exact (Kd.R_reads' HO302.out).2.1); rintro e w52 ⟨v323, rfl, ho0, hb⟩; have n0_ := Aside0.mk Z5_13; have n1_ := Aside0.mk Z5_14; have n2_ := Aside0.mk Z5_15; have n3_ := Aside0.mk Z5_16; have n4_ := Aside0.mk Z5_17; have n5_ := Aside0.mk Z5_18; have n6_ := Aside0.mk Z5_19; have n7_ := Aside0.mk Z5_20; have n8_ := Aside0.mk (Kd.R_lower (Kd.R_new' (Kd.R_new' (Kd.R_new' (Kd.R_new' (Kd.R_new' (Kd.R_new' (Kd.R_new' (Kd.R_new' ho0 (Kd.R_lt Z5_48)) (Kd.R_lt Z5_49)) (Kd.R_lt Z5_50)) (Kd.R_lt Z5_51)) (Kd.R_lt Z5_52)) (Kd.R_lt Z5_53)) (Kd.R_lt Z5_54)) (Kd.R_lt Z5_55)) (below_size Z5_29)); have n9_ := Aside0.mk Z5_10; clear HO300; clear HO302; clear HO305; clear HO308; clear HO311; clear HO315; clear HO317; clear HO320; clear HB; have HO300 := n0_; have HO302 := n1_; have HO305 := n2_; have HO308 := n3_; have HO311 := n4_; have HO315 := n5_; have HO317 := n6_; have HO320 := n7_; have HO324 := n8_; have HB := n9_; clear n0_ n1_ n2_ n3_ n4_ n5_ n6_ n7_ n8_ n9_; (try clear hb); (try clear hb2); (try clear hk); (try clear hi); (try clear ho0); obtain ⟨Ao53, co53, eo53⟩ := Kd.R_slice HO308.out; subst eo53; obtain ⟨Ao54, co54, eo54⟩ := Kd.R_slice HO324.out; subst eo54) | (go_at_call 35; (with_reducible refine (laws_sameInts.calls k _ _ t306 _ _ t322 true _ ?side1 ?side2 ?side3 ?side4 A13.out).mono ?_); (case side1 => repeat (first | exact (Kd.R_reads' HO308.out).2.2 | (with_reducible refine Kd.C_alloc ?_ _) | (with_reducible refine Kd.C_drewN ?_ _) | (with_reducible refine Kd.C_drew ?_))); (case side2 => exact (Kd.R_reads' HO308.out).2.1); (case side3 => repeat (first | exact (Kd.R_reads' HO324.out).2.2 | (with_reducible refine Kd.C_alloc ?_ _) | (with_reducible refine Kd.C_drewN ?_ _) | (with_reducible refine Kd.C_drew ?_))); (case side4 => exact (Kd.R_reads' HO324.out).2.1); rintro e w' ⟨rfl, ⟨nd, rfl⟩⟩) | (go_at_call 27; (with_reducible refine (spec_Rest.calls k _ _ t297 _ _ t298 t326 _ ?side1 ?side2 ?side3 ?side4 A15.out).mono ?_); (case side1 => repeat (first | exact (Kd.R_reads' HO300.out).2.2 | (with_reducible refine Kd.C_alloc ?_ _) | (with_reducible refine Kd.C_drewN ?_ _) | (with_reducible refine Kd.C_drew ?_))); (case side2 => exact (Kd.R_reads' HO300.out).2.1); (case side3 => repeat (first | exact (Kd.R_reads' HO302.out).2.2 | (with_reducible refine Kd.C_alloc ?_ _) | (with_reducible refine Kd.C_drewN ?_ _) | (with_reducible refine Kd.C_drew ?_))); (case side4 => exact (Kd.R_reads' HO302.out).2.1); rintro e w55 ⟨v327, rfl, ho0, hb⟩; have n0_ := Aside0.mk Z5_13; have n1_ := Aside0.mk Z5_14; have n2_ := Aside0.mk Z5_15; have n3_ := Aside0.mk Z5_16; have n4_ := Aside0.mk Z5_17; have n5_ := Aside0.mk Z5_18; have n6_ := Aside0.mk Z5_19; have n7_ := Aside0.mk Z5_20; have n8_ := Aside0.mk Z5_21; have n9_ := Aside0.mk (Kd.R_lower (Kd.R_new' (Kd.R_new' (Kd.R_new' (Kd.R_new' (Kd.R_new' (Kd.R_new' (Kd.R_new' (Kd.R_new' (Kd.R_new' ho0 (Kd.R_lt Z5_48)) (Kd.R_lt Z5_49)) (Kd.R_lt Z5_50)) (Kd.R_lt Z5_51)) (Kd.R_lt Z5_52)) (Kd.R_lt Z5_53)) (Kd.R_lt Z5_54)) (Kd.R_lt Z5_55)) (Kd.R_lt Z5_56)) (below_size Z5_29)); have n10_ := Aside0.mk Z5_10; clear HO300; clear HO302; clear HO305; clear HO308; clear HO311; clear HO315; clear HO317; clear HO320; clear HO324; clear HB; have HO300 := n0_; have HO302 := n1_; have HO305 := n2_; have HO308 := n3_; have HO311 := n4_; have HO315 := n5_; have HO317 := n6_; have HO320 := n7_; have HO324 := n8_; have HO328 := n9_; have HB := n10_; clear n0_ n1_ n2_ n3_ n4_ n5_ n6_ n7_ n8_ n9_ n10_; (try clear hb); (try clear hb2); (try clear hk); (try clear hi); (try clear ho0); obtain ⟨Ao56, co56, eo56⟩ := Kd.R_slice HO311.out; subst eo56; obtain ⟨Ao57, co57, eo57⟩ := Kd.R_slice HO328.out; subst eo57) | (go_at_call 35; (with_reducible refine (laws_sameInts.calls k _ _ t309 _ _ t326 true _ ?side1 ?side2 ?side3 ?side4 A16.out).mono ?_); (case side1 => repeat (first | exact (Kd.R_reads' HO311.out).2.2 | (with_reducible refine Kd.C_alloc ?_ _) | (with_reducible refine Kd.C_drewN ?_ _) | (with_reducible refine Kd.C_drew ?_))); (case side2 => exact (Kd.R_reads' HO311.out).2.1); (case side3 => repeat (first | exact (Kd.R_reads' HO328.out).2.2 | (with_reducible refine Kd.C_alloc ?_ _) | (with_reducible refine Kd.C_drewN ?_ _) | (with_reducible refine Kd.C_drew ?_))); (case side4 => exact (Kd.R_reads' HO328.out).2.1); rintro e w' ⟨rfl, ⟨nd, rfl⟩⟩; obtain ⟨Ao58, co58, eo58⟩ := Kd.R_slice HO315.out; subst eo58; obtain ⟨Ao59, co59, eo59⟩ := Kd.R_slice HO317.out; subst eo59) | (go_at_call 20; (with_reducible refine (impl_Within.calls k _ _ t312 _ _ t313 t330 _ ?side1 ?side2 ?side3 ?side4 A18.out).mono ?_); (case side1 => repeat (first | exact (Kd.R_reads' HO315.out).2.2 | (with_reducible refine Kd.C_alloc ?_ _) | (with_reducible refine Kd.C_drewN ?_ _) | (with_reducible refine Kd.C_drew ?_))); (case side2 => exact (Kd.R_reads' HO315.out).2.1); (case side3 => repeat (first | exact (Kd.R_reads' HO317.out).2.2 | (with_reducible refine Kd.C_alloc ?_ _) | (with_reducible refine Kd.C_drewN ?_ _) | (with_reducible refine Kd.C_drew ?_))); (case side4 => exact (Kd.R_reads' HO317.out).2.1); rintro e w60 ⟨rfl, hb⟩; have n0_ := Aside0.mk Z5_30; have n1_ := Aside0.mk Z5_31; have n2_ := Aside0.mk Z5_32; have n3_ := Aside0.mk Z5_33; have n4_ := Aside0.mk Z5_34; have n5_ := Aside0.mk Z5_35; have n6_ := Aside0.mk Z5_36; have n7_ := Aside0.mk Z5_37; have n8_ := Aside0.mk Z5_38; have n9_ := Aside0.mk Z5_39; have n10_ := Aside0.mk Z5_10; clear HO300; clear HO302; clear HO305; clear HO308; clear HO311; clear HO315; clear HO317; clear HO320; clear HO324; clear HO328; clear HB; have HO300 := n0_; have HO302 := n1_; have HO305 := n2_; have HO308 := n3_; have HO311 := n4_; have HO315 := n5_; have HO317 := n6_; have HO320 := n7_; have HO324 := n8_; have HO328 := n9_; have HB := n10_; clear n0_ n1_ n2_ n3_ n4_ n5_ n6_ n7_ n8_ n9_ n10_; (try clear hb); (try clear hb2); (try clear hk); (try clear hi); clear A18) | (go_at_call 19; (with_reducible refine (spec_Within.calls k _ _ t312 _ _ t313 t331 _ ?side1 ?side2 ?side3 ?side4 A19.out).mono ?_); (case side1 => repeat (first | exact (Kd.R_reads' HO315.out).2.2 | (with_reducible refine Kd.C_alloc ?_ _) | (with_reducible refine Kd.C_drewN ?_ _) | (with_reducible refine Kd.C_drew ?_))); (case side2 => exact (Kd.R_reads' HO315.out).2.1); (case side3 => repeat (first | exact (Kd.R_reads' HO317.out).2.2 | (with_reducible refine Kd.C_alloc ?_ _) | (with_reducible refine Kd.C_drewN ?_ _) | (with_reducible refine Kd.C_drew ?_))); (case side4 => exact (Kd.R_reads' HO317.out).2.1); rintro e w' ⟨rfl, ⟨nd, rfl⟩⟩) | (go_at_call 20; (with_reducible refine (impl_Within.calls k _ _ t312 _ _ t313 t332 _ ?side1 ?side2 ?side3 ?side4 A21.out).mono ?_); (case side1 => repeat (first | exact (Kd.R_reads' HO315.out).2.2 | (with_reducible refine Kd.C_alloc ?_ _) | (with_reducible refine Kd.C_drewN ?_ _) | (with_reducible refine Kd.C_drew ?_))); (case side2 => exact (Kd.R_reads' HO315.out).2.1); (case side3 => repeat (first | exact (Kd.R_reads' HO317.out).2.2 | (with_reducible refine Kd.C_alloc ?_ _) | (with_reducible refine Kd.C_drewN ?_ _) | (with_reducible refine Kd.C_drew ?_))); (case side4 => exact (Kd.R_reads' HO317.out).2.1); rintro e w61 ⟨rfl, hb⟩; have n0_ := Aside0.mk Z5_30; have n1_ := Aside0.mk Z5_31; have n2_ := Aside0.mk Z5_32; have n3_ := Aside0.mk Z5_33; have n4_ := Aside0.mk Z5_34; have n5_ := Aside0.mk Z5_35; have n6_ := Aside0.mk Z5_36; have n7_ := Aside0.mk Z5_37; have n8_ := Aside0.mk Z5_38; have n9_ := Aside0.mk Z5_39; have n10_ := Aside0.mk Z5_10; clear HO300; clear HO302; clear HO305; clear HO308; clear HO311; clear HO315; clear HO317; clear HO320; clear HO324; clear HO328; clear HB; have HO300 := n0_; have HO302 := n1_; have HO305 := n2_; have HO308 := n3_; have HO311 := n4_; have HO315 := n5_; have HO317 := n6_; have HO320 := n7_; have HO324 := n8_; have HO328 := n9_; have HB := n10_; clear n0_ n1_ n2_ n3_ n4_ n5_ n6_ n7_ n8_ n9_ n10_; (try clear hb); (try clear hb2); (try clear hk); (try clear hi); clear A21) | (go_at_call 26; (with_reducible refine (impl_Meet.calls k _ _ t312 _ _ t313 t333 _ ?side1 ?side2 ?side3 ?side4 A22.out).mono ?_); (case side1 => repeat (first | exact (Kd.R_reads' HO315.out).2.2 | (with_reducible refine Kd.C_alloc ?_ _) | (with_reducible refine Kd.C_drewN ?_ _) | (with_reducible refine Kd.C_drew ?_))); (case side2 => exact (Kd.R_reads' HO315.out).2.1); (case side3 => repeat (first | exact (Kd.R_reads' HO317.out).2.2 | (with_reducible refine Kd.C_alloc ?_ _) | (with_reducible refine Kd.C_drewN ?_ _) | (with_reducible refine Kd.C_drew ?_))); (case side4 => exact (Kd.R_reads' HO317.out).2.1); rintro e w62 ⟨v334, rfl, ho0, hb⟩; have n0_ := Aside0.mk Z5_13; have n1_ := Aside0.mk Z5_14; have n2_ := Aside0.mk Z5_15; have n3_ := Aside0.mk Z5_16; have n4_ := Aside0.mk Z5_17; have n5_ := Aside0.mk Z5_18; have n6_ := Aside0.mk Z5_19; have n7_ := Aside0.mk Z5_20; have n8_ := Aside0.mk Z5_21; have n9_ := Aside0.mk Z5_22; have n10_ := Aside0.mk (Kd.R_lower (Kd.R_new' (Kd.R_new' (Kd.R_new' (Kd.R_new' (Kd.R_new' (Kd.R_new' (Kd.R_new' (Kd.R_new' (Kd.R_new' (Kd.R_new' ho0 (Kd.R_lt Z5_48)) (Kd.R_lt Z5_49)) (Kd.R_lt Z5_50)) (Kd.R_lt Z5_51)) (Kd.R_lt Z5_52)) (Kd.R_lt Z5_53)) (Kd.R_lt Z5_54)) (Kd.R_lt Z5_55)) (Kd.R_lt Z5_56)) (Kd.R_lt Z5_57)) (below_size Z5_29)); have n11_ := Aside0.mk Z5_10; clear HO300; clear HO302; clear HO305; clear HO308; clear HO311; clear HO315; clear HO317; clear HO320; clear HO324; clear HO328; clear HB; have HO300 := n0_; have HO302 := n1_; have HO305 := n2_; have HO308 := n3_; have HO311 := n4_; have HO315 := n5_; have HO317 := n6_; have HO320 := n7_; have HO324 := n8_; have HO328 := n9_; have HO335 := n10_; have HB := n11_; clear n0_ n1_ n2_ n3_ n4_ n5_ n6_ n7_ n8_ n9_ n10_ n11_; (try clear hb); (try clear hb2); (try clear hk); (try clear hi); (try clear ho0); clear A22) | (go_at_call 15; (with_reducible refine (impl_SetOf.calls _ _ t312 t336 _ ?side1 ?side2 A23.out).mono ?_); (case side1 => repeat (first | exact (Kd.R_reads' HO315.out).2.2 | (with_reducible refine Kd.C_alloc ?_ _) | (with_reducible refine Kd.C_drewN ?_ _) | (with_reducible refine Kd.C_drew ?_))); (case side2 => exact (Kd.R_reads' HO315.out).2.1); rintro e w63 ⟨v337, rfl, ho0, hb⟩; have n0_ := Aside0.mk Z5_13; have n1_ := Aside0.mk Z5_14; have n2_ := Aside0.mk Z5_15; have n3_ := Aside0.mk Z5_16; have n4_ := Aside0.mk Z5_17; have n5_ := Aside0.mk Z5_18; have n6_ := Aside0.mk Z5_19; have n7_ := Aside0.mk Z5_20; have n8_ := Aside0.mk Z5_21; have n9_ := Aside0.mk Z5_22; have n10_ := Aside0.mk Z5_23; have n11_ := Aside0.mk (Kd.R_lower (Kd.R_new' (Kd.R_new' (Kd.R_new' (Kd.R_new' (Kd.R_new' (Kd.R_new' (Kd.R_new' (Kd.R_new' (Kd.R_new' (Kd.R_new' (Kd.R_new' ho0 (Kd.R_lt Z5_48)) (Kd.R_lt Z5_49)) (Kd.R_lt Z5_50)) (Kd.R_lt Z5_51)) (Kd.R_lt Z5_52)) (Kd.R_lt Z5_53)) (Kd.R_lt Z5_54)) (Kd.R_lt Z5_55)) (Kd.R_lt Z5_56)) (Kd.R_lt Z5_57)) (Kd.R_lt Z5_58)) (below_size Z5_29)); have n12_ := Aside0.mk Z5_10; clear HO300; clear HO302; clear HO305; clear HO308; clear HO311; clear HO315; clear HO317; clear HO320; clear HO324; clear HO328; clear HO335; clear HB; have HO300 := n0_; have HO302 := n1_; have HO305 := n2_; have HO308 := n3_; have HO311 := n4_; have HO315 := n5_; have HO317 := n6_; have HO320 := n7_; have HO324 := n8_; have HO328 := n9_; have HO335 := n10_; have HO338 := n11_; have HB := n12_; clear n0_ n1_ n2_ n3_ n4_ n5_ n6_ n7_ n8_ n9_ n10_ n11_ n12_; (try clear hb); (try clear hb2); (try clear hk); (try clear hi); (try clear ho0); obtain ⟨Ao64, co64, eo64⟩ := Kd.R_slice HO335.out; subst eo64; obtain ⟨Ao65, co65, eo65⟩ := Kd.R_slice HO338.out; subst eo65; clear A23) | (go_at_call 35; (with_reducible refine (laws_sameInts.calls k _ _ t333 _ _ t336 t339 _ ?side1 ?side2 ?side3 ?side4 A24.out).mono ?_); (case side1 => repeat (first | exact (Kd.R_reads' HO335.out).2.2 | (with_reducible refine Kd.C_alloc ?_ _) | (with_reducible refine Kd.C_drewN ?_ _) | (with_reducible refine Kd.C_drew ?_))); (case side2 => exact (Kd.R_reads' HO335.out).2.1); (case side3 => repeat (first | exact (Kd.R_reads' HO338.out).2.2 | (with_reducible refine Kd.C_alloc ?_ _) | (with_reducible refine Kd.C_drewN ?_ _) | (with_reducible refine Kd.C_drew ?_))); (case side4 => exact (Kd.R_reads' HO338.out).2.1); rintro e w' ⟨rfl, ⟨nd, rfl⟩⟩) | ((with_reducible refine gate_callee (f := 24) rfl ?_); refine goesL_ (some 76) rfl rfl Try.func24 (by kernel_rfl) rfl #[.slice Ao53 t306.length co53, .slice Ao56 t309.length co56] rfl Z5_12 ?_; (with_reducible refine (impl_Union.calls _ _ t306 _ _ t309 t340 _ ?side1 ?side2 ?side3 ?side4 A26.out).mono ?_); (case side1 => repeat (first | exact (Kd.R_reads' HO308.out).2.2 | (with_reducible refine Kd.C_alloc ?_ _) | (with_reducible refine Kd.C_drewN ?_ _) | (with_reducible refine Kd.C_drew ?_))); (case side2 => exact (Kd.R_reads' HO308.out).2.1); (case side3 => repeat (first | exact (Kd.R_reads' HO311.out).2.2 | (with_reducible refine Kd.C_alloc ?_ _) | (with_reducible refine Kd.C_drewN ?_ _) | (with_reducible refine Kd.C_drew ?_))); (case side4 => exact (Kd.R_reads' HO311.out).2.1); rintro e w66 ⟨v341, rfl, ho0, hb⟩; refine ⟨_, rfl, ?_⟩; have n0_ := Aside0.mk Z5_13; have n1_ := Aside0.mk Z5_14; have n2_ := Aside0.mk Z5_15; have n3_ := Aside0.mk Z5_16; have n4_ := Aside0.mk Z5_17; have n5_ := Aside0.mk Z5_18; have n6_ := Aside0.mk Z5_19; have n7_ := Aside0.mk Z5_20; have n8_ := Aside0.mk Z5_21; have n9_ := Aside0.mk Z5_22; have n10_ := Aside0.mk Z5_23; have n11_ := Aside0.mk Z5_24; have n12_ := Aside0.mk (Kd.R_lower (Kd.R_new' (Kd.R_new' (Kd.R_new' (Kd.R_new' (Kd.R_new' (Kd.R_new' (Kd.R_new' (Kd.R_new' (Kd.R_new' (Kd.R_new' (Kd.R_new' (Kd.R_new' ho0 (Kd.R_lt Z5_48)) (Kd.R_lt Z5_49)) (Kd.R_lt Z5_50)) (Kd.R_lt Z5_51)) (Kd.R_lt Z5_52)) (Kd.R_lt Z5_53)) (Kd.R_lt Z5_54)) (Kd.R_lt Z5_55)) (Kd.R_lt Z5_56)) (Kd.R_lt Z5_57)) (Kd.R_lt Z5_58)) (Kd.R_lt Z5_59)) (below_size Z5_29)); have n13_ := Aside0.mk Z5_10; clear HO300; clear HO302; clear HO305; clear HO308; clear HO311; clear HO315; clear HO317; clear HO320; clear HO324; clear HO328; clear HO335; clear HO338; clear HB; have HO300 := n0_; have HO302 := n1_; have HO305 := n2_; have HO308 := n3_; have HO311 := n4_; have HO315 := n5_; have HO317 := n6_; have HO320 := n7_; have HO324 := n8_; have HO328 := n9_; have HO335 := n10_; have HO338 := n11_; have HO342 := n12_; have HB := n13_; clear n0_ n1_ n2_ n3_ n4_ n5_ n6_ n7_ n8_ n9_ n10_ n11_ n12_ n13_; (try clear hb); (try clear hb2); (try clear hk); (try clear hi); (try clear ho0); clear A26) | ((with_reducible refine gate_callee (f := 15) rfl ?_); refine goesL_ (some 78) rfl rfl Try.func15 (by kernel_rfl) rfl #[.slice Ao43 t297.length co43] rfl Z5_12 ?_; (with_reducible refine (impl_SetOf.calls _ _ t297 t343 _ ?side1 ?side2 A27.out).mono ?_); (case side1 => repeat (first | exact (Kd.R_reads' HO300.out).2.2 | (with_reducible refine Kd.C_alloc ?_ _) | (with_reducible refine Kd.C_drewN ?_ _) | (with_reducible refine Kd.C_drew ?_))); (case side2 => exact (Kd.R_reads' HO300.out).2.1); rintro e w67 ⟨v344, rfl, ho0, hb⟩; refine ⟨_, rfl, ?_⟩; have n0_ := Aside0.mk Z5_13; have n1_ := Aside0.mk Z5_14; have n2_ := Aside0.mk Z5_15; have n3_ := Aside0.mk Z5_16; have n4_ := Aside0.mk Z5_17; have n5_ := Aside0.mk Z5_18; have n6_ := Aside0.mk Z5_19; have n7_ := Aside0.mk Z5_20; have n8_ := Aside0.mk Z5_21; have n9_ := Aside0.mk Z5_22; have n10_ := Aside0.mk Z5_23; have n11_ := Aside0.mk Z5_24; have n12_ := Aside0.mk Z5_25; have n13_ := Aside0.mk (Kd.R_lower (Kd.R_new' (Kd.R_new' (Kd.R_new' (Kd.R_new' (Kd.R_new' (Kd.R_new' (Kd.R_new' (Kd.R_new' (Kd.R_new' (Kd.R_new' (Kd.R_new' (Kd.R_new' (Kd.R_new' ho0 (Kd.R_lt Z5_48)) (Kd.R_lt Z5_49)) (Kd.R_lt Z5_50)) (Kd.R_lt Z5_51)) (Kd.R_lt Z5_52)) (Kd.R_lt Z5_53)) (Kd.R_lt Z5_54)) (Kd.R_lt Z5_55)) (Kd.R_lt Z5_56)) (Kd.R_lt Z5_57)) (Kd.R_lt Z5_58)) (Kd.R_lt Z5_59)) (Kd.R_lt Z5_60)) (below_size Z5_29)); have n14_ := Aside0.mk Z5_10; clear HO300; clear HO302; clear HO305; clear HO308; clear HO311; clear HO315; clear HO317; clear HO320; clear HO324; clear HO328; clear HO335; clear HO338; clear HO342; clear HB; have HO300 := n0_; have HO302 := n1_; have HO305 := n2_; have HO308 := n3_; have HO311 := n4_; have HO315 := n5_; have HO317 := n6_; have HO320 := n7_; have HO324 := n8_; have HO328 := n9_; have HO335 := n10_; have HO338 := n11_; have HO342 := n12_; have HO345 := n13_; have HB := n14_; clear n0_ n1_ n2_ n3_ n4_ n5_ n6_ n7_ n8_ n9_ n10_ n11_ n12_ n13_ n14_; (try clear hb); (try clear hb2); (try clear hk); (try clear hi); (try clear ho0); obtain ⟨Ao68, co68, eo68⟩ := Kd.R_slice HO342.out; subst eo68; obtain ⟨Ao69, co69, eo69⟩ := Kd.R_slice HO345.out; subst eo69; clear A27) | ((with_reducible refine gate_callee (f := 35) rfl ?_); refine goesL_ (some 79) rfl rfl Try.func35 (by kernel_rfl) rfl #[.slice Ao68 t340.length co68, .slice Ao69 t343.length co69] rfl Z5_12 ?_; (with_reducible refine (laws_sameInts.calls k _ _ t340 _ _ t343 true _ ?side1 ?side2 ?side3 ?side4 A28.out).mono ?_); (case side1 => repeat (first | exact (Kd.R_reads' HO342.out).2.2 | (with_reducible refine Kd.C_alloc ?_ _) | (with_reducible refine Kd.C_drewN ?_ _) | (with_reducible refine Kd.C_drew ?_))); (case side2 => exact (Kd.R_reads' HO342.out).2.1); (case side3 => repeat (first | exact (Kd.R_reads' HO345.out).2.2 | (with_reducible refine Kd.C_alloc ?_ _) | (with_reducible refine Kd.C_drewN ?_ _) | (with_reducible refine Kd.C_drew ?_))); (case side4 => exact (Kd.R_reads' HO345.out).2.1); rintro e w' ⟨rfl, ⟨nd, rfl⟩⟩; refine ⟨_, rfl, ?_⟩) | (go_at_call 20; (with_reducible refine (impl_Within.calls k _ _ t306 _ _ t297 true _ ?side1 ?side2 ?side3 ?side4 A30.out).mono ?_); (case side1 => repeat (first | exact (Kd.R_reads' HO308.out).2.2 | (with_reducible refine Kd.C_alloc ?_ _) | (with_reducible refine Kd.C_drewN ?_ _) | (with_reducible refine Kd.C_drew ?_))); (case side2 => exact (Kd.R_reads' HO308.out).2.1); (case side3 => repeat (first | exact (Kd.R_reads' HO300.out).2.2 | (with_reducible refine Kd.C_alloc ?_ _) | (with_reducible refine Kd.C_drewN ?_ _) | (with_reducible refine Kd.C_drew ?_))); (case side4 => exact (Kd.R_reads' HO300.out).2.1); rintro e w70 ⟨rfl, hb⟩; have n0_ := Aside0.mk Z5_30; have n1_ := Aside0.mk Z5_31; have n2_ := Aside0.mk Z5_32; have n3_ := Aside0.mk Z5_33; have n4_ := Aside0.mk Z5_34; have n5_ := Aside0.mk Z5_35; have n6_ := Aside0.mk Z5_36; have n7_ := Aside0.mk Z5_37; have n8_ := Aside0.mk Z5_38; have n9_ := Aside0.mk Z5_39; have n10_ := Aside0.mk Z5_40; have n11_ := Aside0.mk Z5_41; have n12_ := Aside0.mk Z5_42; have n13_ := Aside0.mk Z5_43; have n14_ := Aside0.mk Z5_10; clear HO300; clear HO302; clear HO305; clear HO308; clear HO311; clear HO315; clear HO317; clear HO320; clear HO324; clear HO328; clear HO335; clear HO338; clear HO342; clear HO345; clear HB; have HO300 := n0_; have HO302 := n1_; have HO305 := n2_; have HO308 := n3_; have HO311 := n4_; have HO315 := n5_; have HO317 := n6_; have HO320 := n7_; have HO324 := n8_; have HO328 := n9_; have HO335 := n10_; have HO338 := n11_; have HO342 := n12_; have HO345 := n13_; have HB := n14_; clear n0_ n1_ n2_ n3_ n4_ n5_ n6_ n7_ n8_ n9_ n10_ n11_ n12_ n13_ n14_; (try clear hb); (try clear hb2); (try clear hk); (try clear hi); clear A30) | (go_at_call 20; (with_reducible refine (impl_Within.calls k _ _ t306 _ _ t298 true _ ?side1 ?side2 ?side3 ?side4 A32.out).mono ?_); (case side1 => repeat (first | exact (Kd.R_reads' HO308.out).2.2 | (with_reducible refine Kd.C_alloc ?_ _) | (with_reducible refine Kd.C_drewN ?_ _) | (with_reducible refine Kd.C_drew ?_))); (case side2 => exact (Kd.R_reads' HO308.out).2.1); (case side3 => repeat (first | exact (Kd.R_reads' HO302.out).2.2 | (with_reducible refine Kd.C_alloc ?_ _) | (with_reducible refine Kd.C_drewN ?_ _) | (with_reducible refine Kd.C_drew ?_))); (case side4 => exact (Kd.R_reads' HO302.out).2.1); rintro e w71 ⟨rfl, hb⟩; have n0_ := Aside0.mk Z5_30; have n1_ := Aside0.mk Z5_31; have n2_ := Aside0.mk Z5_32; have n3_ := Aside0.mk Z5_33; have n4_ := Aside0.mk Z5_34; have n5_ := Aside0.mk Z5_35; have n6_ := Aside0.mk Z5_36; have n7_ := Aside0.mk Z5_37; have n8_ := Aside0.mk Z5_38; have n9_ := Aside0.mk Z5_39; have n10_ := Aside0.mk Z5_40; have n11_ := Aside0.mk Z5_41; have n12_ := Aside0.mk Z5_42; have n13_ := Aside0.mk Z5_43; have n14_ := Aside0.mk Z5_10; clear HO300; clear HO302; clear HO305; clear HO308; clear HO311; clear HO315; clear HO317; clear HO320; clear HO324; clear HO328; clear HO335; clear HO338; clear HO342; clear HO345; clear HB; have HO300 := n0_; have HO302 := n1_; have HO305 := n2_; have HO308 := n3_; have HO311 := n4_; have HO315 := n5_; have HO317 := n6_; have HO320 := n7_; have HO324 := n8_; have HO328 := n9_; have HO335 := n10_; have HO338 := n11_; have HO342 := n12_; have HO345 := n13_; have HB := n14_; clear n0_ n1_ n2_ n3_ n4_ n5_ n6_ n7_ n8_ n9_ n10_ n11_ n12_ n13_ n14_; (try clear hb); (try clear hb2); (try clear hk); (try clear hi); clear A32) | (go_at_call 20; (with_reducible refine (impl_Within.calls k _ _ t297 _ _ t303 true _ ?side1 ?side2 ?side3 ?side4 A34.out).mono ?_); (case side1 => repeat (first | exact (Kd.R_reads' HO300.out).2.2 | (with_reducible refine Kd.C_alloc ?_ _) | (with_reducible refine Kd.C_drewN ?_ _) | (with_reducible refine Kd.C_drew ?_))); (case side2 => exact (Kd.R_reads' HO300.out).2.1); (case side3 => repeat (first | exact (Kd.R_reads' HO305.out).2.2 | (with_reducible refine Kd.C_alloc ?_ _) | (with_reducible refine Kd.C_drewN ?_ _) | (with_reducible refine Kd.C_drew ?_))); (case side4 => exact (Kd.R_reads' HO305.out).2.1); rintro e w72 ⟨rfl, hb⟩; have n0_ := Aside0.mk Z5_30; have n1_ := Aside0.mk Z5_31; have n2_ := Aside0.mk Z5_32; have n3_ := Aside0.mk Z5_33; have n4_ := Aside0.mk Z5_34; have n5_ := Aside0.mk Z5_35; have n6_ := Aside0.mk Z5_36; have n7_ := Aside0.mk Z5_37; have n8_ := Aside0.mk Z5_38; have n9_ := Aside0.mk Z5_39; have n10_ := Aside0.mk Z5_40; have n11_ := Aside0.mk Z5_41; have n12_ := Aside0.mk Z5_42; have n13_ := Aside0.mk Z5_43; have n14_ := Aside0.mk Z5_10; clear HO300; clear HO302; clear HO305; clear HO308; clear HO311; clear HO315; clear HO317; clear HO320; clear HO324; clear HO328; clear HO335; clear HO338; clear HO342; clear HO345; clear HB; have HO300 := n0_; have HO302 := n1_; have HO305 := n2_; have HO308 := n3_; have HO311 := n4_; have HO315 := n5_; have HO317 := n6_; have HO320 := n7_; have HO324 := n8_; have HO328 := n9_; have HO335 := n10_; have HO338 := n11_; have HO342 := n12_; have HO345 := n13_; have HB := n14_; clear n0_ n1_ n2_ n3_ n4_ n5_ n6_ n7_ n8_ n9_ n10_ n11_ n12_ n13_ n14_; (try clear hb); (try clear hb2); (try clear hk); (try clear hi); clear A34) | (go_at_call 20; (with_reducible refine (impl_Within.calls k _ _ t298 _ _ t303 true _ ?side1 ?side2 ?side3 ?side4 A36.out).mono ?_); (case side1 => repeat (first | exact (Kd.R_reads' HO302.out).2.2 | (with_reducible refine Kd.C_alloc ?_ _) | (with_reducible refine Kd.C_drewN ?_ _) | (with_reducible refine Kd.C_drew ?_))); (case side2 => exact (Kd.R_reads' HO302.out).2.1); (case side3 => repeat (first | exact (Kd.R_reads' HO305.out).2.2 | (with_reducible refine Kd.C_alloc ?_ _) | (with_reducible refine Kd.C_drewN ?_ _) | (with_reducible refine Kd.C_drew ?_))); (case side4 => exact (Kd.R_reads' HO305.out).2.1); rintro e w73 ⟨rfl, hb⟩; have n0_ := Aside0.mk Z5_30; have n1_ := Aside0.mk Z5_31; have n2_ := Aside0.mk Z5_32; have n3_ := Aside0.mk Z5_33; have n4_ := Aside0.mk Z5_34; have n5_ := Aside0.mk Z5_35; have n6_ := Aside0.mk Z5_36; have n7_ := Aside0.mk Z5_37; have n8_ := Aside0.mk Z5_38; have n9_ := Aside0.mk Z5_39; have n10_ := Aside0.mk Z5_40; have n11_ := Aside0.mk Z5_41; have n12_ := Aside0.mk Z5_42; have n13_ := Aside0.mk Z5_43; have n14_ := Aside0.mk Z5_10; clear HO300; clear HO302; clear HO305; clear HO308; clear HO311; clear HO315; clear HO317; clear HO320; clear HO324; clear HO328; clear HO335; clear HO338; clear HO342; clear HO345; clear HB; have HO300 := n0_; have HO302 := n1_; have HO305 := n2_; have HO308 := n3_; have HO311 := n4_; have HO315 := n5_; have HO317 := n6_; have HO320 := n7_; have HO324 := n8_; have HO328 := n9_; have HO335 := n10_; have HO338 := n11_; have HO342 := n12_; have HO345 := n13_; have HB := n14_; clear n0_ n1_ n2_ n3_ n4_ n5_ n6_ n7_ n8_ n9_ n10_ n11_ n12_ n13_ n14_; (try clear hb); (try clear hb2); (try clear hk); (try clear hi); clear A36) | (go_at_call 15; (with_reducible refine (impl_SetOf.calls _ _ t297 t351 _ ?side1 ?side2 A38.out).mono ?_); (case side1 => repeat (first | exact (Kd.R_reads' HO300.out).2.2 | (with_reducible refine Kd.C_alloc ?_ _) | (with_reducible refine Kd.C_drewN ?_ _) | (with_reducible refine Kd.C_drew ?_))); (case side2 => exact (Kd.R_reads' HO300.out).2.1); rintro e w74 ⟨v352, rfl, ho0, hb⟩; have n0_ := Aside0.mk Z5_13; have n1_ := Aside0.mk Z5_14; have n2_ := Aside0.mk Z5_15; have n3_ := Aside0.mk Z5_16; have n4_ := Aside0.mk Z5_17; have n5_ := Aside0.mk Z5_18; have n6_ := Aside0.mk Z5_19; have n7_ := Aside0.mk Z5_20; have n8_ := Aside0.mk Z5_21; have n9_ := Aside0.mk Z5_22; have n10_ := Aside0.mk Z5_23; have n11_ := Aside0.mk Z5_24; have n12_ := Aside0.mk Z5_25; have n13_ := Aside0.mk Z5_26; have n14_ := Aside0.mk (Kd.R_lower (Kd.R_new' (Kd.R_new' (Kd.R_new' (Kd.R_new' (Kd.R_new' (Kd.R_new' (Kd.R_new' (Kd.R_new' (Kd.R_new' (Kd.R_new' (Kd.R_new' (Kd.R_new' (Kd.R_new' (Kd.R_new' ho0 (Kd.R_lt Z5_48)) (Kd.R_lt Z5_49)) (Kd.R_lt Z5_50)) (Kd.R_lt Z5_51)) (Kd.R_lt Z5_52)) (Kd.R_lt Z5_53)) (Kd.R_lt Z5_54)) (Kd.R_lt Z5_55)) (Kd.R_lt Z5_56)) (Kd.R_lt Z5_57)) (Kd.R_lt Z5_58)) (Kd.R_lt Z5_59)) (Kd.R_lt Z5_60)) (Kd.R_lt Z5_61)) (below_size Z5_29)); have n15_ := Aside0.mk Z5_10; clear HO300; clear HO302; clear HO305; clear HO308; clear HO311; clear HO315; clear HO317; clear HO320; clear HO324; clear HO328; clear HO335; clear HO338; clear HO342; clear HO345; clear HB; have HO300 := n0_; have HO302 := n1_; have HO305 := n2_; have HO308 := n3_; have HO311 := n4_; have HO315 := n5_; have HO317 := n6_; have HO320 := n7_; have HO324 := n8_; have HO328 := n9_; have HO335 := n10_; have HO338 := n11_; have HO342 := n12_; have HO345 := n13_; have HO353 := n14_; have HB := n15_; clear n0_ n1_ n2_ n3_ n4_ n5_ n6_ n7_ n8_ n9_ n10_ n11_ n12_ n13_ n14_ n15_; (try clear hb); (try clear hb2); (try clear hk); (try clear hi); (try clear ho0); obtain ⟨Ao75, co75, eo75⟩ := Kd.R_slice HO353.out; subst eo75; clear A38) | (go_at_call 15; (with_reducible refine (impl_SetOf.calls _ _ t298 t354 _ ?side1 ?side2 A39.out).mono ?_); (case side1 => repeat (first | exact (Kd.R_reads' HO302.out).2.2 | (with_reducible refine Kd.C_alloc ?_ _) | (with_reducible refine Kd.C_drewN ?_ _) | (with_reducible refine Kd.C_drew ?_))); (case side2 => exact (Kd.R_reads' HO302.out).2.1); rintro e w76 ⟨v355, rfl, ho0, hb⟩; have n0_ := Aside0.mk Z5_13; have n1_ := Aside0.mk Z5_14; have n2_ := Aside0.mk Z5_15; have n3_ := Aside0.mk Z5_16; have n4_ := Aside0.mk Z5_17; have n5_ := Aside0.mk Z5_18; have n6_ := Aside0.mk Z5_19; have n7_ := Aside0.mk Z5_20; have n8_ := Aside0.mk Z5_21; have n9_ := Aside0.mk Z5_22; have n10_ := Aside0.mk Z5_23; have n11_ := Aside0.mk Z5_24; have n12_ := Aside0.mk Z5_25; have n13_ := Aside0.mk Z5_26; have n14_ := Aside0.mk Z5_27; have n15_ := Aside0.mk (Kd.R_lower (Kd.R_new' (Kd.R_new' (Kd.R_new' (Kd.R_new' (Kd.R_new' (Kd.R_new' (Kd.R_new' (Kd.R_new' (Kd.R_new' (Kd.R_new' (Kd.R_new' (Kd.R_new' (Kd.R_new' (Kd.R_new' (Kd.R_new' ho0 (Kd.R_lt Z5_48)) (Kd.R_lt Z5_49)) (Kd.R_lt Z5_50)) (Kd.R_lt Z5_51)) (Kd.R_lt Z5_52)) (Kd.R_lt Z5_53)) (Kd.R_lt Z5_54)) (Kd.R_lt Z5_55)) (Kd.R_lt Z5_56)) (Kd.R_lt Z5_57)) (Kd.R_lt Z5_58)) (Kd.R_lt Z5_59)) (Kd.R_lt Z5_60)) (Kd.R_lt Z5_61)) (Kd.R_lt Z5_62)) (below_size Z5_29)); have n16_ := Aside0.mk Z5_10; clear HO300; clear HO302; clear HO305; clear HO308; clear HO311; clear HO315; clear HO317; clear HO320; clear HO324; clear HO328; clear HO335; clear HO338; clear HO342; clear HO345; clear HO353; clear HB; have HO300 := n0_; have HO302 := n1_; have HO305 := n2_; have HO308 := n3_; have HO311 := n4_; have HO315 := n5_; have HO317 := n6_; have HO320 := n7_; have HO324 := n8_; have HO328 := n9_; have HO335 := n10_; have HO338 := n11_; have HO342 := n12_; have HO345 := n13_; have HO353 := n14_; have HO356 := n15_; have HB := n16_; clear n0_ n1_ n2_ n3_ n4_ n5_ n6_ n7_ n8_ n9_ n10_ n11_ n12_ n13_ n14_ n15_ n16_; (try clear hb); (try clear hb2); (try clear hk); (try clear hi); (try clear ho0); obtain ⟨Ao77, co77, eo77⟩ := Kd.R_slice HO356.out; subst eo77; clear A39) | (go_at_call 26; (with_reducible refine (impl_Meet.calls k _ _ t309 _ _ t298 t357 _ ?side1 ?side2 ?side3 ?side4 A41.out).mono ?_); (case side1 => repeat (first | exact (Kd.R_reads' HO311.out).2.2 | (with_reducible refine Kd.C_alloc ?_ _) | (with_reducible refine Kd.C_drewN ?_ _) | (with_reducible refine Kd.C_drew ?_))); (case side2 => exact (Kd.R_reads' HO311.out).2.1); (case side3 => repeat (first | exact (Kd.R_reads' HO302.out).2.2 | (with_reducible refine Kd.C_alloc ?_ _) | (with_reducible refine Kd.C_drewN ?_ _) | (with_reducible refine Kd.C_drew ?_))); (case side4 => exact (Kd.R_reads' HO302.out).2.1); rintro e w78 ⟨v358, rfl, ho0, hb⟩; have n0_ := Aside0.mk Z5_13; have n1_ := Aside0.mk Z5_14; have n2_ := Aside0.mk Z5_15; have n3_ := Aside0.mk Z5_16; have n4_ := Aside0.mk Z5_17; have n5_ := Aside0.mk Z5_18; have n6_ := Aside0.mk Z5_19; have n7_ := Aside0.mk Z5_20; have n8_ := Aside0.mk Z5_21; have n9_ := Aside0.mk Z5_22; have n10_ := Aside0.mk Z5_23; have n11_ := Aside0.mk Z5_24; have n12_ := Aside0.mk Z5_25; have n13_ := Aside0.mk Z5_26; have n14_ := Aside0.mk Z5_27; have n15_ := Aside0.mk (Kd.R_elder' Z5_63 (Kd.R_base ho0) hb); have n16_ := Aside0.mk (Kd.R_lower (Kd.R_new' (Kd.R_new' (Kd.R_new' (Kd.R_new' (Kd.R_new' (Kd.R_new' (Kd.R_new' (Kd.R_new' (Kd.R_new' (Kd.R_new' (Kd.R_new' (Kd.R_new' (Kd.R_new' (Kd.R_new' (Kd.R_new' (Kd.R_new' ho0 (Kd.R_lt Z5_48)) (Kd.R_lt Z5_49)) (Kd.R_lt Z5_50)) (Kd.R_lt Z5_51)) (Kd.R_lt Z5_52)) (Kd.R_lt Z5_53)) (Kd.R_lt Z5_54)) (Kd.R_lt Z5_55)) (Kd.R_lt Z5_56)) (Kd.R_lt Z5_57)) (Kd.R_lt Z5_58)) (Kd.R_lt Z5_59)) (Kd.R_lt Z5_60)) (Kd.R_lt Z5_61)) (Kd.R_lt Z5_62)) (Kd.R_lt Z5_63)) (below_size Z5_29)); have n17_ := Aside0.mk Z5_10; clear HO300; clear HO302; clear HO305; clear HO308; clear HO311; clear HO315; clear HO317; clear HO320; clear HO324; clear HO328; clear HO335; clear HO338; clear HO342; clear HO345; clear HO353; clear HO356; clear HB; have HO300 := n0_; have HO302 := n1_; have HO305 := n2_; have HO308 := n3_; have HO311 := n4_; have HO315 := n5_; have HO317 := n6_; have HO320 := n7_; have HO324 := n8_; have HO328 := n9_; have HO335 := n10_; have HO338 := n11_; have HO342 := n12_; have HO345 := n13_; have HO353 := n14_; have HO356 := n15_; have HO359 := n16_; have HB := n17_; clear n0_ n1_ n2_ n3_ n4_ n5_ n6_ n7_ n8_ n9_ n10_ n11_ n12_ n13_ n14_ n15_ n16_ n17_; (try clear hb); (try clear hb2); (try clear hk); (try clear hi); (try clear ho0); obtain ⟨Ao79, co79, eo79⟩ := Kd.R_slice HO359.out; subst eo79; clear A41))
  go_ret
  exact ⟨Z5_65, Z5_29⟩

/-- THE ONE PURE STATEMENT of laws_FnSetSums: yours. -/
def laws_FnSetSums.Pure : Prop := ∀ (l0 : List Int), l0.length ≤ maxLen → l0.length * 1 ≤ 140737488351232 → (∀ x ∈ l0, (Lit.int .u8 x).wf = true) → ∃ k, laws_FnSetSums.f k l0 = some true
theorem laws_FnSetSums.walk (P : laws_FnSetSums.Pure) (a0 : Option Addr) (len0 cap0 : Nat) (z0 : List Int) (w : World) (w0 : (a0 = none ∧ len0 = 0 ∧ cap0 = 0 ∧ z0 = []) ∨ ∃ x, a0 = some x ∧ len0 ≤ cap0 ∧ cap0 ≤ maxLen ∧ z0.length = cap0 ∧ (∀ i, i < z0.length → w.cell? (x.add i) = some (.int .u8 (z0.getD i 0))) ∧ ∀ n ∈ z0, (Lit.int .u8 n).wf = true) (y0 : len0 * 1 ≤ 140737488351232) :
    Calls Try.prog 11 #[.slice a0 len0 cap0] w fun e w' => e = .returned (.bool true) ∧ Below w.heap.size w w' := by
  obtain ⟨l0, rfl, hr0, hm0, hw0, hc0⟩ := ReadsInt.ofRowC w0
  obtain ⟨k, h⟩ := P l0 hm0 y0 hw0
  refine (laws_FnSetSums.calls k _ _ l0 true w (Kd.C_of_reads (d := (0 : Int)) (h1 := fun _ => rfl) hr0) hc0 rfl h).mono ?_
  rintro e w' ⟨rfl, hd⟩
  exact ⟨rfl, hd⟩

end Go.Proofs.Ytfenclnejjbfjaa.QFnSetSums
