-- Written by a program of this session (patch_print.py over the print).
import Derived.Test.YtfkidiagmekleaaQAllx0
namespace Go.Proofs.Ytfkidiagmekleaa.QAll
open Go.RowKit Go.Proofs.YtfkidiagmekleaaW.PrintWords Go.Proofs.YtfkidiagmekleaaW.PrintLast Go.Proofs.YtfkidiagmekleaaW.PrintMore
attribute [local go_sem] max2_int min2_int max_two min_two max_three min_three max_four min_four   -- for this text's walks alone
set_option linter.unusedVariables false
set_option linter.unusedSimpArgs false

/-! ### impl_Piece_136: function 136 -/
def impl_Piece_136.f (l0 : List (S25)) : Option ((List (S25))) := (some (([] : List (S25)) : List (S25))).bind fun y1257 => (if y1257.length + l0.length < 1466015503701 then (some (y1257 ++ l0)) else (none))
set_option maxHeartbeats 8000000 in
set_option maxRecDepth 100000 in
theorem impl_Piece_136.calls_some (A0 : Option Addr) (c0 : Nat) (l0 : List (S25)) (r : List (S25)) (w : World) (hr0 : Kd.C k25 w A0 l0.length l0) (hc0 : l0.length ≤ c0) (hA0 : A0.isNone = false) (h : impl_Piece_136.f l0 = some r) :
    Calls Try.prog 136 #[.slice A0 l0.length c0] w fun e w' => ∃ v0_ : Value, e = .returned (v0_) ∧ Kd.R k25 25 w' w.heap.size (fun _ => True) v0_ r ∧ Below w.heap.size w w' := by
  have hq0 : ∀ (w : World) (n' c' : Nat), (Go.binOp .eql 53 (.slice A0 l0.length c0) (.slice none n' c')).run Try.prog w = .ok (.bool false) w := fun w n' c' => (Go.Lib.run_eql_slice_nil w _ _ A0 l0.length c0 n' c' Try.underlying53).trans (by rw [hA0])
  have HR0 := Aside0.mk hr0
  have HC0 := Aside0.mk hc0
  clear hr0 hc0
  have HB := Aside0.mk (Below.refl w.heap.size w)
  have H : ((some (([] : List (S25)) : List (S25))).bind fun y1257 => (if y1257.length + l0.length < 1466015503701 then (some (y1257 ++ l0)) else (none))) = some r := h
  clear h
  obtain ⟨y1257, hy1257⟩ : ∃ y_ : List (S25), y_ = (([] : List (S25))) := ⟨_, rfl⟩
  replace H : (if y1257.length + l0.length < 1466015503701 then (some (y1257 ++ l0)) else (none)) = some r := by first | (rw [hy1257]; with_reducible exact H) | (have H2_ := (Option.bind_some _ _).symm.trans H; rw [hy1257]; with_reducible exact H2_) | (have H2_ := (Option.bind_some _ _).symm.trans H; with_reducible exact H2_) | with_reducible exact H | (rw [hy1257]; exact H) | exact H
  have Ny1257 := Aside0.mk hy1257
  clear hy1257
  by_cases c2 : y1257.length + l0.length < 1466015503701
  · rw [if_pos c2] at H
    have LMc2 := Aside0.mk c2
    clear c2
    obtain ⟨y1260, hy1260⟩ : ∃ y_ : List (S25), y_ = (y1257 ++ l0) := ⟨_, rfl⟩
    replace H : (some y1260) = some r := by first | (rw [hy1260]; with_reducible exact H) | (have H2_ := (Option.bind_some _ _).symm.trans H; rw [hy1260]; with_reducible exact H2_) | (have H2_ := (Option.bind_some _ _).symm.trans H; with_reducible exact H2_) | with_reducible exact H | (rw [hy1260]; exact H) | exact H
    have Ny1260 := Aside0.mk hy1260
    clear hy1260
    obtain rfl := Option.some.inj H
    go_enter Try.func136, Try.ntmps136
    go_wp2_with (first | ((with_reducible refine gate_dst (N := 5) rfl ?_); refine Kd.R_lit k25 _ 25 ?hg (N := 5) ?hd (xs := ([] : List (S25))) (inner := []) (ok := fun _ => True) (okp := fun _ => True) ?hr ?hp (fun _ hk => hk) trivial (Below.refl _ _) (Nat.le_refl _) (by simp) ?_; (case hd => rfl); (case hg => rfl); (case hr => first | (go_simp; done) | (go_simp; rfl)); (case hp => exact (Reps.none _ _)); intro v1258 w3 ho4 hb hg_ hnew_; clear hg_ hnew_; (first | rw [← Ny1257.out] at ho4 | (simp only [Int.reduceToNat] at ho4; rw [← Ny1257.out] at ho4)); have n0_ := Aside0.mk (Kd.R_lower ho4 (below_size (by repeat (first | (with_reducible first | exact HB.out | apply below_alloc | apply pw_below_drewN | apply below_drew1) | exact HB.out)))); have n1_ := Aside0.mk (below_step (by repeat (first | (with_reducible first | exact HB.out | apply below_alloc | apply pw_below_drewN | apply below_drew1) | exact HB.out)) hb); clear HB; have HO1259 := n0_; have HB := n1_; clear n0_ n1_; clear hb ho4) | ((with_reducible refine gate_builtin (b := .append) (xs := #[.tmp 5, .tmp 6]) rfl ?_); at_builtin; refine Kd.R_append_rows k25 (w0 := w) w.heap.size rfl (.tmp 5) (.tmp 6) 53 25 (.agg #[(.int .i64 0), (.int .i64 0), (.int .i64 0), (.int .i64 0), (.int .i64 0), (.int .i64 0), (.int .i64 0), (.int .i64 0), (.int .i64 0), (.int .i64 0), (.int .i64 0), (.bool false), (.bool false)]) 96 rfl Try.underlying53 info25 rfl (by decide) (by omega) v1258 y1257 l0 _ _ _ (fun _ => True) (fun _ => False) rfl rfl ?aO ?aR (fun _ _ h => h) (fun _ h => h.elim) ?aF ?aB ?aS ?aL ?_; (case aR => repeat (first | exact (Kd.C_below HR0.out HB.out) | (with_reducible refine Kd.C_alloc ?_ _) | (with_reducible refine Kd.C_drewN ?_ _) | (with_reducible refine Kd.C_drew ?_))); (case aB => exact (by repeat (first | (with_reducible first | exact HB.out | apply below_alloc | apply pw_below_drewN | apply below_drew1) | exact HB.out))); (case aF => exact (fun _ _ => trivial)); (case aO => exact (by (with_reducible repeat (first | apply Kd.R_alloc | apply Kd.R_drewN | apply Kd.R_drew)); exact HO1259.out)); (case aS => exact (below_size (by repeat (first | (with_reducible first | exact HB.out | apply below_alloc | apply pw_below_drewN | apply below_drew1) | exact HB.out)))); (case aL => have := LMc2.out; omega); intro v1261 w5 ho hb hg hat; rw [← Ny1260.out] at ho; have n0_ := Aside0.mk (hb); have n1_ := Aside0.mk (ho); clear HB; clear HO1259; have HB := n0_; have HO1262 := n1_; clear n0_ n1_; clear ho hb hg hat))
    go_ret
    exact ⟨_, by first | rfl | (simp [errW_none, errW_some] <;> rfl) | (simp [*, errW_none, errW_some] <;> rfl), by (with_reducible repeat (first | apply Kd.R_alloc | apply Kd.R_drewN | apply Kd.R_drew)); exact HO1262.out, by repeat (first | (with_reducible first | exact HB.out | apply below_alloc | apply pw_below_drewN | apply below_drew1) | exact HB.out)⟩
  · rw [if_neg c2] at H
    exact absurd H (by simp)
set_option maxHeartbeats 8000000 in
set_option maxRecDepth 100000 in
theorem impl_Piece_136.calls (A0 : Option Addr) (c0 : Nat) (l0 : List (S25)) (r : List (S25)) (w : World) (hr0 : Kd.C k25 w A0 l0.length l0) (hc0 : l0.length ≤ c0) (h : impl_Piece_136.f l0 = some r) :
    Calls Try.prog 136 #[.slice A0 l0.length c0] w fun e w' => ∃ v0_ : Value, e = .returned (v0_) ∧ Kd.R k25 25 w' w.heap.size (fun _ => True) v0_ r ∧ Below w.heap.size w w' := by
  rcases hq : A0.isNone with _ | _
  · exact impl_Piece_136.calls_some A0 c0 l0 r w hr0 hc0 hq h
  · obtain rfl : A0 = none := by cases A0 with | none => rfl | some _ => cases hq
    obtain rfl : l0 = [] := by
      rcases Nat.eq_zero_or_pos l0.length with hz | hp
      · exact List.eq_nil_of_length_eq_zero hz
      · obtain ⟨ad, hA, _⟩ := hr0.2.2 hp; cases hA
    have hr : [] = r := by simpa [impl_Piece_136.f] using h
    subst hr
    have hq0 : ∀ (w : World) (n c n' c' : Nat), (Go.binOp .eql 53 (.slice none n c) (.slice none n' c')).run Try.prog w = .ok (.bool true) w := fun w n c n' c' => Go.Lib.run_eql_slice_nil w _ _ none n c n' c' Try.underlying53
    go_enter Try.func136, Try.ntmps136
    go_wp2
    go_ret
    exact ⟨_, rfl, Kd.R_nil _ _ _ _ _, Below.refl _ _⟩


/-! ### impl_Side_137: function 137 -/
def impl_Side_137.f (l0 : List (S71)) : Option ((List (S71))) := (some (([] : List (S71)) : List (S71))).bind fun y1263 => (if y1263.length + l0.length < 5864062014805 then (some (y1263 ++ l0)) else (none))
set_option maxHeartbeats 8000000 in
set_option maxRecDepth 100000 in
theorem impl_Side_137.calls_some (A0 : Option Addr) (c0 : Nat) (l0 : List (S71)) (r : List (S71)) (w : World) (hr0 : Kd.C k71 w A0 l0.length l0) (hc0 : l0.length ≤ c0) (hA0 : A0.isNone = false) (h : impl_Side_137.f l0 = some r) :
    Calls Try.prog 137 #[.slice A0 l0.length c0] w fun e w' => ∃ v0_ : Value, e = .returned (v0_) ∧ Kd.R k71 71 w' w.heap.size (fun _ => True) v0_ r ∧ Below w.heap.size w w' := by
  have hq0 : ∀ (w : World) (n' c' : Nat), (Go.binOp .eql 54 (.slice A0 l0.length c0) (.slice none n' c')).run Try.prog w = .ok (.bool false) w := fun w n' c' => (Go.Lib.run_eql_slice_nil w _ _ A0 l0.length c0 n' c' Try.underlying54).trans (by rw [hA0])
  have HR0 := Aside0.mk hr0
  have HC0 := Aside0.mk hc0
  clear hr0 hc0
  have HB := Aside0.mk (Below.refl w.heap.size w)
  have H : ((some (([] : List (S71)) : List (S71))).bind fun y1263 => (if y1263.length + l0.length < 5864062014805 then (some (y1263 ++ l0)) else (none))) = some r := h
  clear h
  obtain ⟨y1263, hy1263⟩ : ∃ y_ : List (S71), y_ = (([] : List (S71))) := ⟨_, rfl⟩
  replace H : (if y1263.length + l0.length < 5864062014805 then (some (y1263 ++ l0)) else (none)) = some r := by first | (rw [hy1263]; with_reducible exact H) | (have H2_ := (Option.bind_some _ _).symm.trans H; rw [hy1263]; with_reducible exact H2_) | (have H2_ := (Option.bind_some _ _).symm.trans H; with_reducible exact H2_) | with_reducible exact H | (rw [hy1263]; exact H) | exact H
  have Ny1263 := Aside0.mk hy1263
  clear hy1263
  by_cases c2 : y1263.length + l0.length < 5864062014805
  · rw [if_pos c2] at H
    have LMc2 := Aside0.mk c2
    clear c2
    obtain ⟨y1266, hy1266⟩ : ∃ y_ : List (S71), y_ = (y1263 ++ l0) := ⟨_, rfl⟩
    replace H : (some y1266) = some r := by first | (rw [hy1266]; with_reducible exact H) | (have H2_ := (Option.bind_some _ _).symm.trans H; rw [hy1266]; with_reducible exact H2_) | (have H2_ := (Option.bind_some _ _).symm.trans H; with_reducible exact H2_) | with_reducible exact H | (rw [hy1266]; exact H) | exact H
    have Ny1266 := Aside0.mk hy1266
    clear hy1266
    obtain rfl := Option.some.inj H
    go_enter Try.func137, Try.ntmps137
    go_wp2_with (first | ((with_reducible refine gate_dst (N := 5) rfl ?_); refine Kd.R_lit k71 _ 71 ?hg (N := 5) ?hd (xs := ([] : List (S71))) (inner := []) (ok := fun _ => True) (okp := fun _ => True) ?hr ?hp (fun _ hk => hk) trivial (Below.refl _ _) (Nat.le_refl _) (by simp) ?_; (case hd => rfl); (case hg => rfl); (case hr => first | (go_simp; done) | (go_simp; rfl)); (case hp => exact (Reps.none _ _)); intro v1264 w3 ho4 hb hg_ hnew_; clear hg_ hnew_; (first | rw [← Ny1263.out] at ho4 | (simp only [Int.reduceToNat] at ho4; rw [← Ny1263.out] at ho4)); have n0_ := Aside0.mk (Kd.R_lower ho4 (below_size (by repeat (first | (with_reducible first | exact HB.out | apply below_alloc | apply pw_below_drewN | apply below_drew1) | exact HB.out)))); have n1_ := Aside0.mk (below_step (by repeat (first | (with_reducible first | exact HB.out | apply below_alloc | apply pw_below_drewN | apply below_drew1) | exact HB.out)) hb); clear HB; have HO1265 := n0_; have HB := n1_; clear n0_ n1_; clear hb ho4) | ((with_reducible refine gate_builtin (b := .append) (xs := #[.tmp 5, .tmp 6]) rfl ?_); at_builtin; refine Kd.R_append_rows k71 (w0 := w) w.heap.size rfl (.tmp 5) (.tmp 6) 54 71 (.agg #[(.int .i64 0), (.int .i64 0), (.bool false)]) 24 rfl Try.underlying54 info71 rfl (by decide) (by omega) v1264 y1263 l0 _ _ _ (fun _ => True) (fun _ => False) rfl rfl ?aO ?aR (fun _ _ h => h) (fun _ h => h.elim) ?aF ?aB ?aS ?aL ?_; (case aR => repeat (first | exact (Kd.C_below HR0.out HB.out) | (with_reducible refine Kd.C_alloc ?_ _) | (with_reducible refine Kd.C_drewN ?_ _) | (with_reducible refine Kd.C_drew ?_))); (case aB => exact (by repeat (first | (with_reducible first | exact HB.out | apply below_alloc | apply pw_below_drewN | apply below_drew1) | exact HB.out))); (case aF => exact (fun _ _ => trivial)); (case aO => exact (by (with_reducible repeat (first | apply Kd.R_alloc | apply Kd.R_drewN | apply Kd.R_drew)); exact HO1265.out)); (case aS => exact (below_size (by repeat (first | (with_reducible first | exact HB.out | apply below_alloc | apply pw_below_drewN | apply below_drew1) | exact HB.out)))); (case aL => have := LMc2.out; omega); intro v1267 w5 ho hb hg hat; rw [← Ny1266.out] at ho; have n0_ := Aside0.mk (hb); have n1_ := Aside0.mk (ho); clear HB; clear HO1265; have HB := n0_; have HO1268 := n1_; clear n0_ n1_; clear ho hb hg hat))
    go_ret
    exact ⟨_, by first | rfl | (simp [errW_none, errW_some] <;> rfl) | (simp [*, errW_none, errW_some] <;> rfl), by (with_reducible repeat (first | apply Kd.R_alloc | apply Kd.R_drewN | apply Kd.R_drew)); exact HO1268.out, by repeat (first | (with_reducible first | exact HB.out | apply below_alloc | apply pw_below_drewN | apply below_drew1) | exact HB.out)⟩
  · rw [if_neg c2] at H
    exact absurd H (by simp)
set_option maxHeartbeats 8000000 in
set_option maxRecDepth 100000 in
theorem impl_Side_137.calls (A0 : Option Addr) (c0 : Nat) (l0 : List (S71)) (r : List (S71)) (w : World) (hr0 : Kd.C k71 w A0 l0.length l0) (hc0 : l0.length ≤ c0) (h : impl_Side_137.f l0 = some r) :
    Calls Try.prog 137 #[.slice A0 l0.length c0] w fun e w' => ∃ v0_ : Value, e = .returned (v0_) ∧ Kd.R k71 71 w' w.heap.size (fun _ => True) v0_ r ∧ Below w.heap.size w w' := by
  rcases hq : A0.isNone with _ | _
  · exact impl_Side_137.calls_some A0 c0 l0 r w hr0 hc0 hq h
  · obtain rfl : A0 = none := by cases A0 with | none => rfl | some _ => cases hq
    obtain rfl : l0 = [] := by
      rcases Nat.eq_zero_or_pos l0.length with hz | hp
      · exact List.eq_nil_of_length_eq_zero hz
      · obtain ⟨ad, hA, _⟩ := hr0.2.2 hp; cases hA
    have hr : [] = r := by simpa [impl_Side_137.f] using h
    subst hr
    have hq0 : ∀ (w : World) (n c n' c' : Nat), (Go.binOp .eql 54 (.slice none n c) (.slice none n' c')).run Try.prog w = .ok (.bool true) w := fun w n c n' c' => Go.Lib.run_eql_slice_nil w _ _ none n c n' c' Try.underlying54
    go_enter Try.func137, Try.ntmps137
    go_wp2
    go_ret
    exact ⟨_, rfl, Kd.R_nil _ _ _ _ _, Below.refl _ _⟩


/-! ### impl_copyState: function 117 -/
def impl_copyState.f (l0_0 : List (S25)) (l0_1 : List (S71)) (a0_2 : Int) (a0_3 : Int) : Option ((List (S25)) × (List (S71)) × Int × Int) := (impl_Piece_136.f l0_0).bind fun t1271 => ((impl_Side_137.f l0_1).bind fun t1274 => (some (t1271, t1274, a0_2, a0_3)))
set_option maxHeartbeats 8000000 in
set_option maxRecDepth 100000 in
theorem impl_copyState.calls (A0_0 : Option Addr) (c0_0 : Nat) (l0_0 : List (S25)) (A0_1 : Option Addr) (c0_1 : Nat) (l0_1 : List (S71)) (a0_2 : Int) (a0_3 : Int) (r1 : List (S25)) (r2 : List (S71)) (r3 : Int) (r4 : Int) (w : World) (hr0_0 : Kd.C k25 w A0_0 l0_0.length l0_0) (hc0_0 : l0_0.length ≤ c0_0) (hr0_1 : Kd.C k71 w A0_1 l0_1.length l0_1) (hc0_1 : l0_1.length ≤ c0_1) (h : impl_copyState.f l0_0 l0_1 a0_2 a0_3 = some (r1, r2, r3, r4)) :
    Calls Try.prog 117 #[.agg #[.slice A0_0 l0_0.length c0_0, .slice A0_1 l0_1.length c0_1, .int .i64 a0_2, .int .i64 a0_3]] w fun e w' => ∃ v0_ v1_ : Value, e = .returned (.agg #[v0_, v1_, .int .i64 r3, .int .i64 r4]) ∧ Kd.R k25 25 w' w.heap.size (fun _ => True) v0_ r1 ∧ Kd.R k71 71 w' w.heap.size (fun _ => True) v1_ r2 ∧ Below w.heap.size w w' := by
  have hu56 := Try.underlying56
  have HR0_0 := Aside0.mk hr0_0
  have HC0_0 := Aside0.mk hc0_0
  clear hr0_0 hc0_0
  have HR0_1 := Aside0.mk hr0_1
  have HC0_1 := Aside0.mk hc0_1
  clear hr0_1 hc0_1
  have HB := Aside0.mk (Below.refl w.heap.size w)
  have H : ((impl_Piece_136.f l0_0).bind fun t1271 => ((impl_Side_137.f l0_1).bind fun t1274 => (some (t1271, t1274, a0_2, a0_3)))) = some (r1, r2, r3, r4) := h
  clear h
  replace H := Option.bind_eq_some_iff.mp H
  obtain ⟨t1271, A20, H⟩ := H
  replace H : ((impl_Side_137.f l0_1).bind fun t1274 => (some (t1271, t1274, a0_2, a0_3))) = some (r1, r2, r3, r4) := H
  have A2 := Aside0.mk A20
  clear A20
  replace H := Option.bind_eq_some_iff.mp H
  obtain ⟨t1274, A30, H⟩ := H
  replace H : (some (t1271, t1274, a0_2, a0_3)) = some (r1, r2, r3, r4) := H
  have A3 := Aside0.mk A30
  clear A30
  simp only [Option.some.injEq, Prod.mk.injEq] at H
  obtain ⟨rfl, rfl, rfl, rfl⟩ := H
  go_enter Try.func117, Try.ntmps117
  go_wp2_with (first | ((with_reducible refine gate_dst (N := 1) rfl ?_); refine box_event ?hg (N := 1) ?hd (cs := #[.slice A0_0 l0_0.length c0_0, .slice A0_1 l0_1.length c0_1, .int .i64 a0_2, .int .i64 a0_3]) (t := 56) ?hr ?_; (case hd => rfl); (case hg => rfl); (case hr => first | (go_simp; done) | (go_simp; rfl)); intro gb1269 hg w4 hbox hb; have n0_ := Aside0.mk (below_step (by repeat (first | (with_reducible first | exact HB.out | apply below_alloc | apply pw_below_drewN | apply below_drew1) | exact HB.out)) hb); have n1_ := Aside0.mk (hbox); have n2_ := Aside0.mk ((by rw [hg]; exact (below_size (by repeat (first | (with_reducible first | exact HB.out | apply below_alloc | apply pw_below_drewN | apply below_drew1) | exact HB.out))) : w.heap.size ≤ gb1269)); have n3_ := Aside0.mk ((by rw [hg]; exact (below_size (by repeat (first | (with_reducible first | exact HB.out | apply below_alloc | apply pw_below_drewN | apply below_drew1) | exact HB.out))) : w.heap.size ≤ gb1269)); clear HB; have HB := n0_; have BK1269 := n1_; have GW1269 := n2_; have GE1269 := n3_; clear n0_ n1_ n2_ n3_; clear hb hbox hg) | ((with_reducible refine gate_dst (N := 2) rfl ?_); refine box_event ?hg (N := 2) ?hd (cs := #[.slice none 0 0, .slice none 0 0, .int .i64 0, .int .i64 0]) (t := 56) ?hr ?_; (case hd => rfl); (case hg => rfl); (case hr => first | (go_simp; done) | (go_simp; rfl)); intro gb1270 hg w5 hbox hb; have n0_ := Aside0.mk (blk_below (g := gb1269) (o := .cells #[.slice A0_0 l0_0.length c0_0, .slice A0_1 l0_1.length c0_1, .int .i64 a0_2, .int .i64 a0_3] 56 (0, 0)) (by (with_reducible repeat (first | refine blk_drewN ?_ _ | refine blk_drew ?_ | refine blk_alloc ?_ _)); exact BK1269.out) hb); have n1_ := Aside0.mk (below_step (by repeat (first | (with_reducible first | exact HB.out | apply below_alloc | apply pw_below_drewN | apply below_drew1 | refine below_set ?_ GE1269.out) | exact HB.out)) hb); have n2_ := Aside0.mk (hbox); have n3_ := Aside0.mk ((by rw [hg]; exact (below_size (by repeat (first | (with_reducible first | exact HB.out | apply below_alloc | apply pw_below_drewN | apply below_drew1 | refine below_set ?_ GE1269.out) | exact HB.out))) : w.heap.size ≤ gb1270)); have n4_ := Aside0.mk ((by rw [hg]; exact (below_size (by repeat (first | (with_reducible first | exact HB.out | apply below_alloc | apply pw_below_drewN | apply below_drew1 | refine below_set ?_ GE1269.out) | exact HB.out))) : w.heap.size ≤ gb1270)); have n5_ := Aside0.mk ((by rw [hg]; exact Nat.ne_of_lt (blk_lt (g := gb1269) (o := .cells #[.slice A0_0 l0_0.length c0_0, .slice A0_1 l0_1.length c0_1, .int .i64 a0_2, .int .i64 a0_3] 56 (0, 0)) (by (with_reducible repeat (first | refine blk_drewN ?_ _ | refine blk_drew ?_ | refine blk_alloc ?_ _)); exact BK1269.out)) : gb1269 ≠ gb1270)); have n6_ := Aside0.mk ((by rw [hg]; exact Nat.ne_of_gt (blk_lt (g := gb1269) (o := .cells #[.slice A0_0 l0_0.length c0_0, .slice A0_1 l0_1.length c0_1, .int .i64 a0_2, .int .i64 a0_3] 56 (0, 0)) (by (with_reducible repeat (first | refine blk_drewN ?_ _ | refine blk_drew ?_ | refine blk_alloc ?_ _)); exact BK1269.out)) : gb1270 ≠ gb1269)); clear BK1269; clear HB; have BK1269 := n0_; have HB := n1_; have BK1270 := n2_; have GW1270 := n3_; have GE1270 := n4_; have NB1269_1270 := n5_; have NB1270_1269 := n6_; clear n0_ n1_ n2_ n3_ n4_ n5_ n6_; clear hb hbox hg; have hnb6 := NB1269_1270.out; have hnc6 := NB1270_1269.out; have hcz7_0 : w5.cell? ⟨gb1269, 0, none⟩ = some (.slice A0_0 l0_0.length c0_0) := (blk_cell BK1269.out 0).trans rfl; have hcz7_1 : w5.cell? ⟨gb1269, 1, none⟩ = some (.slice A0_1 l0_1.length c0_1) := (blk_cell BK1269.out 1).trans rfl; have hcz7_2 : w5.cell? ⟨gb1269, 2, none⟩ = some (.int .i64 a0_2) := (blk_cell BK1269.out 2).trans rfl; have hcz7_3 : w5.cell? ⟨gb1269, 3, none⟩ = some (.int .i64 a0_3) := (blk_cell BK1269.out 3).trans rfl; have hfz7_0 := blk_frozen BK1269.out 0; have hfz7_1 := blk_frozen BK1269.out 1; have hfz7_2 := blk_frozen BK1269.out 2; have hfz7_3 := blk_frozen BK1269.out 3) | ((with_reducible refine gate_callee (f := 136) rfl ?_); refine goesL_ (some 5) rfl rfl Try.func136 (by kernel_rfl) rfl #[.slice A0_0 l0_0.length c0_0] rfl (by (try simp only [List.map_toArray, List.map_cons, List.map_nil]); first | done | rfl | (simp only [List.length_drop, List.length_take]; rfl)) ?_; (with_reducible refine (impl_Piece_136.calls _ _ l0_0 t1271 _ ?side1 ?side2 A2.out).mono ?_); (case side1 => repeat (first | exact (Kd.C_below HR0_0.out HB.out) | (with_reducible refine Kd.C_alloc ?_ _) | (with_reducible refine Kd.C_drewN ?_ _) | (with_reducible refine Kd.C_drew ?_))); (case side2 => exact HC0_0.out); rintro e w8 ⟨v1272, rfl, ho0, hb⟩; refine ⟨_, rfl, ?_⟩; have n0_ := Aside0.mk (Kd.R_lower ho0 (below_size (by repeat (first | (with_reducible first | exact HB.out | apply below_alloc | apply pw_below_drewN | apply below_drew1 | refine below_set ?_ GE1269.out | refine below_set ?_ GE1270.out) | exact HB.out)))); have n1_ := Aside0.mk (blk_below (g := gb1269) (o := .cells #[.slice A0_0 l0_0.length c0_0, .slice A0_1 l0_1.length c0_1, .int .i64 a0_2, .int .i64 a0_3] 56 (0, 0)) (by (with_reducible repeat (first | refine blk_drewN ?_ _ | refine blk_drew ?_ | refine blk_alloc ?_ _)); exact BK1269.out) hb); have n2_ := Aside0.mk (blk_below (g := gb1270) (o := .cells #[.slice none 0 0, .slice none 0 0, .int .i64 0, .int .i64 0] 56 (0, 0)) (by (with_reducible repeat (first | refine blk_drewN ?_ _ | refine blk_drew ?_ | refine blk_alloc ?_ _)); exact BK1270.out) hb); have n3_ := Aside0.mk (below_step (by repeat (first | (with_reducible first | exact HB.out | apply below_alloc | apply pw_below_drewN | apply below_drew1 | refine below_set ?_ GE1269.out | refine below_set ?_ GE1270.out) | exact HB.out)) hb); clear BK1269; clear BK1270; clear HB; have HO1273 := n0_; have BK1269 := n1_; have BK1270 := n2_; have HB := n3_; clear n0_ n1_ n2_ n3_; (try clear hb); (try clear hb2); (try clear hk); (try clear hi); (try clear ho0); obtain ⟨Ao9, co9, eo9⟩ := Kd.R_slice HO1273.out; subst eo9; have hcz10_0 : w8.cell? ⟨gb1269, 0, none⟩ = some (.slice A0_0 l0_0.length c0_0) := (blk_cell BK1269.out 0).trans rfl; have hcz10_1 : w8.cell? ⟨gb1269, 1, none⟩ = some (.slice A0_1 l0_1.length c0_1) := (blk_cell BK1269.out 1).trans rfl; have hcz10_2 : w8.cell? ⟨gb1269, 2, none⟩ = some (.int .i64 a0_2) := (blk_cell BK1269.out 2).trans rfl; have hcz10_3 : w8.cell? ⟨gb1269, 3, none⟩ = some (.int .i64 a0_3) := (blk_cell BK1269.out 3).trans rfl; have hfz10_0 := blk_frozen BK1269.out 0; have hfz10_1 := blk_frozen BK1269.out 1; have hfz10_2 := blk_frozen BK1269.out 2; have hfz10_3 := blk_frozen BK1269.out 3) | ((with_reducible refine gate_callee (f := 137) rfl ?_); refine goesL_ (some 9) rfl rfl Try.func137 (by kernel_rfl) rfl #[.slice A0_1 l0_1.length c0_1] rfl (by (try simp only [List.map_toArray, List.map_cons, List.map_nil]); first | done | rfl | (simp only [List.length_drop, List.length_take]; rfl)) ?_; (with_reducible refine (impl_Side_137.calls _ _ l0_1 t1274 _ ?side1 ?side2 A3.out).mono ?_); (case side1 => exact Kd.C_below HR0_1.out (by repeat (first | (with_reducible first | exact HB.out | apply below_alloc | apply pw_below_drewN | apply below_drew1 | refine below_set ?_ GE1269.out | refine below_set ?_ GE1270.out) | exact HB.out))); (case side2 => exact HC0_1.out); rintro e w11 ⟨v1275, rfl, ho0, hb⟩; refine ⟨_, rfl, ?_⟩; have n0_ := Aside0.mk (Kd.R_below (by (with_reducible repeat (first | apply Kd.R_alloc | apply Kd.R_drewN | apply Kd.R_drew)); exact (Kd.R_mono (Kd.R_far (p := ⟨gb1269, 0, none⟩) (Kd.R_types HO1273.out BK1269.out (by decide)) (fun _ hk => hk.2) (.slice Ao9 t1271.length co9)) (fun _ h_ => h_.1))) hb); have n1_ := Aside0.mk (Kd.R_lower ho0 (below_size (by repeat (first | (with_reducible first | exact HB.out | apply below_alloc | apply pw_below_drewN | apply below_drew1 | refine below_set ?_ GE1269.out | refine below_set ?_ GE1270.out) | exact HB.out)))); have n2_ := Aside0.mk (blk_below (g := gb1269) (o := .cells #[.slice Ao9 t1271.length co9, .slice A0_1 l0_1.length c0_1, .int .i64 a0_2, .int .i64 a0_3] 56 (0, 0)) (by (with_reducible repeat (first | refine blk_drewN ?_ _ | refine blk_drew ?_ | refine blk_alloc ?_ _)); refine blk_put (cs := #[.slice A0_0 l0_0.length c0_0, .slice A0_1 l0_1.length c0_1, .int .i64 a0_2, .int .i64 a0_3]) ?_ 0 _ rfl; (with_reducible repeat (first | refine blk_drewN ?_ _ | refine blk_drew ?_ | refine blk_alloc ?_ _)); exact BK1269.out) hb); have n3_ := Aside0.mk (blk_below (g := gb1270) (o := .cells #[.slice none 0 0, .slice none 0 0, .int .i64 0, .int .i64 0] 56 (0, 0)) (by (with_reducible repeat (first | refine blk_drewN ?_ _ | refine blk_drew ?_ | refine blk_alloc ?_ _)); refine blk_far ?_ NB1270_1269.out _; (with_reducible repeat (first | refine blk_drewN ?_ _ | refine blk_drew ?_ | refine blk_alloc ?_ _)); exact BK1270.out) hb); have n4_ := Aside0.mk (below_step (by repeat (first | (with_reducible first | exact HB.out | apply below_alloc | apply pw_below_drewN | apply below_drew1 | refine below_set ?_ GE1269.out | refine below_set ?_ GE1270.out) | exact HB.out)) hb); clear HO1273; clear BK1269; clear BK1270; clear HB; have HO1273 := n0_; have HO1276 := n1_; have BK1269 := n2_; have BK1270 := n3_; have HB := n4_; clear n0_ n1_ n2_ n3_ n4_; (try clear hb); (try clear hb2); (try clear hk); (try clear hi); (try clear ho0); obtain ⟨Ao12, co12, eo12⟩ := Kd.R_slice HO1276.out; subst eo12; have hcz13_0 : w11.cell? ⟨gb1269, 0, none⟩ = some (.slice Ao9 t1271.length co9) := (blk_cell BK1269.out 0).trans rfl; have hcz13_1 : w11.cell? ⟨gb1269, 1, none⟩ = some (.slice A0_1 l0_1.length c0_1) := (blk_cell BK1269.out 1).trans rfl; have hcz13_2 : w11.cell? ⟨gb1269, 2, none⟩ = some (.int .i64 a0_2) := (blk_cell BK1269.out 2).trans rfl; have hcz13_3 : w11.cell? ⟨gb1269, 3, none⟩ = some (.int .i64 a0_3) := (blk_cell BK1269.out 3).trans rfl; have hfz13_0 := blk_frozen BK1269.out 0; have hfz13_1 := blk_frozen BK1269.out 1; have hfz13_2 := blk_frozen BK1269.out 2; have hfz13_3 := blk_frozen BK1269.out 3; have hcz14_0 : w11.cell? ⟨gb1270, 0, none⟩ = some (.slice none 0 0) := (blk_cell BK1270.out 0).trans rfl; have hcz14_1 : w11.cell? ⟨gb1270, 1, none⟩ = some (.slice none 0 0) := (blk_cell BK1270.out 1).trans rfl; have hcz14_2 : w11.cell? ⟨gb1270, 2, none⟩ = some (.int .i64 0) := (blk_cell BK1270.out 2).trans rfl; have hcz14_3 : w11.cell? ⟨gb1270, 3, none⟩ = some (.int .i64 0) := (blk_cell BK1270.out 3).trans rfl; have hfz14_0 := blk_frozen BK1270.out 0; have hfz14_1 := blk_frozen BK1270.out 1; have hfz14_2 := blk_frozen BK1270.out 2; have hfz14_3 := blk_frozen BK1270.out 3))
  refine bodyPost_ret (results_cell_row rfl _ _ gb1270 56 #[.slice Ao9 t1271.length co9, .slice Ao12 t1274.length co12, .int .i64 a0_2, .int .i64 a0_3] (0, 0) _ rfl (by (with_reducible repeat (first | refine blk_drewN ?_ _ | refine blk_drew ?_ | refine blk_alloc ?_ _)); refine blk_put (cs := #[.slice Ao9 t1271.length co9, .slice Ao12 t1274.length co12, .int .i64 a0_2, .int .i64 0]) ?_ 3 _ rfl; (with_reducible repeat (first | refine blk_drewN ?_ _ | refine blk_drew ?_ | refine blk_alloc ?_ _)); refine blk_put (cs := #[.slice Ao9 t1271.length co9, .slice Ao12 t1274.length co12, .int .i64 0, .int .i64 0]) ?_ 2 _ rfl; (with_reducible repeat (first | refine blk_drewN ?_ _ | refine blk_drew ?_ | refine blk_alloc ?_ _)); refine blk_put (cs := #[.slice Ao9 t1271.length co9, .slice none 0 0, .int .i64 0, .int .i64 0]) ?_ 1 _ rfl; (with_reducible repeat (first | refine blk_drewN ?_ _ | refine blk_drew ?_ | refine blk_alloc ?_ _)); refine blk_put (cs := #[.slice none 0 0, .slice none 0 0, .int .i64 0, .int .i64 0]) ?_ 0 _ rfl; (with_reducible repeat (first | refine blk_drewN ?_ _ | refine blk_drew ?_ | refine blk_alloc ?_ _)); refine blk_far ?_ NB1270_1269.out _; (with_reducible repeat (first | refine blk_drewN ?_ _ | refine blk_drew ?_ | refine blk_alloc ?_ _)); exact BK1270.out) Try.underlying56 rfl (by kernel_rfl)) rfl ?_
  exact ⟨_, _, by first | rfl | (simp [errW_none, errW_some] <;> rfl) | (simp [*, errW_none, errW_some] <;> rfl), by (with_reducible repeat (first | apply Kd.R_alloc | apply Kd.R_drewN | apply Kd.R_drew)); exact Kd.R_mono (Kd.R_far (p := ⟨gb1270, 3, none⟩) (Kd.R_far (p := ⟨gb1270, 2, none⟩) (Kd.R_far (p := ⟨gb1270, 1, none⟩) (Kd.R_far (p := ⟨gb1270, 0, none⟩) (Kd.R_far (p := ⟨gb1269, 1, none⟩) (Kd.R_types (Kd.R_types HO1273.out BK1269.out (by decide)) BK1270.out (by decide)) (fun _ hk => hk.1.2) (.slice Ao12 t1274.length co12)) (fun _ hk => hk.2) (.slice Ao9 t1271.length co9)) (fun _ hk => hk.2) (.slice Ao12 t1274.length co12)) (fun _ hk => hk.2) (.int .i64 a0_2)) (fun _ hk => hk.2) (.int .i64 a0_3)) (fun _ hk => trivial), by (with_reducible repeat (first | apply Kd.R_alloc | apply Kd.R_drewN | apply Kd.R_drew)); exact Kd.R_mono (Kd.R_far (p := ⟨gb1270, 3, none⟩) (Kd.R_far (p := ⟨gb1270, 2, none⟩) (Kd.R_far (p := ⟨gb1270, 1, none⟩) (Kd.R_far (p := ⟨gb1270, 0, none⟩) (Kd.R_far (p := ⟨gb1269, 1, none⟩) (Kd.R_types (Kd.R_types HO1276.out BK1269.out (by decide)) BK1270.out (by decide)) (fun _ hk => hk.1.2) (.slice Ao12 t1274.length co12)) (fun _ hk => hk.2) (.slice Ao9 t1271.length co9)) (fun _ hk => hk.2) (.slice Ao12 t1274.length co12)) (fun _ hk => hk.2) (.int .i64 a0_2)) (fun _ hk => hk.2) (.int .i64 a0_3)) (fun _ hk => trivial), by repeat (first | (with_reducible first | exact HB.out | apply below_alloc | apply pw_below_drewN | apply below_drew1 | refine below_set ?_ GE1269.out | refine below_set ?_ GE1270.out) | exact HB.out)⟩

-- NOT PRINTED: function 118 (impl_Piece_118)

-- NOT PRINTED: function 138 (impl_Piece_138)



end Go.Proofs.Ytfkidiagmekleaa.QAll
