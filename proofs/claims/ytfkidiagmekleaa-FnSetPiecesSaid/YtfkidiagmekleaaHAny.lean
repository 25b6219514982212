/- The reference's l5Any, walked by hand: some state, whatever is drawn (the code drawn from has at most 2^20 bytes). -/
import Derived.Test.YtfkidiagmekleaaHL4a
namespace Go.Proofs.Ytfkidiagmekleaa.QAll
open Go.RowKit Go.Proofs.YtfkidiagmekleaaW.PrintWords Go.Proofs.YtfkidiagmekleaaW.PrintLast Go.Proofs.YtfkidiagmekleaaW.PrintMore
set_option linter.unusedVariables false
set_option linter.unusedSimpArgs false
namespace Held
variable {w0 w W W1 : World} {g : Nat} {b : List Int} {g2 g3 : Nat} {vp vs : Value} {a c : Int} {ps : List S25} {ss : List S71}
/-- The row of pieces has been written (it stays where it is). -/
theorem pieces (h : Held w0 w W g b g2 g3 vp vs a c ps ss) {ps' : List S25} (hr : Kd.R k25 25 W1 w.heap.size (fun _ => True) vp ps') (hg : W.grownBy W1 vp.ownBlock) : Held w0 w W1 g b g2 g3 vp vs a c ps' ss := by
  obtain ⟨inner, ho⟩ := Kd.R_own h.rp
  have hbs := own_base ho
  obtain ⟨q1, q2, q3, q4, q5⟩ := h.app hr hg
  exact ⟨q1, q2, h.l2, h.l3, h.n23, h.lg, h.lw, q3, q4, hr, q5⟩
theorem apps (h : Held w0 w W g b g2 g3 vp vs a c ps ss) {vs' : Value} {ss' : List S71} (hr : Kd.R k71 71 W1 w.heap.size (fun _ => True) vs' ss') (hg : W.grownBy W1 vs.ownBlock) : Cur w0 W1 g b ∧ w.grownBy W1 (some g) ∧ W1.heap[g2]? = some (.cells #[.slice none 0 0, .slice none 0 0, .int .i64 0, .int .i64 0] 56 (0, 0)) ∧ W1.heap[g3]? = some (.cells #[vp, vs, .int .i64 a, .int .i64 c] 56 (0, 0)) ∧ Kd.R k25 25 W1 w.heap.size (fun _ => True) vp ps := by
  obtain ⟨inner, ho⟩ := Kd.R_own h.rs
  have hbs := own_base ho
  refine ⟨h.cur.grown hg (fun k e => ⟨Nat.le_trans h.lw (hbs k e), by have := hbs k e; have := h.lg; omega⟩), grown_to h.gb hg (fun x e => .inr (hbs x e)), blk_grown h.b2 hg (Kd.R_ne h.rs h.b2 (by decide)), blk_grown h.b3 hg (Kd.R_ne h.rs h.b3 (by decide)), ?_⟩
  refine Kd.R_mono (Kd.R_step (Kd.R_bound h.rp) (fun k hk hlt => hg.block k hlt (fun e => ?_))) (fun _ hk => hk.1)
  obtain ⟨_, _, _, q, hq, cells, hcell⟩ := hk
  obtain ⟨cells', hcell'⟩ := own_typed ho k e.symm
  rw [hcell] at hcell'
  injection hcell' with hcell'
  injection hcell' with _ hcell'
  revert hq
  rw [hcell']
  decide
theorem put3b (h : Held w0 w W g b g2 g3 vp vs a c ps ss) {W2 : World} {vs' : Value} {ss' : List S71} (hr : Kd.R k71 71 W1 w.heap.size (fun _ => True) vs' ss') (hg : W.grownBy W1 vs.ownBlock) (hb : W2.heap[g3]? = some (.cells #[vp, vs', .int .i64 a, .int .i64 c] 56 (0, 0))) (hg2 : W1.grownBy W2 (some g3)) : Held w0 w W2 g b g2 g3 vp vs' a c ps ss' := by
  obtain ⟨q1, q2, q3, q4, q5⟩ := h.apps hr hg
  exact ⟨q1.grown hg2 (fun k e => by cases e; exact ⟨Nat.le_trans h.lw h.l3, by have := h.l3; have := h.lg; omega⟩), grown_to q2 hg2 (fun x e => .inr (by cases e; exact h.l3)), h.l2, h.l3, h.n23, h.lg, h.lw, blk_step hg2 h.n23 q3, hb, R_box q5 q4 (by decide) hg2, R_box hr q4 (by decide) hg2⟩
end Held
def AnyState (w0 w : World) (g : Nat) (b : List Int) (e : Ending) (w' : World) : Prop := ∃ (vp vs : Value) (a c : Int) (ps : List S25) (ss : List S71), e = .returned (.agg #[vp, vs, .int .i64 a, .int .i64 c]) ∧ Kd.R k25 25 w' w.heap.size (fun _ => True) vp ps ∧ Kd.R k71 71 w' w.heap.size (fun _ => True) vs ss ∧ (ps.length ≤ 20 ∧ ss.length ≤ 3) ∧ Drew w0 w w' g b
theorem any_end {w0 w W W1 : World} {g : Nat} {b : List Int} {g2 g3 : Nat} {vp vs : Value} {a c : Int} {ps : List S25} {ss : List S71} (h : Held w0 w W g b g2 g3 vp vs a c ps ss) (hg : W.grownBy W1 (some g2)) (h1 : ps.length ≤ 20) (h2 : ss.length ≤ 3) : AnyState w0 w g b (.returned (.agg #[vp, vs, .int .i64 a, .int .i64 c])) W1 :=
  ⟨_, _, a, c, ps, ss, rfl, R_box h.rp h.b2 (by decide) hg, R_box h.rs h.b2 (by decide) hg, ⟨h1, h2⟩, h.cur.grown hg (fun k e => by cases e; exact ⟨Nat.le_trans h.lw h.l2, by have := h.l2; have := h.lg; omega⟩), grown_to h.gb hg (fun x e => .inr (by cases e; exact h.l2))⟩
def MKn (n k : Nat) : Array Bool := ((List.range n).map fun j => k.testBit j).toArray
theorem any4_ex (w0 w : World) (g : Nat) (b : List Int) (hC : Cur w0 w g b) : Calls Try.prog 72 #[.pointer (some ⟨g, 0, none⟩)] w fun e w' => ∃ y0 y1 y2 y3 y4 y5 y6 y7 y8 y9 y10 y11 y12, e = .returned (.agg #[.int .i64 y0, .int .i64 y1, .int .i64 y2, .int .i64 y3, .int .i64 y4, .int .i64 y5, .int .i64 y6, .int .i64 y7, .int .i64 y8, .int .i64 y9, .int .i64 y10, .bool y11, .bool y12]) ∧ Drew w0 w w' g b :=
  (l4Any_ex2 w0 w g b hC).mono (by rintro e w' ⟨y, rfl, hd⟩; exact ⟨y.f0, y.f1, y.f2, y.f3, y.f4, y.f5, y.f6, y.f7, y.f8, y.f9, y.f10, y.f11, y.f12, rfl, hd⟩)
def spec_l5Any.T8 : Bool × List (List Nat × List Nat) := (true, [([], []), ([0], [0]), ([], []), ([2], [2]), ([3], [3]), ([4], [4]), ([1, 5, 3], [1, 5]), ([0, 1, 2, 3, 4, 5, 6], []), ([7, 6, 6, 0, 1, 2, 3, 4, 5, 6], [6, 7])])
def spec_l5Any.B8 : List Nat := [0, 1, 0, 4, 12, 28, 63, 127, 255]
theorem spec_l5Any.tab8 : rtab .any (opsOf Try.f107 8) = spec_l5Any.T8 := by kernel_rfl
theorem spec_l5Any.bits8 : waitsOk spec_l5Any.T8.2 spec_l5Any.B8 = true := by kernel_rfl
def spec_l5Any.T12 : Bool × List (List Nat × List Nat) := (true, [([], []), ([0], [0]), ([], []), ([2], [2]), ([3], [3]), ([1, 4, 3], [1, 4]), ([0, 1, 2, 3, 4, 5], []), ([6, 5, 5, 0, 1, 2, 3, 4, 5], [5, 6])])
def spec_l5Any.B12 : List Nat := [0, 1, 0, 4, 12, 31, 63, 127]
theorem spec_l5Any.tab12 : rtab .any (opsOf Try.f107 12) = spec_l5Any.T12 := by kernel_rfl
theorem spec_l5Any.bits12 : waitsOk spec_l5Any.T12.2 spec_l5Any.B12 = true := by kernel_rfl
def spec_l5Any.T21 : Bool × List (List Nat × List Nat) := (true, [([], []), ([0], [0]), ([], []), ([], []), ([2, 3], [2, 3]), ([4], [4]), ([1, 5, 4], [1, 5]), ([0, 1, 2, 3, 4, 5, 6], []), ([7, 6, 6, 0, 1, 2, 3, 4, 5, 6], [6, 7])])
def spec_l5Any.B21 : List Nat := [0, 1, 0, 0, 12, 28, 63, 127, 255]
theorem spec_l5Any.tab21 : rtab .any (opsOf Try.f107 21) = spec_l5Any.T21 := by kernel_rfl
theorem spec_l5Any.bits21 : waitsOk spec_l5Any.T21.2 spec_l5Any.B21 = true := by kernel_rfl
set_option maxHeartbeats 8000000 in
set_option maxRecDepth 100000 in
theorem l5Any_ex (w0 w : World) (g : Nat) (b : List Int) (hC : Cur w0 w g b) : Calls Try.prog 107 #[.pointer (some ⟨g, 0, none⟩)] w (AnyState w0 w g b) := by
  have hu56 := Try.underlying56
  have hu71 := Try.underlying71
  have hu25 := Try.underlying25
  have HC := Aside0.mk hC
  clear hC
  go_enter Try.func107, Try.ntmps107
  go_wp2_with (first
    | ((with_reducible refine gate_dst (N := 2) rfl ?_); refine box_event (N := 2) rfl rfl (cs := #[.slice none 0 0, .slice none 0 0, .int .i64 0, .int .i64 0]) (t := 56) ?hr ?_; (case hr => first | (go_simp; done) | (go_simp; rfl)); intro g2 hg2 w1 hb2 hbb; have L2 := Aside0.mk (show w.heap.size ≤ g2 by rw [hg2]; exact Nat.le_refl _); have B2 := Aside0.mk hb2; have K2 := Aside0.mk hbb; clear hg2 hb2 hbb)
    | (go_at_call 108; ((with_reducible refine (l5Draw_ex w0 _ g b (HC.out.below K2.out)).mono ?_); rintro e w2 ⟨vp, vs, a, c, ps, ss, rfl, hr0, hr1, hgs, hd⟩; obtain ⟨gp, cp, rfl, -⟩ := Kd.R_form hr0 (by have := hgs.2.1; omega); obtain ⟨gs, cs, e1, -⟩ := Kd.R_form hr1 (by have := hgs.2.2.2; omega); rw [hgs.2.2.2] at e1; subst e1; have B2' := Aside0.mk (blk_step hd.2 (by have := HC.out.lt; have := L2.out; omega) B2.out); have D2 := Aside0.mk hd; have R0 := Aside0.mk (Kd.R_lower hr0 K2.out.size); have R1 := Aside0.mk (Kd.R_lower hr1 K2.out.size); have HG := Aside0.mk hgs; clear B2 hr0 hr1 hd hgs))
    | ((with_reducible refine gate_dst (N := 3) rfl ?_); refine box_event (N := 3) rfl rfl (cs := #[.slice none 0 0, .slice none 0 0, .int .i64 0, .int .i64 0]) (t := 56) ?hr ?_; (case hr => first | (go_simp; done) | (go_simp; rfl)); intro g3 hg3 w3 hb3 hbb; have L3 := Aside0.mk (show w.heap.size ≤ g3 by rw [hg3]; exact Nat.le_trans K2.out.size D2.out.2.size); have N23 := Aside0.mk (show g2 ≠ g3 by have := blk_lt B2'.out; omega); have B3 := Aside0.mk hb3; have B2 := Aside0.mk (blk_below B2'.out hbb); have C3 := Aside0.mk (D2.out.1.below hbb); have G3 := Aside0.mk (grown_below (grown_trans (grown_of_below K2.out _) D2.out.2) hbb); have R0' := Aside0.mk (Kd.R_below R0.out hbb); have R1' := Aside0.mk (Kd.R_below R1.out hbb); clear hg3 hb3 hbb B2' R0 R1 D2 K2)
    | ((with_reducible refine gate_store (t := 56) (p := 3) (v := .tmp 6) rfl ?_); refine put_event rfl rfl rfl 56 g3 0 _ #[.slice (some ⟨gp, 0, none⟩) ps.length cp, .slice (some ⟨gs, 0, none⟩) 2 cs, .int .i64 a, .int .i64 c] (.agg #[.slice (some ⟨gp, 0, none⟩) ps.length cp, .slice (some ⟨gs, 0, none⟩) 2 cs, .int .i64 a, .int .i64 c]) [.slice (some ⟨gp, 0, none⟩) ps.length cp, .slice (some ⟨gs, 0, none⟩) 2 cs, .int .i64 a, .int .i64 c] rfl rfl B3.out rfl (by kernel_rfl) (by simp) (by simp [Value.oneCell']) rfl ?_; intro w4 hb4 hg4; have HH0 := Aside0.mk (show Held w0 w w4 g b g2 g3 (.slice (some ⟨gp, 0, none⟩) ps.length cp) (.slice (some ⟨gs, 0, none⟩) 2 cs) a c ps ss from ⟨C3.out.grown hg4 (fun k e => by cases e; exact ⟨Nat.le_trans HC.out.size L3.out, by have := HC.out.lt; have := L3.out; omega⟩), grown_to G3.out hg4 (fun x e => .inr (by cases e; exact L3.out)), L2.out, L3.out, N23.out, HC.out.lt, HC.out.size, blk_step hg4 N23.out B2.out, hb4, R_box R0'.out B3.out (by decide) hg4, R_box R1'.out B3.out (by decide) hg4⟩); clear hb4 hg4 B2 B3 R0' R1' L2 L3 N23 C3 G3))
  refine (below_ex 18 (by decide) (by decide) w0 _ g b HH0.out.cur).mono ?_
  rintro e W ⟨vk, rfl, hvk, hd⟩
  have HH := Aside0.mk (HH0.out.draw hd)
  clear hd HH0
  obtain ⟨n, rfl⟩ := Int.eq_ofNat_of_zero_le hvk.1
  clear hvk
  have hps := HG.out.2.2.1
  have hps1 := HG.out.2.1
  have hss := HG.out.2.2.2
  clear HG HC
  by_cases e0 : n = 0
  · subst e0
    as_aux_lemma =>
      obtain ⟨q0, q1, q2, q3⟩ := cells4 HH.out.b3
      go_wp2_with (first | (go_at_call 73; ((with_reducible refine (int_lit [-1, 2, 3] _ _ (by simp) (by simp [nums]) (by decide) (by decide) w0 _ g b HH.out.cur).mono ?_); rintro e u1 ⟨vi, rfl, -, hd⟩; have HN := Aside0.mk (HH.out.draw hd); clear HH hd)) | ((with_reducible refine gate_store (t := 3) (p := 14) (v := .tmp 13) rfl ?_); refine put_event rfl rfl rfl 56 g3 2 _ #[.slice (some ⟨gp, 0, none⟩) ps.length cp, .slice (some ⟨gs, 0, none⟩) 2 cs, .int .i64 vi, .int .i64 c] (.int .i64 vi) [.int .i64 vi] (by first | rfl | (go_simp; done)) (by first | rfl | (go_simp; done)) HN.out.b3 rfl (by kernel_rfl) (by simp) (by simp [Value.oneCell']) rfl ?_; intro u2 hb6 hg6; have HH := Aside0.mk (HN.out.put3 hb6 hg6); obtain ⟨q0, q1, q2, q3⟩ := cells4 HH.out.b3; clear HN hb6 hg6) | ((with_reducible refine gate_store (t := 56) (p := 2) (v := .tmp 75) rfl ?_); refine put_event rfl rfl rfl 56 g2 0 _ #[.slice (some ⟨gp, 0, none⟩) ps.length cp, .slice (some ⟨gs, 0, none⟩) 2 cs, .int .i64 vi, .int .i64 c] (.agg #[.slice (some ⟨gp, 0, none⟩) ps.length cp, .slice (some ⟨gs, 0, none⟩) 2 cs, .int .i64 vi, .int .i64 c]) [.slice (some ⟨gp, 0, none⟩) ps.length cp, .slice (some ⟨gs, 0, none⟩) 2 cs, .int .i64 vi, .int .i64 c] rfl rfl HH.out.b2 rfl (by kernel_rfl) (by simp) (by simp [Value.oneCell']) rfl ?_; intro z1 hb1 hg1; have BZ := Aside0.mk hb1; have HZ := Aside0.mk hg1; clear hb1 hg1))
      refine bodyPost_ret (results_cell_row rfl _ _ g2 56 _ (0, 0) _ rfl BZ.out Try.underlying56 rfl (by kernel_rfl)) rfl ?_
      exact any_end HH.out HZ.out (by omega) (by omega)
  by_cases e1 : n = 1
  · subst e1
    as_aux_lemma =>
      obtain ⟨q0, q1, q2, q3⟩ := cells4 HH.out.b3
      go_wp2_with (first | (go_at_call 73; ((with_reducible refine (int_lit [-1, 0, 9999, 10000] _ _ (by simp) (by simp [nums]) (by decide) (by decide) w0 _ g b HH.out.cur).mono ?_); rintro e u1 ⟨vi, rfl, -, hd⟩; have HN := Aside0.mk (HH.out.draw hd); clear HH hd)) | ((with_reducible refine gate_store (t := 3) (p := 20) (v := .tmp 19) rfl ?_); refine put_event rfl rfl rfl 56 g3 3 _ #[.slice (some ⟨gp, 0, none⟩) ps.length cp, .slice (some ⟨gs, 0, none⟩) 2 cs, .int .i64 a, .int .i64 vi] (.int .i64 vi) [.int .i64 vi] (by first | rfl | (go_simp; done)) (by first | rfl | (go_simp; done)) HN.out.b3 rfl (by kernel_rfl) (by simp) (by simp [Value.oneCell']) rfl ?_; intro u2 hb6 hg6; have HH := Aside0.mk (HN.out.put3 hb6 hg6); obtain ⟨q0, q1, q2, q3⟩ := cells4 HH.out.b3; clear HN hb6 hg6) | ((with_reducible refine gate_store (t := 56) (p := 2) (v := .tmp 75) rfl ?_); refine put_event rfl rfl rfl 56 g2 0 _ #[.slice (some ⟨gp, 0, none⟩) ps.length cp, .slice (some ⟨gs, 0, none⟩) 2 cs, .int .i64 a, .int .i64 vi] (.agg #[.slice (some ⟨gp, 0, none⟩) ps.length cp, .slice (some ⟨gs, 0, none⟩) 2 cs, .int .i64 a, .int .i64 vi]) [.slice (some ⟨gp, 0, none⟩) ps.length cp, .slice (some ⟨gs, 0, none⟩) 2 cs, .int .i64 a, .int .i64 vi] rfl rfl HH.out.b2 rfl (by kernel_rfl) (by simp) (by simp [Value.oneCell']) rfl ?_; intro z1 hb1 hg1; have BZ := Aside0.mk hb1; have HZ := Aside0.mk hg1; clear hb1 hg1))
      refine bodyPost_ret (results_cell_row rfl _ _ g2 56 _ (0, 0) _ rfl BZ.out Try.underlying56 rfl (by kernel_rfl)) rfl ?_
      exact any_end HH.out HZ.out (by omega) (by omega)
  by_cases e2 : n = 2
  · subst e2
    as_aux_lemma =>
      obtain ⟨q0, q1, q2, q3⟩ := cells4 HH.out.b3
      go_wp2
      have HH0 := Aside0.mk HH.out.drew1
      refine start_ (n := 9) (S := fun w' => w'.cell? ⟨g3, 1, none⟩ = some (.slice (some ⟨gs, 0, none⟩) 2 cs)) (ds := [8]) #[false, false, false, false, false, false, false, false, false] (by kernel_rfl) rfl rfl ((blk_cell HH0.out.b3 1).trans rfl) (fun hHeld => ?_); refine with_tabW spec_l5Any.tab8 spec_l5Any.bits8 (fun HT_ HW_ => ?_)
      generalize W.drew = ya at HH0 hHeld ⊢
      clear HH
      refine on_ (i := 0) (N := some 23) (MKn 9 1) rfl rfl (fun _ _ _ h => h) (any_of HT_.out (by kernel_rfl)) (by rfl) (by intro w'; go_simp; with_reducible rfl) PUT_ ?_
      refine on_ (i := 2) (N := some 25) (MKn 9 5) rfl rfl (fun _ _ _ h => h) (any_of HT_.out (by kernel_rfl)) (by rfl) (by intro w'; go_simp; with_reducible rfl) PUT_ ?_
      refine get_ (i := 1) (N := some 24) (MKn 9 7) hHeld rfl rfl (fun _ _ _ h => h) (take_ofW HT_.out HW_.out (by kernel_rfl)) (by rfl) (by intro w' s0; go_simp; with_reducible rfl) PUT_ ?_
      refine one_ (i := 3) (N := some 26) (MKn 9 15) rfl rfl (one_of HT_.out (by kernel_rfl)) (by decide) (fun K hK => ?_)
      refine goes_ Try.func126 (by kernel_rfl) rfl #[.pointer (some ⟨g, 0, none⟩)] (by rfl) rfl rfl (by (try simp only [List.map_toArray, List.map_cons, List.map_nil]); first | done | rfl) ?_
      with_reducible refine (raw_ex w0 _ g b HH0.out.cur).mono ?_
      rintro e yb ⟨v, rfl, hd⟩
      refine ⟨_, rfl, ?_⟩
      have HH1 := Aside0.mk (HH0.out.draw hd)
      clear HH0 hd
      refine hK.out _ _ ((blk_cell HH1.out.b3 1).trans rfl) (fun hHeld => ?_)
      clear hK K
      refine norm_ (a' := ?_) ?_ ?_
      rotate_left
      · show Act.put _ (some 26) _ = _
        simp only [Act.put, List.setIfInBounds_toArray, List.set_cons_zero, List.set_cons_succ, i64_w, i32_w]
        rfl
      refine on_ (i := 4) (N := some 27) (MKn 9 31) rfl rfl (fun _ _ _ h => h) (any_of HT_.out (by kernel_rfl)) (by rfl) (by intro w'; go_simp; with_reducible rfl) PUT_ ?_
      refine one_ (i := 5) (N := some 28) (MKn 9 63) rfl rfl (one_of HT_.out (by kernel_rfl)) (by decide) (fun K hK => ?_)
      refine value_ (w1 := ?_) (v := ?_) (by rfl) rfl ?_ ?_
      rotate_left 2
      · go_simp
        constructor
        · rfl
        · rfl
      refine hK.out _ _ ((blk_cell (blk_alloc HH1.out.b3 _) 1).trans rfl) (fun hHeld => ?_)
      clear hK K
      refine norm_ (a' := ?_) ?_ ?_
      rotate_left
      · show Act.put _ (some 28) _ = _
        simp only [Act.put, List.setIfInBounds_toArray, List.set_cons_zero, List.set_cons_succ, i64_w, i32_w]
        rfl
      refine one_ (i := 6) (N := some 29) (MKn 9 127) rfl rfl (one_of HT_.out (by kernel_rfl)) (by decide) (fun K hK => ?_)
      refine Kd.R_append_step k71 (w0 := yb) w.heap.size (by rfl) (.tmp 24) (.tmp 28) 54 71 (.agg #[.int .i64 0, .int .i64 0, .bool false]) 24 rfl Try.underlying54 info71 rfl (by decide) (by omega) (.slice (some ⟨gs, 0, none⟩) 2 cs) ss ((⟨v, 0, false⟩ : S71)) [.int .i64 v, .int .i64 0, .bool false] (fun _ => True) (fun _ => False) rfl rfl (k71_mkM _ _ _ ((⟨v, 0, false⟩ : S71))) (fun _ hk => hk.elim) (fun _ _ => trivial) HH1.out.rs (Below.refl _ _) HH1.out.gb.size (by omega) ?_
      intro vq yc hr _ hg _
      have HR := Aside0.mk hr
      have HGr := Aside0.mk hg
      have HB3 := Aside0.mk (HH1.out.apps hr hg).2.2.2.1
      clear hr hg
      refine hK.out _ _ ((blk_cell HB3.out 1).trans rfl) (fun hHeld => ?_)
      clear hK K
      refine norm_ (a' := ?_) ?_ ?_
      rotate_left
      · show Act.put _ (some 29) _ = _
        simp only [Act.put, List.setIfInBounds_toArray, List.set_cons_zero, List.set_cons_succ, i64_w, i32_w]
        rfl
      refine on_ (i := 7) (N := some 30) (MKn 9 255) rfl rfl (fun _ _ _ h => h) (any_of HT_.out (by kernel_rfl)) (by rfl) (by intro w'; go_simp; with_reducible rfl) PUT_ ?_
      refine last_ (i := 8) (N := none) (MKn 9 511) rfl rfl (one_of HT_.out (by kernel_rfl)) (by decide) (fun K hK => ?_)
      refine put_step (by rfl) rfl rfl 56 g3 1 _ #[.slice (some ⟨gp, 0, none⟩) ps.length cp, vq, .int .i64 a, .int .i64 c] vq [vq] (by first | rfl | (go_simp; done)) (by first | rfl | (go_simp; done)) HB3.out (one_val (Kd.R_slice HR.out)) (by kernel_rfl) (by simp) (one_cell (Kd.R_slice HR.out)) rfl ?_
      intro yd hb6 hg6
      have HH := Aside0.mk (HH1.out.put3b HR.out HGr.out hb6 hg6)
      refine hK.out _ _ ?_
      clear hK K hb6 hg6 HH1 HR HGr HB3
      refine done_ (done_of HT_.out (by kernel_rfl)) ?_
      clear HT_ HW_ hHeld
      obtain ⟨Aq, Lq, cq, rfl⟩ : ∃ A L c, vq = .slice A L c := (by obtain ⟨A, c, h⟩ := Kd.R_slice HH.out.rs; exact ⟨A, _, c, h⟩)
      obtain ⟨q0, q1, q2, q3⟩ := cells4 HH.out.b3
      go_wp2_with (((with_reducible refine gate_store (t := 56) (p := 2) (v := .tmp 75) rfl ?_); refine put_event rfl rfl rfl 56 g2 0 _ #[.slice (some ⟨gp, 0, none⟩) ps.length cp, .slice Aq Lq cq, .int .i64 a, .int .i64 c] (.agg #[.slice (some ⟨gp, 0, none⟩) ps.length cp, .slice Aq Lq cq, .int .i64 a, .int .i64 c]) [.slice (some ⟨gp, 0, none⟩) ps.length cp, .slice Aq Lq cq, .int .i64 a, .int .i64 c] rfl rfl HH.out.b2 rfl (by kernel_rfl) (by simp) (by simp [Value.oneCell']) rfl ?_; intro z1 hb1 hg1; have BZ := Aside0.mk hb1; have HZ := Aside0.mk hg1; clear hb1 hg1))
      refine bodyPost_ret (results_cell_row rfl _ _ g2 56 _ (0, 0) _ rfl BZ.out Try.underlying56 rfl (by kernel_rfl)) rfl ?_
      exact any_end HH.out HZ.out (by omega) (by simp; omega)
  by_cases e3 : n = 3
  · subst e3
    as_aux_lemma =>
      obtain ⟨q0, q1, q2, q3⟩ := cells4 HH.out.b3
      go_wp2
      have HH0 := Aside0.mk HH.out.drew1
      refine start_ (n := 7) (S := fun w' => w'.cell? ⟨g3, 1, none⟩ = some (.slice (some ⟨gs, 0, none⟩) 2 cs)) (ds := [6]) #[false, false, false, false, false, false, false] (by kernel_rfl) rfl rfl ((blk_cell HH0.out.b3 1).trans rfl) (fun hHeld => ?_)
      generalize W.drew = ya at HH0 hHeld ⊢
      clear HH
      refine on_ (i := 0) (N := some 33) (MKn 7 1) rfl rfl (fun _ _ _ h => h) (by kernel_rfl) (by rfl) (by intro w'; go_simp; with_reducible rfl) PUT_ ?_
      refine on_ (i := 2) (N := some 35) (MKn 7 5) rfl rfl (fun _ _ _ h => h) (by kernel_rfl) (by rfl) (by intro w'; go_simp; with_reducible rfl) PUT_ ?_
      refine get_ (i := 1) (N := some 34) (MKn 7 7) hHeld rfl rfl (fun _ _ _ h => h) (by kernel_rfl) (by rfl) (by intro w' s0; go_simp; with_reducible rfl) PUT_ ?_
      refine one_ (i := 3) (N := some 36) (MKn 7 15) rfl rfl (by kernel_rfl) (by decide) (fun K hK => ?_)
      refine goes_ Try.func126 (by kernel_rfl) rfl #[.pointer (some ⟨g, 0, none⟩)] (by rfl) rfl rfl (by (try simp only [List.map_toArray, List.map_cons, List.map_nil]); first | done | rfl) ?_
      with_reducible refine (raw_ex w0 _ g b HH0.out.cur).mono ?_
      rintro e yb ⟨v, rfl, hd⟩
      refine ⟨_, rfl, ?_⟩
      have HH1 := Aside0.mk (HH0.out.draw hd)
      clear HH0 hd
      refine hK.out _ _ ((blk_cell HH1.out.b3 1).trans rfl) (fun hHeld => ?_)
      clear hK K
      refine norm_ (a' := ?_) ?_ ?_
      rotate_left
      · show Act.put _ (some 36) _ = _
        simp only [Act.put, List.setIfInBounds_toArray, List.set_cons_zero, List.set_cons_succ, i64_w, i32_w]
        rfl
      refine on_ (i := 4) (N := some 37) (MKn 7 31) rfl rfl (fun _ _ _ h => h) (by kernel_rfl) (by rfl) (by intro w'; go_simp; with_reducible rfl) PUT_ ?_
      refine on_ (i := 5) (N := some 38) (MKn 7 63) rfl rfl (fun _ _ _ h => h) (by kernel_rfl) (by rfl) (by intro w'; go_simp; with_reducible rfl) PUT_ ?_
      refine last_ (i := 6) (N := none) (MKn 7 127) rfl rfl (by kernel_rfl) (by decide) (fun K hK => ?_)
      obtain ⟨ce, hcl, hM, hcc, -⟩ := Kd.R_elem HH1.out.rs z71 (0 : Int) (Int.le_refl 0) (by omega)
      obtain rfl := k71_openM hM
      refine R_store_step k71 w.heap.size (by rfl) rfl 3 (.tmp 38) (.tmp 36) rfl 71 (g := gs) (n := 2) (cap := cs) (o' := 1) (0 : Int) 1 ss (⟨(ss.getD 0 z71).f0, v, (ss.getD 0 z71).f2⟩ : S71) (.int .i64 v) [.int .i64 v] _ (fun _ => True) (fun _ => False) (by first | rfl | (go_simp; done) | (go_simp; rfl)) rfl rfl rfl (by kernel_rfl) (by simp [Value.oneCell']) HH1.out.rs (Int.le_refl 0) (by omega) hcl hcc (Nat.le_of_ble_eq_true rfl) (k71_mkM _ _ _ _) (fun _ hk => hk.elim) ?_
      intro yd hr hg
      have HH := Aside0.mk (HH1.out.sides hr hg)
      refine hK.out _ _ ?_
      clear hK K hr hg HH1 hcl hM hcc
      refine done_ (by kernel_rfl) ?_
      clear hHeld
      obtain ⟨q0, q1, q2, q3⟩ := cells4 HH.out.b3
      go_wp2_with (((with_reducible refine gate_store (t := 56) (p := 2) (v := .tmp 75) rfl ?_); refine put_event rfl rfl rfl 56 g2 0 _ #[.slice (some ⟨gp, 0, none⟩) ps.length cp, .slice (some ⟨gs, 0, none⟩) 2 cs, .int .i64 a, .int .i64 c] (.agg #[.slice (some ⟨gp, 0, none⟩) ps.length cp, .slice (some ⟨gs, 0, none⟩) 2 cs, .int .i64 a, .int .i64 c]) [.slice (some ⟨gp, 0, none⟩) ps.length cp, .slice (some ⟨gs, 0, none⟩) 2 cs, .int .i64 a, .int .i64 c] rfl rfl HH.out.b2 rfl (by kernel_rfl) (by simp) (by simp [Value.oneCell']) rfl ?_; intro z1 hb1 hg1; have BZ := Aside0.mk hb1; have HZ := Aside0.mk hg1; clear hb1 hg1))
      refine bodyPost_ret (results_cell_row rfl _ _ g2 56 _ (0, 0) _ rfl BZ.out Try.underlying56 rfl (by kernel_rfl)) rfl ?_
      exact any_end HH.out HZ.out (by omega) (by simp; omega)
  by_cases e4 : n = 4
  · subst e4
    obtain ⟨q0, q1, q2, q3⟩ := cells4 HH.out.b3
    go_wp2
    have HH0 := Aside0.mk HH.out.drew1
    refine start_ (n := 8) (S := fun w' => w'.cell? ⟨g3, 0, none⟩ = some (.slice (some ⟨gp, 0, none⟩) ps.length cp)) (ds := [7]) #[false, false, false, false, false, false, false, false] (by kernel_rfl) rfl rfl ((blk_cell HH0.out.b3 0).trans rfl) (fun hHeld => ?_); refine with_tabW spec_l5Any.tab12 spec_l5Any.bits12 (fun HT_ HW_ => ?_)
    generalize W.drew = ya at HH0 hHeld ⊢
    clear HH
    refine on_ (i := 0) (N := some 41) (MKn 8 1) rfl rfl (fun _ _ _ h => h) (any_of HT_.out (by kernel_rfl)) (by rfl) (by intro w'; go_simp; with_reducible rfl) PUT_ ?_
    refine on_ (i := 2) (N := some 43) (MKn 8 5) rfl rfl (fun _ _ _ h => h) (any_of HT_.out (by kernel_rfl)) (by rfl) (by intro w'; go_simp; with_reducible rfl) PUT_ ?_
    refine get_ (i := 1) (N := some 42) (MKn 8 7) hHeld rfl rfl (fun _ _ _ h => h) (take_ofW HT_.out HW_.out (by kernel_rfl)) (by rfl) (by intro w' s0; go_simp; with_reducible rfl) PUT_ ?_
    refine one_ (i := 3) (N := some 44) (MKn 8 15) rfl rfl (one_of HT_.out (by kernel_rfl)) (by decide) (fun K hK => ?_)
    refine goes_ Try.func72 (by kernel_rfl) rfl #[.pointer (some ⟨g, 0, none⟩)] (by rfl) rfl rfl (by (try simp only [List.map_toArray, List.map_cons, List.map_nil]); first | done | rfl) ?_
    with_reducible refine (any4_ex w0 _ g b HH0.out.cur).mono ?_
    rintro e yb ⟨y0, y1, y2, y3, y4, y5, y6, y7, y8, y9, y10, y11, y12, rfl, hd⟩
    refine ⟨_, rfl, ?_⟩
    have HH1 := Aside0.mk (HH0.out.draw hd)
    clear HH0 hd
    refine hK.out _ _ ((blk_cell HH1.out.b3 0).trans rfl) (fun hHeld => ?_)
    clear hK K
    refine norm_ (a' := ?_) ?_ ?_
    rotate_left
    · show Act.put _ (some 44) _ = _
      simp only [Act.put, List.setIfInBounds_toArray, List.set_cons_zero, List.set_cons_succ, i64_w, i32_w]
      rfl
    refine one_ (i := 4) (N := some 45) (MKn 8 31) rfl rfl (one_of HT_.out (by kernel_rfl)) (by decide) (fun K hK => ?_)
    refine value_ (w1 := ?_) (v := ?_) (by rfl) rfl ?_ ?_
    rotate_left 2
    · go_simp
      constructor
      · rfl
      · rfl
    refine hK.out _ _ ((blk_cell (blk_alloc HH1.out.b3 _) 0).trans rfl) (fun hHeld => ?_)
    clear hK K
    refine norm_ (a' := ?_) ?_ ?_
    rotate_left
    · show Act.put _ (some 45) _ = _
      simp only [Act.put, List.setIfInBounds_toArray, List.set_cons_zero, List.set_cons_succ, i64_w, i32_w]
      rfl
    refine one_ (i := 5) (N := some 46) (MKn 8 63) rfl rfl (one_of HT_.out (by kernel_rfl)) (by decide) (fun K hK => ?_)
    refine Kd.R_append_step k25 (w0 := yb) w.heap.size (by rfl) (.tmp 42) (.tmp 45) 53 25 (.agg #[.int .i64 0, .int .i64 0, .int .i64 0, .int .i64 0, .int .i64 0, .int .i64 0, .int .i64 0, .int .i64 0, .int .i64 0, .int .i64 0, .int .i64 0, .bool false, .bool false]) 96 rfl Try.underlying53 info25 rfl (by decide) (by omega) (.slice (some ⟨gp, 0, none⟩) ps.length cp) ps ((⟨y0, y1, y2, y3, y4, y5, y6, y7, y8, y9, y10, y11, y12⟩ : S25)) [.int .i64 y0, .int .i64 y1, .int .i64 y2, .int .i64 y3, .int .i64 y4, .int .i64 y5, .int .i64 y6, .int .i64 y7, .int .i64 y8, .int .i64 y9, .int .i64 y10, .bool y11, .bool y12] (fun _ => True) (fun _ => False) rfl rfl (k25_mkM _ _ _ ((⟨y0, y1, y2, y3, y4, y5, y6, y7, y8, y9, y10, y11, y12⟩ : S25))) (fun _ hk => hk.elim) (fun _ _ => trivial) HH1.out.rp (Below.refl _ _) HH1.out.gb.size (by omega) ?_
    intro vq yc hr _ hg _
    have HR := Aside0.mk hr
    have HGr := Aside0.mk hg
    have HB3 := Aside0.mk (HH1.out.app hr hg).2.2.2.1
    clear hr hg
    refine hK.out _ _ ((blk_cell HB3.out 0).trans rfl) (fun hHeld => ?_)
    clear hK K
    refine norm_ (a' := ?_) ?_ ?_
    rotate_left
    · show Act.put _ (some 46) _ = _
      simp only [Act.put, List.setIfInBounds_toArray, List.set_cons_zero, List.set_cons_succ, i64_w, i32_w]
      rfl
    refine on_ (i := 6) (N := some 47) (MKn 8 127) rfl rfl (fun _ _ _ h => h) (any_of HT_.out (by kernel_rfl)) (by rfl) (by intro w'; go_simp; with_reducible rfl) PUT_ ?_
    refine last_ (i := 7) (N := none) (MKn 8 255) rfl rfl (one_of HT_.out (by kernel_rfl)) (by decide) (fun K hK => ?_)
    refine put_step (by rfl) rfl rfl 56 g3 0 _ #[vq, .slice (some ⟨gs, 0, none⟩) 2 cs, .int .i64 a, .int .i64 c] vq [vq] (by first | rfl | (go_simp; done)) (by first | rfl | (go_simp; done)) HB3.out (one_val (Kd.R_slice HR.out)) (by kernel_rfl) (by simp) (one_cell (Kd.R_slice HR.out)) rfl ?_
    intro yd hb6 hg6
    have HH := Aside0.mk (HH1.out.put3a HR.out HGr.out hb6 hg6)
    refine hK.out _ _ ?_
    clear hK K hb6 hg6 HH1 HR HGr HB3
    refine done_ (done_of HT_.out (by kernel_rfl)) ?_
    clear HT_ HW_ hHeld
    obtain ⟨Aq, Lq, cq, rfl⟩ : ∃ A L c, vq = .slice A L c := (by obtain ⟨A, c, h⟩ := Kd.R_slice HH.out.rp; exact ⟨A, _, c, h⟩)
    obtain ⟨q0, q1, q2, q3⟩ := cells4 HH.out.b3
    go_wp2_with (((with_reducible refine gate_store (t := 56) (p := 2) (v := .tmp 75) rfl ?_); refine put_event rfl rfl rfl 56 g2 0 _ #[.slice Aq Lq cq, .slice (some ⟨gs, 0, none⟩) 2 cs, .int .i64 a, .int .i64 c] (.agg #[.slice Aq Lq cq, .slice (some ⟨gs, 0, none⟩) 2 cs, .int .i64 a, .int .i64 c]) [.slice Aq Lq cq, .slice (some ⟨gs, 0, none⟩) 2 cs, .int .i64 a, .int .i64 c] rfl rfl HH.out.b2 rfl (by kernel_rfl) (by simp) (by simp [Value.oneCell']) rfl ?_; intro z1 hb1 hg1; have BZ := Aside0.mk hb1; have HZ := Aside0.mk hg1; clear hb1 hg1))
    refine bodyPost_ret (results_cell_row rfl _ _ g2 56 _ (0, 0) _ rfl BZ.out Try.underlying56 rfl (by kernel_rfl)) rfl ?_
    exact any_end HH.out HZ.out (by simp; omega) (by omega)
  by_cases e5 : n = 5
  · subst e5
    as_aux_lemma =>
      obtain ⟨q0, q1, q2, q3⟩ := cells4 HH.out.b3
      have hcs1 : (2 : Nat) ≤ cs := (Kd.R_reads' HH.out.rs).2.1
      have hcs2 : (1 : Int) ≤ (cs : Int) := by omega
      go_wp2_with (first | ((with_reducible refine gate_store (t := 54) (p := 53) (v := .tmp 52) rfl ?_); refine put_event rfl rfl rfl 56 g3 1 _ #[.slice (some ⟨gp, 0, none⟩) ps.length cp, .slice (some ⟨gs, 0, none⟩) 1 cs, .int .i64 a, .int .i64 c] (.slice (some ⟨gs, 0, none⟩) 1 cs) [.slice (some ⟨gs, 0, none⟩) 1 cs] (by first | rfl | (go_simp; done)) (by first | rfl | (go_simp; done)) HH.out.b3 rfl (by kernel_rfl) (by simp) (by simp [Value.oneCell']) rfl ?_; intro u2 hb6 hg6; have HN := Aside0.mk (HH.out.put3s (Kd.R_take HH.out.rs (m := 1) (by omega)) hb6 hg6); clear HH; have HH := HN; obtain ⟨q0, q1, q2, q3⟩ := cells4 HH.out.b3; clear HN hb6 hg6) | ((with_reducible refine gate_store (t := 56) (p := 2) (v := .tmp 75) rfl ?_); refine put_event rfl rfl rfl 56 g2 0 _ #[.slice (some ⟨gp, 0, none⟩) ps.length cp, .slice (some ⟨gs, 0, none⟩) 1 cs, .int .i64 a, .int .i64 c] (.agg #[.slice (some ⟨gp, 0, none⟩) ps.length cp, .slice (some ⟨gs, 0, none⟩) 1 cs, .int .i64 a, .int .i64 c]) [.slice (some ⟨gp, 0, none⟩) ps.length cp, .slice (some ⟨gs, 0, none⟩) 1 cs, .int .i64 a, .int .i64 c] rfl rfl HH.out.b2 rfl (by kernel_rfl) (by simp) (by simp [Value.oneCell']) rfl ?_; intro z1 hb1 hg1; have BZ := Aside0.mk hb1; have HZ := Aside0.mk hg1; clear hb1 hg1))
      refine bodyPost_ret (results_cell_row rfl _ _ g2 56 _ (0, 0) _ rfl BZ.out Try.underlying56 rfl (by kernel_rfl)) rfl ?_
      exact any_end HH.out HZ.out (by omega) (by simp; omega)
  by_cases e6 : n = 6
  · subst e6
    as_aux_lemma =>
      obtain ⟨q0, q1, q2, q3⟩ := cells4 HH.out.b3
      go_wp2
      have HH0 := Aside0.mk HH.out.drew1
      refine start_ (n := 6) (S := fun w' => w'.cell? ⟨g3, 0, none⟩ = some (.slice (some ⟨gp, 0, none⟩) ps.length cp)) (ds := [5]) #[false, false, false, false, false, false] (by kernel_rfl) rfl rfl ((blk_cell HH0.out.b3 0).trans rfl) (fun hHeld => ?_)
      generalize W.drew = ya at HH0 hHeld ⊢
      clear HH
      refine on_ (i := 0) (N := some 56) (MKn 6 1) rfl rfl (fun _ _ _ h => h) (by kernel_rfl) (by rfl) (by intro w'; go_simp; with_reducible rfl) PUT_ ?_
      refine on_ (i := 2) (N := some 58) (MKn 6 5) rfl rfl (fun _ _ _ h => h) (by kernel_rfl) (by rfl) (by intro w'; go_simp; with_reducible rfl) PUT_ ?_
      refine get_ (i := 1) (N := some 57) (MKn 6 7) hHeld rfl rfl (fun _ _ _ h => h) (by kernel_rfl) (by rfl) (by intro w' s0; go_simp; with_reducible rfl) PUT_ ?_
      refine one_ (i := 3) (N := some 59) (MKn 6 15) rfl rfl (by kernel_rfl) (by decide) (fun K hK => ?_)
      refine goes_ Try.func72 (by kernel_rfl) rfl #[.pointer (some ⟨g, 0, none⟩)] (by rfl) rfl rfl (by (try simp only [List.map_toArray, List.map_cons, List.map_nil]); first | done | rfl) ?_
      with_reducible refine (any4_ex w0 _ g b HH0.out.cur).mono ?_
      rintro e yb ⟨y0, y1, y2, y3, y4, y5, y6, y7, y8, y9, y10, y11, y12, rfl, hd⟩
      refine ⟨_, rfl, ?_⟩
      have HH1 := Aside0.mk (HH0.out.draw hd)
      clear HH0 hd
      refine hK.out _ _ ((blk_cell HH1.out.b3 0).trans rfl) (fun hHeld => ?_)
      clear hK K
      refine norm_ (a' := ?_) ?_ ?_
      rotate_left
      · show Act.put _ (some 59) _ = _
        simp only [Act.put, List.setIfInBounds_toArray, List.set_cons_zero, List.set_cons_succ, i64_w, i32_w]
        rfl
      have hpl : 0 < ps.length := by omega
      refine on_ (i := 4) (N := some 60) (MKn 6 31) rfl rfl (fun _ _ _ h => h) (by kernel_rfl) (by rfl) (by intro w'; go_simp; (try rw [if_pos hpl]); with_reducible rfl) PUT_ ?_
      refine last_ (i := 5) (N := none) (MKn 6 63) rfl rfl (by kernel_rfl) (by decide) (fun K hK => ?_)
      obtain ⟨ce, hcl, hM, hcc, -⟩ := Kd.R_elem HH1.out.rp z25 (0 : Int) (Int.le_refl 0) (by omega)
      obtain rfl := k25_openM hM
      refine R_store_step k25 w.heap.size (by rfl) rfl 25 (.tmp 60) (.tmp 59) rfl 25 (g := gp) (n := ps.length) (cap := cp) (o' := 0) (0 : Int) 0 ps ((⟨y0, y1, y2, y3, y4, y5, y6, y7, y8, y9, y10, y11, y12⟩ : S25)) (.agg #[.int .i64 y0, .int .i64 y1, .int .i64 y2, .int .i64 y3, .int .i64 y4, .int .i64 y5, .int .i64 y6, .int .i64 y7, .int .i64 y8, .int .i64 y9, .int .i64 y10, .bool y11, .bool y12]) [.int .i64 y0, .int .i64 y1, .int .i64 y2, .int .i64 y3, .int .i64 y4, .int .i64 y5, .int .i64 y6, .int .i64 y7, .int .i64 y8, .int .i64 y9, .int .i64 y10, .bool y11, .bool y12] _ (fun _ => True) (fun _ => False) (by first | rfl | (go_simp; done) | (go_simp; rfl)) rfl rfl rfl (by kernel_rfl) (by simp [Value.oneCell']) HH1.out.rp (Int.le_refl 0) (by omega) hcl hcc (Nat.le_of_ble_eq_true rfl) (k25_mkM _ _ _ (⟨y0, y1, y2, y3, y4, y5, y6, y7, y8, y9, y10, y11, y12⟩ : S25)) (fun _ hk => hk.elim) ?_
      intro yd hr hg
      have HH := Aside0.mk (HH1.out.pieces hr hg)
      refine hK.out _ _ ?_
      clear hK K hr hg HH1 hcl hM hcc
      refine done_ (by kernel_rfl) ?_
      clear hHeld
      obtain ⟨q0, q1, q2, q3⟩ := cells4 HH.out.b3
      go_wp2_with (((with_reducible refine gate_store (t := 56) (p := 2) (v := .tmp 75) rfl ?_); refine put_event rfl rfl rfl 56 g2 0 _ #[.slice (some ⟨gp, 0, none⟩) ps.length cp, .slice (some ⟨gs, 0, none⟩) 2 cs, .int .i64 a, .int .i64 c] (.agg #[.slice (some ⟨gp, 0, none⟩) ps.length cp, .slice (some ⟨gs, 0, none⟩) 2 cs, .int .i64 a, .int .i64 c]) [.slice (some ⟨gp, 0, none⟩) ps.length cp, .slice (some ⟨gs, 0, none⟩) 2 cs, .int .i64 a, .int .i64 c] rfl rfl HH.out.b2 rfl (by kernel_rfl) (by simp) (by simp [Value.oneCell']) rfl ?_; intro z1 hb1 hg1; have BZ := Aside0.mk hb1; have HZ := Aside0.mk hg1; clear hb1 hg1))
      refine bodyPost_ret (results_cell_row rfl _ _ g2 56 _ (0, 0) _ rfl BZ.out Try.underlying56 rfl (by kernel_rfl)) rfl ?_
      exact any_end HH.out HZ.out (by simp; omega) (by omega)
  by_cases e7 : n = 7
  · subst e7
    obtain ⟨q0, q1, q2, q3⟩ := cells4 HH.out.b3
    go_wp2
    go_loopw [4] (fun i wr => ∃ (j : Nat) (Aq : Option Addr) (cq : Nat) (qs : List S25), j ≤ 6 ∧ i = .int .i64 ((40 + j : Nat) : Int) ∧ qs.length ≤ 5 + j ∧ Aside0 (Held w0 w wr g b g2 g3 (.slice Aq qs.length cq) (.slice (some ⟨gs, 0, none⟩) 2 cs) a c qs ss)) (fun i _ => 46 - (intOf i).toNat)
    case atStart => exact ⟨0, some ⟨gp, 0, none⟩, cp, ps, by omega, by go_num, by omega, HH⟩
    case round =>
      clear HH q0 q1 q2 q3
      obtain ⟨j, Aq, cq, qs, hj, rfl, hq, HH⟩ := hrel
      by_cases hlt : j < 6
      · have hj1 : ((40 + j : Nat) : Int) < 46 := by omega
        go_wp2
        have HH0 := Aside0.mk HH.out.drew1
        refine start_ (n := 9) (S := fun w' => w'.cell? ⟨g3, 0, none⟩ = some (.slice Aq qs.length cq)) (ds := [8]) #[false, false, false, false, false, false, false, false, false] (by kernel_rfl) rfl rfl ((blk_cell HH0.out.b3 0).trans rfl) (fun hHeld => ?_); refine with_tabW spec_l5Any.tab21 spec_l5Any.bits21 (fun HT_ HW_ => ?_)
        generalize wr.drew = ya at HH0 hHeld ⊢
        clear HH
        refine on_ (i := 0) (N := some 67) (MKn 9 1) rfl rfl (fun _ _ _ h => h) (any_of HT_.out (by kernel_rfl)) (by rfl) (by intro w'; go_simp; with_reducible rfl) PUT_ ?_
        refine on_ (i := 2) (N := some 69) (MKn 9 5) rfl rfl (fun _ _ _ h => h) (any_of HT_.out (by kernel_rfl)) (by rfl) (by intro w'; go_simp; with_reducible rfl) PUT_ ?_
        refine on_ (i := 3) (N := some 70) (MKn 9 13) rfl rfl (fun _ _ _ h => h) (any_of HT_.out (by kernel_rfl)) (by rfl) (by intro w'; go_simp; with_reducible rfl) PUT_ ?_
        refine get_ (i := 1) (N := some 68) (MKn 9 15) hHeld rfl rfl (fun _ _ _ h => h) (take_ofW HT_.out HW_.out (by kernel_rfl)) (by rfl) (by intro w' s0; go_simp; with_reducible rfl) PUT_ ?_
        refine one_ (i := 4) (N := some 71) (MKn 9 31) rfl rfl (one_of HT_.out (by kernel_rfl)) (by decide) (fun K hK => ?_)
        refine goes_ Try.func75 (by kernel_rfl) rfl #[.pointer (some ⟨g, 0, none⟩), .int .i64 ((40 + j : Nat) : Int)] (by rfl) rfl rfl (by (try simp only [List.map_toArray, List.map_cons, List.map_nil]); first | done | rfl) ?_
        with_reducible refine (draw4_ex _ w0 _ g b HH0.out.cur).mono ?_
        rintro e yb ⟨y0, y1, y2, y3, y4, y5, y6, y7, y8, y9, y10, y11, y12, rfl, hd⟩
        refine ⟨_, rfl, ?_⟩
        have HH1 := Aside0.mk (HH0.out.draw hd)
        clear HH0 hd
        refine hK.out _ _ ((blk_cell HH1.out.b3 0).trans rfl) (fun hHeld => ?_)
        clear hK K
        refine norm_ (a' := ?_) ?_ ?_
        rotate_left
        · show Act.put _ (some 71) _ = _
          simp only [Act.put, List.setIfInBounds_toArray, List.set_cons_zero, List.set_cons_succ, i64_w, i32_w]
          rfl
        refine one_ (i := 5) (N := some 72) (MKn 9 63) rfl rfl (one_of HT_.out (by kernel_rfl)) (by decide) (fun K hK => ?_)
        refine value_ (w1 := ?_) (v := ?_) (by rfl) rfl ?_ ?_
        rotate_left 2
        · go_simp
          constructor
          · rfl
          · rfl
        refine hK.out _ _ ((blk_cell (blk_alloc HH1.out.b3 _) 0).trans rfl) (fun hHeld => ?_)
        clear hK K
        refine norm_ (a' := ?_) ?_ ?_
        rotate_left
        · show Act.put _ (some 72) _ = _
          simp only [Act.put, List.setIfInBounds_toArray, List.set_cons_zero, List.set_cons_succ, i64_w, i32_w]
          rfl
        refine one_ (i := 6) (N := some 73) (MKn 9 127) rfl rfl (one_of HT_.out (by kernel_rfl)) (by decide) (fun K hK => ?_)
        refine Kd.R_append_step k25 (w0 := yb) w.heap.size (by rfl) (.tmp 68) (.tmp 72) 53 25 (.agg #[.int .i64 0, .int .i64 0, .int .i64 0, .int .i64 0, .int .i64 0, .int .i64 0, .int .i64 0, .int .i64 0, .int .i64 0, .int .i64 0, .int .i64 0, .bool false, .bool false]) 96 rfl Try.underlying53 info25 rfl (by decide) (by omega) (.slice Aq qs.length cq) qs ((⟨y0, y1, y2, y3, y4, y5, y6, y7, y8, y9, y10, y11, y12⟩ : S25)) [.int .i64 y0, .int .i64 y1, .int .i64 y2, .int .i64 y3, .int .i64 y4, .int .i64 y5, .int .i64 y6, .int .i64 y7, .int .i64 y8, .int .i64 y9, .int .i64 y10, .bool y11, .bool y12] (fun _ => True) (fun _ => False) rfl rfl (k25_mkM _ _ _ ((⟨y0, y1, y2, y3, y4, y5, y6, y7, y8, y9, y10, y11, y12⟩ : S25))) (fun _ hk => hk.elim) (fun _ _ => trivial) HH1.out.rp (Below.refl _ _) HH1.out.gb.size (by omega) ?_
        intro vq yc hr _ hg _
        have HR := Aside0.mk hr
        have HGr := Aside0.mk hg
        have HB3 := Aside0.mk (HH1.out.app hr hg).2.2.2.1
        clear hr hg
        refine hK.out _ _ ((blk_cell HB3.out 0).trans rfl) (fun hHeld => ?_)
        clear hK K
        refine norm_ (a' := ?_) ?_ ?_
        rotate_left
        · show Act.put _ (some 73) _ = _
          simp only [Act.put, List.setIfInBounds_toArray, List.set_cons_zero, List.set_cons_succ, i64_w, i32_w]
          rfl
        refine on_ (i := 7) (N := some 74) (MKn 9 255) rfl rfl (fun _ _ _ h => h) (any_of HT_.out (by kernel_rfl)) (by rfl) (by intro w'; go_simp; with_reducible rfl) PUT_ ?_
        refine last_ (i := 8) (N := none) (MKn 9 511) rfl rfl (one_of HT_.out (by kernel_rfl)) (by decide) (fun K hK => ?_)
        refine put_step (by rfl) rfl rfl 56 g3 0 _ #[vq, .slice (some ⟨gs, 0, none⟩) 2 cs, .int .i64 a, .int .i64 c] vq [vq] (by first | rfl | (go_simp; done)) (by first | rfl | (go_simp; done)) HB3.out (one_val (Kd.R_slice HR.out)) (by kernel_rfl) (by simp) (one_cell (Kd.R_slice HR.out)) rfl ?_
        intro yd hb6 hg6
        have HH := Aside0.mk (HH1.out.put3a HR.out HGr.out hb6 hg6)
        refine hK.out _ _ ?_
        clear hK K hb6 hg6 HH1 HR HGr HB3
        refine done_ (done_of HT_.out (by kernel_rfl)) ?_
        clear HT_ HW_ hHeld
        obtain ⟨Ar, cr, rfl⟩ := Kd.R_slice HH.out.rp
        (try go_wp2)
        go_roundw
        case rel => exact ⟨j + 1, Ar, cr, qs ++ [(⟨y0, y1, y2, y3, y4, y5, y6, y7, y8, y9, y10, y11, y12⟩ : S25)], by omega, by go_num, by simp; omega, HH⟩
        case measure => simp [intOf]; omega
      · have hj1 : ¬ ((40 + j : Nat) : Int) < 46 := by omega
        obtain ⟨q0, q1, q2, q3⟩ := cells4 HH.out.b3
        go_wp2_with (((with_reducible refine gate_store (t := 56) (p := 2) (v := .tmp 75) rfl ?_); refine put_event rfl rfl rfl 56 g2 0 _ #[.slice Aq qs.length cq, .slice (some ⟨gs, 0, none⟩) 2 cs, .int .i64 a, .int .i64 c] (.agg #[.slice Aq qs.length cq, .slice (some ⟨gs, 0, none⟩) 2 cs, .int .i64 a, .int .i64 c]) [.slice Aq qs.length cq, .slice (some ⟨gs, 0, none⟩) 2 cs, .int .i64 a, .int .i64 c] rfl rfl HH.out.b2 rfl (by kernel_rfl) (by simp) (by simp [Value.oneCell']) rfl ?_; intro z1 hb1 hg1; have BZ := Aside0.mk hb1; have HZ := Aside0.mk hg1; clear hb1 hg1))
        refine bodyPost_ret (results_cell_row rfl _ _ g2 56 _ (0, 0) _ rfl BZ.out Try.underlying56 rfl (by kernel_rfl)) rfl ?_
        exact any_end HH.out HZ.out (by omega) (by omega)
  have f0 : ((n : Int) == 0) = false := by simp; omega
  have k0 : ¬ (n : Int) = 0 := by omega
  have f1 : ((n : Int) == 1) = false := by simp; omega
  have k1 : ¬ (n : Int) = 1 := by omega
  have f2 : ((n : Int) == 2) = false := by simp; omega
  have k2 : ¬ (n : Int) = 2 := by omega
  have f3 : ((n : Int) == 3) = false := by simp; omega
  have k3 : ¬ (n : Int) = 3 := by omega
  have f4 : ((n : Int) == 4) = false := by simp; omega
  have k4 : ¬ (n : Int) = 4 := by omega
  have f5 : ((n : Int) == 5) = false := by simp; omega
  have k5 : ¬ (n : Int) = 5 := by omega
  have f6 : ((n : Int) == 6) = false := by simp; omega
  have k6 : ¬ (n : Int) = 6 := by omega
  have f7 : ((n : Int) == 7) = false := by simp; omega
  have k7 : ¬ (n : Int) = 7 := by omega
  obtain ⟨q0, q1, q2, q3⟩ := cells4 HH.out.b3
  go_wp2_with (((with_reducible refine gate_store (t := 56) (p := 2) (v := .tmp 75) rfl ?_); refine put_event rfl rfl rfl 56 g2 0 _ #[.slice (some ⟨gp, 0, none⟩) ps.length cp, .slice (some ⟨gs, 0, none⟩) 2 cs, .int .i64 a, .int .i64 c] (.agg #[.slice (some ⟨gp, 0, none⟩) ps.length cp, .slice (some ⟨gs, 0, none⟩) 2 cs, .int .i64 a, .int .i64 c]) [.slice (some ⟨gp, 0, none⟩) ps.length cp, .slice (some ⟨gs, 0, none⟩) 2 cs, .int .i64 a, .int .i64 c] rfl rfl HH.out.b2 rfl (by kernel_rfl) (by simp) (by simp [Value.oneCell']) rfl ?_; intro z1 hb1 hg1; have BZ := Aside0.mk hb1; have HZ := Aside0.mk hg1; clear hb1 hg1))
  refine bodyPost_ret (results_cell_row rfl _ _ g2 56 _ (0, 0) _ rfl BZ.out Try.underlying56 rfl (by kernel_rfl)) rfl ?_
  exact any_end HH.out HZ.out (by omega) (by omega)
end Go.Proofs.Ytfkidiagmekleaa.QAll
