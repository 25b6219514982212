/- The states that the laws draw (DrawStateOk, DrawSameState, DrawStateNew, DrawOnField, DrawState), told by hand: which state is drawn is left open. -/
import Derived.Test.YtfkidiagmekleaaHAny
import Derived.Test.YtfkidiagmekleaaRCpy
namespace Go.Proofs.Ytfkidiagmekleaa.QAll
open Go.RowKit Go.Proofs.YtfkidiagmekleaaW.PrintWords Go.Proofs.YtfkidiagmekleaaW.PrintLast Go.Proofs.YtfkidiagmekleaaW.PrintMore
set_option linter.unusedVariables false
set_option linter.unusedSimpArgs false
/-- Some state (two rows and two numbers) that a call hands back in rows of its own. -/
def Sv (B : Nat) (w' : World) (v : Value) (ps : List S25) (ss : List S71) (a c : Int) : Prop := ∃ (A : Option Addr) (ca : Nat) (A' : Option Addr) (cb : Nat), v = .agg #[.slice A ps.length ca, .slice A' ss.length cb, .int .i64 a, .int .i64 c] ∧ Kd.R k25 25 w' B (fun _ => True) (.slice A ps.length ca) ps ∧ Kd.R k71 71 w' B (fun _ => True) (.slice A' ss.length cb) ss
theorem sv_of {B : Nat} {w' : World} {vp vs : Value} {ps : List S25} {ss : List S71} {a c : Int} (h0 : Kd.R k25 25 w' B (fun _ => True) vp ps) (h1 : Kd.R k71 71 w' B (fun _ => True) vs ss) : Sv B w' (.agg #[vp, vs, .int .i64 a, .int .i64 c]) ps ss a c := by
  obtain ⟨A, ca, rfl⟩ := Kd.R_slice h0
  obtain ⟨A', cb, rfl⟩ := Kd.R_slice h1
  exact ⟨A, ca, A', cb, rfl, h0, h1⟩
/-- The reader was made in w1 (base), the block g2 is older than it. -/
theorem cur_ne {w1 w g2o : World} {g g2 : Nat} {b : List Int} {o : Obj} (hC : Cur w1 w g b) (h2 : g2 < w1.heap.size) : g2 ≠ g := by have := hC.ge; omega
def isSmall (ps : List S25) (ss : List S71) : Prop := ps.length ≤ 20 ∧ ss.length ≤ 3
theorem Below.trans' {w w1 w2 : World} (h : Below w.heap.size w w1) (k : Below w1.heap.size w1 w2) : Below w.heap.size w w2 := below_then h h.size k
set_option maxHeartbeats 8000000 in
set_option maxRecDepth 100000 in
theorem drawStateOk_ex (A : Option Addr) (k : Nat) (b : List Int) (w : World) (hr : Kd.C (Kd.int .u8) w A b.length b) (hc : b.length ≤ k) (hb : b.length ≤ 1048576) :
    Calls Try.prog 40 #[.slice A b.length k] w fun e w' => ∃ (v : Value) (ps : List S25) (ss : List S71) (a c : Int), e = .returned v ∧ Sv w.heap.size w' v ps ss a c ∧ isSmall ps ss ∧ Below w.heap.size w w' := by
  have hu56 := Try.underlying56
  have HR := Aside0.mk hr
  have HC := Aside0.mk hc
  have HS := Aside0.mk hb
  clear hr hc hb
  go_enter Try.func40, Try.ntmps40
  go_wp2_with (first
    | ((with_reducible refine gate_dst (N := 2) rfl ?_); refine box_event (N := 2) rfl rfl (cs := #[.slice none 0 0, .slice none 0 0, .int .i64 0, .int .i64 0]) (t := 56) ?hr ?_; (case hr => first | (go_simp; done) | (go_simp; rfl)); intro g2 hg2 w1 hb2 hbb; have L2 := Aside0.mk (show w.heap.size ≤ g2 by rw [hg2]; exact Nat.le_refl _); have B2 := Aside0.mk hb2; have K2 := Aside0.mk hbb; clear hg2 hb2 hbb)
    | (go_at_call 71; ((with_reducible refine (new_ex A k b _ w1 (Below.refl _ w1) (Kd.C_below HR.out K2.out) HC.out HS.out).mono ?_); rintro e w2 ⟨g, rfl, hC, hbb⟩; have HCu := Aside0.mk hC; have K3 := Aside0.mk hbb; have B3 := Aside0.mk (blk_below B2.out hbb); clear hC hbb))
    | (go_at_call 107; ((with_reducible refine (l5Any_ex _ _ g b HCu.out).mono ?_); rintro e w3 ⟨vp, vs, a, c, ps, ss, rfl, hr0, hr1, hgs, hd⟩; have B4 := Aside0.mk (blk_step hd.2 (by have := HCu.out.ge; have := blk_lt B2.out; omega) B3.out); have R0 := Aside0.mk (Kd.R_lower hr0 (Nat.le_trans K2.out.size K3.out.size)); have R1 := Aside0.mk (Kd.R_lower hr1 (Nat.le_trans K2.out.size K3.out.size)); have HG := Aside0.mk hgs; have HD := Aside0.mk hd.1; obtain ⟨A0, c0, e0⟩ := Kd.R_slice hr0; obtain ⟨A1, c1, e1⟩ := Kd.R_slice hr1; subst e0; subst e1; clear hr0 hr1 hgs hd))
    | ((with_reducible refine gate_store (t := 56) (p := 2) (v := .tmp 7) rfl ?_); refine put_event rfl rfl rfl 56 g2 0 _ #[.slice A0 ps.length c0, .slice A1 ss.length c1, .int .i64 a, .int .i64 c] (.agg #[.slice A0 ps.length c0, .slice A1 ss.length c1, .int .i64 a, .int .i64 c]) [.slice A0 ps.length c0, .slice A1 ss.length c1, .int .i64 a, .int .i64 c] rfl rfl B4.out rfl (by kernel_rfl) (by simp) (by simp [Value.oneCell']) rfl ?_; intro w4 hb4 hg4; have BZ := Aside0.mk hb4; have HZ := Aside0.mk hg4; clear hb4 hg4))
  refine bodyPost_ret (results_cell_row rfl _ _ g2 56 _ (0, 0) _ rfl BZ.out Try.underlying56 rfl (by kernel_rfl)) rfl ?_
  exact ⟨_, ps, ss, a, c, rfl, ⟨_, _, _, _, rfl, R_box R0.out B4.out (by decide) HZ.out, R_box R1.out B4.out (by decide) HZ.out⟩, HG.out, below_put HZ.out L2.out (Nat.le_trans K2.out.size HD.out.size) (Below.trans' K2.out HD.out.2.1)⟩
set_option maxHeartbeats 8000000 in
set_option maxRecDepth 100000 in
theorem drawState_ex (A : Option Addr) (k : Nat) (b : List Int) (w : World) (hr : Kd.C (Kd.int .u8) w A b.length b) (hc : b.length ≤ k) (hb : b.length ≤ 1048576) :
    Calls Try.prog 51 #[.slice A b.length k] w fun e w' => ∃ (v : Value) (ps : List S25) (ss : List S71) (a c : Int), e = .returned v ∧ Sv w.heap.size w' v ps ss a c ∧ GoodSt ps ss a c ∧ Below w.heap.size w w' := by
  have hu56 := Try.underlying56
  have HR := Aside0.mk hr
  have HC := Aside0.mk hc
  have HS := Aside0.mk hb
  clear hr hc hb
  go_enter Try.func51, Try.ntmps51
  go_wp2_with (first
    | ((with_reducible refine gate_dst (N := 2) rfl ?_); refine box_event (N := 2) rfl rfl (cs := #[.slice none 0 0, .slice none 0 0, .int .i64 0, .int .i64 0]) (t := 56) ?hr ?_; (case hr => first | (go_simp; done) | (go_simp; rfl)); intro g2 hg2 w1 hb2 hbb; have L2 := Aside0.mk (show w.heap.size ≤ g2 by rw [hg2]; exact Nat.le_refl _); have B2 := Aside0.mk hb2; have K2 := Aside0.mk hbb; clear hg2 hb2 hbb)
    | (go_at_call 71; ((with_reducible refine (new_ex A k b _ w1 (Below.refl _ w1) (Kd.C_below HR.out K2.out) HC.out HS.out).mono ?_); rintro e w2 ⟨g, rfl, hC, hbb⟩; have HCu := Aside0.mk hC; have K3 := Aside0.mk hbb; have B3 := Aside0.mk (blk_below B2.out hbb); clear hC hbb))
    | (go_at_call 108; ((with_reducible refine (l5Draw_ex _ _ g b HCu.out).mono ?_); rintro e w3 ⟨vp, vs, a, c, ps, ss, rfl, hr0, hr1, hgs, hd⟩; have B4 := Aside0.mk (blk_step hd.2 (by have := HCu.out.ge; have := blk_lt B2.out; omega) B3.out); have R0 := Aside0.mk (Kd.R_lower hr0 (Nat.le_trans K2.out.size K3.out.size)); have R1 := Aside0.mk (Kd.R_lower hr1 (Nat.le_trans K2.out.size K3.out.size)); have HG := Aside0.mk hgs; have HD := Aside0.mk hd.1; obtain ⟨A0, c0, e0⟩ := Kd.R_slice hr0; obtain ⟨A1, c1, e1⟩ := Kd.R_slice hr1; subst e0; subst e1; clear hr0 hr1 hgs hd))
    | ((with_reducible refine gate_store (t := 56) (p := 2) (v := .tmp 7) rfl ?_); refine put_event rfl rfl rfl 56 g2 0 _ #[.slice A0 ps.length c0, .slice A1 ss.length c1, .int .i64 a, .int .i64 c] (.agg #[.slice A0 ps.length c0, .slice A1 ss.length c1, .int .i64 a, .int .i64 c]) [.slice A0 ps.length c0, .slice A1 ss.length c1, .int .i64 a, .int .i64 c] rfl rfl B4.out rfl (by kernel_rfl) (by simp) (by simp [Value.oneCell']) rfl ?_; intro w4 hb4 hg4; have BZ := Aside0.mk hb4; have HZ := Aside0.mk hg4; clear hb4 hg4))
  refine bodyPost_ret (results_cell_row rfl _ _ g2 56 _ (0, 0) _ rfl BZ.out Try.underlying56 rfl (by kernel_rfl)) rfl ?_
  exact ⟨_, ps, ss, a, c, rfl, ⟨_, _, _, _, rfl, R_box R0.out B4.out (by decide) HZ.out, R_box R1.out B4.out (by decide) HZ.out⟩, HG.out, below_put HZ.out L2.out (Nat.le_trans K2.out.size HD.out.size) (Below.trans' K2.out HD.out.2.1)⟩
set_option maxHeartbeats 8000000 in
set_option maxRecDepth 100000 in
theorem drawStateNew_ex (A : Option Addr) (k : Nat) (b : List Int) (w : World) (hr : Kd.C (Kd.int .u8) w A b.length b) (hc : b.length ≤ k) (hb : b.length ≤ 1048576) :
    Calls Try.prog 42 #[.slice A b.length k] w fun e w' => ∃ v : Int, e = .returned (.int .i64 v) ∧ v ∈ ([2, 3, 1, 4, -1] : List Int) ∧ Below w.heap.size w w' := by
  have hu56 := Try.underlying56
  have HR := Aside0.mk hr
  have HC := Aside0.mk hc
  have HS := Aside0.mk hb
  clear hr hc hb
  go_enter Try.func42, Try.ntmps42
  go_wp2_with (first
    | (go_at_call 71; ((with_reducible refine (new_ex A k b _ w (Below.refl _ w) HR.out HC.out HS.out).mono ?_); rintro e w2 ⟨g, rfl, hC, hbb⟩; have HCu := Aside0.mk hC; have K3 := Aside0.mk hbb; clear hC hbb))
    | (go_at_call 73; ((with_reducible refine (int_lit [2, 3, 1, 4, -1] _ _ (by simp) (by simp [nums]) (by decide) (by decide) w _ g b HCu.out).mono ?_); rintro e u1 ⟨vi, rfl, hv, hd⟩; have HN := Aside0.mk hd.1.2.1; have HV := Aside0.mk hv; clear hd hv)))
  go_ret
  exact ⟨vi, rfl, HV.out, HN.out⟩
set_option maxHeartbeats 8000000 in
set_option maxRecDepth 100000 in
theorem drawOnField_ex (A : Option Addr) (k : Nat) (b : List Int) (w : World) (hr : Kd.C (Kd.int .u8) w A b.length b) (hc : b.length ≤ k) (hb : b.length ≤ 1048576) :
    Calls Try.prog 44 #[.slice A b.length k] w fun e w' => ∃ (v : Value) (n : Int) (ps : List S25) (ss : List S71) (a c : Int), e = .returned (.tuple #[v, .int .i64 n]) ∧ Sv w.heap.size w' v ps ss a c ∧ isSmall ps ss ∧ n ∈ ([-1, 0, 1, 2] : List Int) ∧ Below w.heap.size w w' := by
  have hu56 := Try.underlying56
  have HR := Aside0.mk hr
  have HC := Aside0.mk hc
  have HS := Aside0.mk hb
  clear hr hc hb
  go_enter Try.func44, Try.ntmps44
  go_wp2_with (first
    | ((with_reducible refine gate_dst (N := 2) rfl ?_); refine box_event (N := 2) rfl rfl (cs := #[.slice none 0 0, .slice none 0 0, .int .i64 0, .int .i64 0]) (t := 56) ?hr ?_; (case hr => first | (go_simp; done) | (go_simp; rfl)); intro g2 hg2 w1 hb2 hbb; have L2 := Aside0.mk (show w.heap.size ≤ g2 by rw [hg2]; exact Nat.le_refl _); have B2 := Aside0.mk hb2; have K2 := Aside0.mk hbb; clear hg2 hb2 hbb)
    | (go_at_call 71; ((with_reducible refine (new_ex A k b _ w1 (Below.refl _ w1) (Kd.C_below HR.out K2.out) HC.out HS.out).mono ?_); rintro e w2 ⟨g, rfl, hC, hbb⟩; have HCu := Aside0.mk hC; have K3 := Aside0.mk hbb; have B3 := Aside0.mk (blk_below B2.out hbb); clear hC hbb))
    | (go_at_call 107; ((with_reducible refine (l5Any_ex _ _ g b HCu.out).mono ?_); rintro e w3 ⟨vp, vs, a, c, ps, ss, rfl, hr0, hr1, hgs, hd⟩; have B4 := Aside0.mk (blk_step hd.2 (by have := HCu.out.ge; have := blk_lt B2.out; omega) B3.out); have R0 := Aside0.mk (Kd.R_lower hr0 (Nat.le_trans K2.out.size K3.out.size)); have R1 := Aside0.mk (Kd.R_lower hr1 (Nat.le_trans K2.out.size K3.out.size)); have HG := Aside0.mk hgs; have HD := Aside0.mk hd.1; obtain ⟨A0, c0, e0⟩ := Kd.R_slice hr0; obtain ⟨A1, c1, e1⟩ := Kd.R_slice hr1; subst e0; subst e1; clear hr0 hr1 hgs hd))
    | (go_at_call 73; ((with_reducible refine (int_lit [-1, 0, 1, 2] _ _ (by simp) (by simp [nums]) (by decide) (by decide) _ _ g b HD.out).mono ?_); rintro e u1 ⟨vi, rfl, hv, hd⟩; obtain ⟨cs, hcb⟩ := HD.out.blk; have HN := Aside0.mk hd.1; have HV := Aside0.mk hv; have B5 := Aside0.mk (blk_step hd.2 (by have := HCu.out.ge; have := blk_lt B2.out; omega) B4.out); have Q0 := Aside0.mk (R_box R0.out hcb (by decide) hd.2); have Q1 := Aside0.mk (R_box R1.out hcb (by decide) hd.2); clear hd hv hcb))
    | ((with_reducible refine gate_store (t := 56) (p := 2) (v := .tmp 8) rfl ?_); refine put_event rfl rfl rfl 56 g2 0 _ #[.slice A0 ps.length c0, .slice A1 ss.length c1, .int .i64 a, .int .i64 c] (.agg #[.slice A0 ps.length c0, .slice A1 ss.length c1, .int .i64 a, .int .i64 c]) [.slice A0 ps.length c0, .slice A1 ss.length c1, .int .i64 a, .int .i64 c] rfl rfl B5.out rfl (by kernel_rfl) (by simp) (by simp [Value.oneCell']) rfl ?_; intro w4 hb4 hg4; have BZ := Aside0.mk hb4; have HZ := Aside0.mk hg4; clear hb4 hg4))
  refine bodyPost_ret (results_ct rfl _ _ g2 56 _ (0, 0) _ rfl BZ.out Try.underlying56 rfl (by kernel_rfl)) rfl ?_
  exact ⟨_, vi, ps, ss, a, c, rfl, ⟨_, _, _, _, rfl, R_box Q0.out B5.out (by decide) HZ.out, R_box Q1.out B5.out (by decide) HZ.out⟩, HG.out, HV.out, below_put HZ.out L2.out (Nat.le_trans K2.out.size HN.out.size) (Below.trans' K2.out HN.out.2.1)⟩
/-- DrawSameState's world ahead of its last stores. -/
structure Two (w wb W : World) (g : Nat) (b : List Int) (g2 g3 g5 : Nat) (A0 : Option Addr) (c0 : Nat) (A1 : Option Addr) (c1 : Nat) (ps : List S25) (ss : List S71) (a c : Int) : Prop where
  cur : Cur wb W g b
  bel : Below w.heap.size w W
  l2 : w.heap.size ≤ g2
  l3 : w.heap.size ≤ g3
  l5 : w.heap.size ≤ g5
  n23 : g2 ≠ g3
  n25 : g2 ≠ g5
  n35 : g3 ≠ g5
  q2 : g2 < wb.heap.size
  q3 : g3 < wb.heap.size
  n5 : g5 ≠ g
  lw : w.heap.size ≤ W.heap.size
  b2 : W.heap[g2]? = some (.cells #[.slice none 0 0, .slice none 0 0, .int .i64 0, .int .i64 0] 56 (0, 0))
  b3 : W.heap[g3]? = some (.cells #[.slice none 0 0, .slice none 0 0, .int .i64 0, .int .i64 0] 56 (0, 0))
  b5 : W.heap[g5]? = some (.cells #[.slice A0 ps.length c0, .slice A1 ss.length c1, .int .i64 a, .int .i64 c] 56 (0, 0))
  rp : Kd.R k25 25 W w.heap.size (fun _ => True) (.slice A0 ps.length c0) ps
  rs : Kd.R k71 71 W w.heap.size (fun _ => True) (.slice A1 ss.length c1) ss
namespace Two
variable {w wb W W1 : World} {g : Nat} {b : List Int} {g2 g3 g5 : Nat} {A0 : Option Addr} {c0 : Nat} {A1 : Option Addr} {c1 : Nat} {ps : List S25} {ss : List S71} {a c : Int}
theorem below (h : Two w wb W g b g2 g3 g5 A0 c0 A1 c1 ps ss a c) (hb : Below W.heap.size W W1) : Two w wb W1 g b g2 g3 g5 A0 c0 A1 c1 ps ss a c :=
  ⟨h.cur.below hb, below_then h.bel h.lw hb, h.l2, h.l3, h.l5, h.n23, h.n25, h.n35, h.q2, h.q3, h.n5, Nat.le_trans h.lw hb.size, blk_below h.b2 hb, blk_below h.b3 hb, blk_below h.b5 hb, Kd.R_below h.rp hb, Kd.R_below h.rs hb⟩
theorem drew1 (h : Two w wb W g b g2 g3 g5 A0 c0 A1 c1 ps ss a c) : Two w wb W.drew g b g2 g3 g5 A0 c0 A1 c1 ps ss a c := h.below (below_drew (Below.refl _ _))
theorem draw (h : Two w wb W g b g2 g3 g5 A0 c0 A1 c1 ps ss a c) (hw : w.heap.size ≤ wb.heap.size) (d : Drew wb W W1 g b) : Two w wb W1 g b g2 g3 g5 A0 c0 A1 c1 ps ss a c := by
  obtain ⟨cs, hc⟩ := h.cur.blk
  exact ⟨d.1, below_put d.2 (Nat.le_trans hw h.cur.ge) h.lw h.bel, h.l2, h.l3, h.l5, h.n23, h.n25, h.n35, h.q2, h.q3, h.n5, Nat.le_trans h.lw d.2.size, blk_step d.2 (by have := h.cur.ge; have := h.q2; omega) h.b2, blk_step d.2 (by have := h.cur.ge; have := h.q3; omega) h.b3, blk_step d.2 h.n5 h.b5, R_box h.rp hc (by decide) d.2, R_box h.rs hc (by decide) d.2⟩
/-- The two stores into the results' cells. -/
theorem fin (h : Two w wb W g b g2 g3 g5 A0 c0 A1 c1 ps ss a c) {W2 : World} {o : Array Value} {o' : Array Value} (hb1 : W1.heap[g2]? = some (.cells o 56 (0, 0))) (hg1 : W.grownBy W1 (some g2)) (hb2 : W2.heap[g3]? = some (.cells o' 56 (0, 0))) (hg2 : W1.grownBy W2 (some g3)) {v0 v1 : Value} {qs : List S25} {ts : List S71} (h0 : Kd.R k25 25 W w.heap.size (fun _ => True) v0 qs) (h1 : Kd.R k71 71 W w.heap.size (fun _ => True) v1 ts) :
    W2.heap[g2]? = some (.cells o 56 (0, 0)) ∧ Kd.R k25 25 W2 w.heap.size (fun _ => True) (.slice A0 ps.length c0) ps ∧ Kd.R k71 71 W2 w.heap.size (fun _ => True) (.slice A1 ss.length c1) ss ∧ Kd.R k25 25 W2 w.heap.size (fun _ => True) v0 qs ∧ Kd.R k71 71 W2 w.heap.size (fun _ => True) v1 ts ∧ Below w.heap.size w W2 := by
  have b3 := blk_step hg1 (Ne.symm h.n23) h.b3
  exact ⟨blk_step hg2 h.n23 hb1, R_box (R_box h.rp h.b2 (by decide) hg1) b3 (by decide) hg2, R_box (R_box h.rs h.b2 (by decide) hg1) b3 (by decide) hg2, R_box (R_box h0 h.b2 (by decide) hg1) b3 (by decide) hg2, R_box (R_box h1 h.b2 (by decide) hg1) b3 (by decide) hg2, below_put hg2 h.l3 (Nat.le_trans h.lw hg1.size) (below_put hg1 h.l2 h.lw h.bel)⟩
end Two
def TwoOut (w : World) (e : Ending) (w' : World) : Prop := ∃ (v v' : Value) (ps : List S25) (ss : List S71) (a c : Int) (qs : List S25) (ts : List S71) (a' c' : Int), e = .returned (.tuple #[v, v']) ∧ Sv w.heap.size w' v ps ss a c ∧ Sv w.heap.size w' v' qs ts a' c' ∧ isSmall ps ss ∧ isSmall qs ts ∧ Below w.heap.size w w'
theorem l5copy_f (ps : List S25) (ss : List S71) (a c : Int) (h : isSmall ps ss) : spec_l5Copy.f ps ss a c = some (ps, ss, a, c) := by
  have h1 := h.1
  have h2 := h.2
  unfold spec_l5Copy.f
  show (if ([] : List S25).length + ps.length < 1466015503701 then _ else _) = _
  rw [if_pos (by simp; omega)]
  show (if ([] : List S71).length + ss.length < 5864062014805 then _ else _) = _
  rw [if_pos (by simp; omega)]
  rfl
set_option maxHeartbeats 8000000 in
set_option maxRecDepth 100000 in
theorem drawSameState_ex (A : Option Addr) (k : Nat) (b : List Int) (w : World) (hr : Kd.C (Kd.int .u8) w A b.length b) (hc : b.length ≤ k) (hb : b.length ≤ 1048576) :
    Calls Try.prog 41 #[.slice A b.length k] w (TwoOut w) := by
  have hu56 := Try.underlying56
  have HR := Aside0.mk hr
  have HC := Aside0.mk hc
  have HS := Aside0.mk hb
  clear hr hc hb
  go_enter Try.func41, Try.ntmps41
  go_wp2_with (first
    | ((with_reducible refine gate_dst (N := 2) rfl ?_); refine box_event (N := 2) rfl rfl (cs := #[.slice none 0 0, .slice none 0 0, .int .i64 0, .int .i64 0]) (t := 56) ?hr ?_; (case hr => first | (go_simp; done) | (go_simp; rfl)); intro g2 hg2 w1 hb2 hbb; have L2 := Aside0.mk (show w.heap.size ≤ g2 by rw [hg2]; exact Nat.le_refl _); have B2 := Aside0.mk hb2; have K2 := Aside0.mk hbb; clear hg2 hb2 hbb)
    | ((with_reducible refine gate_dst (N := 3) rfl ?_); refine box_event (N := 3) rfl rfl (cs := #[.slice none 0 0, .slice none 0 0, .int .i64 0, .int .i64 0]) (t := 56) ?hr ?_; (case hr => first | (go_simp; done) | (go_simp; rfl)); intro g3 hg3 wb hb3 hbb; have L3 := Aside0.mk (show w1.heap.size ≤ g3 by rw [hg3]; exact Nat.le_refl _); have B3 := Aside0.mk hb3; have K3 := Aside0.mk hbb; clear hg3 hb3 hbb)
    | (go_at_call 71; ((with_reducible refine (new_ex A k b _ wb (Below.refl _ wb) (Kd.C_below (Kd.C_below HR.out K2.out) K3.out) HC.out HS.out).mono ?_); rintro e w2 ⟨g, rfl, hC, hbb⟩; have HCu := Aside0.mk hC; have K4 := Aside0.mk hbb; clear hC hbb))
    | (go_at_call 108; ((with_reducible refine (l5Draw_ex wb _ g b HCu.out).mono ?_); rintro e w3 ⟨vp, vs, a, c, ps, ss, rfl, hr0, hr1, hgs, hd⟩; have R0 := Aside0.mk (Kd.R_lower hr0 (Nat.le_trans (Nat.le_trans K2.out.size K3.out.size) K4.out.size)); have R1 := Aside0.mk (Kd.R_lower hr1 (Nat.le_trans (Nat.le_trans K2.out.size K3.out.size) K4.out.size)); have HG := Aside0.mk (show isSmall ps ss from ⟨by have := hgs.2.2.1; omega, by have := hgs.2.2.2; omega⟩); have HD := Aside0.mk hd; obtain ⟨A0, c0, e0⟩ := Kd.R_slice hr0; obtain ⟨A1, c1, e1⟩ := Kd.R_slice hr1; subst e0; subst e1; clear hr0 hr1 hgs hd))
    | ((with_reducible refine gate_dst (N := 5) rfl ?_); refine box_event (N := 5) rfl rfl (cs := #[.slice none 0 0, .slice none 0 0, .int .i64 0, .int .i64 0]) (t := 56) ?hr ?_; (case hr => first | (go_simp; done) | (go_simp; rfl)); intro g5 hg5 w4 hb5 hbb; have L5 := Aside0.mk (show w3.heap.size ≤ g5 by rw [hg5]; exact Nat.le_refl _); have B5 := Aside0.mk hb5; have K5 := Aside0.mk hbb; clear hg5 hb5 hbb)
    | ((with_reducible refine gate_store (t := 56) (p := 5) (v := .tmp 9) rfl ?_); refine put_event rfl rfl rfl 56 g5 0 _ #[.slice A0 ps.length c0, .slice A1 ss.length c1, .int .i64 a, .int .i64 c] (.agg #[.slice A0 ps.length c0, .slice A1 ss.length c1, .int .i64 a, .int .i64 c]) [.slice A0 ps.length c0, .slice A1 ss.length c1, .int .i64 a, .int .i64 c] rfl rfl B5.out rfl (by kernel_rfl) (by simp) (by simp [Value.oneCell']) rfl ?_; intro w5 hb6 hg6; have B6 := Aside0.mk hb6; have G6 := Aside0.mk hg6; clear hb6 hg6))
  have s12 := K2.out.size
  have s2b := K3.out.size
  have s4 := K4.out.size
  have sd := HD.out.2.size
  have s5 := K5.out.size
  have s6 := G6.out.size
  have t2 := blk_lt B2.out
  have t3 := blk_lt B3.out
  have u3 := L3.out
  have u2 := L2.out
  have u5 := L5.out
  have tg := HCu.out.ge
  have tl := HCu.out.lt
  have LW := Aside0.mk (Nat.le_trans s12 s2b)
  have hbb2 := blk_step HD.out.2 (by omega) (blk_below (blk_below B2.out K3.out) K4.out)
  have hbb3 := blk_step HD.out.2 (by omega) (blk_below B3.out K4.out)
  have HH0 := Aside0.mk (show Two w wb w5 g b g2 g3 g5 A0 c0 A1 c1 ps ss a c from ⟨(HD.out.1.below K5.out).grown G6.out (fun x e => by cases e; exact ⟨by omega, by omega⟩), below_put G6.out (by omega) (by omega) (below_then (below_put HD.out.2 (by omega) (by omega) (Below.trans' K2.out (Below.trans' K3.out K4.out))) (by omega) K5.out), L2.out, by omega, by omega, by omega, by omega, by omega, by omega, by omega, by omega, by omega, blk_step G6.out (by omega) (blk_below hbb2 K5.out), blk_step G6.out (by omega) (blk_below hbb3 K5.out), B6.out, R_box (Kd.R_below R0.out K5.out) B5.out (by decide) G6.out, R_box (Kd.R_below R1.out K5.out) B5.out (by decide) G6.out⟩)
  clear s12 s2b s4 sd s5 s6 t2 t3 u3 u2 u5 tg tl hbb2 hbb3 K2 K3 K4 K5 HD B2 B3 B5 B6 G6 R0 R1 L2 L3 L5
  refine (once_ex 2 (by decide) wb _ g b HH0.out.cur).mono ?_
  rintro e W ⟨t, rfl, hd⟩
  have HH := Aside0.mk (HH0.out.draw LW.out hd)
  clear hd HH0 HCu
  cases t
  · (try go_wp2)
    have HH0 := Aside0.mk HH.out.drew1
    refine start_ (n := 5) (S := fun w' => w'.cell? ⟨g5, 0, none⟩ = some (.slice A0 ps.length c0) ∧ w'.cell? ⟨g5, 1, none⟩ = some (.slice A1 ss.length c1) ∧ w'.cell? ⟨g5, 2, none⟩ = some (.int .i64 a) ∧ w'.cell? ⟨g5, 3, none⟩ = some (.int .i64 c)) (ds := [4]) #[false, false, false, false, false] (by kernel_rfl) rfl rfl (cells4 HH0.out.b5) (fun hHeld => ?_)
    generalize W.drew = ya at HH0 hHeld ⊢
    clear HH
    refine get_ (i := 0) (N := some 15) #[true, false, false, false, false] hHeld rfl rfl (fun _ _ _ h => h) (by kernel_rfl) (by rfl) (by rintro w' ⟨s0, s1, s2, s3⟩; go_simp; with_reducible rfl) (by simp only [Act.put, List.setIfInBounds_toArray, List.set_cons_zero, List.set_cons_succ, i64_w, i32_w]; rfl) ?_
    refine on_ (i := 1) (N := some 16) #[true, true, false, false, false] rfl rfl (fun _ _ _ h => h) (by kernel_rfl) (by rfl) (by intro w'; go_simp; with_reducible rfl) (by simp only [Act.put, List.setIfInBounds_toArray, List.set_cons_zero, List.set_cons_succ, i64_w, i32_w]; rfl) ?_
    refine one_ (i := 2) (N := some 17) #[true, true, true, false, false] rfl rfl (by kernel_rfl) (by decide) (fun K hK => ?_)
    refine goes_ Try.func107 (by kernel_rfl) rfl #[.pointer (some ⟨g, 0, none⟩)] (by rfl) rfl rfl (by (try simp only [List.map_toArray, List.map_cons, List.map_nil]); first | done | rfl) ?_
    with_reducible refine (l5Any_ex _ _ g b HH0.out.cur).mono ?_
    rintro e yb ⟨v0, v1, a', c', qs, ts, rfl, ho0, ho1, hgs, hd⟩
    refine ⟨_, rfl, ?_⟩
    have HH1 := Aside0.mk (HH0.out.draw LW.out hd)
    have HG2 := Aside0.mk hgs
    have N0 := Aside0.mk (Kd.R_lower ho0 HH0.out.lw)
    have N1 := Aside0.mk (Kd.R_lower ho1 HH0.out.lw)
    clear HH0 hd ho0 ho1 hgs
    obtain ⟨A2, c2, rfl⟩ := Kd.R_slice N0.out
    obtain ⟨A3, c3, rfl⟩ := Kd.R_slice N1.out
    refine hK.out _ _ (cells4 HH1.out.b5) (fun hHeld => ?_)
    clear hK K
    refine norm_ (a' := ?_) ?_ ?_
    rotate_left
    · show Act.put _ (some 17) _ = _
      simp only [Act.put, List.setIfInBounds_toArray, List.set_cons_zero, List.set_cons_succ, i64_w, i32_w]
      rfl
    refine one_ (i := 3) (N := none) #[true, true, true, true, false] rfl rfl (by kernel_rfl) (by decide) (fun K hK => ?_)
    refine put_step (by rfl) rfl rfl 56 g2 0 _ #[.slice A0 ps.length c0, .slice A1 ss.length c1, .int .i64 a, .int .i64 c] (.agg #[.slice A0 ps.length c0, .slice A1 ss.length c1, .int .i64 a, .int .i64 c]) [.slice A0 ps.length c0, .slice A1 ss.length c1, .int .i64 a, .int .i64 c] (by first | rfl | (go_simp; done)) (by first | rfl | (go_simp; done)) HH1.out.b2 rfl (by kernel_rfl) (by simp) (by simp [Value.oneCell']) rfl ?_
    intro z1 hb1 hg1
    have BZ1 := Aside0.mk hb1
    have GZ1 := Aside0.mk hg1
    have BZ3 := Aside0.mk (blk_step hg1 (Ne.symm HH1.out.n23) HH1.out.b3)
    have BZ5 := blk_step hg1 (Ne.symm HH1.out.n25) HH1.out.b5
    refine hK.out _ _ (cells4 BZ5) (fun hHeld => ?_)
    clear hK K BZ5 hb1 hg1
    refine last_ (i := 4) (N := none) #[true, true, true, true, true] rfl rfl (by kernel_rfl) (by decide) (fun K hK => ?_)
    refine put_step (by rfl) rfl rfl 56 g3 0 _ #[.slice A2 qs.length c2, .slice A3 ts.length c3, .int .i64 a', .int .i64 c'] (.agg #[.slice A2 qs.length c2, .slice A3 ts.length c3, .int .i64 a', .int .i64 c']) [.slice A2 qs.length c2, .slice A3 ts.length c3, .int .i64 a', .int .i64 c'] (by first | rfl | (go_simp; done)) (by first | rfl | (go_simp; done)) BZ3.out rfl (by kernel_rfl) (by simp) (by simp [Value.oneCell']) rfl ?_
    intro z2 hb2 hg2
    have BZ2 := Aside0.mk hb2
    obtain ⟨f1, f2, f3, f4, f5, f6⟩ := HH1.out.fin BZ1.out GZ1.out hb2 hg2 N0.out N1.out
    have FF := Aside0.mk (And.intro f1 (And.intro f2 (And.intro f3 (And.intro f4 (And.intro f5 f6)))))
    refine hK.out _ _ ?_
    clear hK K hb2 hg2 f1 f2 f3 f4 f5 f6 HH1 BZ1 GZ1 BZ3 N0 N1
    refine done_ (by kernel_rfl) ?_
    clear hHeld
    (try go_wp2)
    refine bodyPost_ret (results_cc rfl _ _ g2 g3 56 56 _ _ (0, 0) (0, 0) _ _ rfl FF.out.1 Try.underlying56 rfl (by kernel_rfl) rfl BZ2.out Try.underlying56 rfl (by kernel_rfl)) rfl ?_
    exact ⟨_, _, ps, ss, a, c, qs, ts, a', c', rfl, ⟨_, _, _, _, rfl, FF.out.2.1, FF.out.2.2.1⟩, ⟨_, _, _, _, rfl, FF.out.2.2.2.1, FF.out.2.2.2.2.1⟩, HG.out, HG2.out, FF.out.2.2.2.2.2⟩
  · (try go_wp2)
    have HH0 := Aside0.mk HH.out.drew1
    refine start_ (n := 5) (S := fun w' => w'.cell? ⟨g5, 0, none⟩ = some (.slice A0 ps.length c0) ∧ w'.cell? ⟨g5, 1, none⟩ = some (.slice A1 ss.length c1) ∧ w'.cell? ⟨g5, 2, none⟩ = some (.int .i64 a) ∧ w'.cell? ⟨g5, 3, none⟩ = some (.int .i64 c)) (ds := [4]) #[false, false, false, false, false] (by kernel_rfl) rfl rfl (cells4 HH0.out.b5) (fun hHeld => ?_)
    generalize W.drew = ya at HH0 hHeld ⊢
    clear HH
    refine get_ (i := 0) (N := some 12) #[true, false, false, false, false] hHeld rfl rfl (fun _ _ _ h => h) (by kernel_rfl) (by rfl) (by rintro w' ⟨s0, s1, s2, s3⟩; go_simp; with_reducible rfl) (by simp only [Act.put, List.setIfInBounds_toArray, List.set_cons_zero, List.set_cons_succ, i64_w, i32_w]; rfl) ?_
    refine get_ (i := 1) (N := some 13) #[true, true, false, false, false] hHeld rfl rfl (fun _ _ _ h => h) (by kernel_rfl) (by rfl) (by rintro w' ⟨s0, s1, s2, s3⟩; go_simp; with_reducible rfl) (by simp only [Act.put, List.setIfInBounds_toArray, List.set_cons_zero, List.set_cons_succ, i64_w, i32_w]; rfl) ?_
    refine one_ (i := 2) (N := some 14) #[true, true, true, false, false] rfl rfl (by kernel_rfl) (by decide) (fun K hK => ?_)
    refine goes_ Try.func109 (by kernel_rfl) rfl #[.agg #[.slice A0 ps.length c0, .slice A1 ss.length c1, .int .i64 a, .int .i64 c]] (by rfl) rfl rfl (by (try simp only [List.map_toArray, List.map_cons, List.map_nil]); first | done | rfl) ?_
    with_reducible refine (spec_l5Copy.calls A0 c0 ps A1 c1 ss a c ps ss a c _ (Kd.R_reads' HH0.out.rp).2.2 (Kd.R_reads' HH0.out.rp).2.1 (Kd.R_reads' HH0.out.rs).2.2 (Kd.R_reads' HH0.out.rs).2.1 (l5copy_f _ _ _ _ HG.out)).mono ?_
    rintro e yb ⟨v0, v1, rfl, ho0, ho1, hb⟩
    refine ⟨_, rfl, ?_⟩
    have HH1 := Aside0.mk (HH0.out.below hb)
    have N0 := Aside0.mk (Kd.R_lower ho0 HH0.out.lw)
    have N1 := Aside0.mk (Kd.R_lower ho1 HH0.out.lw)
    clear HH0 hb ho0 ho1
    obtain ⟨A2, c2, rfl⟩ := Kd.R_slice N0.out
    obtain ⟨A3, c3, rfl⟩ := Kd.R_slice N1.out
    refine hK.out _ _ (cells4 HH1.out.b5) (fun hHeld => ?_)
    clear hK K
    refine norm_ (a' := ?_) ?_ ?_
    rotate_left
    · show Act.put _ (some 14) _ = _
      simp only [Act.put, List.setIfInBounds_toArray, List.set_cons_zero, List.set_cons_succ, i64_w, i32_w]
      rfl
    refine one_ (i := 3) (N := none) #[true, true, true, true, false] rfl rfl (by kernel_rfl) (by decide) (fun K hK => ?_)
    refine put_step (by rfl) rfl rfl 56 g2 0 _ #[.slice A0 ps.length c0, .slice A1 ss.length c1, .int .i64 a, .int .i64 c] (.agg #[.slice A0 ps.length c0, .slice A1 ss.length c1, .int .i64 a, .int .i64 c]) [.slice A0 ps.length c0, .slice A1 ss.length c1, .int .i64 a, .int .i64 c] (by first | rfl | (go_simp; done)) (by first | rfl | (go_simp; done)) HH1.out.b2 rfl (by kernel_rfl) (by simp) (by simp [Value.oneCell']) rfl ?_
    intro z1 hb1 hg1
    have BZ1 := Aside0.mk hb1
    have GZ1 := Aside0.mk hg1
    have BZ3 := Aside0.mk (blk_step hg1 (Ne.symm HH1.out.n23) HH1.out.b3)
    have BZ5 := blk_step hg1 (Ne.symm HH1.out.n25) HH1.out.b5
    refine hK.out _ _ (cells4 BZ5) (fun hHeld => ?_)
    clear hK K BZ5 hb1 hg1
    refine last_ (i := 4) (N := none) #[true, true, true, true, true] rfl rfl (by kernel_rfl) (by decide) (fun K hK => ?_)
    refine put_step (by rfl) rfl rfl 56 g3 0 _ #[.slice A2 ps.length c2, .slice A3 ss.length c3, .int .i64 a, .int .i64 c] (.agg #[.slice A2 ps.length c2, .slice A3 ss.length c3, .int .i64 a, .int .i64 c]) [.slice A2 ps.length c2, .slice A3 ss.length c3, .int .i64 a, .int .i64 c] (by first | rfl | (go_simp; done)) (by first | rfl | (go_simp; done)) BZ3.out rfl (by kernel_rfl) (by simp) (by simp [Value.oneCell']) rfl ?_
    intro z2 hb2 hg2
    have BZ2 := Aside0.mk hb2
    obtain ⟨f1, f2, f3, f4, f5, f6⟩ := HH1.out.fin BZ1.out GZ1.out hb2 hg2 N0.out N1.out
    have FF := Aside0.mk (And.intro f1 (And.intro f2 (And.intro f3 (And.intro f4 (And.intro f5 f6)))))
    refine hK.out _ _ ?_
    clear hK K hb2 hg2 f1 f2 f3 f4 f5 f6 HH1 BZ1 GZ1 BZ3 N0 N1
    refine done_ (by kernel_rfl) ?_
    clear hHeld
    (try go_wp2)
    refine bodyPost_ret (results_cc rfl _ _ g2 g3 56 56 _ _ (0, 0) (0, 0) _ _ rfl FF.out.1 Try.underlying56 rfl (by kernel_rfl) rfl BZ2.out Try.underlying56 rfl (by kernel_rfl)) rfl ?_
    exact ⟨_, _, ps, ss, a, c, ps, ss, a, c, rfl, ⟨_, _, _, _, rfl, FF.out.2.1, FF.out.2.2.1⟩, ⟨_, _, _, _, rfl, FF.out.2.2.2.1, FF.out.2.2.2.2.1⟩, HG.out, HG.out, FF.out.2.2.2.2.2⟩
end Go.Proofs.Ytfkidiagmekleaa.QAll
