/- The reference's drawn states, by what is known of them: l5Draw makes a valid state, l5Any some state. -/
import Derived.Test.YtfkidiagmekleaaHDraw
import Derived.Test.YtfkidiagmekleaaRSNw
namespace Go.Proofs.Ytfkidiagmekleaa.QAll
open Go.RowKit Go.Proofs.YtfkidiagmekleaaW.PrintWords Go.Proofs.YtfkidiagmekleaaW.PrintLast Go.Proofs.YtfkidiagmekleaaW.PrintMore
set_option linter.unusedVariables false
set_option linter.unusedSimpArgs false

section
variable {P : Program} {ops : Array Oper} {o : Oper} {a : Act} {Q : Exit → Act → World → Prop} {α : Type}
/-- A store into an element of an own row, as one step of a region that draws. -/
theorem R_store_step {K : Act → World → Prop} (d : Kd α) {W : World} (base : Nat) (hw : Region.wanted o (yielded ops a.tmps) = true) (hN : o.dst = none) (t : TypeId) (p x : Operand) (ho : o.op = .store t p x) (e : TypeId) {g n cap o' : Nat} (i : Int) (j : Nat) (xs : List α) (x' : α) (u : Value) (seg c : List Value) (ok okp : Nat → Prop)
    (haddr : a.eval p = .pointer (some ⟨g, o', none⟩)) (hoff : o' = i.toNat * d.sz + j) (hx : a.eval x = u) (hu : u.cells.toList = seg) (ht : (P.info? t).map (·.size) = some seg.length) (h1 : ∀ q ∈ seg, q.oneCell' = true)
    (HO : d.R e W base ok (.slice (some ⟨g, 0, none⟩) n cap) xs) (h0 : 0 ≤ i) (hi : i < n) (hcl : c.length = d.sz) (hcc : ∀ j u, c[j]? = some u → W.cell? ⟨g, i.toNat * d.sz + j, none⟩ = some u)
    (hj : j + seg.length ≤ d.sz) (hM : d.M W base okp x' (c.take j ++ seg ++ c.drop (j + seg.length))) (hokp : ∀ k, okp k → ok k ∧ k ≠ g)
    (h : ∀ w1, d.R e w1 base ok (.slice (some ⟨g, 0, none⟩) n cap) (xs.set i.toNat x') → W.grownBy w1 (some g) → K a w1) : if Region.wanted o (yielded ops a.tmps) = true then Oper.wp P o a W K Q else K (a.put none undef) W := by
  subst hoff
  obtain ⟨hrow, hg⟩ := Kd.R_seg HO i h0 hi hcl hcc hj hM hokp
  have hnx : n = xs.length := (Kd.R_reads' HO).1
  obtain ⟨_, inner, hown, hr⟩ := HO
  have hil : i.toNat < n := by omega
  have hrun : (Instr.storeAt t (.pointer (some ⟨g, i.toNat * d.sz + j, none⟩)) u).run P W = .ok () (W.setCells g (i.toNat * d.sz + j) seg) := by
    rcases hown.2 with ⟨hv, _⟩ | ⟨g', cap', cur, hv, hb, hh, hnc, hcm, hcs, _⟩
    · cases hv
    injection hv with ha _ hc
    injection ha with ha
    injection ha with hg'
    subst hg'; subst hc
    refine run_store_run t u seg hh hu ht ?_ h1
    have h2 : i.toNat * d.sz + d.sz ≤ n * d.sz := by rw [← Nat.succ_mul]; exact Nat.mul_le_mul_right _ hil
    have h3 : n * d.sz ≤ cap * d.sz := Nat.mul_le_mul_right _ (by omega)
    omega
  rw [if_pos hw]
  unfold Oper.wp execOp
  simp only [ho, haddr, hx, Sem.run_bind, Sem.run_pure, Result.andThen_ok, hrun]
  show K (a.put o.dst undef) _
  rw [hN]
  exact h _ hrow hg
end
theorem R_box {α : Type} {d : Kd α} {e x t base : Nat} {W W1 : World} {ok : Nat → Prop} {v : Value} {xs : List α} {cells : Array Value} (h : d.R e W base ok v xs) (hb : W.heap[x]? = some (.cells cells t (0, 0))) (ht : ∀ q, q ∈ e :: d.E → q ≠ t) (hg : W.grownBy W1 (some x)) : d.R e W1 base ok v xs :=
  Kd.R_mono (Kd.R_grown (Kd.R_types h hb ht) hg (fun k hk he => hk.2 (Option.some.inj he))) (fun _ hk => hk.1)
theorem grown_to {w W W1 : World} {g : Nat} {row : Option Nat} (h : w.grownBy W (some g)) (k : W.grownBy W1 row) (hr : ∀ x, row = some x → x = g ∨ w.heap.size ≤ x) : w.grownBy W1 (some g) :=
  ⟨k.os.trans h.os, k.tape.trans h.tape, k.output.trans h.output, Nat.le_trans h.size k.size, fun i hi hne => (k.block i (Nat.lt_of_lt_of_le hi h.size) (fun e => by
    rcases hr i e.symm with e2 | e2
    · exact hne (by rw [e2])
    · omega)).trans (h.block i hi hne)⟩
theorem grown_below {w W W1 : World} {g : Nat} (h : w.grownBy W (some g)) (k : Below W.heap.size W W1) : w.grownBy W1 (some g) := grown_to h (grown_of_below k none) (fun _ e => by cases e)
/-- What l5Draw holds: the reader, its own box (not yet written), the state's box, the two rows. -/
structure Held (w0 w W : World) (g : Nat) (b : List Int) (g2 g3 : Nat) (vp vs : Value) (a c : Int) (ps : List S25) (ss : List S71) : Prop where
  cur : Cur w0 W g b
  gb : w.grownBy W (some g)
  l2 : w.heap.size ≤ g2
  l3 : w.heap.size ≤ g3
  n23 : g2 ≠ g3
  lg : g < w.heap.size
  lw : w0.heap.size ≤ w.heap.size
  b2 : W.heap[g2]? = some (.cells #[.slice none 0 0, .slice none 0 0, .int .i64 0, .int .i64 0] 56 (0, 0))
  b3 : W.heap[g3]? = some (.cells #[vp, vs, .int .i64 a, .int .i64 c] 56 (0, 0))
  rp : Kd.R k25 25 W w.heap.size (fun _ => True) vp ps
  rs : Kd.R k71 71 W w.heap.size (fun _ => True) vs ss
namespace Held
variable {w0 w W W1 : World} {g : Nat} {b : List Int} {g2 g3 : Nat} {vp vs : Value} {a c : Int} {ps : List S25} {ss : List S71}
theorem draw (h : Held w0 w W g b g2 g3 vp vs a c ps ss) (d : Drew w0 W W1 g b) : Held w0 w W1 g b g2 g3 vp vs a c ps ss := by
  obtain ⟨cs, hc⟩ := h.cur.blk
  exact ⟨d.1, grown_to h.gb d.2 (fun x e => .inl (Option.some.inj e).symm), h.l2, h.l3, h.n23, h.lg, h.lw, blk_step d.2 (by have := h.l2; have := h.lg; omega) h.b2, blk_step d.2 (by have := h.l3; have := h.lg; omega) h.b3, R_box h.rp hc (by decide) d.2, R_box h.rs hc (by decide) d.2⟩
theorem below (h : Held w0 w W g b g2 g3 vp vs a c ps ss) (hb : Below W.heap.size W W1) : Held w0 w W1 g b g2 g3 vp vs a c ps ss :=
  ⟨h.cur.below hb, grown_below h.gb hb, h.l2, h.l3, h.n23, h.lg, h.lw, blk_below h.b2 hb, blk_below h.b3 hb, Kd.R_below h.rp hb, Kd.R_below h.rs hb⟩
theorem drew1 (h : Held w0 w W g b g2 g3 vp vs a c ps ss) : Held w0 w W.drew g b g2 g3 vp vs a c ps ss := h.below (below_drew (Below.refl _ _))
theorem put3 (h : Held w0 w W g b g2 g3 vp vs a c ps ss) {a' c' : Int} (hb : W1.heap[g3]? = some (.cells #[vp, vs, .int .i64 a', .int .i64 c'] 56 (0, 0))) (hg : W.grownBy W1 (some g3)) : Held w0 w W1 g b g2 g3 vp vs a' c' ps ss :=
  ⟨h.cur.grown hg (fun k e => by cases e; exact ⟨Nat.le_trans h.lw h.l3, by have := h.l3; have := h.lg; omega⟩), grown_to h.gb hg (fun x e => .inr (by cases e; exact h.l3)), h.l2, h.l3, h.n23, h.lg, h.lw, blk_step hg h.n23 h.b2, hb, R_box h.rp h.b3 (by decide) hg, R_box h.rs h.b3 (by decide) hg⟩
theorem put3p (h : Held w0 w W g b g2 g3 vp vs a c ps ss) {vp' : Value} {ps' : List S25} (hr : Kd.R k25 25 W w.heap.size (fun _ => True) vp' ps') (hb : W1.heap[g3]? = some (.cells #[vp', vs, .int .i64 a, .int .i64 c] 56 (0, 0))) (hg : W.grownBy W1 (some g3)) : Held w0 w W1 g b g2 g3 vp' vs a c ps' ss :=
  ⟨h.cur.grown hg (fun k e => by cases e; exact ⟨Nat.le_trans h.lw h.l3, by have := h.l3; have := h.lg; omega⟩), grown_to h.gb hg (fun x e => .inr (by cases e; exact h.l3)), h.l2, h.l3, h.n23, h.lg, h.lw, blk_step hg h.n23 h.b2, hb, R_box hr h.b3 (by decide) hg, R_box h.rs h.b3 (by decide) hg⟩
theorem put3s (h : Held w0 w W g b g2 g3 vp vs a c ps ss) {vs' : Value} {ss' : List S71} (hr : Kd.R k71 71 W w.heap.size (fun _ => True) vs' ss') (hb : W1.heap[g3]? = some (.cells #[vp, vs', .int .i64 a, .int .i64 c] 56 (0, 0))) (hg : W.grownBy W1 (some g3)) : Held w0 w W1 g b g2 g3 vp vs' a c ps ss' :=
  ⟨h.cur.grown hg (fun k e => by cases e; exact ⟨Nat.le_trans h.lw h.l3, by have := h.l3; have := h.lg; omega⟩), grown_to h.gb hg (fun x e => .inr (by cases e; exact h.l3)), h.l2, h.l3, h.n23, h.lg, h.lw, blk_step hg h.n23 h.b2, hb, R_box h.rp h.b3 (by decide) hg, R_box hr h.b3 (by decide) hg⟩
/-- The row of sides has been written (it stays where it is). -/
theorem sides (h : Held w0 w W g b g2 g3 vp vs a c ps ss) {ss' : List S71} (hr : Kd.R k71 71 W1 w.heap.size (fun _ => True) vs ss') (hg : W.grownBy W1 vs.ownBlock) : Held w0 w W1 g b g2 g3 vp vs a c ps ss' := by
  obtain ⟨inner, ho⟩ := Kd.R_own h.rs
  have hbs := own_base ho
  obtain ⟨cs, hc⟩ := h.cur.blk
  have hp : Kd.R k25 25 W1 w.heap.size (fun _ => True) vp ps := by
    refine Kd.R_mono (Kd.R_step (Kd.R_bound h.rp) (fun k hk hlt => hg.block k hlt (fun e => ?_))) (fun _ hk => hk.1)
    obtain ⟨_, _, _, q, hq, cells, hcell⟩ := hk
    obtain ⟨cells', hcell'⟩ := own_typed ho k e.symm
    rw [hcell] at hcell'
    injection hcell' with hcell'
    injection hcell' with _ hcell'
    revert hq
    rw [hcell']
    decide
  exact ⟨h.cur.grown hg (fun k e => ⟨Nat.le_trans h.lw (hbs k e), by have := hbs k e; have := h.lg; omega⟩), grown_to h.gb hg (fun x e => .inr (hbs x e)), h.l2, h.l3, h.n23, h.lg, h.lw,
    blk_grown h.b2 hg (Kd.R_ne h.rs h.b2 (by decide)), blk_grown h.b3 hg (Kd.R_ne h.rs h.b3 (by decide)), hp, hr⟩
/-- A piece has been appended (the new row is not yet stored). -/
theorem app (h : Held w0 w W g b g2 g3 vp vs a c ps ss) {vp' : Value} {ps' : List S25} (hr : Kd.R k25 25 W1 w.heap.size (fun _ => True) vp' ps') (hg : W.grownBy W1 vp.ownBlock) : Cur w0 W1 g b ∧ w.grownBy W1 (some g) ∧ W1.heap[g2]? = some (.cells #[.slice none 0 0, .slice none 0 0, .int .i64 0, .int .i64 0] 56 (0, 0)) ∧ W1.heap[g3]? = some (.cells #[vp, vs, .int .i64 a, .int .i64 c] 56 (0, 0)) ∧ Kd.R k71 71 W1 w.heap.size (fun _ => True) vs ss := by
  obtain ⟨inner, ho⟩ := Kd.R_own h.rp
  have hbs := own_base ho
  refine ⟨h.cur.grown hg (fun k e => ⟨Nat.le_trans h.lw (hbs k e), by have := hbs k e; have := h.lg; omega⟩), grown_to h.gb hg (fun x e => .inr (hbs x e)), blk_grown h.b2 hg (Kd.R_ne h.rp h.b2 (by decide)), blk_grown h.b3 hg (Kd.R_ne h.rp h.b3 (by decide)), ?_⟩
  refine Kd.R_mono (Kd.R_step (Kd.R_bound h.rs) (fun k hk hlt => hg.block k hlt (fun e => ?_))) (fun _ hk => hk.1)
  obtain ⟨_, _, _, q, hq, cells, hcell⟩ := hk
  obtain ⟨cells', hcell'⟩ := own_typed ho k e.symm
  rw [hcell] at hcell'
  injection hcell' with hcell'
  injection hcell' with _ hcell'
  revert hq
  rw [hcell']
  decide
theorem put3a (h : Held w0 w W g b g2 g3 vp vs a c ps ss) {W2 : World} {vp' : Value} {ps' : List S25} (hr : Kd.R k25 25 W1 w.heap.size (fun _ => True) vp' ps') (hg : W.grownBy W1 vp.ownBlock) (hb : W2.heap[g3]? = some (.cells #[vp', vs, .int .i64 a, .int .i64 c] 56 (0, 0))) (hg2 : W1.grownBy W2 (some g3)) : Held w0 w W2 g b g2 g3 vp' vs a c ps' ss := by
  obtain ⟨q1, q2, q3, q4, q5⟩ := h.app hr hg
  exact ⟨q1.grown hg2 (fun k e => by cases e; exact ⟨Nat.le_trans h.lw h.l3, by have := h.l3; have := h.lg; omega⟩), grown_to q2 hg2 (fun x e => .inr (by cases e; exact h.l3)), h.l2, h.l3, h.n23, h.lg, h.lw, blk_step hg2 h.n23 q3, hb, R_box hr q4 (by decide) hg2, R_box q5 q4 (by decide) hg2⟩
end Held
theorem one_val {v : Value} {n : Nat} (h : ∃ A c, v = .slice A n c) : v.cells.toList = [v] := by obtain ⟨A, c, rfl⟩ := h; rfl
theorem one_cell {v : Value} {n : Nat} (h : ∃ A c, v = .slice A n c) : ∀ q ∈ [v], q.oneCell' = true := by obtain ⟨A, c, rfl⟩ := h; intro q hq; rw [List.mem_singleton.1 hq]; rfl
theorem far_lit {w0 W : World} {g c base : Nat} {b l : List Int} {A : Option Addr} {ok : Nat → Prop} (h : (Kd.int .i64).R 3 W base ok (.slice A l.length c) l) (hC : Cur w0 W g b) : ∀ ad, A = some ad → 0 < l.length → ad.block ≠ g := by
  rintro ad rfl _
  obtain ⟨cs, hc⟩ := hC.blk
  obtain ⟨inner, ho⟩ := Kd.R_own h
  exact own_blk ho (Kd.R_ne h hc (by decide))
theorem new2_ex (w : World) : Calls Try.prog 134 #[.int .i64 2] w fun e w' => ∃ (A : Option Addr) (c gs cs : Nat), e = .returned (.agg #[.slice A 0 c, .slice (some ⟨gs, 0, none⟩) 2 cs, .int .i64 0, .int .i64 0]) ∧ Kd.R k25 25 w' w.heap.size (fun _ => True) (.slice A 0 c) [] ∧ Kd.R k71 71 w' w.heap.size (fun _ => True) (.slice (some ⟨gs, 0, none⟩) 2 cs) [⟨20, 0, false⟩, ⟨20, 0, false⟩] ∧ Below w.heap.size w w' := by
  refine (spec_StateNew.calls 2 [] [⟨20, 0, false⟩, ⟨20, 0, false⟩] 0 0 w (by rfl)).mono ?_
  rintro e w' ⟨v0, v1, rfl, h0, h1, hb⟩
  obtain ⟨A, c, rfl⟩ := Kd.R_slice h0
  obtain ⟨gs, cs, rfl, -⟩ := Kd.R_form h1 (by simp)
  exact ⟨A, c, gs, cs, rfl, h0, h1, hb⟩
/-- The pieces so far: valid in a state of two sides at clock 2 or later, their numbers rising up to id. -/
def GoodPs (ps : List S25) (id : Int) : Prop := (∀ x ∈ ps, pokS x = true ∧ x.f1 < 2 ∧ x.f2 < 2 ∧ x.f4 ≤ 2 ∧ x.f0 ≤ id) ∧ ps.Pairwise (fun x y => x.f0 < y.f0)
theorem goodPs_nil (id : Int) : GoodPs [] id := ⟨fun x hx => absurd hx (List.not_mem_nil), List.Pairwise.nil⟩
theorem draw_pok {id : Int} {y : S25} (h : DrawOk id y) (h1 : 1 ≤ id) (h2 : id ≤ 99) : pokS y = true := by
  obtain ⟨a0, a1, a2, a3, a4, a5, a6, a7, a8, a9, a10, az⟩ := h
  have q (x lo hi : Int) (h : lo ≤ x ∧ x ≤ hi) : inr x lo hi = true := decide_eq_true h
  unfold pokS pok
  rw [q y.f0 1 99 (by omega), q y.f1 0 2 (by omega), q y.f2 0 2 (by omega), q y.f3 1 4 (by omega), q y.f4 0 9999 (by omega), q y.f5 0 999 (by omega), q y.f6 0 999 (by omega), q y.f7 0 63 (by omega), q y.f8 0 2147483647 (by omega), q y.f9 0 2147483647 (by omega), q y.f10 0 2147483647 (by omega)]
  rcases az with az | ⟨z1, z2, z3, z4, z5, z6⟩
  · simp [az]
  · simp [z1, z2, z3, z4, z5, z6]
theorem goodPs_app {ps : List S25} {id id' : Int} {y : S25} (h : GoodPs ps id) (hy : DrawOk id' y) (h0 : 0 ≤ id) (h1 : id < id') (h2 : id' ≤ 99) : GoodPs (ps ++ [y]) id' := by
  have hp := draw_pok hy (by omega) h2
  obtain ⟨a0, a1, a2, a3, a4, _⟩ := hy
  refine ⟨fun x hx => ?_, ?_⟩
  · rcases List.mem_append.1 hx with hx | hx
    · obtain ⟨q1, q2, q3, q4, q5⟩ := h.1 x hx
      exact ⟨q1, q2, q3, q4, by omega⟩
    · rw [List.mem_singleton.1 hx]
      exact ⟨hp, by omega, by omega, by omega, by omega⟩
  · rw [List.pairwise_append]
    refine ⟨h.2, List.pairwise_singleton _ _, fun x hx z hz => ?_⟩
    rw [List.mem_singleton.1 hz]
    have := (h.1 x hx).2.2.2.2
    omega
theorem good_from {ps : List S25} {id c : Int} (h : GoodPs ps id) (hc : 2 ≤ c) : ∀ (d i : Nat), i + d = ps.length → goodFrom ps 2 c i (ps.drop i) = true
  | 0, i, hi => by rw [List.drop_eq_nil_of_le (by omega)]; rfl
  | d + 1, i, hi => by
    have hl : i < ps.length := by omega
    rw [List.drop_eq_getElem_cons hl, goodFrom, good_from h hc d (i + 1) (by omega), Bool.and_true]
    obtain ⟨q1, q2, q3, q4, _⟩ := h.1 ps[i] (List.getElem_mem hl)
    unfold goodAt
    rw [q1, decide_eq_true q2, decide_eq_true q3, decide_eq_true (show ps[i].f4 ≤ c by omega)]
    rcases Nat.eq_zero_or_pos i with rfl | hp
    · simp
    · have hlt := (List.pairwise_iff_getElem.1 h.2) (i - 1) i (by omega) hl (by omega)
      rw [List.getD_eq_getElem?_getD, List.getElem?_eq_getElem (show i - 1 < ps.length by omega), Option.getD_some, decide_eq_false (show ¬ ps[i].f0 ≤ ps[i - 1].f0 by omega)]
      simp
/-- A state as l5Draw makes it. -/
def GoodSt (ps : List S25) (ss : List S71) (a c : Int) : Prop := stOk ps ss a c = true ∧ 1 ≤ ps.length ∧ ps.length ≤ 5 ∧ ss.length = 2
def DrewState (w0 w : World) (g : Nat) (b : List Int) (e : Ending) (w' : World) : Prop := ∃ (vp vs : Value) (a c : Int) (ps : List S25) (ss : List S71), e = .returned (.agg #[vp, vs, .int .i64 a, .int .i64 c]) ∧ Kd.R k25 25 w' w.heap.size (fun _ => True) vp ps ∧ Kd.R k71 71 w' w.heap.size (fun _ => True) vs ss ∧ GoodSt ps ss a c ∧ Drew w0 w w' g b
theorem good_st {ps : List S25} {ss : List S71} {id a c : Int} (h : GoodPs ps id) (h1 : 1 ≤ ps.length) (h2 : ps.length ≤ 5) (hs : ss.length = 2) (hq : ∀ x ∈ ss, sideOk x = true) (ha : 0 ≤ a ∧ a < 2) (hc : 2 ≤ c ∧ c < 5) : GoodSt ps ss a c := by
  refine ⟨?_, h1, h2, hs⟩
  have q (x lo hi : Int) (h : lo ≤ x ∧ x ≤ hi) : inr x lo hi = true := decide_eq_true h
  have hg := good_from h hc.1 ps.length 0 (by omega)
  have hall : ss.all sideOk = true := List.all_eq_true.2 hq
  unfold stOk
  rw [hs, decide_eq_true (show ps.length ≤ 8 by omega), q _ 2 3 (by omega), q a 0 _ (by omega), q c 0 9999 (by omega), hall, Bool.and_true]
  simpa using hg
def MK9 (k : Nat) : Array Bool := ((List.range 9).map fun j => k.testBit j).toArray
theorem side_at {ss : List S71} (h : ∀ x ∈ ss, sideOk x = true) {k : Nat} (hk : k < ss.length) : sideOk (ss.getD k z71) = true := by
  rw [List.getD_eq_getElem?_getD, List.getElem?_eq_getElem hk]
  exact h _ (List.getElem_mem hk)
theorem side_set {ss : List S71} (h : ∀ x ∈ ss, sideOk x = true) (k : Nat) {y : S71} (hy : sideOk y = true) : ∀ x ∈ ss.set k y, sideOk x = true := fun x hx => by
  rcases List.mem_or_eq_of_mem_set hx with hx | hx
  · exact h x hx
  · rw [hx]; exact hy
theorem side_life {v : Int} {y : S71} (h : sideOk y = true) (hv : -2147483647 ≤ v ∧ v ≤ 2147483647) : sideOk ⟨v, y.f1, y.f2⟩ = true := by
  unfold sideOk at *
  simp only [Bool.and_eq_true] at *
  exact ⟨decide_eq_true hv, h.2⟩
theorem side_poison {v : Int} {y : S71} (h : sideOk y = true) (hv : 0 ≤ v ∧ v ≤ 2147483647) : sideOk ⟨y.f0, v, y.f2⟩ = true := by
  unfold sideOk at *
  simp only [Bool.and_eq_true] at *
  exact ⟨h.1, decide_eq_true hv⟩
def spec_l5Draw.T7 : Bool × List (List Nat × List Nat) := (true, [([], []), ([0], [0]), ([], []), ([], []), ([], []), ([3, 4], [3, 4]), ([1, 2, 0, 1, 2, 3, 4, 5], [1, 2]), ([6, 0, 1, 2, 3, 4, 5], [6]), ([7, 5, 5, 0, 1, 2, 3, 4, 5], [5, 7])])
def spec_l5Draw.B7 : List Nat := [0, 1, 0, 0, 0, 24, 63, 127, 255]
theorem spec_l5Draw.tab7 : rtab .any (opsOf Try.f108 7) = spec_l5Draw.T7 := by kernel_rfl
theorem spec_l5Draw.bits7 : waitsOk spec_l5Draw.T7.2 spec_l5Draw.B7 = true := by kernel_rfl
def spec_l5Draw.T8 : Bool × List (List Nat × List Nat) := (true, [([], []), ([0], [0]), ([], []), ([], []), ([], []), ([3, 4], [3, 4]), ([1, 2, 0, 1, 2, 3, 4, 5], [1, 2]), ([6, 0, 1, 2, 3, 4, 5], [6]), ([7, 5, 5, 0, 1, 2, 3, 4, 5], [5, 7])])
def spec_l5Draw.B8 : List Nat := [0, 1, 0, 0, 0, 24, 63, 127, 255]
theorem spec_l5Draw.tab8 : rtab .any (opsOf Try.f108 8) = spec_l5Draw.T8 := by kernel_rfl
theorem spec_l5Draw.bits8 : waitsOk spec_l5Draw.T8.2 spec_l5Draw.B8 = true := by kernel_rfl

set_option maxHeartbeats 8000000 in
set_option maxRecDepth 100000 in
theorem l5Draw_ex (w0 w : World) (g : Nat) (b : List Int) (hC : Cur w0 w g b) : Calls Try.prog 108 #[.pointer (some ⟨g, 0, none⟩)] w (DrewState w0 w g b) := by
  have hu56 := Try.underlying56
  have hu71 := Try.underlying71
  have HC := Aside0.mk hC
  clear hC
  go_enter Try.func108, Try.ntmps108
  go_wp2_with (first
    | ((with_reducible refine gate_dst (N := 2) rfl ?_); refine box_event (N := 2) rfl rfl (cs := #[.slice none 0 0, .slice none 0 0, .int .i64 0, .int .i64 0]) (t := 56) ?hr ?_; (case hr => first | (go_simp; done) | (go_simp; rfl)); intro g2 hg2 w1 hb2 hbb; have L2 := Aside0.mk (show w.heap.size ≤ g2 by rw [hg2]; exact Nat.le_refl _); have B2 := Aside0.mk hb2; have K2 := Aside0.mk hbb; clear hg2 hb2 hbb)
    | (go_at_call 134; ((with_reducible refine (new2_ex _).mono ?_); rintro e w2 ⟨A0, c0, gs, cs, rfl, hr0, hr1, hb⟩; have B2' := Aside0.mk (blk_below B2.out hb); have K2' := Aside0.mk (below_step K2.out hb); have R0 := Aside0.mk (Kd.R_lower hr0 K2.out.size); have R1 := Aside0.mk (Kd.R_lower hr1 K2.out.size); clear B2 K2 hr0 hr1 hb))
    | ((with_reducible refine gate_dst (N := 3) rfl ?_); refine box_event (N := 3) rfl rfl (cs := #[.slice none 0 0, .slice none 0 0, .int .i64 0, .int .i64 0]) (t := 56) ?hr ?_; (case hr => first | (go_simp; done) | (go_simp; rfl)); intro g3 hg3 w3 hb3 hbb; have L3 := Aside0.mk (show w.heap.size ≤ g3 by rw [hg3]; exact K2'.out.size); have N23 := Aside0.mk (show g2 ≠ g3 by have := blk_lt B2'.out; omega); have B3 := Aside0.mk hb3; have B2 := Aside0.mk (blk_below B2'.out hbb); have K2 := Aside0.mk (below_step K2'.out hbb); have R0' := Aside0.mk (Kd.R_below R0.out hbb); have R1' := Aside0.mk (Kd.R_below R1.out hbb); clear hg3 hb3 hbb B2' K2' R0 R1)
    | ((with_reducible refine gate_store (t := 56) (p := 3) (v := .tmp 8) rfl ?_); refine put_event rfl rfl rfl 56 g3 0 _ #[.slice A0 0 c0, .slice (some ⟨gs, 0, none⟩) 2 cs, .int .i64 0, .int .i64 0] (.agg #[.slice A0 0 c0, .slice (some ⟨gs, 0, none⟩) 2 cs, .int .i64 0, .int .i64 0]) [.slice A0 0 c0, .slice (some ⟨gs, 0, none⟩) 2 cs, .int .i64 0, .int .i64 0] rfl rfl B3.out rfl (by kernel_rfl) (by simp) (by simp [Value.oneCell']) rfl ?_; intro w4 hb4 hg4; have HH := Aside0.mk (show Held w0 w w4 g b g2 g3 (.slice A0 0 c0) (.slice (some ⟨gs, 0, none⟩) 2 cs) 0 0 [] [⟨20, 0, false⟩, ⟨20, 0, false⟩] from ⟨(HC.out.below K2.out).grown hg4 (fun k e => by cases e; exact ⟨Nat.le_trans HC.out.size L3.out, by have := HC.out.lt; have := L3.out; omega⟩), grown_to (grown_of_below K2.out _) hg4 (fun x e => .inr (by cases e; exact L3.out)), L2.out, L3.out, N23.out, HC.out.lt, HC.out.size, blk_step hg4 N23.out B2.out, hb4, R_box R0'.out B3.out (by decide) hg4, R_box R1'.out B3.out (by decide) hg4⟩); clear hb4 hg4 B2 B3 K2 R0' R1' L2 L3 N23)
    | (go_at_call 74; ((with_reducible refine (below_ex 3 (by decide) (by decide) w0 _ g b HH.out.cur).mono ?_); rintro e w5 ⟨vc, rfl, hvc, hd⟩; have HH1 := Aside0.mk (HH.out.draw hd); have hvc0 := hvc.1; have hvc1 := hvc.2; clear hd HH hvc))
    | ((with_reducible refine gate_store (t := 3) (p := 12) (v := .tmp 11) rfl ?_); refine put_event rfl rfl rfl 56 g3 3 _ #[.slice A0 0 c0, .slice (some ⟨gs, 0, none⟩) 2 cs, .int .i64 0, .int .i64 (2 + vc)] (.int .i64 (2 + vc)) [.int .i64 (2 + vc)] (by first | rfl | (go_simp; done)) (by first | rfl | (go_simp; done)) HH1.out.b3 rfl (by kernel_rfl) (by simp) (by simp [Value.oneCell']) rfl ?_; intro w6 hb6 hg6; have HH2 := Aside0.mk (HH1.out.put3 hb6 hg6); clear HH1 hb6 hg6)
    | (go_at_call 74; ((with_reducible refine (below_ex 2 (by decide) (by decide) w0 _ g b HH2.out.cur).mono ?_); rintro e w7 ⟨va, rfl, hva, hd⟩; have HH3 := Aside0.mk (HH2.out.draw hd); have hva0 := hva.1; have hva1 := hva.2; clear hd HH2 hva))
    | ((with_reducible refine gate_store (t := 3) (p := 15) (v := .tmp 14) rfl ?_); refine put_event rfl rfl rfl 56 g3 2 _ #[.slice A0 0 c0, .slice (some ⟨gs, 0, none⟩) 2 cs, .int .i64 va, .int .i64 (2 + vc)] (.int .i64 va) [.int .i64 va] (by first | rfl | (go_simp; done)) (by first | rfl | (go_simp; done)) HH3.out.b3 rfl (by kernel_rfl) (by simp) (by simp [Value.oneCell']) rfl ?_; intro w8 hb8 hg8; have HH4 := Aside0.mk (HH3.out.put3 hb8 hg8); clear HH3 hb8 hg8))
  go_loopw [4] (fun i wr => ∃ (k : Nat) (ss : List S71), k ≤ 2 ∧ i = .int .i64 k ∧ Aside0 (ss.length = 2) ∧ Aside0 (∀ x ∈ ss, sideOk x = true) ∧ Aside0 (Held w0 w wr g b g2 g3 (.slice A0 0 c0) (.slice (some ⟨gs, 0, none⟩) 2 cs) va (2 + vc) [] ss)) (fun i _ => 2 - (intOf i).toNat)
  case atStart => exact ⟨0, _, by omega, rfl, ⟨rfl⟩, ⟨by decide⟩, HH4⟩
  case round =>
    clear HH4
    obtain ⟨k, ss0, hk, rfl, HS, HQ, HH⟩ := hrel
    by_cases hlt : k < 2
    · have hk2 : (k : Int) < ((2 : Nat) : Int) := by omega
      have hk2' : (k : Int) < 2 := by omega
      have hk0 : (0 : Int) ≤ (k : Int) := by omega
      go_wp2
      have HHd := Aside0.mk HH.out.drew1
      refine start_ (n := 9) (S := fun w' => w'.cell? ⟨g3, 1, none⟩ = some (.slice (some ⟨gs, 0, none⟩) 2 cs)) (ds := []) #[false, false, false, false, false, false, false, false, false] (by kernel_rfl) rfl rfl ((blk_cell HHd.out.b3 1).trans rfl) (fun hHeld => ?_); refine with_tabW spec_l5Draw.tab7 spec_l5Draw.bits7 (fun HT_ HW_ => ?_)
      generalize wr.drew = wr1 at HHd hHeld ⊢
      clear HH
      refine on_ (i := 0) (N := some 20) (MK9 1) rfl rfl (fun _ _ _ h => h) (any_of HT_.out (by kernel_rfl)) (by rfl) (by intro w'; go_simp; with_reducible rfl) PUT_ ?_
      refine on_ (i := 2) (N := some 22) (MK9 5) rfl rfl (fun _ _ _ h => h) (any_of HT_.out (by kernel_rfl)) (by rfl) (by intro w'; go_simp; with_reducible rfl) PUT_ ?_
      refine on_ (i := 3) (N := some 23) (MK9 13) rfl rfl (fun _ _ _ h => h) (any_of HT_.out (by kernel_rfl)) (by rfl) (by intro w'; go_simp; with_reducible rfl) PUT_ ?_
      refine get_ (i := 1) (N := some 21) (MK9 15) hHeld rfl rfl (fun _ _ _ h => h) (take_ofW HT_.out HW_.out (by kernel_rfl)) (by rfl) (by intro w' s0; go_simp; with_reducible rfl) PUT_ ?_
      refine one_ (i := 4) (N := some 24) (MK9 31) rfl rfl (one_of HT_.out (by kernel_rfl)) (by decide) (fun K hK => ?_)
      refine Kd.R_lit_step (Kd.int .i64) _ 3 ?hg (N := 24) ?hd (xs := ([20, 20, 3, 1, 10] : List Int)) (inner := [.int .i64 20, .int .i64 20, .int .i64 3, .int .i64 1, .int .i64 10]) (ok := fun _ => True) (okp := fun _ => True) ?hr ?hp (fun _ hk => hk) trivial (Below.refl _ _) (Nat.le_refl _) (by simp) ?_; (case hd => rfl); (case hg => rfl); (case hr => first | (go_simp; done) | (go_simp; rfl)); (case hp => exact Reps.one (show Kd.M (Kd.int .i64) _ _ _ 20 [.int .i64 20] from rfl) (Reps.one (show Kd.M (Kd.int .i64) _ _ _ 20 [.int .i64 20] from rfl) (Reps.one (show Kd.M (Kd.int .i64) _ _ _ 3 [.int .i64 3] from rfl) (Reps.one (show Kd.M (Kd.int .i64) _ _ _ 1 [.int .i64 1] from rfl) (Reps.one (show Kd.M (Kd.int .i64) _ _ _ 10 [.int .i64 10] from rfl) (Reps.none _ _))))))
      intro vl wr2 ho hb _ _
      obtain ⟨Al, cl, rfl⟩ := Kd.R_slice ho
      have HHe := Aside0.mk (HHd.out.below hb)
      have HL := Aside0.mk ho
      clear HHd ho hb
      refine hK.out _ _ ((blk_cell HHe.out.b3 1).trans rfl) (fun hHeld => ?_)
      clear hK K
      refine norm_ (a' := ?_) ?_ ?_
      rotate_left
      · show Act.put _ (some 24) _ = _
        simp only [Act.put, List.setIfInBounds_toArray, List.set_cons_zero, List.set_cons_succ, i64_w, i32_w]
        rfl
      refine one_ (i := 5) (N := some 25) (MK9 63) rfl rfl (one_of HT_.out (by kernel_rfl)) (by decide) (fun K hK => ?_)
      refine goes_ Try.func73 (by kernel_rfl) rfl #[.pointer (some ⟨g, 0, none⟩), .slice Al ([20, 20, 3, 1, 10] : List Int).length cl] (by rfl) rfl rfl (by (try simp only [List.map_toArray, List.map_cons, List.map_nil]); first | done | rfl) ?_
      with_reducible refine (int_ex [20, 20, 3, 1, 10] (by simp) (by simp) Al cl w0 _ g b HHe.out.cur (Kd.R_reads' HL.out).2.2 (Kd.R_reads' HL.out).2.1 (far_lit HL.out HHe.out.cur)).mono ?_
      rintro e wr3 ⟨v0, rfl, hv0, hd⟩
      refine ⟨_, rfl, ?_⟩
      have HHf := Aside0.mk (HHe.out.draw hd)
      have HV0 := Aside0.mk hv0
      clear HHe HL hd hv0
      refine hK.out _ _ ((blk_cell HHf.out.b3 1).trans rfl) (fun hHeld => ?_)
      clear hK K
      refine norm_ (a' := ?_) ?_ ?_
      rotate_left
      · show Act.put _ (some 25) _ = _
        simp only [Act.put, List.setIfInBounds_toArray, List.set_cons_zero, List.set_cons_succ, i64_w, i32_w]
        rfl
      refine on_ (i := 6) (N := some 26) (MK9 127) rfl rfl (fun _ _ _ h => h) (any_of HT_.out (by kernel_rfl)) (by rfl) (by intro w'; go_simp; with_reducible rfl) PUT_ ?_
      refine on_ (i := 7) (N := some 27) (MK9 255) rfl rfl (fun _ _ _ h => h) (any_of HT_.out (by kernel_rfl)) (by rfl) (by intro w'; go_simp; with_reducible rfl) PUT_ ?_
      refine one_ (i := 8) (N := none) (MK9 511) rfl rfl (one_of HT_.out (by kernel_rfl)) (by decide) (fun K hK => ?_)
      obtain ⟨ce, hcl, hM, hcc, -⟩ := Kd.R_elem HHf.out.rs z71 (k : Int) (by omega) hk2
      obtain rfl := k71_openM hM
      refine R_store_step k71 w.heap.size (by rfl) rfl 3 (.tmp 27) (.tmp 25) rfl 71 (g := gs) (n := 2) (cap := cs) (o' := k * 3 + 0) (k : Int) 0 ss0 (⟨v0, (ss0.getD k z71).f1, (ss0.getD k z71).f2⟩ : S71) (.int .i64 v0) [.int .i64 v0] _ (fun _ => True) (fun _ => False) (by first | rfl | (go_simp; done) | (go_simp; rfl)) (by rw [Int.toNat_natCast]; rfl) rfl rfl (by kernel_rfl) (by simp [Value.oneCell']) HHf.out.rs (by omega) hk2 hcl hcc (by show 0 + 1 ≤ 3; omega) (k71_mkM _ _ _ _) (fun _ hk => hk.elim) ?_
      intro wr4 hr hg
      rw [Int.toNat_natCast] at hr
      have HH := Aside0.mk (HHf.out.sides hr hg)
      clear HHf hr hg hcl hM hcc
      refine hK.out _ _ ((blk_cell HH.out.b3 1).trans rfl) (fun hHeld => ?_)
      clear hK K
      refine done_ (done_of HT_.out (by kernel_rfl)) ?_
      clear HT_ HW_ hHeld
      (try go_wp2)
      obtain ⟨ss1, hss1⟩ : ∃ s, s = ss0.set k (⟨v0, (ss0.getD k z71).f1, (ss0.getD k z71).f2⟩ : S71) := ⟨_, rfl⟩
      rw [← hss1] at HH
      have HS1 := Aside0.mk (show ss1.length = 2 by rw [hss1, List.length_set, HS.out])
      have HQ1 := Aside0.mk (show ∀ x ∈ ss1, sideOk x = true by rw [hss1]; exact side_set HQ.out k (side_life (side_at HQ.out (by rw [HS.out]; exact hlt)) (by have := HV0.out; simp only [List.mem_cons, List.not_mem_nil, or_false] at this; omega)))
      clear hss1 HS HQ HV0
      have HHd := Aside0.mk HH.out.drew1
      refine start_ (n := 9) (S := fun w' => w'.cell? ⟨g3, 1, none⟩ = some (.slice (some ⟨gs, 0, none⟩) 2 cs)) (ds := []) #[false, false, false, false, false, false, false, false, false] (by kernel_rfl) rfl rfl ((blk_cell HHd.out.b3 1).trans rfl) (fun hHeld => ?_); refine with_tabW spec_l5Draw.tab8 spec_l5Draw.bits8 (fun HT_ HW_ => ?_)
      generalize wr4.drew = wr41 at HHd hHeld ⊢
      clear HH
      refine on_ (i := 0) (N := some 28) (MK9 1) rfl rfl (fun _ _ _ h => h) (any_of HT_.out (by kernel_rfl)) (by rfl) (by intro w'; go_simp; with_reducible rfl) PUT_ ?_
      refine on_ (i := 2) (N := some 30) (MK9 5) rfl rfl (fun _ _ _ h => h) (any_of HT_.out (by kernel_rfl)) (by rfl) (by intro w'; go_simp; with_reducible rfl) PUT_ ?_
      refine on_ (i := 3) (N := some 31) (MK9 13) rfl rfl (fun _ _ _ h => h) (any_of HT_.out (by kernel_rfl)) (by rfl) (by intro w'; go_simp; with_reducible rfl) PUT_ ?_
      refine get_ (i := 1) (N := some 29) (MK9 15) hHeld rfl rfl (fun _ _ _ h => h) (take_ofW HT_.out HW_.out (by kernel_rfl)) (by rfl) (by intro w' s0; go_simp; with_reducible rfl) PUT_ ?_
      refine one_ (i := 4) (N := some 32) (MK9 31) rfl rfl (one_of HT_.out (by kernel_rfl)) (by decide) (fun K hK => ?_)
      refine Kd.R_lit_step (Kd.int .i64) _ 3 ?hg (N := 32) ?hd (xs := ([0, 0, 8, 1] : List Int)) (inner := [.int .i64 0, .int .i64 0, .int .i64 8, .int .i64 1]) (ok := fun _ => True) (okp := fun _ => True) ?hr ?hp (fun _ hk => hk) trivial (Below.refl _ _) (Nat.le_refl _) (by simp) ?_; (case hd => rfl); (case hg => rfl); (case hr => first | (go_simp; done) | (go_simp; rfl)); (case hp => exact Reps.one (show Kd.M (Kd.int .i64) _ _ _ 0 [.int .i64 0] from rfl) (Reps.one (show Kd.M (Kd.int .i64) _ _ _ 0 [.int .i64 0] from rfl) (Reps.one (show Kd.M (Kd.int .i64) _ _ _ 8 [.int .i64 8] from rfl) (Reps.one (show Kd.M (Kd.int .i64) _ _ _ 1 [.int .i64 1] from rfl) (Reps.none _ _)))))
      intro vl wr42 ho hb _ _
      obtain ⟨Al, cl, rfl⟩ := Kd.R_slice ho
      have HHe := Aside0.mk (HHd.out.below hb)
      have HL := Aside0.mk ho
      clear HHd ho hb
      refine hK.out _ _ ((blk_cell HHe.out.b3 1).trans rfl) (fun hHeld => ?_)
      clear hK K
      refine norm_ (a' := ?_) ?_ ?_
      rotate_left
      · show Act.put _ (some 32) _ = _
        simp only [Act.put, List.setIfInBounds_toArray, List.set_cons_zero, List.set_cons_succ, i64_w, i32_w]
        rfl
      refine one_ (i := 5) (N := some 33) (MK9 63) rfl rfl (one_of HT_.out (by kernel_rfl)) (by decide) (fun K hK => ?_)
      refine goes_ Try.func73 (by kernel_rfl) rfl #[.pointer (some ⟨g, 0, none⟩), .slice Al ([0, 0, 8, 1] : List Int).length cl] (by rfl) rfl rfl (by (try simp only [List.map_toArray, List.map_cons, List.map_nil]); first | done | rfl) ?_
      with_reducible refine (int_ex [0, 0, 8, 1] (by simp) (by simp) Al cl w0 _ g b HHe.out.cur (Kd.R_reads' HL.out).2.2 (Kd.R_reads' HL.out).2.1 (far_lit HL.out HHe.out.cur)).mono ?_
      rintro e wr43 ⟨v1, rfl, hv1, hd⟩
      refine ⟨_, rfl, ?_⟩
      have HHf := Aside0.mk (HHe.out.draw hd)
      have HV1 := Aside0.mk hv1
      clear HHe HL hd hv1
      refine hK.out _ _ ((blk_cell HHf.out.b3 1).trans rfl) (fun hHeld => ?_)
      clear hK K
      refine norm_ (a' := ?_) ?_ ?_
      rotate_left
      · show Act.put _ (some 33) _ = _
        simp only [Act.put, List.setIfInBounds_toArray, List.set_cons_zero, List.set_cons_succ, i64_w, i32_w]
        rfl
      refine on_ (i := 6) (N := some 34) (MK9 127) rfl rfl (fun _ _ _ h => h) (any_of HT_.out (by kernel_rfl)) (by rfl) (by intro w'; go_simp; with_reducible rfl) PUT_ ?_
      refine on_ (i := 7) (N := some 35) (MK9 255) rfl rfl (fun _ _ _ h => h) (any_of HT_.out (by kernel_rfl)) (by rfl) (by intro w'; go_simp; with_reducible rfl) PUT_ ?_
      refine one_ (i := 8) (N := none) (MK9 511) rfl rfl (one_of HT_.out (by kernel_rfl)) (by decide) (fun K hK => ?_)
      obtain ⟨ce, hcl, hM, hcc, -⟩ := Kd.R_elem HHf.out.rs z71 (k : Int) (by omega) hk2
      obtain rfl := k71_openM hM
      refine R_store_step k71 w.heap.size (by rfl) rfl 3 (.tmp 35) (.tmp 33) rfl 71 (g := gs) (n := 2) (cap := cs) (o' := k * 3 + 1) (k : Int) 1 ss1 (⟨(ss1.getD k z71).f0, v1, (ss1.getD k z71).f2⟩ : S71) (.int .i64 v1) [.int .i64 v1] _ (fun _ => True) (fun _ => False) (by first | rfl | (go_simp; done) | (go_simp; rfl)) (by rw [Int.toNat_natCast]; rfl) rfl rfl (by kernel_rfl) (by simp [Value.oneCell']) HHf.out.rs (by omega) hk2 hcl hcc (by show 1 + 1 ≤ 3; omega) (k71_mkM _ _ _ _) (fun _ hk => hk.elim) ?_
      intro wr44 hr hg
      rw [Int.toNat_natCast] at hr
      have HH := Aside0.mk (HHf.out.sides hr hg)
      clear HHf hr hg hcl hM hcc
      refine hK.out _ _ ((blk_cell HH.out.b3 1).trans rfl) (fun hHeld => ?_)
      clear hK K
      refine done_ (done_of HT_.out (by kernel_rfl)) ?_
      clear HT_ HW_ hHeld
      (try go_wp2)
      go_roundw
      case rel => exact ⟨k + 1, _, by omega, by go_num, ⟨by rw [List.length_set, HS1.out]⟩, ⟨side_set HQ1.out k (side_poison (side_at HQ1.out (by rw [HS1.out]; exact hlt)) (by have := HV1.out; simp only [List.mem_cons, List.not_mem_nil, or_false] at this; omega))⟩, HH⟩
      case measure => simp [intOf]; omega
    · obtain rfl : k = 2 := by omega
      go_wp2_with (go_at_call 74; ((with_reducible refine (below_ex 5 (by decide) (by decide) w0 _ g b HH.out.cur).mono ?_); rintro e x1 ⟨vn, rfl, hvn, hd⟩; have HP := Aside0.mk (HH.out.draw hd); have hvn0 := hvn.1; have hvn1 := hvn.2; clear hd HH hvn))
      have HP' := HP
      clear HP
      go_loopw [5, 6] (fun q i wr => ∃ (id : Int) (j : Nat) (vp : Value) (ps : List S25), i = .int .i64 j ∧ q = .int .i64 id ∧ j ≤ 5 ∧ 0 ≤ id ∧ id + 2 * j ≤ 10 ∧ ps.length + j ≤ 5 ∧ 1 ≤ ps.length + j ∧ Aside0 (GoodPs ps id) ∧ Aside0 (Held w0 w wr g b g2 g3 vp (.slice (some ⟨gs, 0, none⟩) 2 cs) va (2 + vc) ps ss0)) (fun _ i _ => (intOf i).toNat)
      case atStart =>
        obtain ⟨n, rfl⟩ := Int.eq_ofNat_of_zero_le hvn0
        exact ⟨0, 1 + n, _, [], by go_num, rfl, by omega, by omega, by omega, by simp; omega, by simp, ⟨goodPs_nil 0⟩, HP'⟩
      case round =>
        clear HP'
        obtain ⟨id, j, vp, ps, rfl, rfl, hj5, hid, hidj, hpj, hpj1, HG, HH⟩ := hrel
        by_cases hj : 0 < j
        · have hjz : (0 : Int) < (j : Int) := by omega
          obtain ⟨Ap, cp, rfl⟩ := Kd.R_slice HH.out.rp
          have hc0 := (blk_cell HH.out.b3 0).trans rfl
          clear hc0
          go_wp2_with (first
            | (go_at_call 74; ((with_reducible refine (below_ex 2 (by decide) (by decide) w0 _ g b HH.out.cur).mono ?_); rintro e y1 ⟨vi, rfl, hvi, hd⟩; have HI := Aside0.mk (HH.out.draw hd); have hvi0 := hvi.1; have hvi1 := hvi.2; clear hd HH hvi))
            | (go_at_call 75; ((with_reducible refine (l4Draw_ex _ w0 _ g b HI.out.cur).mono ?_); rintro e y2 ⟨y, rfl, hy, hd⟩; have HJ := Aside0.mk (HI.out.draw hd); have HY := Aside0.mk hy; clear hd HI hy))
            | ((with_reducible refine gate_dst (N := 7) rfl ?_); refine box_event (N := 7) rfl rfl (cs := #[.int .i64 0, .int .i64 0, .int .i64 0, .int .i64 0, .int .i64 0, .int .i64 0, .int .i64 0, .int .i64 0, .int .i64 0, .int .i64 0, .int .i64 0, .bool false, .bool false]) (t := 25) ?hr ?_; (case hr => first | (go_simp; done) | (go_simp; rfl)); intro g7 hg7 y3 hb7 hbb; have B7 := Aside0.mk hb7; have K7 := Aside0.mk hbb; have L7 := Aside0.mk (Nat.le_of_eq hg7.symm); clear hg7 hb7 hbb)
            | ((with_reducible refine gate_store (t := 25) (p := 7) (v := .tmp 50) rfl ?_); refine put_event rfl rfl rfl 25 g7 0 _ #[.int .i64 y.f0, .int .i64 y.f1, .int .i64 y.f2, .int .i64 y.f3, .int .i64 y.f4, .int .i64 y.f5, .int .i64 y.f6, .int .i64 y.f7, .int .i64 y.f8, .int .i64 y.f9, .int .i64 y.f10, .bool y.f11, .bool y.f12] (.agg #[.int .i64 y.f0, .int .i64 y.f1, .int .i64 y.f2, .int .i64 y.f3, .int .i64 y.f4, .int .i64 y.f5, .int .i64 y.f6, .int .i64 y.f7, .int .i64 y.f8, .int .i64 y.f9, .int .i64 y.f10, .bool y.f11, .bool y.f12]) [.int .i64 y.f0, .int .i64 y.f1, .int .i64 y.f2, .int .i64 y.f3, .int .i64 y.f4, .int .i64 y.f5, .int .i64 y.f6, .int .i64 y.f7, .int .i64 y.f8, .int .i64 y.f9, .int .i64 y.f10, .bool y.f11, .bool y.f12] rfl rfl B7.out rfl (by kernel_rfl) (by simp) (by simp [Value.oneCell']) rfl ?_; intro y4 hb4 hg4; have HK := Aside0.mk (HJ.out.below (below_put hg4 L7.out (below_sz K7.out) K7.out)); obtain ⟨p0, p1, p2, p3, p4, p5, p6, p7, p8, p9, p10, p11, p12⟩ := cells13 hb4; obtain ⟨q0, -, -, -⟩ := cells4 HK.out.b3; clear hb4 hg4 HJ B7 K7 L7)
            | ((with_reducible refine gate_builtin (b := .append) (xs := #[.tmp 52, .tmp 54]) rfl ?_); at_builtin; refine Kd.R_append k25 (w0 := y4) w.heap.size rfl (.tmp 52) (.tmp 54) 53 25 (.agg #[.int .i64 0, .int .i64 0, .int .i64 0, .int .i64 0, .int .i64 0, .int .i64 0, .int .i64 0, .int .i64 0, .int .i64 0, .int .i64 0, .int .i64 0, .bool false, .bool false]) 96 rfl Try.underlying53 info25 rfl (by decide) (by omega) (.slice Ap ps.length cp) ps y [.int .i64 y.f0, .int .i64 y.f1, .int .i64 y.f2, .int .i64 y.f3, .int .i64 y.f4, .int .i64 y.f5, .int .i64 y.f6, .int .i64 y.f7, .int .i64 y.f8, .int .i64 y.f9, .int .i64 y.f10, .bool y.f11, .bool y.f12] (fun _ => True) (fun _ => False) rfl rfl (k25_mkM _ _ _ y) (fun _ hk => hk.elim) (fun _ _ => trivial) HK.out.rp (Below.refl _ _) HK.out.gb.size (by omega) ?_; intro vq y5 hr5 _ hg5 _; have HR := Aside0.mk hr5; have HG5 := Aside0.mk hg5; obtain ⟨z0, -, -, -⟩ := cells4 (HK.out.app hr5 hg5).2.2.2.1; clear hr5 hg5)
            | ((with_reducible refine gate_store (t := 53) (p := 56) (v := .tmp 55) rfl ?_); refine put_event rfl rfl rfl 56 g3 0 _ #[vq, .slice (some ⟨gs, 0, none⟩) 2 cs, .int .i64 va, .int .i64 (2 + vc)] vq [vq] (by first | rfl | (go_simp; done)) (by first | rfl | (go_simp; done)) (HK.out.app HR.out HG5.out).2.2.2.1 (one_val (Kd.R_slice HR.out)) (by kernel_rfl) (by simp) (one_cell (Kd.R_slice HR.out)) rfl ?_; intro y6 hb6 hg6; have HZ := Aside0.mk (HK.out.put3a HR.out HG5.out hb6 hg6); clear hb6 hg6 HK HR HG5))
          go_roundw
          case rel => exact ⟨id + 1 + vi, j - 1, _, ps ++ [y], by go_num, by go_num, by omega, by omega, by omega, by simp; omega, by simp; omega, ⟨goodPs_app HG.out HY.out hid (by omega) (by omega)⟩, HZ⟩
          case measure => simp [intOf]; omega
        · obtain rfl : j = 0 := by omega
          obtain ⟨Ap, cp, rfl⟩ := Kd.R_slice HH.out.rp
          obtain ⟨q0, q1, q2, q3⟩ := cells4 HH.out.b3
          have HGS := Aside0.mk (good_st HG.out (by omega) (by omega) HS.out HQ.out ⟨hva0, hva1⟩ (show 2 ≤ 2 + vc ∧ 2 + vc < 5 by omega))
          go_wp2_with ((with_reducible refine gate_store (t := 56) (p := 2) (v := .tmp 57) rfl ?_); refine put_event rfl rfl rfl 56 g2 0 _ #[.slice Ap ps.length cp, .slice (some ⟨gs, 0, none⟩) 2 cs, .int .i64 va, .int .i64 (2 + vc)] (.agg #[.slice Ap ps.length cp, .slice (some ⟨gs, 0, none⟩) 2 cs, .int .i64 va, .int .i64 (2 + vc)]) [.slice Ap ps.length cp, .slice (some ⟨gs, 0, none⟩) 2 cs, .int .i64 va, .int .i64 (2 + vc)] rfl rfl HH.out.b2 rfl (by kernel_rfl) (by simp) (by simp [Value.oneCell']) rfl ?_; intro z1 hb1 hg1; have BZ := Aside0.mk hb1; have HZ := Aside0.mk hg1; clear hb1 hg1)
          refine bodyPost_ret (results_cell_row rfl _ _ g2 56 _ (0, 0) _ rfl BZ.out Try.underlying56 rfl (by kernel_rfl)) rfl ?_
          exact ⟨_, _, va, 2 + vc, ps, ss0, rfl, R_box HH.out.rp HH.out.b2 (by decide) HZ.out, R_box HH.out.rs HH.out.b2 (by decide) HZ.out, HGS.out, HH.out.cur.grown HZ.out (fun k e => by cases e; exact ⟨Nat.le_trans HH.out.lw HH.out.l2, by have := HH.out.l2; have := HH.out.lg; omega⟩), grown_to HH.out.gb HZ.out (fun x e => .inr (by cases e; exact HH.out.l2))⟩
end Go.Proofs.Ytfkidiagmekleaa.QAll
