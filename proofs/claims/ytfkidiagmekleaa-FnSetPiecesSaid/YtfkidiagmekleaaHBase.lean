/- Steps of a walk whose world is a letter behind them: a store into a block that is known whole, a load of a whole struct; the world is told by what it keeps (no further condition). -/
import Derived.Test.YtfkidiagmekleaaQAllx0
namespace Go.Proofs.Ytfkidiagmekleaa.QAll
open Go.RowKit Go.Proofs.YtfkidiagmekleaaW.PrintWords Go.Proofs.YtfkidiagmekleaaW.PrintLast Go.Proofs.YtfkidiagmekleaaW.PrintMore
set_option linter.unusedVariables false
set_option linter.unusedSimpArgs false
section
variable {P : Program} {ops : Array Oper} {rest : List Oper} {o : Oper} {a : Act} {Q : Exit → Act → World → Prop} {W : World}
/-- What a store of a run of cells into a block leaves. -/
theorem put_run {t e : TypeId} {g j : Nat} {old cells' : Array Value} {u : Value} {seg : List Value} (hbox : W.heap[g]? = some (.cells old e (0, 0))) (hu : u.cells.toList = seg) (ht : (P.info? t).map (·.size) = some seg.length)
    (hfit : j + seg.length ≤ old.size) (h1 : ∀ q ∈ seg, q.oneCell' = true) (hc : cells'.toList = old.toList.take j ++ seg ++ old.toList.drop (j + seg.length)) :
    ∃ w1, (Instr.storeAt t (.pointer (some ⟨g, j, none⟩)) u).run P W = .ok () w1 ∧ w1.heap[g]? = some (.cells cells' e (0, 0)) ∧ W.grownBy w1 (some g) := by
  obtain ⟨cur', h3, _, h5⟩ := setCells_row seg j W old hbox hfit
  obtain ⟨s1, s2, s3, s4⟩ := setCells_same g seg j W
  have he : cur' = cells' := by
    apply Array.toList_inj.1
    rw [h5, hc]
  subst he
  exact ⟨_, run_store_run t u seg hbox hu ht hfit h1, h3, s1, s2, s3, by rw [s4]; exact Nat.le_refl _, fun k _ hk => setCells_far seg _ k (fun he => hk (by rw [he]))⟩
/-- A store into a block that is known whole, in a plain region. -/
theorem put_event (hgd : o.guard = none) (hN : o.dst = none) {t : TypeId} {p x : Operand} (ho : o.op = .store t p x) (e : TypeId) (g j : Nat) (old cells' : Array Value) (u : Value) (seg : List Value)
    (hp : a.eval p = .pointer (some ⟨g, j, none⟩)) (hx : a.eval x = u) (hbox : W.heap[g]? = some (.cells old e (0, 0))) (hu : u.cells.toList = seg) (ht : (P.info? t).map (·.size) = some seg.length)
    (hfit : j + seg.length ≤ old.size) (h1 : ∀ q ∈ seg, q.oneCell' = true) (hc : cells'.toList = old.toList.take j ++ seg ++ old.toList.drop (j + seg.length))
    (h : ∀ w1, w1.heap[g]? = some (.cells cells' e (0, 0)) → W.grownBy w1 (some g) → wpList P ops Q rest a w1) : wpList P ops Q (o :: rest) a W := by
  obtain ⟨w1, hrun, h2, h3⟩ := put_run (P := P) hbox hu ht hfit h1 hc
  refine wpList_plain hgd fun K hK => ?_
  unfold Oper.wp execOp
  simp only [ho, hp, hx, Sem.run_bind, Sem.run_pure, Result.andThen_ok, hrun]
  show K (a.put o.dst undef) _
  rw [hN]
  exact hK a _ (h _ h2 h3)
/-- The same as one step of a region that draws. -/
theorem put_step {K : Act → World → Prop} (hw : Region.wanted o (yielded ops a.tmps) = true) (hN : o.dst = none) {t : TypeId} {p x : Operand} (ho : o.op = .store t p x) (e : TypeId) (g j : Nat) (old cells' : Array Value) (u : Value) (seg : List Value)
    (hp : a.eval p = .pointer (some ⟨g, j, none⟩)) (hx : a.eval x = u) (hbox : W.heap[g]? = some (.cells old e (0, 0))) (hu : u.cells.toList = seg) (ht : (P.info? t).map (·.size) = some seg.length)
    (hfit : j + seg.length ≤ old.size) (h1 : ∀ q ∈ seg, q.oneCell' = true) (hc : cells'.toList = old.toList.take j ++ seg ++ old.toList.drop (j + seg.length))
    (h : ∀ w1, w1.heap[g]? = some (.cells cells' e (0, 0)) → W.grownBy w1 (some g) → K a w1) : if Region.wanted o (yielded ops a.tmps) = true then Oper.wp P o a W K Q else K (a.put none undef) W := by
  obtain ⟨w1, hrun, h2, h3⟩ := put_run (P := P) hbox hu ht hfit h1 hc
  rw [if_pos hw]
  unfold Oper.wp execOp
  simp only [ho, hp, hx, Sem.run_bind, Sem.run_pure, Result.andThen_ok, hrun]
  show K (a.put o.dst undef) _
  rw [hN]
  exact h _ h2 h3
end
section
variable {P : Program} {ops : Array Oper} {Q : Exit → Act → World → Prop} {md : Region.Mode} {S : World → Prop} {ds : List Nat}
theorem put_eq {a a' : Act} {N : Option Tmp} {v : Value} (h : a.put N v = a') : a.put N v = a' := h
/-- A row of a region that draws: an operation that yields in every world. -/
theorem on_ {i : Nat} {N : Option Tmp} {oi : Oper} {v : Value} {fuel : Nat} {l : Array Bool} {a : Act} {w : World} (l' : Array Bool) (hi : ops[i]? = some oi) (hN : oi.dst = N) (hQ : ∀ c a w, Q (.panic c) (a.put oi.dst v) w → Q (.panic c) a w)
    (hc : anyB md ops l l' i = true) (hw : Region.wanted oi (yielded ops a.tmps) = true) (hrun : ∀ w', (execOp a.eval oi).run P w' = .ok (.value v) w') {a' : Act} (ha : a.put N v = a')
    (h : wpAnyLast P md ops Q S ds fuel l' a' w) : wpAnyLast P md ops Q S ds (fuel + 1) l a w := pure_ (i := i) l' hi hN hc hQ (Or.inl ⟨hw, hrun⟩) ha h
/-- .. that its guard leaves out. -/
theorem off_row {i : Nat} {N : Option Tmp} {oi : Oper} {fuel : Nat} {l : Array Bool} {a : Act} {w : World} (l' : Array Bool) (hi : ops[i]? = some oi) (hN : oi.dst = N) (hQ : ∀ c a w, Q (.panic c) (a.put oi.dst undef) w → Q (.panic c) a w)
    (hc : anyB md ops l l' i = true) (hw : Region.wanted oi (yielded ops a.tmps) = false) {a' : Act} (ha : a.put N undef = a')
    (h : wpAnyLast P md ops Q S ds fuel l' a' w) : wpAnyLast P md ops Q S ds (fuel + 1) l a w := pure_ (i := i) l' hi hN hc hQ (Or.inr ⟨hw, rfl⟩) ha h
/-- .. a load of what S tells. -/
theorem get_ {i : Nat} {N : Option Tmp} {oi : Oper} {v : Value} {fuel : Nat} {l : Array Bool} {a : Act} {w : World} (l' : Array Bool) (hS : S w) (hi : ops[i]? = some oi) (hN : oi.dst = N) (hQ : ∀ c a w, Q (.panic c) (a.put oi.dst v) w → Q (.panic c) a w)
    (hc : takeB md ops ds l l' i = true) (hw : Region.wanted oi (yielded ops a.tmps) = true) (hrun : ∀ w', S w' → (execOp a.eval oi).run P w' = .ok (.value v) w') {a' : Act} (ha : a.put N v = a')
    (h : wpAnyLast P md ops Q S ds fuel l' a' w) : wpAnyLast P md ops Q S ds (fuel + 1) l a w := take_ (i := i) l' hi hN hc hQ (Or.inl ⟨hw, hrun⟩) hS ha h
end
/-- A block that a step leaves alone. -/
theorem blk_step {w w1 : World} {g b : Nat} {o : Obj} (hg : w.grownBy w1 (some b)) (hne : g ≠ b) (h : w.heap[g]? = some o) : w1.heap[g]? = some o := blk_grown h hg (fun e => hne (Option.some.inj e))
theorem below_put {B b : Nat} {w0 w w1 : World} (hg : w.grownBy w1 (some b)) (hb : B ≤ b) (hs : B ≤ w.heap.size) (h : Below B w0 w) : Below B w0 w1 := pw_below_grown h (some b) hs hg (fun k e => by cases e; exact hb)
theorem cells3 {W : World} {g : Nat} {T : TypeId} {v0 v1 v2 : Value} (h : W.heap[g]? = some (.cells #[v0, v1, v2] T (0, 0))) : W.cell? ⟨g, 0, none⟩ = some v0 ∧ W.cell? ⟨g, 1, none⟩ = some v1 ∧ W.cell? ⟨g, 2, none⟩ = some v2 := ⟨(blk_cell h 0).trans rfl, (blk_cell h 1).trans rfl, (blk_cell h 2).trans rfl⟩
theorem marks3 {W : World} {g : Nat} {T : TypeId} {v0 v1 v2 : Value} (h : W.heap[g]? = some (.cells #[v0, v1, v2] T (0, 0))) : W.frozen? ⟨g, 0, none⟩ = false ∧ W.frozen? ⟨g, 1, none⟩ = false ∧ W.frozen? ⟨g, 2, none⟩ = false := ⟨blk_frozen h 0, blk_frozen h 1, blk_frozen h 2⟩
theorem cells4 {W : World} {g : Nat} {T : TypeId} {v0 v1 v2 v3 : Value} (h : W.heap[g]? = some (.cells #[v0, v1, v2, v3] T (0, 0))) : W.cell? ⟨g, 0, none⟩ = some v0 ∧ W.cell? ⟨g, 1, none⟩ = some v1 ∧ W.cell? ⟨g, 2, none⟩ = some v2 ∧ W.cell? ⟨g, 3, none⟩ = some v3 := ⟨(blk_cell h 0).trans rfl, (blk_cell h 1).trans rfl, (blk_cell h 2).trans rfl, (blk_cell h 3).trans rfl⟩
theorem marks4 {W : World} {g : Nat} {T : TypeId} {v0 v1 v2 v3 : Value} (h : W.heap[g]? = some (.cells #[v0, v1, v2, v3] T (0, 0))) : W.frozen? ⟨g, 0, none⟩ = false ∧ W.frozen? ⟨g, 1, none⟩ = false ∧ W.frozen? ⟨g, 2, none⟩ = false ∧ W.frozen? ⟨g, 3, none⟩ = false := ⟨blk_frozen h 0, blk_frozen h 1, blk_frozen h 2, blk_frozen h 3⟩
theorem cells13 {W : World} {g : Nat} {T : TypeId} {v0 v1 v2 v3 v4 v5 v6 v7 v8 v9 v10 v11 v12 : Value} (h : W.heap[g]? = some (.cells #[v0, v1, v2, v3, v4, v5, v6, v7, v8, v9, v10, v11, v12] T (0, 0))) : W.cell? ⟨g, 0, none⟩ = some v0 ∧ W.cell? ⟨g, 1, none⟩ = some v1 ∧ W.cell? ⟨g, 2, none⟩ = some v2 ∧ W.cell? ⟨g, 3, none⟩ = some v3 ∧ W.cell? ⟨g, 4, none⟩ = some v4 ∧ W.cell? ⟨g, 5, none⟩ = some v5 ∧ W.cell? ⟨g, 6, none⟩ = some v6 ∧ W.cell? ⟨g, 7, none⟩ = some v7 ∧ W.cell? ⟨g, 8, none⟩ = some v8 ∧ W.cell? ⟨g, 9, none⟩ = some v9 ∧ W.cell? ⟨g, 10, none⟩ = some v10 ∧ W.cell? ⟨g, 11, none⟩ = some v11 ∧ W.cell? ⟨g, 12, none⟩ = some v12 := ⟨(blk_cell h 0).trans rfl, (blk_cell h 1).trans rfl, (blk_cell h 2).trans rfl, (blk_cell h 3).trans rfl, (blk_cell h 4).trans rfl, (blk_cell h 5).trans rfl, (blk_cell h 6).trans rfl, (blk_cell h 7).trans rfl, (blk_cell h 8).trans rfl, (blk_cell h 9).trans rfl, (blk_cell h 10).trans rfl, (blk_cell h 11).trans rfl, (blk_cell h 12).trans rfl⟩
theorem marks13 {W : World} {g : Nat} {T : TypeId} {v0 v1 v2 v3 v4 v5 v6 v7 v8 v9 v10 v11 v12 : Value} (h : W.heap[g]? = some (.cells #[v0, v1, v2, v3, v4, v5, v6, v7, v8, v9, v10, v11, v12] T (0, 0))) : W.frozen? ⟨g, 0, none⟩ = false ∧ W.frozen? ⟨g, 1, none⟩ = false ∧ W.frozen? ⟨g, 2, none⟩ = false ∧ W.frozen? ⟨g, 3, none⟩ = false ∧ W.frozen? ⟨g, 4, none⟩ = false ∧ W.frozen? ⟨g, 5, none⟩ = false ∧ W.frozen? ⟨g, 6, none⟩ = false ∧ W.frozen? ⟨g, 7, none⟩ = false ∧ W.frozen? ⟨g, 8, none⟩ = false ∧ W.frozen? ⟨g, 9, none⟩ = false ∧ W.frozen? ⟨g, 10, none⟩ = false ∧ W.frozen? ⟨g, 11, none⟩ = false ∧ W.frozen? ⟨g, 12, none⟩ = false := ⟨blk_frozen h 0, blk_frozen h 1, blk_frozen h 2, blk_frozen h 3, blk_frozen h 4, blk_frozen h 5, blk_frozen h 6, blk_frozen h 7, blk_frozen h 8, blk_frozen h 9, blk_frozen h 10, blk_frozen h 11, blk_frozen h 12⟩
theorem below_sz {w w1 : World} (h : Below w.heap.size w w1) : w.heap.size ≤ w1.heap.size := h.size
end Go.Proofs.Ytfkidiagmekleaa.QAll
