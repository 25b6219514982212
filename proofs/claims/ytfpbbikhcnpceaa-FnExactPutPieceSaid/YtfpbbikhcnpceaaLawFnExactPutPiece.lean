-- Written by a program of this session (patch_print.py over the print).
import Derived.Test.YtfpbbikhcnpceaaRows
import Derived.Test.YtfpbbikhcnpceaaQFnExactPutPiecex7
import Derived.Test.YtfpbbikhcnpceaaPureFnExactPutPiece
import Derived.WalkKit
import Derived.ProofKit
import Derived.OpenShut
import Derived.ShutString
import Derived.ChangeOld
import Derived.Below
import Derived.SizedLaws
import Derived.Test.YtfpbbikhcnpceaaWSized
import Derived.Deep.Fields
import Derived.Deep.Slices
import Derived.ChangeSame
namespace Go.Proofs.Ytfpbbikhcnpceaa.fnExactPutPiece
open Go.ChangeShapes Go.WideShapes Go.ChangeAt Go.RowKit
open Go.ChangeMaps (open_string shut_string)
set_option linter.unusedVariables false
theorem own : ownKnob Try.prog.godebug = none := by kernel_rfl
theorem laidOut : laidOutB Try.prog = true := by kernel_rfl
def IsRow (k : IntKind) (w : World) (a : Option Addr) (len cap : Nat) (zs : List Int) : Prop :=
  (a = none ∧ len = 0 ∧ cap = 0 ∧ zs = []) ∨
  ∃ x, a = some x ∧ len ≤ cap ∧ cap ≤ maxLen ∧ zs.length = cap ∧ (∀ i, i < zs.length → w.cell? (x.add i) = some (.int k (zs.getD i 0))) ∧ ∀ n ∈ zs, (Lit.int k n).wf = true
section
variable {H : Type} {enc : TypeId × Value → H} {W : World} {base : Nat} {sp : Nat → Bool} {held : Bool}
open Go.Deep in
theorem open_agg_n {P : Program} {t : TypeId} {fs : Array Field} {v : Value} {d : DataW H} {p : List MemPlace} {r : Reach} {b0 : Nat} (hs : P.underlying t = some (.struct fs)) (hone : oneCellFields P fs = true) (hC : P.cellsOf t = fs.size)
    (hv : Value.okWide P W r b0 t v) (h : DataW.Trod enc P W base sp held t v d p) :
    ∃ (l : List Value) (n : Nat), v = .agg l.toArray ∧ l.length = fs.size ∧ ∀ (j : Nat) (f : Field), fs[j]? = some f → ∃ (c : Value) (y : DataW H × List MemPlace), l[j]? = some c ∧ DataW.trod enc P W base sp held n f.type [c] = some y := by
  obtain ⟨cs, rfl, hsz⟩ := okWide_struct hs hv
  obtain ⟨l⟩ := cs
  obtain ⟨fuel, hf⟩ := h
  obtain ⟨xs, n, _, _, _, hlen, hg⟩ := DataW.trod_struct hs hf
  have hl : l.length = fs.size := hsz.trans hC
  refine ⟨l, n, rfl, hl, fun j f hj => ?_⟩
  have hjl : j < fs.size := (Array.getElem?_eq_some_iff.1 hj).1
  obtain ⟨ho, hk⟩ := hone_of hone j f hj
  have h1 := hg j f hj
  rw [ho, hk] at h1
  have h2 : DataW.trod enc P W base sp held n f.type ((l.drop j).take 1) = xs[j]? := h1
  have hone' : (l.drop j).take 1 = [l[j]'(by omega)] := by
    rw [List.drop_eq_getElem_cons (by omega)]
    rfl
  rw [hone'] at h2
  exact ⟨_, xs[j]'(by omega), List.getElem?_eq_getElem (by omega), h2.trans (List.getElem?_eq_getElem (by omega))⟩
set_option maxRecDepth 100000 in
open Go.Proofs.Ytfpbbikhcnpceaa.QFnExactPutPiece Go.Proofs.YtfpbbikhcnpceaaW.PrintWords in
theorem open_S52 {v : Value} {d : DataW H} {p : List MemPlace} {r : Reach} {b0 : Nat} (hv : Value.okWide Try.prog W r b0 52 v) (h : DataW.Trod enc Try.prog W base sp held 52 v d p) :
    ∃ (a0 : Int) (a1 : Int) (a2 : Int) (a3 : Int) (a4 : Int) (a5 : Int) (a6 : Int) (a7 : Int) (a8 : Int) (a9 : Int) (a10 : Int) (a11 : Bool) (a12 : Bool), v = .agg #[.int .i64 a0, .int .i64 a1, .int .i64 a2, .int .i64 a3, .int .i64 a4, .int .i64 a5, .int .i64 a6, .int .i64 a7, .int .i64 a8, .int .i64 a9, .int .i64 a10, .bool a11, .bool a12] ∧ (Lit.int .i64 a0).wf = true ∧ (Lit.int .i64 a1).wf = true ∧ (Lit.int .i64 a2).wf = true ∧ (Lit.int .i64 a3).wf = true ∧ (Lit.int .i64 a4).wf = true ∧ (Lit.int .i64 a5).wf = true ∧ (Lit.int .i64 a6).wf = true ∧ (Lit.int .i64 a7).wf = true ∧ (Lit.int .i64 a8).wf = true ∧ (Lit.int .i64 a9).wf = true ∧ (Lit.int .i64 a10).wf = true := by
  obtain ⟨l, n, rfl, hl, hj⟩ := open_agg_n Try.underlying52 (by kernel_rfl) (by kernel_rfl) hv h
  match l, hl.trans (show _ = 13 from rfl) with
  | [c0, c1, c2, c3, c4, c5, c6, c7, c8, c9, c10, c11, c12], _ =>
    obtain ⟨x0, y0, hc0, ht0⟩ := hj 0 _ rfl
    cases hc0
    obtain ⟨a0, e0, _, w0⟩ := DataW.trod_int Try.underlying3 ht0
    cases e0
    obtain ⟨x1, y1, hc1, ht1⟩ := hj 1 _ rfl
    cases hc1
    obtain ⟨a1, e1, _, w1⟩ := DataW.trod_int Try.underlying3 ht1
    cases e1
    obtain ⟨x2, y2, hc2, ht2⟩ := hj 2 _ rfl
    cases hc2
    obtain ⟨a2, e2, _, w2⟩ := DataW.trod_int Try.underlying3 ht2
    cases e2
    obtain ⟨x3, y3, hc3, ht3⟩ := hj 3 _ rfl
    cases hc3
    obtain ⟨a3, e3, _, w3⟩ := DataW.trod_int Try.underlying3 ht3
    cases e3
    obtain ⟨x4, y4, hc4, ht4⟩ := hj 4 _ rfl
    cases hc4
    obtain ⟨a4, e4, _, w4⟩ := DataW.trod_int Try.underlying3 ht4
    cases e4
    obtain ⟨x5, y5, hc5, ht5⟩ := hj 5 _ rfl
    cases hc5
    obtain ⟨a5, e5, _, w5⟩ := DataW.trod_int Try.underlying3 ht5
    cases e5
    obtain ⟨x6, y6, hc6, ht6⟩ := hj 6 _ rfl
    cases hc6
    obtain ⟨a6, e6, _, w6⟩ := DataW.trod_int Try.underlying3 ht6
    cases e6
    obtain ⟨x7, y7, hc7, ht7⟩ := hj 7 _ rfl
    cases hc7
    obtain ⟨a7, e7, _, w7⟩ := DataW.trod_int Try.underlying3 ht7
    cases e7
    obtain ⟨x8, y8, hc8, ht8⟩ := hj 8 _ rfl
    cases hc8
    obtain ⟨a8, e8, _, w8⟩ := DataW.trod_int Try.underlying3 ht8
    cases e8
    obtain ⟨x9, y9, hc9, ht9⟩ := hj 9 _ rfl
    cases hc9
    obtain ⟨a9, e9, _, w9⟩ := DataW.trod_int Try.underlying3 ht9
    cases e9
    obtain ⟨x10, y10, hc10, ht10⟩ := hj 10 _ rfl
    cases hc10
    obtain ⟨a10, e10, _, w10⟩ := DataW.trod_int Try.underlying3 ht10
    cases e10
    obtain ⟨x11, y11, hc11, ht11⟩ := hj 11 _ rfl
    cases hc11
    obtain ⟨a11, e11, _⟩ := DataW.trod_bool Try.underlying4 ht11
    cases e11
    obtain ⟨x12, y12, hc12, ht12⟩ := hj 12 _ rfl
    cases hc12
    obtain ⟨a12, e12, _⟩ := DataW.trod_bool Try.underlying4 ht12
    cases e12
    exact ⟨a0, a1, a2, a3, a4, a5, a6, a7, a8, a9, a10, a11, a12, rfl, w0, w1, w2, w3, w4, w5, w6, w7, w8, w9, w10⟩
end
set_option maxRecDepth 100000 in
theorem lifted (os : Os) (started : os.Started) (H : Type) (enc : TypeId × Value → H) :
    ReturnsInHanded {} Try.checked os 7 .any (Rows.fnExactPutPieceSpec.pre6 enc Try.prog Try.f7 Rows.fnExactPutPieceRow.domain false) (Rows.fnExactPutPieceSpec.post enc Try.prog Try.f7 false true false false) := by
  refine returnsInHanded_of_change_sized (C := Try.checked) own started (by kernel_rfl) Try.func7
    (ChangeSpec.witness6 (enc := enc) (C := Try.checked) false ⟨#[], #[.slice none 0 0, .agg #[.int .i64 0, .int .i64 0, .int .i64 0, .int .i64 0, .int .i64 0, .int .i64 0, .int .i64 0, .int .i64 0, .int .i64 0, .int .i64 0, .int .i64 0, .bool false, .bool false]], []⟩ 8 (by kernel_rfl) (by kernel_rfl) (by kernel_rfl) (by kernel_rfl)) ?_
  intro W base args ds gs before hval0 hW hcnd hsz0 _
  have hsz : (DataW.weightsEach Try.prog (Try.f7.params.toList ++ Rows.fnExactPutPieceSpec.plain.varTypes Try.prog) (ds ++ gs)).all (· ≤ reachBytes) = true := hsz0
  have hval : ∀ (j : Nat) t v, Try.f7.params[j]? = some t → args[j]? = some v → Value.okWide Try.prog W .any base t v := hval0
  have hW' := hW
  obtain ⟨p, q, hA0, hV, rfl, hfz, hnd⟩ := hW
  have hA : DataW.TrodAll enc Try.prog W 0 (fun _ => true) true Try.f7.params.toList args.toList ds p := hA0
  rw [Try.params7] at hA hval hsz
  obtain ⟨v0, vs0, d0, ds0, p0, q0, hargs, rfl, rfl, h0, r0⟩ := trodAll_cons hA
  obtain ⟨v1, vs1, d1, ds1, p1, q1, rfl, rfl, rfl, h1, r1⟩ := trodAll_cons r0
  obtain ⟨rfl, rfl, rfl⟩ := trodAll_nil r1
  obtain rfl : args = #[v0, v1] := by cases args; simp_all
  obtain ⟨rfl, rfl⟩ := trodVars_none hV
  obtain ⟨a0, len0, cap0, rfl⟩ := okWide_slice Try.underlying22 (hval 0 22 v0 rfl rfl)
  have k0 := h0
  have lt0 : ∀ x ∈ p0, x.block < W.heap.size := by obtain ⟨m, hm⟩ := k0; exact DataW.trod_lt m _ _ _ hm
  obtain ⟨z0, w0⟩ : ∃ zs, IsRow .u8 W a0 len0 cap0 zs := by
    obtain ⟨fuel, hf⟩ := h0
    rcases open_ints Try.underlying22 Try.underlying5 (by kernel_rfl) hf with ⟨hcs, _⟩ | ⟨x, l, c, zs, hcs, _, hl, hm, hz, _, hcell, hwz⟩
    · simp [Value.cells] at hcs
      obtain ⟨rfl, rfl, rfl⟩ := hcs
      exact ⟨[], .inl ⟨rfl, rfl, rfl, rfl⟩⟩
    · simp [Value.cells] at hcs
      obtain ⟨rfl, rfl, rfl⟩ := hcs
      exact ⟨zs, .inr ⟨_, rfl, hl, hm, by simpa using hz, hcell, hwz⟩⟩
  have y0 : len0 * 1 ≤ 140737488351232 := Go.Proofs.YtfpbbikhcnpceaaW.PrintWords.sized_ints hsz (j := 0) (t := 22) rfl rfl Try.underlying22 Try.underlying5 (by kernel_rfl) (by kernel_rfl) h0
  have k1 := h1
  have lt1 : ∀ x ∈ p1, x.block < W.heap.size := by obtain ⟨m, hm⟩ := k1; exact DataW.trod_lt m _ _ _ hm
  obtain ⟨a1_0, a1_1, a1_2, a1_3, a1_4, a1_5, a1_6, a1_7, a1_8, a1_9, a1_10, a1_11, a1_12, rfl, w1_0, w1_1, w1_2, w1_3, w1_4, w1_5, w1_6, w1_7, w1_8, w1_9, w1_10⟩ := open_S52 (hval 1 52 v1 rfl rfl) h1
  clear hA0 hval0 hsz0 hsz
  refine (QFnExactPutPiece.laws_FnExactPutPiece.walk Pure.FnExactPutPiece a0 len0 cap0 z0 a1_0 a1_1 a1_2 a1_3 a1_4 a1_5 a1_6 a1_7 a1_8 a1_9 a1_10 a1_11 a1_12 W w0 y0 w1_0 w1_1 w1_2 w1_3 w1_4 w1_5 w1_6 w1_7 w1_8 w1_9 w1_10).mono fun e W' ⟨he, bel⟩ => ?_
  subst he
  exact ⟨_, rfl, _, _, _, [], _, [], hW', trodAll_mk1 (shut_bool Try.underlying4 _), (trodAll_cons_mk (Below.trod laidOut (by kernel_rfl) (of_decide_eq_true (by kernel_rfl)) k0 bel lt0) (trodAll_cons_mk (Below.trod laidOut (by kernel_rfl) (of_decide_eq_true (by kernel_rfl)) k1 bel lt1) trodAll_mk0)), rfl, bel.frame _, fun h => by cases h⟩
theorem over : Rows.fnExactPutPieceRow.holds Try.pinned (OpenSpec.ofChange Rows.fnExactPutPieceSpec) :=
  OpenClaim.holds_of_wide 7 Try.f7 rfl rfl rfl rfl rfl rfl rfl ⟨rfl, rfl, rfl, rfl, rfl⟩ rfl rfl rfl rfl rfl (by kernel_rfl) Try.func7 (by kernel_rfl)
    (of_decide_eq_true (by kernel_rfl)) (by unfold Func.isWrapper; first | (rw [if_pos (by decide +kernel)]; kernel_rfl) | (rw [if_neg (by decide +kernel)]; exact ⟨rfl, rfl⟩))
    (fun os started H enc _ => lifted os started H enc)
theorem proved : Rows.FnExactPutPieceSaid := over
#print axioms proved
end Go.Proofs.Ytfpbbikhcnpceaa.fnExactPutPiece
namespace Go.Proofs.Ytfpbbikhcnpceaa
/-- The row, under a short name, for the claim. -/
theorem fnExactPutPiece_holds : Rows.FnExactPutPieceSaid := fnExactPutPiece.proved
end Go.Proofs.Ytfpbbikhcnpceaa
