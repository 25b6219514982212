-- Written by a program of this session (patch_print.py over the print).
import Derived.Test.YtnkpbdpdgfjhcaaRows
import Derived.Test.YtnkpbdpdgfjhcaaQFnExactEventOkx5
import Derived.Test.YtnkpbdpdgfjhcaaPureFnExactEventOk
import Derived.WalkKit
import Derived.ProofKit
import Derived.OpenShut
import Derived.ShutString
import Derived.ChangeOld
import Derived.Below
import Derived.SizedLaws
import Derived.Test.YtnkpbdpdgfjhcaaWSized
import Derived.Deep.Fields
import Derived.Deep.Slices
import Derived.ChangeSame
namespace Go.Proofs.Ytnkpbdpdgfjhcaa.fnExactEventOk
open Go.ChangeShapes Go.WideShapes Go.ChangeAt Go.RowKit
open Go.ChangeMaps (open_string shut_string)
set_option linter.unusedVariables false
theorem own : ownKnob Try.prog.godebug = none := by kernel_rfl
theorem laidOut : laidOutB Try.prog = true := by kernel_rfl
def IsRow (k : IntKind) (w : World) (a : Option Addr) (len cap : Nat) (zs : List Int) : Prop :=
  (a = none ∧ len = 0 ∧ cap = 0 ∧ zs = []) ∨
  ∃ x, a = some x ∧ len ≤ cap ∧ cap ≤ maxLen ∧ zs.length = cap ∧ (∀ i, i < zs.length → w.cell? (x.add i) = some (.int k (zs.getD i 0))) ∧ ∀ n ∈ zs, (Lit.int k n).wf = true
section
variable {H : Type} {enc : TypeId × Value → H} {W : World} {base : Nat} {sp : Nat → Bool} {held : Bool}
open Go.Deep in
theorem open_agg_n {P : Program} {t : TypeId} {fs : Array Field} {v : Value} {d : DataW H} {p : List MemPlace} {r : Reach} {b0 : Nat} (hs : P.underlying t = some (.struct fs)) (hone : oneCellFields P fs = true) (hC : P.cellsOf t = fs.size)
    (hv : Value.okWide P W r b0 t v) (h : DataW.Trod enc P W base sp held t v d p) :
    ∃ (l : List Value) (n : Nat), v = .agg l.toArray ∧ l.length = fs.size ∧ ∀ (j : Nat) (f : Field), fs[j]? = some f → ∃ (c : Value) (y : DataW H × List MemPlace), l[j]? = some c ∧ DataW.trod enc P W base sp held n f.type [c] = some y := by
  obtain ⟨cs, rfl, hsz⟩ := okWide_struct hs hv
  obtain ⟨l⟩ := cs
  obtain ⟨fuel, hf⟩ := h
  obtain ⟨xs, n, _, _, _, hlen, hg⟩ := DataW.trod_struct hs hf
  have hl : l.length = fs.size := hsz.trans hC
  refine ⟨l, n, rfl, hl, fun j f hj => ?_⟩
  have hjl : j < fs.size := (Array.getElem?_eq_some_iff.1 hj).1
  obtain ⟨ho, hk⟩ := hone_of hone j f hj
  have h1 := hg j f hj
  rw [ho, hk] at h1
  have h2 : DataW.trod enc P W base sp held n f.type ((l.drop j).take 1) = xs[j]? := h1
  have hone' : (l.drop j).take 1 = [l[j]'(by omega)] := by
    rw [List.drop_eq_getElem_cons (by omega)]
    rfl
  rw [hone'] at h2
  exact ⟨_, xs[j]'(by omega), List.getElem?_eq_getElem (by omega), h2.trans (List.getElem?_eq_getElem (by omega))⟩
open Go.Proofs.Ytnkpbdpdgfjhcaa.QFnExactEventOk Go.Proofs.YtnkpbdpdgfjhcaaW.PrintWords in
theorem open_S39 {v : Value} {d : DataW H} {p : List MemPlace} {r : Reach} {b0 : Nat} (hv : Value.okWide Try.prog W r b0 39 v) (h : DataW.Trod enc Try.prog W base sp held 39 v d p) :
    ∃ (a0 : Int) (a1 : Int) (a2 : Int) (a3 : Int) (a4 : Int) (a5 : Int) (a6 : Bool), v = .agg #[.int .i64 a0, .int .i64 a1, .int .i64 a2, .int .i64 a3, .int .i64 a4, .int .i64 a5, .bool a6] ∧ (Lit.int .i64 a0).wf = true ∧ (Lit.int .i64 a1).wf = true ∧ (Lit.int .i64 a2).wf = true ∧ (Lit.int .i64 a3).wf = true ∧ (Lit.int .i64 a4).wf = true ∧ (Lit.int .i64 a5).wf = true := by
  obtain ⟨l, n, rfl, hl, hj⟩ := open_agg_n Try.underlying39 (by kernel_rfl) (by kernel_rfl) hv h
  match l, hl.trans (show _ = 7 from rfl) with
  | [c0, c1, c2, c3, c4, c5, c6], _ =>
    obtain ⟨x0, y0, hc0, ht0⟩ := hj 0 _ rfl
    cases hc0
    obtain ⟨a0, e0, _, w0⟩ := DataW.trod_int Try.underlying3 ht0
    cases e0
    obtain ⟨x1, y1, hc1, ht1⟩ := hj 1 _ rfl
    cases hc1
    obtain ⟨a1, e1, _, w1⟩ := DataW.trod_int Try.underlying3 ht1
    cases e1
    obtain ⟨x2, y2, hc2, ht2⟩ := hj 2 _ rfl
    cases hc2
    obtain ⟨a2, e2, _, w2⟩ := DataW.trod_int Try.underlying3 ht2
    cases e2
    obtain ⟨x3, y3, hc3, ht3⟩ := hj 3 _ rfl
    cases hc3
    obtain ⟨a3, e3, _, w3⟩ := DataW.trod_int Try.underlying3 ht3
    cases e3
    obtain ⟨x4, y4, hc4, ht4⟩ := hj 4 _ rfl
    cases hc4
    obtain ⟨a4, e4, _, w4⟩ := DataW.trod_int Try.underlying3 ht4
    cases e4
    obtain ⟨x5, y5, hc5, ht5⟩ := hj 5 _ rfl
    cases hc5
    obtain ⟨a5, e5, _, w5⟩ := DataW.trod_int Try.underlying3 ht5
    cases e5
    obtain ⟨x6, y6, hc6, ht6⟩ := hj 6 _ rfl
    cases hc6
    obtain ⟨a6, e6, _⟩ := DataW.trod_bool Try.underlying4 ht6
    cases e6
    exact ⟨a0, a1, a2, a3, a4, a5, a6, rfl, w0, w1, w2, w3, w4, w5⟩
end
set_option maxRecDepth 100000 in
theorem lifted (os : Os) (started : os.Started) (H : Type) (enc : TypeId × Value → H) :
    ReturnsInHanded {} Try.checked os 7 .any (Rows.fnExactEventOkSpec.pre6 enc Try.prog Try.f7 Rows.fnExactEventOkRow.domain false) (Rows.fnExactEventOkSpec.post enc Try.prog Try.f7 false true false false) := by
  refine returnsInHanded_of_change_sized (C := Try.checked) own started (by kernel_rfl) Try.func7
    (ChangeSpec.witness6 (enc := enc) (C := Try.checked) false ⟨#[], #[.agg #[.int .i64 0, .int .i64 0, .int .i64 0, .int .i64 0, .int .i64 0, .int .i64 0, .bool false]], []⟩ 8 (by kernel_rfl) (by kernel_rfl) (by kernel_rfl) (by kernel_rfl)) ?_
  intro W base args ds gs before hval0 hW hcnd hsz0 _
  have hsz : (DataW.weightsEach Try.prog (Try.f7.params.toList ++ Rows.fnExactEventOkSpec.plain.varTypes Try.prog) (ds ++ gs)).all (· ≤ reachBytes) = true := hsz0
  have hval : ∀ (j : Nat) t v, Try.f7.params[j]? = some t → args[j]? = some v → Value.okWide Try.prog W .any base t v := hval0
  have hW' := hW
  obtain ⟨p, q, hA0, hV, rfl, hfz, hnd⟩ := hW
  have hA : DataW.TrodAll enc Try.prog W 0 (fun _ => true) true Try.f7.params.toList args.toList ds p := hA0
  rw [Try.params7] at hA hval hsz
  obtain ⟨v0, vs0, d0, ds0, p0, q0, hargs, rfl, rfl, h0, r0⟩ := trodAll_cons hA
  obtain ⟨rfl, rfl, rfl⟩ := trodAll_nil r0
  obtain rfl : args = #[v0] := by cases args; simp_all
  obtain ⟨rfl, rfl⟩ := trodVars_none hV
  have k0 := h0
  have lt0 : ∀ x ∈ p0, x.block < W.heap.size := by obtain ⟨m, hm⟩ := k0; exact DataW.trod_lt m _ _ _ hm
  obtain ⟨a0_0, a0_1, a0_2, a0_3, a0_4, a0_5, a0_6, rfl, w0_0, w0_1, w0_2, w0_3, w0_4, w0_5⟩ := open_S39 (hval 0 39 v0 rfl rfl) h0
  clear hA0 hval0 hsz0 hsz
  refine (QFnExactEventOk.laws_FnExactEventOk.walk Pure.FnExactEventOk a0_0 a0_1 a0_2 a0_3 a0_4 a0_5 a0_6 W w0_0 w0_1 w0_2 w0_3 w0_4 w0_5).mono fun e W' ⟨he, bel⟩ => ?_
  subst he
  exact ⟨_, rfl, _, _, _, [], _, [], hW', trodAll_mk1 (shut_bool Try.underlying4 _), (trodAll_cons_mk (Below.trod laidOut (by kernel_rfl) (of_decide_eq_true (by kernel_rfl)) k0 bel lt0) trodAll_mk0), rfl, bel.frame _, fun h => by cases h⟩
theorem over : Rows.fnExactEventOkRow.holds Try.pinned (OpenSpec.ofChange Rows.fnExactEventOkSpec) :=
  OpenClaim.holds_of_wide 7 Try.f7 rfl rfl rfl rfl rfl rfl rfl ⟨rfl, rfl, rfl, rfl, rfl⟩ rfl rfl rfl rfl rfl (by kernel_rfl) Try.func7 (by kernel_rfl)
    (of_decide_eq_true (by kernel_rfl)) (by unfold Func.isWrapper; first | (rw [if_pos (by decide +kernel)]; kernel_rfl) | (rw [if_neg (by decide +kernel)]; exact ⟨rfl, rfl⟩))
    (fun os started H enc _ => lifted os started H enc)
theorem proved : Rows.FnExactEventOkSaid := over
#print axioms proved
end Go.Proofs.Ytnkpbdpdgfjhcaa.fnExactEventOk
namespace Go.Proofs.Ytnkpbdpdgfjhcaa
/-- The row, under a short name, for the claim. -/
theorem fnExactEventOk_holds : Rows.FnExactEventOkSaid := fnExactEventOk.proved
end Go.Proofs.Ytnkpbdpdgfjhcaa
