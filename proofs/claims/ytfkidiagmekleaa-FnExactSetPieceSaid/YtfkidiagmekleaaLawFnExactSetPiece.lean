-- Written by a program of this session (patch_print.py over the print).
import Derived.Test.YtfkidiagmekleaaRows
import Derived.Test.YtfkidiagmekleaaHFnExactSetPiece
import Derived.Test.YtfkidiagmekleaaPureFnExactSetPiece
import Derived.WalkKit
import Derived.ProofKit
import Derived.OpenShut
import Derived.ShutString
import Derived.ChangeOld
import Derived.Below
import Derived.SizedLaws
import Derived.Test.YtfkidiagmekleaaVSized
import Derived.Deep.Fields
import Derived.Deep.Slices
import Derived.ChangeSame
namespace Go.Proofs.Ytfkidiagmekleaa.fnExactSetPiece
open Go.ChangeShapes Go.WideShapes Go.ChangeAt Go.RowKit
open Go.ChangeMaps (open_string shut_string)
set_option linter.unusedVariables false
theorem own : ownKnob Try.prog.godebug = none := by kernel_rfl
theorem laidOut : laidOutB Try.prog = true := by kernel_rfl
def IsRow (k : IntKind) (w : World) (a : Option Addr) (len cap : Nat) (zs : List Int) : Prop :=
  (a = none ∧ len = 0 ∧ cap = 0 ∧ zs = []) ∨
  ∃ x, a = some x ∧ len ≤ cap ∧ cap ≤ maxLen ∧ zs.length = cap ∧ (∀ i, i < zs.length → w.cell? (x.add i) = some (.int k (zs.getD i 0))) ∧ ∀ n ∈ zs, (Lit.int k n).wf = true
section
variable {H : Type} {enc : TypeId × Value → H} {W : World} {base : Nat} {sp : Nat → Bool} {held : Bool}
open Go.Deep in
theorem open_agg_n {P : Program} {t : TypeId} {fs : Array Field} {v : Value} {d : DataW H} {p : List MemPlace} {r : Reach} {b0 : Nat} (hs : P.underlying t = some (.struct fs)) (hone : oneCellFields P fs = true) (hC : P.cellsOf t = fs.size)
    (hv : Value.okWide P W r b0 t v) (h : DataW.Trod enc P W base sp held t v d p) :
    ∃ (l : List Value) (n : Nat), v = .agg l.toArray ∧ l.length = fs.size ∧ ∀ (j : Nat) (f : Field), fs[j]? = some f → ∃ (c : Value) (y : DataW H × List MemPlace), l[j]? = some c ∧ DataW.trod enc P W base sp held n f.type [c] = some y := by
  obtain ⟨cs, rfl, hsz⟩ := okWide_struct hs hv
  obtain ⟨l⟩ := cs
  obtain ⟨fuel, hf⟩ := h
  obtain ⟨xs, n, _, _, _, hlen, hg⟩ := DataW.trod_struct hs hf
  have hl : l.length = fs.size := hsz.trans hC
  refine ⟨l, n, rfl, hl, fun j f hj => ?_⟩
  have hjl : j < fs.size := (Array.getElem?_eq_some_iff.1 hj).1
  obtain ⟨ho, hk⟩ := hone_of hone j f hj
  have h1 := hg j f hj
  rw [ho, hk] at h1
  have h2 : DataW.trod enc P W base sp held n f.type ((l.drop j).take 1) = xs[j]? := h1
  have hone' : (l.drop j).take 1 = [l[j]'(by omega)] := by
    rw [List.drop_eq_getElem_cons (by omega)]
    rfl
  rw [hone'] at h2
  exact ⟨_, xs[j]'(by omega), List.getElem?_eq_getElem (by omega), h2.trans (List.getElem?_eq_getElem (by omega))⟩
theorem list_of {α : Type} (Q : Nat → α → Prop) : ∀ n, (∀ i, i < n → ∃ x, Q i x) → ∃ l : List α, l.length = n ∧ ∀ i x, l[i]? = some x → Q i x
  | 0, _ => ⟨[], rfl, fun i x h => by simp at h⟩
  | n + 1, h => by
    obtain ⟨l, hl, hq⟩ := list_of Q n (fun i hi => h i (by omega))
    obtain ⟨x, hx⟩ := h n (by omega)
    refine ⟨l ++ [x], by rw [List.length_append, hl]; rfl, fun i y hy => ?_⟩
    rcases Nat.lt_or_ge i l.length with hi | hi
    · rw [List.getElem?_append_left hi] at hy
      exact hq i y hy
    · rw [List.getElem?_append_right hi] at hy
      rcases Nat.eq_or_lt_of_le hi with e | e
      · rw [← e, Nat.sub_self] at hy
        obtain rfl : x = y := Option.some.inj hy
        rw [← e, hl]
        exact hx
      · rw [List.getElem?_eq_none (by simp; omega)] at hy
        cases hy
open Go.Deep in
theorem open_srow {P : Program} {t e : TypeId} {fs : Array Field} {fuel : Nat} {c : Value} {x : DataW H × List MemPlace} (ht : P.underlying t = some (.slice e)) (he : P.underlying e = some (.struct fs)) (hone : oneCellFields P fs = true) (hC : P.cellsOf e = fs.size)
    (h : DataW.trod enc P W base sp held fuel t [c] = some x) : c = .slice none 0 0 ∨ ∃ (a : Addr) (len cap : Nat), c = .slice (some a) len cap ∧ len ≤ cap ∧ cap ≤ maxLen ∧
      ∀ i, i < len → ∀ (j : Nat) (f : Field), fs[j]? = some f → ∃ (v : Value) (n : Nat) (y : DataW H × List MemPlace), W.cell? (a.add (i * fs.size + j)) = some v ∧ DataW.trod enc P W base sp held n f.type [v] = some y := by
  rcases open_slice ht h with ⟨h0, _⟩ | ⟨a, len, cap, m, n, D, Pl, hcs, hb, hl, hm, hmm, hx, hi⟩
  · exact .inl (List.cons.inj h0).1
  · refine .inr ⟨a, len, cap, (List.cons.inj hcs).1, hl, hm, fun i hil j f hj => ?_⟩
    have him : i < m := by rw [hmm]; split <;> omega
    obtain ⟨cs', hc, ht'⟩ := hi i him
    rw [hC] at hc
    obtain ⟨ys, n', hn', hy, hlen, hyl, hf⟩ := DataW.trod_struct he ht'
    obtain ⟨_, hcl, hat⟩ := World.cells?_some hc
    obtain ⟨ho, hk⟩ := hone_of hone j f hj
    have hjl : j < fs.size := (Array.getElem?_eq_some_iff.1 hj).1
    have h1 := hf j f hj
    rw [ho, hk] at h1
    have h2 : (cs'.drop j).take 1 = [cs'[j]'(by omega)] := by
      rw [List.drop_eq_getElem_cons (by omega)]
      rfl
    rw [h2] at h1
    have h3 : cs'[j]? = some (cs'[j]'(by omega)) := List.getElem?_eq_getElem (by omega)
    refine ⟨_, n', ys[j]'(by omega), ?_, h1.trans (List.getElem?_eq_getElem (by omega))⟩
    rw [← Go.Deep.add_add, hat j hjl, h3]
open Go.Proofs.Ytfkidiagmekleaa.QAll Go.Proofs.YtfkidiagmekleaaW.PrintWords in
theorem open_row75_47 {c : Value} {n : Nat} {y : DataW H × List MemPlace} (h : DataW.trod enc Try.prog W base sp held n 47 [c] = some y) :
    ∃ (A : Option Addr) (k : Nat) (l : List S75), c = .slice A l.length k ∧ (Kd.C k75 W A l.length l) ∧ l.length ≤ k ∧ l.length ≤ maxLen ∧ (∀ x ∈ l, (Lit.int .i64 x.f0).wf = true ∧ (Lit.int .i64 x.f1).wf = true ∧ (Lit.int .i64 x.f2).wf = true ∧ (Lit.int .i64 x.f3).wf = true ∧ (Lit.int .i64 x.f4).wf = true ∧ (Lit.int .i64 x.f5).wf = true ∧ (Lit.int .i64 x.f6).wf = true ∧ (Lit.int .i64 x.f7).wf = true ∧ (Lit.int .i64 x.f8).wf = true ∧ (Lit.int .i64 x.f9).wf = true ∧ (Lit.int .i64 x.f10).wf = true) := by
  rcases open_srow Try.underlying47 Try.underlying75 (by kernel_rfl) (by kernel_rfl) h with rfl | ⟨a, len, cap, rfl, hl, hm, hf⟩
  · exact ⟨none, 0, [], rfl, Kd.C_nil _ _, Nat.le_refl _, Nat.zero_le _, fun x hx => absurd hx (List.not_mem_nil)⟩
  · obtain ⟨l, hn, hq⟩ := list_of (fun i (x : S75) => (∀ j u, ([.int .i64 x.f0, .int .i64 x.f1, .int .i64 x.f2, .int .i64 x.f3, .int .i64 x.f4, .int .i64 x.f5, .int .i64 x.f6, .int .i64 x.f7, .int .i64 x.f8, .int .i64 x.f9, .int .i64 x.f10, .bool x.f11, .bool x.f12] : List Value)[j]? = some u → W.cell? (a.add (i * 13 + j)) = some u) ∧ ((Lit.int .i64 x.f0).wf = true ∧ (Lit.int .i64 x.f1).wf = true ∧ (Lit.int .i64 x.f2).wf = true ∧ (Lit.int .i64 x.f3).wf = true ∧ (Lit.int .i64 x.f4).wf = true ∧ (Lit.int .i64 x.f5).wf = true ∧ (Lit.int .i64 x.f6).wf = true ∧ (Lit.int .i64 x.f7).wf = true ∧ (Lit.int .i64 x.f8).wf = true ∧ (Lit.int .i64 x.f9).wf = true ∧ (Lit.int .i64 x.f10).wf = true)) len (fun i hi => by
      obtain ⟨v0, n0, y0, hc0, ht0⟩ := hf i hi 0 _ rfl
      obtain ⟨a0, e0, _, w0⟩ := DataW.trod_int Try.underlying3 ht0
      cases e0
      obtain ⟨v1, n1, y1, hc1, ht1⟩ := hf i hi 1 _ rfl
      obtain ⟨a1, e1, _, w1⟩ := DataW.trod_int Try.underlying3 ht1
      cases e1
      obtain ⟨v2, n2, y2, hc2, ht2⟩ := hf i hi 2 _ rfl
      obtain ⟨a2, e2, _, w2⟩ := DataW.trod_int Try.underlying3 ht2
      cases e2
      obtain ⟨v3, n3, y3, hc3, ht3⟩ := hf i hi 3 _ rfl
      obtain ⟨a3, e3, _, w3⟩ := DataW.trod_int Try.underlying3 ht3
      cases e3
      obtain ⟨v4, n4, y4, hc4, ht4⟩ := hf i hi 4 _ rfl
      obtain ⟨a4, e4, _, w4⟩ := DataW.trod_int Try.underlying3 ht4
      cases e4
      obtain ⟨v5, n5, y5, hc5, ht5⟩ := hf i hi 5 _ rfl
      obtain ⟨a5, e5, _, w5⟩ := DataW.trod_int Try.underlying3 ht5
      cases e5
      obtain ⟨v6, n6, y6, hc6, ht6⟩ := hf i hi 6 _ rfl
      obtain ⟨a6, e6, _, w6⟩ := DataW.trod_int Try.underlying3 ht6
      cases e6
      obtain ⟨v7, n7, y7, hc7, ht7⟩ := hf i hi 7 _ rfl
      obtain ⟨a7, e7, _, w7⟩ := DataW.trod_int Try.underlying3 ht7
      cases e7
      obtain ⟨v8, n8, y8, hc8, ht8⟩ := hf i hi 8 _ rfl
      obtain ⟨a8, e8, _, w8⟩ := DataW.trod_int Try.underlying3 ht8
      cases e8
      obtain ⟨v9, n9, y9, hc9, ht9⟩ := hf i hi 9 _ rfl
      obtain ⟨a9, e9, _, w9⟩ := DataW.trod_int Try.underlying3 ht9
      cases e9
      obtain ⟨v10, n10, y10, hc10, ht10⟩ := hf i hi 10 _ rfl
      obtain ⟨a10, e10, _, w10⟩ := DataW.trod_int Try.underlying3 ht10
      cases e10
      obtain ⟨v11, n11, y11, hc11, ht11⟩ := hf i hi 11 _ rfl
      obtain ⟨a11, e11, _⟩ := DataW.trod_bool Try.underlying4 ht11
      cases e11
      obtain ⟨v12, n12, y12, hc12, ht12⟩ := hf i hi 12 _ rfl
      obtain ⟨a12, e12, _⟩ := DataW.trod_bool Try.underlying4 ht12
      cases e12
      refine ⟨⟨a0, a1, a2, a3, a4, a5, a6, a7, a8, a9, a10, a11, a12⟩, fun j u hj => ?_, w0, w1, w2, w3, w4, w5, w6, w7, w8, w9, w10⟩
      match j, hj with
      | 0, hj => obtain rfl := Option.some.inj hj; exact hc0
      | 1, hj => obtain rfl := Option.some.inj hj; exact hc1
      | 2, hj => obtain rfl := Option.some.inj hj; exact hc2
      | 3, hj => obtain rfl := Option.some.inj hj; exact hc3
      | 4, hj => obtain rfl := Option.some.inj hj; exact hc4
      | 5, hj => obtain rfl := Option.some.inj hj; exact hc5
      | 6, hj => obtain rfl := Option.some.inj hj; exact hc6
      | 7, hj => obtain rfl := Option.some.inj hj; exact hc7
      | 8, hj => obtain rfl := Option.some.inj hj; exact hc8
      | 9, hj => obtain rfl := Option.some.inj hj; exact hc9
      | 10, hj => obtain rfl := Option.some.inj hj; exact hc10
      | 11, hj => obtain rfl := Option.some.inj hj; exact hc11
      | 12, hj => obtain rfl := Option.some.inj hj; exact hc12
      | j + 13, hj => simp at hj)
    subst hn
    have hmx9 : maxLen ≤ 9223372036854775807 := by decide
    refine ⟨some a, cap, l, rfl, ⟨rfl, by omega, fun _ => ⟨a, rfl, fun j p hp => ⟨_, rfl, k75_mk W p, fun i u hu => (hq j p hp).1 i u hu⟩⟩⟩, hl, by omega, fun x hx => ?_⟩
    obtain ⟨i, hi⟩ := List.mem_iff_getElem?.1 hx
    exact (hq i x hi).2
open Go.Proofs.Ytfkidiagmekleaa.QAll Go.Proofs.YtfkidiagmekleaaW.PrintWords in
theorem open_row124_48 {c : Value} {n : Nat} {y : DataW H × List MemPlace} (h : DataW.trod enc Try.prog W base sp held n 48 [c] = some y) :
    ∃ (A : Option Addr) (k : Nat) (l : List S124), c = .slice A l.length k ∧ (Kd.C k124 W A l.length l) ∧ l.length ≤ k ∧ l.length ≤ maxLen ∧ (∀ x ∈ l, (Lit.int .i64 x.f0).wf = true ∧ (Lit.int .i64 x.f1).wf = true) := by
  rcases open_srow Try.underlying48 Try.underlying124 (by kernel_rfl) (by kernel_rfl) h with rfl | ⟨a, len, cap, rfl, hl, hm, hf⟩
  · exact ⟨none, 0, [], rfl, Kd.C_nil _ _, Nat.le_refl _, Nat.zero_le _, fun x hx => absurd hx (List.not_mem_nil)⟩
  · obtain ⟨l, hn, hq⟩ := list_of (fun i (x : S124) => (∀ j u, ([.int .i64 x.f0, .int .i64 x.f1, .bool x.f2] : List Value)[j]? = some u → W.cell? (a.add (i * 3 + j)) = some u) ∧ ((Lit.int .i64 x.f0).wf = true ∧ (Lit.int .i64 x.f1).wf = true)) len (fun i hi => by
      obtain ⟨v0, n0, y0, hc0, ht0⟩ := hf i hi 0 _ rfl
      obtain ⟨a0, e0, _, w0⟩ := DataW.trod_int Try.underlying3 ht0
      cases e0
      obtain ⟨v1, n1, y1, hc1, ht1⟩ := hf i hi 1 _ rfl
      obtain ⟨a1, e1, _, w1⟩ := DataW.trod_int Try.underlying3 ht1
      cases e1
      obtain ⟨v2, n2, y2, hc2, ht2⟩ := hf i hi 2 _ rfl
      obtain ⟨a2, e2, _⟩ := DataW.trod_bool Try.underlying4 ht2
      cases e2
      refine ⟨⟨a0, a1, a2⟩, fun j u hj => ?_, w0, w1⟩
      match j, hj with
      | 0, hj => obtain rfl := Option.some.inj hj; exact hc0
      | 1, hj => obtain rfl := Option.some.inj hj; exact hc1
      | 2, hj => obtain rfl := Option.some.inj hj; exact hc2
      | j + 3, hj => simp at hj)
    subst hn
    have hmx9 : maxLen ≤ 9223372036854775807 := by decide
    refine ⟨some a, cap, l, rfl, ⟨rfl, by omega, fun _ => ⟨a, rfl, fun j p hp => ⟨_, rfl, k124_mk W p, fun i u hu => (hq j p hp).1 i u hu⟩⟩⟩, hl, by omega, fun x hx => ?_⟩
    obtain ⟨i, hi⟩ := List.mem_iff_getElem?.1 hx
    exact (hq i x hi).2
set_option maxRecDepth 100000 in
open Go.Proofs.Ytfkidiagmekleaa.QAll Go.Proofs.YtfkidiagmekleaaW.PrintWords in
theorem open_S50 {v : Value} {d : DataW H} {p : List MemPlace} {r : Reach} {b0 : Nat} (hv : Value.okWide Try.prog W r b0 50 v) (h : DataW.Trod enc Try.prog W base sp held 50 v d p) :
    ∃ (A0 : Option Addr) (c0 : Nat) (l0 : List (S75)) (A1 : Option Addr) (c1 : Nat) (l1 : List (S124)) (a2 : Int) (a3 : Int), v = .agg #[.slice A0 l0.length c0, .slice A1 l1.length c1, .int .i64 a2, .int .i64 a3] ∧ (Kd.C k75 W A0 l0.length l0) ∧ l0.length ≤ c0 ∧ l0.length ≤ maxLen ∧ (∀ x ∈ l0, (Lit.int .i64 x.f0).wf = true ∧ (Lit.int .i64 x.f1).wf = true ∧ (Lit.int .i64 x.f2).wf = true ∧ (Lit.int .i64 x.f3).wf = true ∧ (Lit.int .i64 x.f4).wf = true ∧ (Lit.int .i64 x.f5).wf = true ∧ (Lit.int .i64 x.f6).wf = true ∧ (Lit.int .i64 x.f7).wf = true ∧ (Lit.int .i64 x.f8).wf = true ∧ (Lit.int .i64 x.f9).wf = true ∧ (Lit.int .i64 x.f10).wf = true) ∧ (Kd.C k124 W A1 l1.length l1) ∧ l1.length ≤ c1 ∧ l1.length ≤ maxLen ∧ (∀ x ∈ l1, (Lit.int .i64 x.f0).wf = true ∧ (Lit.int .i64 x.f1).wf = true) ∧ (Lit.int .i64 a2).wf = true ∧ (Lit.int .i64 a3).wf = true := by
  obtain ⟨l, n, rfl, hl, hj⟩ := open_agg_n Try.underlying50 (by kernel_rfl) (by kernel_rfl) hv h
  match l, hl.trans (show _ = 4 from rfl) with
  | [c0, c1, c2, c3], _ =>
    obtain ⟨x0, y0, hc0, ht0⟩ := hj 0 _ rfl
    cases hc0
    obtain ⟨A0, k0, l0, e0, hr0, hk0, hm0, hw0⟩ := open_row75_47 ht0
    cases e0
    obtain ⟨x1, y1, hc1, ht1⟩ := hj 1 _ rfl
    cases hc1
    obtain ⟨A1, k1, l1, e1, hr1, hk1, hm1, hw1⟩ := open_row124_48 ht1
    cases e1
    obtain ⟨x2, y2, hc2, ht2⟩ := hj 2 _ rfl
    cases hc2
    obtain ⟨a2, e2, _, w2⟩ := DataW.trod_int Try.underlying3 ht2
    cases e2
    obtain ⟨x3, y3, hc3, ht3⟩ := hj 3 _ rfl
    cases hc3
    obtain ⟨a3, e3, _, w3⟩ := DataW.trod_int Try.underlying3 ht3
    cases e3
    exact ⟨A0, k0, l0, A1, k1, l1, a2, a3, rfl, hr0, hk0, hm0, hw0, hr1, hk1, hm1, hw1, w2, w3⟩
set_option maxRecDepth 100000 in
open Go.Proofs.Ytfkidiagmekleaa.QAll Go.Proofs.YtfkidiagmekleaaW.PrintWords in
theorem open_S75 {v : Value} {d : DataW H} {p : List MemPlace} {r : Reach} {b0 : Nat} (hv : Value.okWide Try.prog W r b0 75 v) (h : DataW.Trod enc Try.prog W base sp held 75 v d p) :
    ∃ (a0 : Int) (a1 : Int) (a2 : Int) (a3 : Int) (a4 : Int) (a5 : Int) (a6 : Int) (a7 : Int) (a8 : Int) (a9 : Int) (a10 : Int) (a11 : Bool) (a12 : Bool), v = .agg #[.int .i64 a0, .int .i64 a1, .int .i64 a2, .int .i64 a3, .int .i64 a4, .int .i64 a5, .int .i64 a6, .int .i64 a7, .int .i64 a8, .int .i64 a9, .int .i64 a10, .bool a11, .bool a12] ∧ (Lit.int .i64 a0).wf = true ∧ (Lit.int .i64 a1).wf = true ∧ (Lit.int .i64 a2).wf = true ∧ (Lit.int .i64 a3).wf = true ∧ (Lit.int .i64 a4).wf = true ∧ (Lit.int .i64 a5).wf = true ∧ (Lit.int .i64 a6).wf = true ∧ (Lit.int .i64 a7).wf = true ∧ (Lit.int .i64 a8).wf = true ∧ (Lit.int .i64 a9).wf = true ∧ (Lit.int .i64 a10).wf = true := by
  obtain ⟨l, n, rfl, hl, hj⟩ := open_agg_n Try.underlying75 (by kernel_rfl) (by kernel_rfl) hv h
  match l, hl.trans (show _ = 13 from rfl) with
  | [c0, c1, c2, c3, c4, c5, c6, c7, c8, c9, c10, c11, c12], _ =>
    obtain ⟨x0, y0, hc0, ht0⟩ := hj 0 _ rfl
    cases hc0
    obtain ⟨a0, e0, _, w0⟩ := DataW.trod_int Try.underlying3 ht0
    cases e0
    obtain ⟨x1, y1, hc1, ht1⟩ := hj 1 _ rfl
    cases hc1
    obtain ⟨a1, e1, _, w1⟩ := DataW.trod_int Try.underlying3 ht1
    cases e1
    obtain ⟨x2, y2, hc2, ht2⟩ := hj 2 _ rfl
    cases hc2
    obtain ⟨a2, e2, _, w2⟩ := DataW.trod_int Try.underlying3 ht2
    cases e2
    obtain ⟨x3, y3, hc3, ht3⟩ := hj 3 _ rfl
    cases hc3
    obtain ⟨a3, e3, _, w3⟩ := DataW.trod_int Try.underlying3 ht3
    cases e3
    obtain ⟨x4, y4, hc4, ht4⟩ := hj 4 _ rfl
    cases hc4
    obtain ⟨a4, e4, _, w4⟩ := DataW.trod_int Try.underlying3 ht4
    cases e4
    obtain ⟨x5, y5, hc5, ht5⟩ := hj 5 _ rfl
    cases hc5
    obtain ⟨a5, e5, _, w5⟩ := DataW.trod_int Try.underlying3 ht5
    cases e5
    obtain ⟨x6, y6, hc6, ht6⟩ := hj 6 _ rfl
    cases hc6
    obtain ⟨a6, e6, _, w6⟩ := DataW.trod_int Try.underlying3 ht6
    cases e6
    obtain ⟨x7, y7, hc7, ht7⟩ := hj 7 _ rfl
    cases hc7
    obtain ⟨a7, e7, _, w7⟩ := DataW.trod_int Try.underlying3 ht7
    cases e7
    obtain ⟨x8, y8, hc8, ht8⟩ := hj 8 _ rfl
    cases hc8
    obtain ⟨a8, e8, _, w8⟩ := DataW.trod_int Try.underlying3 ht8
    cases e8
    obtain ⟨x9, y9, hc9, ht9⟩ := hj 9 _ rfl
    cases hc9
    obtain ⟨a9, e9, _, w9⟩ := DataW.trod_int Try.underlying3 ht9
    cases e9
    obtain ⟨x10, y10, hc10, ht10⟩ := hj 10 _ rfl
    cases hc10
    obtain ⟨a10, e10, _, w10⟩ := DataW.trod_int Try.underlying3 ht10
    cases e10
    obtain ⟨x11, y11, hc11, ht11⟩ := hj 11 _ rfl
    cases hc11
    obtain ⟨a11, e11, _⟩ := DataW.trod_bool Try.underlying4 ht11
    cases e11
    obtain ⟨x12, y12, hc12, ht12⟩ := hj 12 _ rfl
    cases hc12
    obtain ⟨a12, e12, _⟩ := DataW.trod_bool Try.underlying4 ht12
    cases e12
    exact ⟨a0, a1, a2, a3, a4, a5, a6, a7, a8, a9, a10, a11, a12, rfl, w0, w1, w2, w3, w4, w5, w6, w7, w8, w9, w10⟩
end
set_option maxRecDepth 100000 in
theorem lifted (os : Os) (started : os.Started) (H : Type) (enc : TypeId × Value → H) :
    ReturnsInHanded {} Try.checked os 8 .any (Rows.fnExactSetPieceSpec.pre6 enc Try.prog Try.f8 Rows.fnExactSetPieceRow.domain false) (Rows.fnExactSetPieceSpec.post enc Try.prog Try.f8 false true false false) := by
  refine returnsInHanded_of_change_sized (C := Try.checked) own started (by kernel_rfl) Try.func8
    (ChangeSpec.witness6 (enc := enc) (C := Try.checked) false ⟨#[], #[.agg #[.slice none 0 0, .slice none 0 0, .int .i64 0, .int .i64 0], .agg #[.int .i64 0, .int .i64 0, .int .i64 0, .int .i64 0, .int .i64 0, .int .i64 0, .int .i64 0, .int .i64 0, .int .i64 0, .int .i64 0, .int .i64 0, .bool false, .bool false]], []⟩ 8 (by kernel_rfl) (by kernel_rfl) (by kernel_rfl) (by kernel_rfl)) ?_
  intro W base args ds gs before hval0 hW hcnd hsz0 _
  have hsz : (DataW.weightsEach Try.prog (Try.f8.params.toList ++ Rows.fnExactSetPieceSpec.plain.varTypes Try.prog) (ds ++ gs)).all (· ≤ reachBytes) = true := hsz0
  have hval : ∀ (j : Nat) t v, Try.f8.params[j]? = some t → args[j]? = some v → Value.okWide Try.prog W .any base t v := hval0
  have hW' := hW
  obtain ⟨p, q, hA0, hV, rfl, hfz, hnd⟩ := hW
  have hA : DataW.TrodAll enc Try.prog W 0 (fun _ => true) true Try.f8.params.toList args.toList ds p := hA0
  rw [Try.params8] at hA hval hsz
  obtain ⟨v0, vs0, d0, ds0, p0, q0, hargs, rfl, rfl, h0, r0⟩ := trodAll_cons hA
  obtain ⟨v1, vs1, d1, ds1, p1, q1, rfl, rfl, rfl, h1, r1⟩ := trodAll_cons r0
  obtain ⟨rfl, rfl, rfl⟩ := trodAll_nil r1
  obtain rfl : args = #[v0, v1] := by cases args; simp_all
  obtain ⟨rfl, rfl⟩ := trodVars_none hV
  have k0 := h0
  have lt0 : ∀ x ∈ p0, x.block < W.heap.size := by obtain ⟨m, hm⟩ := k0; exact DataW.trod_lt m _ _ _ hm
  obtain ⟨A0_0, c0_0, l0_0, A0_1, c0_1, l0_1, a0_2, a0_3, rfl, hr0_0, hc0_0, hm0_0, hw0_0, hr0_1, hc0_1, hm0_1, hw0_1, w0_2, w0_3⟩ := open_S50 (hval 0 50 v0 rfl rfl) h0
  have k1 := h1
  have lt1 : ∀ x ∈ p1, x.block < W.heap.size := by obtain ⟨m, hm⟩ := k1; exact DataW.trod_lt m _ _ _ hm
  obtain ⟨a1_0, a1_1, a1_2, a1_3, a1_4, a1_5, a1_6, a1_7, a1_8, a1_9, a1_10, a1_11, a1_12, rfl, w1_0, w1_1, w1_2, w1_3, w1_4, w1_5, w1_6, w1_7, w1_8, w1_9, w1_10⟩ := open_S75 (hval 1 75 v1 rfl rfl) h1
  clear hA0 hval0 hsz0 hsz
  refine (QAll.laws_FnExactSetPiece.walk Pure.FnExactSetPiece A0_0 c0_0 l0_0 A0_1 c0_1 l0_1 a0_2 a0_3 a1_0 a1_1 a1_2 a1_3 a1_4 a1_5 a1_6 a1_7 a1_8 a1_9 a1_10 a1_11 a1_12 W hr0_0 hc0_0 hm0_0 hw0_0 hr0_1 hc0_1 hm0_1 hw0_1 w0_2 w0_3 w1_0 w1_1 w1_2 w1_3 w1_4 w1_5 w1_6 w1_7 w1_8 w1_9 w1_10).mono fun e W' ⟨he, bel⟩ => ?_
  subst he
  exact ⟨_, rfl, _, _, _, [], _, [], hW', trodAll_mk1 (shut_bool Try.underlying4 _), (trodAll_cons_mk (Below.trod laidOut (by kernel_rfl) (of_decide_eq_true (by kernel_rfl)) k0 bel lt0) (trodAll_cons_mk (Below.trod laidOut (by kernel_rfl) (of_decide_eq_true (by kernel_rfl)) k1 bel lt1) trodAll_mk0)), rfl, bel.frame _, fun h => by cases h⟩
theorem over : Rows.fnExactSetPieceRow.holds Try.pinned (OpenSpec.ofChange Rows.fnExactSetPieceSpec) :=
  OpenClaim.holds_of_wide 8 Try.f8 rfl rfl rfl rfl rfl rfl rfl ⟨rfl, rfl, rfl, rfl, rfl⟩ rfl rfl rfl rfl rfl (by kernel_rfl) Try.func8 (by kernel_rfl)
    (of_decide_eq_true (by kernel_rfl)) (by unfold Func.isWrapper; first | (rw [if_pos (by decide +kernel)]; kernel_rfl) | (rw [if_neg (by decide +kernel)]; exact ⟨rfl, rfl⟩))
    (fun os started H enc _ => lifted os started H enc)
theorem proved : Rows.FnExactSetPieceSaid := over
#print axioms proved
end Go.Proofs.Ytfkidiagmekleaa.fnExactSetPiece
namespace Go.Proofs.Ytfkidiagmekleaa
/-- The row, under a short name, for the claim. -/
theorem fnExactSetPiece_holds : Rows.FnExactSetPieceSaid := fnExactSetPiece.proved
end Go.Proofs.Ytfkidiagmekleaa
