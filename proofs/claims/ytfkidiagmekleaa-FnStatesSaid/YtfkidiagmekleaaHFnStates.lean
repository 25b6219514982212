/- The law FnStates, walked by hand: whichever states are drawn, the law answers true. -/
import Derived.Test.YtfkidiagmekleaaHStP
namespace Go.Proofs.Ytfkidiagmekleaa.QAll
open Go.RowKit Go.Proofs.YtfkidiagmekleaaW.PrintWords Go.Proofs.YtfkidiagmekleaaW.PrintLast Go.Proofs.YtfkidiagmekleaaW.PrintMore
set_option linter.unusedVariables false
set_option linter.unusedSimpArgs false
/-- A state lies in the block g. -/
structure Bx (B : Nat) (W : World) (g : Nat) (A : Option Addr) (ca : Nat) (ps : List S25) (A' : Option Addr) (cb : Nat) (ss : List S71) (n m : Nat) (a c : Int) : Prop where
  l : B ≤ g
  b : W.heap[g]? = some (.cells #[.slice A n ca, .slice A' m cb, .int .i64 a, .int .i64 c] 56 (0, 0))
  en : n = ps.length
  em : m = ss.length
  rp : Kd.R k25 25 W B (fun _ => True) (.slice A n ca) ps
  rs : Kd.R k71 71 W B (fun _ => True) (.slice A' m cb) ss
namespace Bx
variable {B : Nat} {W W1 : World} {g : Nat} {A : Option Addr} {ca : Nat} {ps : List S25} {A' : Option Addr} {cb : Nat} {ss : List S71} {n m : Nat} {a c : Int}
theorem below (h : Bx B W g A ca ps A' cb ss n m a c) (hb : Below W.heap.size W W1) : Bx B W1 g A ca ps A' cb ss n m a c := ⟨h.l, blk_below h.b hb, h.en, h.em, Kd.R_below h.rp hb, Kd.R_below h.rs hb⟩
theorem put (h : Bx B W g A ca ps A' cb ss n m a c) {g' : Nat} {o : Array Value} (ho : W.heap[g']? = some (.cells o 56 (0, 0))) (hg : W.grownBy W1 (some g')) (hne : g ≠ g') : Bx B W1 g A ca ps A' cb ss n m a c := ⟨h.l, blk_step hg hne h.b, h.en, h.em, R_box h.rp ho (by decide) hg, R_box h.rs ho (by decide) hg⟩
theorem lt (h : Bx B W g A ca ps A' cb ss n m a c) : g < W.heap.size := blk_lt h.b
theorem cp (h : Bx B W g A ca ps A' cb ss n m a c) : Kd.C k25 W A ps.length ps ∧ ps.length ≤ ca := by
  have := h.rp
  have e := h.en
  subst e
  exact ⟨(Kd.R_reads' this).2.2, (Kd.R_reads' this).2.1⟩
theorem cs (h : Bx B W g A ca ps A' cb ss n m a c) : Kd.C k71 W A' ss.length ss ∧ ss.length ≤ cb := by
  have := h.rs
  have e := h.em
  subst e
  exact ⟨(Kd.R_reads' this).2.2, (Kd.R_reads' this).2.1⟩
theorem cells (h : Bx B W g A ca ps A' cb ss n m a c) : W.cell? ⟨g, 0, none⟩ = some (.slice A n ca) ∧ W.cell? ⟨g, 1, none⟩ = some (.slice A' m cb) ∧ W.cell? ⟨g, 2, none⟩ = some (.int .i64 a) ∧ W.cell? ⟨g, 3, none⟩ = some (.int .i64 c) := cells4 h.b
end Bx
/-- A state handed back, its rows' lengths as letters. -/
def Own (B : Nat) (W : World) (A : Option Addr) (ca : Nat) (ps : List S25) (A' : Option Addr) (cb : Nat) (ss : List S71) (n m : Nat) : Prop := n = ps.length ∧ m = ss.length ∧ Kd.R k25 25 W B (fun _ => True) (.slice A n ca) ps ∧ Kd.R k71 71 W B (fun _ => True) (.slice A' m cb) ss
theorem own_of {B : Nat} {w' : World} {v : Value} {ps : List S25} {ss : List S71} {a c : Int} (h : Sv B w' v ps ss a c) : ∃ A ca A' cb n m, v = .agg #[.slice A n ca, .slice A' m cb, .int .i64 a, .int .i64 c] ∧ Own B w' A ca ps A' cb ss n m := by
  obtain ⟨A, ca, A', cb, e, h0, h1⟩ := h
  exact ⟨A, ca, A', cb, _, _, e, rfl, rfl, h0, h1⟩
theorem Own.low {B B' : Nat} {W : World} {A : Option Addr} {ca : Nat} {ps : List S25} {A' : Option Addr} {cb : Nat} {ss : List S71} {n m : Nat} (h : Own B W A ca ps A' cb ss n m) (hb : B' ≤ B) : Own B' W A ca ps A' cb ss n m := ⟨h.1, h.2.1, Kd.R_lower h.2.2.1 hb, Kd.R_lower h.2.2.2 hb⟩
theorem Own.below {B : Nat} {W W1 : World} {A : Option Addr} {ca : Nat} {ps : List S25} {A' : Option Addr} {cb : Nat} {ss : List S71} {n m : Nat} (h : Own B W A ca ps A' cb ss n m) (hb : Below W.heap.size W W1) : Own B W1 A ca ps A' cb ss n m := ⟨h.1, h.2.1, Kd.R_below h.2.2.1 hb, Kd.R_below h.2.2.2 hb⟩
theorem Own.put {B : Nat} {W W1 : World} {A : Option Addr} {ca : Nat} {ps : List S25} {A' : Option Addr} {cb : Nat} {ss : List S71} {n m : Nat} (h : Own B W A ca ps A' cb ss n m) {g' : Nat} {o : Array Value} (ho : W.heap[g']? = some (.cells o 56 (0, 0))) (hg : W.grownBy W1 (some g')) : Own B W1 A ca ps A' cb ss n m := ⟨h.1, h.2.1, R_box h.2.2.1 ho (by decide) hg, R_box h.2.2.2 ho (by decide) hg⟩
theorem Own.box {B : Nat} {W W1 : World} {A : Option Addr} {ca : Nat} {ps : List S25} {A' : Option Addr} {cb : Nat} {ss : List S71} {n m : Nat} (h : Own B W A ca ps A' cb ss n m) {g' : Nat} {o : Array Value} {a c : Int} (ho : W.heap[g']? = some (.cells o 56 (0, 0))) (hg : W.grownBy W1 (some g')) (hl : B ≤ g') (hb : W1.heap[g']? = some (.cells #[.slice A n ca, .slice A' m cb, .int .i64 a, .int .i64 c] 56 (0, 0))) : Bx B W1 g' A ca ps A' cb ss n m a c := ⟨hl, hb, h.1, h.2.1, (h.put ho hg).2.2.1, (h.put ho hg).2.2.2⟩
theorem Own.cp {B : Nat} {W : World} {A : Option Addr} {ca : Nat} {ps : List S25} {A' : Option Addr} {cb : Nat} {ss : List S71} {n m : Nat} (h : Own B W A ca ps A' cb ss n m) : n = ps.length ∧ m = ss.length ∧ Kd.C k25 W A ps.length ps ∧ ps.length ≤ ca ∧ Kd.C k71 W A' ss.length ss ∧ ss.length ≤ cb := by
  obtain ⟨rfl, rfl, h0, h1⟩ := h
  exact ⟨rfl, rfl, (Kd.R_reads' h0).2.2, (Kd.R_reads' h0).2.1, (Kd.R_reads' h1).2.2, (Kd.R_reads' h1).2.1⟩
theorem stateNew_x (n : Int) (w : World) : Calls Try.prog 43 #[.int .i64 n] w fun e w' => ∃ (A : Option Addr) (ca g cb m : Nat) (ss : List S71), e = .returned (.agg #[.slice A 0 ca, .slice (some ⟨g, 0, none⟩) m cb, .int .i64 0, .int .i64 0]) ∧ Own w.heap.size w' A ca [] (some ⟨g, 0, none⟩) cb ss 0 m ∧ (stOk [] ss 0 0 = true ∧ (rd_T71 ss 0).f0 = 20) ∧ ((n = 3 ∧ m = 3) ∨ (n ≠ 3 ∧ m = 2)) ∧ Below w.heap.size w w' := by
  obtain ⟨ss, hf, hok, h1, h2, h3⟩ := stateNew_f n
  refine (impl_StateNew.calls 30 n _ _ _ _ w hf).mono ?_
  rintro e w' ⟨v0, v1, rfl, h0, hs, hb⟩
  obtain ⟨A, ca, rfl⟩ := Kd.R_slice h0
  obtain ⟨g, cb, rfl, -⟩ := Kd.R_form hs (by simp)
  refine ⟨A, ca, g, cb, _, _, rfl, ⟨rfl, rfl, h0, hs⟩, ⟨hok, rfl⟩, ?_, hb⟩
  by_cases h : n = 3
  · exact .inl ⟨h, by have := h3 h; simp [this]⟩
  · refine .inr ⟨h, ?_⟩
    have h4 : ss.length = 1 := by
      obtain ⟨ss', hf', e'⟩ : ∃ ss', impl_StateNew.f 30 n = some ([], ss', 0, 0) ∧ ss'.length = 2 := ⟨[⟨20, 0, false⟩, ⟨20, 0, false⟩], by unfold impl_StateNew.f; rw [if_neg h]; kernel_rfl, rfl⟩
      rw [hf'] at hf
      have := (Prod.mk.inj (Prod.mk.inj (Option.some.inj hf)).2).1
      rw [this] at e'
      simpa using e'
    simp [h4]
theorem same_x (A : Option Addr) (ca : Nat) (ps : List S25) (A' : Option Addr) (cb : Nat) (ss : List S71) (a c : Int) (D : Option Addr) (da : Nat) (qs : List S25) (D' : Option Addr) (db : Nat) (ts : List S71) (a' c' : Int) (n m n' m' : Nat) (B B' : Nat) (W : World) (g g' : Nat) (hx : Bx B W g A ca ps A' cb ss n m a c) (hy : Bx B' W g' D da qs D' db ts n' m' a' c') (r : Bool) :
    (impl_SameState.f 40 ps ss a c qs ts a' c' = some r → Calls Try.prog 46 #[.agg #[.slice A n ca, .slice A' m cb, .int .i64 a, .int .i64 c], .agg #[.slice D n' da, .slice D' m' db, .int .i64 a', .int .i64 c']] W fun e w' => e = .returned (.bool r) ∧ Below W.heap.size W w') ∧
    (spec_SameState.f 40 ps ss a c qs ts a' c' = some r → Calls Try.prog 47 #[.agg #[.slice A n ca, .slice A' m cb, .int .i64 a, .int .i64 c], .agg #[.slice D n' da, .slice D' m' db, .int .i64 a', .int .i64 c']] W fun e w' => e = .returned (.bool r) ∧ Below W.heap.size W w') := by
  have h1 := hx.cp
  have h2 := hx.cs
  have h3 := hy.cp
  have h4 := hy.cs
  rw [hx.en, hx.em, hy.en, hy.em]
  exact ⟨impl_SameState.calls 40 _ _ ps _ _ ss a c _ _ qs _ _ ts a' c' r W h1.1 h1.2 h2.1 h2.2 h3.1 h3.2 h4.1 h4.2, spec_SameState.calls 40 _ _ ps _ _ ss a c _ _ qs _ _ ts a' c' r W h1.1 h1.2 h2.1 h2.2 h3.1 h3.2 h4.1 h4.2⟩
theorem ok_x {A : Option Addr} {ca : Nat} {ps : List S25} {A' : Option Addr} {cb : Nat} {ss : List S71} {a c : Int} {n m : Nat} {W : World} (hx : n = ps.length ∧ m = ss.length ∧ Kd.C k25 W A ps.length ps ∧ ps.length ≤ ca ∧ Kd.C k71 W A' ss.length ss ∧ ss.length ≤ cb) {r : Bool} (hr : stOk ps ss a c = r) :
    (Calls Try.prog 38 #[.agg #[.slice A n ca, .slice A' m cb, .int .i64 a, .int .i64 c]] W fun e w' => e = .returned (.bool r) ∧ Below W.heap.size W w') ∧ (Calls Try.prog 36 #[.agg #[.slice A n ca, .slice A' m cb, .int .i64 a, .int .i64 c]] W fun e w' => e = .returned (.bool r) ∧ Below W.heap.size W w') := by
  obtain ⟨rfl, rfl, h1, h2, h3, h4⟩ := hx
  exact ⟨impl_StateOk.calls 1 _ _ ps _ _ ss a c r W h1 h2 h3 h4 (congrArg some hr), spec_StateOk.calls 1 _ _ ps _ _ ss a c r W h1 h2 h3 h4 (congrArg some hr)⟩
theorem Bx.all {B : Nat} {W : World} {g : Nat} {A : Option Addr} {ca : Nat} {ps : List S25} {A' : Option Addr} {cb : Nat} {ss : List S71} {n m : Nat} {a c : Int} (h : Bx B W g A ca ps A' cb ss n m a c) : n = ps.length ∧ m = ss.length ∧ Kd.C k25 W A ps.length ps ∧ ps.length ≤ ca ∧ Kd.C k71 W A' ss.length ss ∧ ss.length ≤ cb := ⟨h.en, h.em, h.cp.1, h.cp.2, h.cs.1, h.cs.2⟩
theorem on_x {A : Option Addr} {ca : Nat} {ps : List S25} {A' : Option Addr} {cb : Nat} {ss : List S71} {a c : Int} {n m : Nat} {B : Nat} {W : World} {g : Nat} (hx : Bx B W g A ca ps A' cb ss n m a c) (hs : isSmall ps ss) (side : Int) :
    (Calls Try.prog 45 #[.agg #[.slice A n ca, .slice A' m cb, .int .i64 a, .int .i64 c], .int .i64 side] W fun e w' => ∃ (D : Option Addr) (d : Nat), e = .returned (.slice D (onf side ps).length d) ∧ Kd.R (Kd.int .i64) 3 w' W.heap.size (fun _ => True) (.slice D (onf side ps).length d) (onf side ps) ∧ Below W.heap.size W w') ∧
    (Calls Try.prog 49 #[.agg #[.slice A n ca, .slice A' m cb, .int .i64 a, .int .i64 c], .int .i64 side] W fun e w' => ∃ (D : Option Addr) (d : Nat), e = .returned (.slice D (onf side ps).length d) ∧ Kd.R (Kd.int .i64) 3 w' W.heap.size (fun _ => True) (.slice D (onf side ps).length d) (onf side ps) ∧ Below W.heap.size W w') := by
  obtain ⟨e1, e2, h1, h2, h3, h4⟩ := hx.all
  subst e1
  subst e2
  have hl := hs.1
  refine ⟨(impl_OnField.calls 40 _ _ ps _ _ ss a c side _ W h1 h2 h3 h4 (impl_of 40 ps ss a c side (by omega) (by omega))).mono ?_, (spec_OnField.calls 40 _ _ ps _ _ ss a c side _ W h1 h2 h3 h4 (spec_of 40 ps ss a c side (by omega) (by omega))).mono ?_⟩ <;>
  · rintro e w' ⟨v, rfl, hr, hb⟩
    obtain ⟨D, d, rfl⟩ := Kd.R_slice hr
    exact ⟨D, d, rfl, hr, hb⟩
def MKs (k : Nat) : Array Bool := ((List.range 28).map fun j => k.testBit j).toArray
def laws_FnStates.T9 : Bool × List (List Nat × List Nat) := (true, [([], []), ([0], [0]), ([], []), ([2, 1], [2]), ([1, 3], [1, 3]), ([4, 3], [4]), ([5], [5]), ([5], [5]), ([6, 7, 5, 5], [5, 6, 7]), ([5], [5]), ([5], [5]), ([9, 10, 8, 5], [5, 9, 10]), ([8, 11, 5], [5, 8, 11]), ([5, 12], [5, 12]), ([13, 11], [13]), ([14], [14]), ([14], [14]), ([15, 16, 14, 14], [14, 15, 16]), ([17, 14], [14, 17]), ([14, 18], [14, 18]), ([19, 17], [19]), ([20], [20]), ([20], [20]), ([20], [20]), ([22, 23, 20, 20], [20, 22, 23]), ([21, 24, 24, 20], [20, 21, 24]), ([25, 20], [20, 25]), ([20, 26], [20, 26])])
def laws_FnStates.B9 : List Nat := [0, 1, 0, 7, 15, 31, 63, 63, 255, 63, 63, 2047, 4095, 8191, 16383, 32767, 32767, 131071, 262143, 524287, 1048575, 2097151, 2097151, 2097151, 14680063, 33554431, 67108863, 134217727]
theorem laws_FnStates.tab9 : rtab .any (opsOf Try.f6 9) = laws_FnStates.T9 := by kernel_rfl
theorem laws_FnStates.bits9 : waitsOk laws_FnStates.T9.2 laws_FnStates.B9 = true := by kernel_rfl
set_option maxHeartbeats 16000000 in
set_option maxRecDepth 100000 in
theorem law_states (A : Option Addr) (k : Nat) (b : List Int) (w : World) (hr : Kd.C (Kd.int .u8) w A b.length b) (hc : b.length ≤ k) :
    Calls Try.prog 6 #[.slice A b.length k] w fun e w' => e = .returned (.bool true) ∧ Below w.heap.size w w' := by
  have hu56 := Try.underlying56
  have HR := Aside0.mk hr
  have HC := Aside0.mk hc
  clear hr hc
  by_cases hbig : (b.length : Int) > 1048576
  · have HF := Aside0.mk (show laws_big.f b = some true by unfold laws_big.f; rw [decide_eq_true hbig])
    clear hbig
    go_enter Try.func6, Try.ntmps6
    go_wp2_with (go_at_call 12; ((with_reducible refine (laws_big.calls A k b true _ HR.out HC.out HF.out).mono ?_); rintro e w1 ⟨rfl, hd⟩; have HBEL := Aside0.mk hd.below; clear hd))
    go_ret
    exact ⟨rfl, HBEL.out⟩
  have HS0 := Aside0.mk (show b.length ≤ 1048576 by omega)
  have HF := Aside0.mk (show laws_big.f b = some false by unfold laws_big.f; rw [decide_eq_false hbig])
  clear hbig
  go_enter Try.func6, Try.ntmps6
  go_wp2_with (go_at_call 12; ((with_reducible refine (laws_big.calls A k b false _ HR.out HC.out HF.out).mono ?_); rintro e w1 ⟨rfl, hd⟩; have HBEL := Aside0.mk hd.below; clear hd HF))
  go_wp2_with (first
    | (go_at_call 40; (with_reducible refine (drawStateOk_ex A k b _ (Kd.C_below HR.out HBEL.out) HC.out HS0.out).mono ?_); rintro e W1 ⟨v, ps, ss, xs, ys, rfl, hsv, hsm, hb⟩; obtain ⟨As, cs, Bs, ds, ns, ms, rfl, hws⟩ := own_of hsv; have LOW := Aside0.mk HBEL.out.size; have HBEL_1 := Aside0.mk (Below.trans' HBEL.out hb); clear HBEL; have Os_2 := Aside0.mk (hws.low LOW.out); have SM := Aside0.mk hsm; clear hsv hws hb hsm LOW)
    | ((with_reducible refine gate_dst (N := 3) rfl ?_); refine box_event (N := 3) rfl rfl (cs := #[.slice none 0 0, .slice none 0 0, .int .i64 0, .int .i64 0]) (t := 56) ?hr ?_; (case hr => first | (go_simp; done) | (go_simp; rfl)); intro g3 hg2 W2 hb2 hb; have L3 := Aside0.mk (show w.heap.size ≤ g3 by rw [hg2]; exact HBEL_1.out.size); have HBEL_3 := Aside0.mk (Below.trans' HBEL_1.out hb); have Os_4 := Aside0.mk (Os_2.out.below hb); clear HBEL_1 Os_2; have Z3_5 := Aside0.mk hb2; clear hg2 hb2 hb)
    | ((with_reducible refine gate_store (t := 56) (p := 3) (v := .tmp 14) rfl ?_); refine put_event rfl rfl rfl 56 g3 0 _ #[.slice As ns cs, .slice Bs ms ds, .int .i64 xs, .int .i64 ys] (.agg #[.slice As ns cs, .slice Bs ms ds, .int .i64 xs, .int .i64 ys]) [.slice As ns cs, .slice Bs ms ds, .int .i64 xs, .int .i64 ys] rfl rfl Z3_5.out rfl (by kernel_rfl) (by simp) (by simp [Value.oneCell']) rfl ?_; intro W3 hb1 hg1; have HBEL_6 := Aside0.mk (below_put hg1 L3.out HBEL_3.out.size HBEL_3.out); have HS_7 := Aside0.mk (Os_4.out.box Z3_5.out hg1 L3.out hb1); clear HBEL_3 Z3_5 Os_4 hb1 hg1)
    | (go_at_call 41; (with_reducible refine (drawSameState_ex A k b _ (Kd.C_below HR.out HBEL_6.out) HC.out HS0.out).mono ?_); rintro e W4 ⟨v, v', pa, sa, xa, ya, pb, sb, xb, yb, rfl, hsv, hsv2, hsm, hsm2, hb⟩; obtain ⟨Aa, ca, Ba, da, na, ma, rfl, hwa⟩ := own_of hsv; obtain ⟨Ab, cb, Bb, db, nb, mb, rfl, hwb⟩ := own_of hsv2; have LOW := Aside0.mk HBEL_6.out.size; have HBEL_8 := Aside0.mk (Below.trans' HBEL_6.out hb); have HS_9 := Aside0.mk (HS_7.out.below hb); clear HBEL_6 HS_7; have Oa_10 := Aside0.mk (hwa.low LOW.out); have Ob_11 := Aside0.mk (hwb.low LOW.out); have SMa := Aside0.mk hsm; have SMb := Aside0.mk hsm2; clear hsv hsv2 hwa hwb hb hsm hsm2 LOW)
    | ((with_reducible refine gate_dst (N := 4) rfl ?_); refine box_event (N := 4) rfl rfl (cs := #[.slice none 0 0, .slice none 0 0, .int .i64 0, .int .i64 0]) (t := 56) ?hr ?_; (case hr => first | (go_simp; done) | (go_simp; rfl)); intro g4 hg2 W5 hb2 hb; have L4 := Aside0.mk (show w.heap.size ≤ g4 by rw [hg2]; exact HBEL_8.out.size); have NEHS_4 := Aside0.mk (show g3 ≠ g4 by have := HS_9.out.lt; omega); have HBEL_12 := Aside0.mk (Below.trans' HBEL_8.out hb); have HS_13 := Aside0.mk (HS_9.out.below hb); have Oa_14 := Aside0.mk (Oa_10.out.below hb); have Ob_15 := Aside0.mk (Ob_11.out.below hb); clear HBEL_8 HS_9 Oa_10 Ob_11; have Z4_16 := Aside0.mk hb2; clear hg2 hb2 hb)
    | ((with_reducible refine gate_dst (N := 5) rfl ?_); refine box_event (N := 5) rfl rfl (cs := #[.slice none 0 0, .slice none 0 0, .int .i64 0, .int .i64 0]) (t := 56) ?hr ?_; (case hr => first | (go_simp; done) | (go_simp; rfl)); intro g5 hg2 W6 hb2 hb; have L5 := Aside0.mk (show w.heap.size ≤ g5 by rw [hg2]; exact HBEL_12.out.size); have NEHS_5 := Aside0.mk (show g3 ≠ g5 by have := HS_13.out.lt; omega); have NEZ4_5 := Aside0.mk (show g4 ≠ g5 by have := blk_lt Z4_16.out; omega); have HBEL_17 := Aside0.mk (Below.trans' HBEL_12.out hb); have HS_18 := Aside0.mk (HS_13.out.below hb); have Oa_19 := Aside0.mk (Oa_14.out.below hb); have Ob_20 := Aside0.mk (Ob_15.out.below hb); have Z4_21 := Aside0.mk (blk_below Z4_16.out hb); clear HBEL_12 HS_13 Oa_14 Ob_15 Z4_16; have Z5_22 := Aside0.mk hb2; clear hg2 hb2 hb)
    | ((with_reducible refine gate_store (t := 56) (p := 4) (v := .tmp 18) rfl ?_); refine put_event rfl rfl rfl 56 g4 0 _ #[.slice Aa na ca, .slice Ba ma da, .int .i64 xa, .int .i64 ya] (.agg #[.slice Aa na ca, .slice Ba ma da, .int .i64 xa, .int .i64 ya]) [.slice Aa na ca, .slice Ba ma da, .int .i64 xa, .int .i64 ya] rfl rfl Z4_21.out rfl (by kernel_rfl) (by simp) (by simp [Value.oneCell']) rfl ?_; intro W7 hb1 hg1; have HBEL_23 := Aside0.mk (below_put hg1 L4.out HBEL_17.out.size HBEL_17.out); have HS_24 := Aside0.mk (HS_18.out.put Z4_21.out hg1 NEHS_4.out); have Ob_25 := Aside0.mk (Ob_20.out.put Z4_21.out hg1); have Z5_26 := Aside0.mk (blk_step hg1 (Ne.symm NEZ4_5.out) Z5_22.out); have HA_27 := Aside0.mk (Oa_19.out.box Z4_21.out hg1 L4.out hb1); clear HBEL_17 HS_18 Ob_20 Z5_22 Z4_21 Oa_19 hb1 hg1)
    | ((with_reducible refine gate_store (t := 56) (p := 5) (v := .tmp 19) rfl ?_); refine put_event rfl rfl rfl 56 g5 0 _ #[.slice Ab nb cb, .slice Bb mb db, .int .i64 xb, .int .i64 yb] (.agg #[.slice Ab nb cb, .slice Bb mb db, .int .i64 xb, .int .i64 yb]) [.slice Ab nb cb, .slice Bb mb db, .int .i64 xb, .int .i64 yb] rfl rfl Z5_26.out rfl (by kernel_rfl) (by simp) (by simp [Value.oneCell']) rfl ?_; intro W8 hb1 hg1; have HBEL_28 := Aside0.mk (below_put hg1 L5.out HBEL_23.out.size HBEL_23.out); have HS_29 := Aside0.mk (HS_24.out.put Z5_26.out hg1 NEHS_5.out); have HA_30 := Aside0.mk (HA_27.out.put Z5_26.out hg1 NEZ4_5.out); have HB_31 := Aside0.mk (Ob_25.out.box Z5_26.out hg1 L5.out hb1); clear HBEL_23 HS_24 HA_27 Z5_26 Ob_25 hb1 hg1)
    | (go_at_call 42; (with_reducible refine (drawStateNew_ex A k b _ (Kd.C_below HR.out HBEL_28.out) HC.out HS0.out).mono ?_); rintro e W9 ⟨nn, rfl, hv, hb⟩; have HBEL_32 := Aside0.mk (Below.trans' HBEL_28.out hb); have HS_33 := Aside0.mk (HS_29.out.below hb); have HA_34 := Aside0.mk (HA_30.out.below hb); have HB_35 := Aside0.mk (HB_31.out.below hb); clear HBEL_28 HS_29 HA_30 HB_31; clear hb hv)
    | (go_at_call 43; (with_reducible refine (stateNew_x nn _).mono ?_); rintro e W10 ⟨Ax, cx, gx, dx, mx, sx, rfl, hwx, hok, hm, hb⟩; have LOW := Aside0.mk HBEL_32.out.size; have HBEL_36 := Aside0.mk (Below.trans' HBEL_32.out hb); have HS_37 := Aside0.mk (HS_33.out.below hb); have HA_38 := Aside0.mk (HA_34.out.below hb); have HB_39 := Aside0.mk (HB_35.out.below hb); clear HBEL_32 HS_33 HA_34 HB_35; have Ox_40 := Aside0.mk (hwx.low LOW.out); have OKX := Aside0.mk hok; have HM := Aside0.mk hm; clear hb hwx hok hm LOW)
    | ((with_reducible refine gate_dst (N := 7) rfl ?_); refine box_event (N := 7) rfl rfl (cs := #[.slice none 0 0, .slice none 0 0, .int .i64 0, .int .i64 0]) (t := 56) ?hr ?_; (case hr => first | (go_simp; done) | (go_simp; rfl)); intro g7 hg2 W11 hb2 hb; have L7 := Aside0.mk (show w.heap.size ≤ g7 by rw [hg2]; exact HBEL_36.out.size); have NEHS_7 := Aside0.mk (show g3 ≠ g7 by have := HS_37.out.lt; omega); have NEHA_7 := Aside0.mk (show g4 ≠ g7 by have := HA_38.out.lt; omega); have NEHB_7 := Aside0.mk (show g5 ≠ g7 by have := HB_39.out.lt; omega); have HBEL_41 := Aside0.mk (Below.trans' HBEL_36.out hb); have HS_42 := Aside0.mk (HS_37.out.below hb); have HA_43 := Aside0.mk (HA_38.out.below hb); have HB_44 := Aside0.mk (HB_39.out.below hb); have Ox_45 := Aside0.mk (Ox_40.out.below hb); clear HBEL_36 HS_37 HA_38 HB_39 Ox_40; have Z7_46 := Aside0.mk hb2; clear hg2 hb2 hb)
    | ((with_reducible refine gate_store (t := 56) (p := 7) (v := .tmp 23) rfl ?_); refine put_event rfl rfl rfl 56 g7 0 _ #[.slice Ax 0 cx, .slice (some ⟨gx, 0, none⟩) mx dx, .int .i64 0, .int .i64 0] (.agg #[.slice Ax 0 cx, .slice (some ⟨gx, 0, none⟩) mx dx, .int .i64 0, .int .i64 0]) [.slice Ax 0 cx, .slice (some ⟨gx, 0, none⟩) mx dx, .int .i64 0, .int .i64 0] rfl rfl Z7_46.out rfl (by kernel_rfl) (by simp) (by simp [Value.oneCell']) rfl ?_; intro W12 hb1 hg1; have HBEL_47 := Aside0.mk (below_put hg1 L7.out HBEL_41.out.size HBEL_41.out); have HS_48 := Aside0.mk (HS_42.out.put Z7_46.out hg1 NEHS_7.out); have HA_49 := Aside0.mk (HA_43.out.put Z7_46.out hg1 NEHA_7.out); have HB_50 := Aside0.mk (HB_44.out.put Z7_46.out hg1 NEHB_7.out); have HX_51 := Aside0.mk (Ox_45.out.box Z7_46.out hg1 L7.out hb1); clear HBEL_41 HS_42 HA_43 HB_44 Z7_46 Ox_45 hb1 hg1)
    | (go_at_call 44; (with_reducible refine (drawOnField_ex A k b _ (Kd.C_below HR.out HBEL_47.out) HC.out HS0.out).mono ?_); rintro e W13 ⟨v, side, po, so, xo, yo, rfl, hsv, hsm, hv, hb⟩; obtain ⟨Ao, co, Bo, do_, no, mo, rfl, hwo⟩ := own_of hsv; have LOW := Aside0.mk HBEL_47.out.size; have HBEL_52 := Aside0.mk (Below.trans' HBEL_47.out hb); have HS_53 := Aside0.mk (HS_48.out.below hb); have HA_54 := Aside0.mk (HA_49.out.below hb); have HB_55 := Aside0.mk (HB_50.out.below hb); have HX_56 := Aside0.mk (HX_51.out.below hb); clear HBEL_47 HS_48 HA_49 HB_50 HX_51; have Oo_57 := Aside0.mk (hwo.low LOW.out); have SMo := Aside0.mk hsm; clear hsv hwo hb hsm hv LOW)
    | ((with_reducible refine gate_dst (N := 8) rfl ?_); refine box_event (N := 8) rfl rfl (cs := #[.slice none 0 0, .slice none 0 0, .int .i64 0, .int .i64 0]) (t := 56) ?hr ?_; (case hr => first | (go_simp; done) | (go_simp; rfl)); intro g8 hg2 W14 hb2 hb; have L8 := Aside0.mk (show w.heap.size ≤ g8 by rw [hg2]; exact HBEL_52.out.size); have NEHS_8 := Aside0.mk (show g3 ≠ g8 by have := HS_53.out.lt; omega); have NEHA_8 := Aside0.mk (show g4 ≠ g8 by have := HA_54.out.lt; omega); have NEHB_8 := Aside0.mk (show g5 ≠ g8 by have := HB_55.out.lt; omega); have NEHX_8 := Aside0.mk (show g7 ≠ g8 by have := HX_56.out.lt; omega); have HBEL_58 := Aside0.mk (Below.trans' HBEL_52.out hb); have HS_59 := Aside0.mk (HS_53.out.below hb); have HA_60 := Aside0.mk (HA_54.out.below hb); have HB_61 := Aside0.mk (HB_55.out.below hb); have HX_62 := Aside0.mk (HX_56.out.below hb); have Oo_63 := Aside0.mk (Oo_57.out.below hb); clear HBEL_52 HS_53 HA_54 HB_55 HX_56 Oo_57; have Z8_64 := Aside0.mk hb2; clear hg2 hb2 hb)
    | ((with_reducible refine gate_store (t := 56) (p := 8) (v := .tmp 27) rfl ?_); refine put_event rfl rfl rfl 56 g8 0 _ #[.slice Ao no co, .slice Bo mo do_, .int .i64 xo, .int .i64 yo] (.agg #[.slice Ao no co, .slice Bo mo do_, .int .i64 xo, .int .i64 yo]) [.slice Ao no co, .slice Bo mo do_, .int .i64 xo, .int .i64 yo] rfl rfl Z8_64.out rfl (by kernel_rfl) (by simp) (by simp [Value.oneCell']) rfl ?_; intro W15 hb1 hg1; have HBEL_65 := Aside0.mk (below_put hg1 L8.out HBEL_58.out.size HBEL_58.out); have HS_66 := Aside0.mk (HS_59.out.put Z8_64.out hg1 NEHS_8.out); have HA_67 := Aside0.mk (HA_60.out.put Z8_64.out hg1 NEHA_8.out); have HB_68 := Aside0.mk (HB_61.out.put Z8_64.out hg1 NEHB_8.out); have HX_69 := Aside0.mk (HX_62.out.put Z8_64.out hg1 NEHX_8.out); have HO_70 := Aside0.mk (Oo_63.out.box Z8_64.out hg1 L8.out hb1); clear HBEL_58 HS_59 HA_60 HB_61 HX_62 Z8_64 Oo_63 hb1 hg1; obtain ⟨o0, o1, o2, o3⟩ := HO_70.out.cells)
    | (go_at_call 45; (with_reducible refine ((on_x HO_70.out SMo.out side).1).mono ?_); rintro e W16 ⟨Al, cl, rfl, hr, hb⟩; have LOW := Aside0.mk HBEL_65.out.size; have HBEL_71 := Aside0.mk (Below.trans' HBEL_65.out hb); have HS_72 := Aside0.mk (HS_66.out.below hb); have HA_73 := Aside0.mk (HA_67.out.below hb); have HB_74 := Aside0.mk (HB_68.out.below hb); have HX_75 := Aside0.mk (HX_69.out.below hb); have HO_76 := Aside0.mk (HO_70.out.below hb); clear HBEL_65 HS_66 HA_67 HB_68 HX_69 HO_70; have HL_77 := Aside0.mk (Kd.R_lower hr LOW.out); clear hb hr LOW))
  obtain ⟨bs, hbs⟩ : ∃ q, stOk ps ss xs ys = q := ⟨_, rfl⟩
  obtain ⟨br, hb1, hb2⟩ := same_both 40 pa pb sa sb xa ya xb yb (by have := SMa.out.1; have := SMa.out.2; omega) (by have := SMa.out.1; omega) (by have := SMa.out.2; omega)
  have hb3 := same_self 40 ps ss xs ys (by have := SM.out.1; omega) (by have := SM.out.2; omega) (by have := SM.out.1; have := SM.out.2; omega)
  have lof := onf_length side po
  have lof2 := onf_length (-1) po
  have hb4 := sameInts_same 40 (onf side po) (by have := SMo.out.1; omega) (by have := SMo.out.1; omega)
  have hb5 := Aside0.mk (within_f 60 (onf side po) (onf (-1) po) (onf_all side po) (by have := SMo.out.1; omega) (by have := SMo.out.1; omega) (by have := SMo.out.1; omega))
  clear lof lof2
  have HBEL_78 := Aside0.mk (Below.trans' HBEL_71.out (below_drew (Below.refl _ _)))
  have HS_79 := Aside0.mk (HS_72.out.below (below_drew (Below.refl _ _)))
  have HA_80 := Aside0.mk (HA_73.out.below (below_drew (Below.refl _ _)))
  have HB_81 := Aside0.mk (HB_74.out.below (below_drew (Below.refl _ _)))
  have HX_82 := Aside0.mk (HX_75.out.below (below_drew (Below.refl _ _)))
  have HO_83 := Aside0.mk (HO_76.out.below (below_drew (Below.refl _ _)))
  have HL_84 := Aside0.mk (Kd.R_below HL_77.out (below_drew (Below.refl _ _)))
  clear HBEL_71 HS_72 HA_73 HB_74 HX_75 HO_76 HL_77
  refine start_ (n := 28) (S := fun w' => (w'.cell? ⟨g3, 0, none⟩ = some (.slice As ns cs) ∧ w'.cell? ⟨g3, 1, none⟩ = some (.slice Bs ms ds) ∧ w'.cell? ⟨g3, 2, none⟩ = some (.int .i64 xs) ∧ w'.cell? ⟨g3, 3, none⟩ = some (.int .i64 ys)) ∧ (w'.cell? ⟨g4, 0, none⟩ = some (.slice Aa na ca) ∧ w'.cell? ⟨g4, 1, none⟩ = some (.slice Ba ma da) ∧ w'.cell? ⟨g4, 2, none⟩ = some (.int .i64 xa) ∧ w'.cell? ⟨g4, 3, none⟩ = some (.int .i64 ya)) ∧ (w'.cell? ⟨g5, 0, none⟩ = some (.slice Ab nb cb) ∧ w'.cell? ⟨g5, 1, none⟩ = some (.slice Bb mb db) ∧ w'.cell? ⟨g5, 2, none⟩ = some (.int .i64 xb) ∧ w'.cell? ⟨g5, 3, none⟩ = some (.int .i64 yb)) ∧ (w'.cell? ⟨g8, 0, none⟩ = some (.slice Ao no co) ∧ w'.cell? ⟨g8, 1, none⟩ = some (.slice Bo mo do_) ∧ w'.cell? ⟨g8, 2, none⟩ = some (.int .i64 xo) ∧ w'.cell? ⟨g8, 3, none⟩ = some (.int .i64 yo))) (ds := []) #[false, false, false, false, false, false, false, false, false, false, false, false, false, false, false, false, false, false, false, false, false, false, false, false, false, false, false, false] (by kernel_rfl) rfl rfl ⟨HS_79.out.cells, HA_80.out.cells, HB_81.out.cells, HO_83.out.cells⟩ (fun hHeld => ?_); refine with_tabW laws_FnStates.tab9 laws_FnStates.bits9 (fun HT_ HW_ => ?_)
  generalize W16.drew = Y0 at HBEL_78 HS_79 HA_80 HB_81 HX_82 HO_83 HL_84 hHeld ⊢
  refine get_ (i := 0) (N := some 32) (MKs 1) hHeld rfl rfl (fun _ _ _ h => h) (take_ofW HT_.out HW_.out (by kernel_rfl)) (by rfl) (by rintro w' ⟨⟨s0, s1, s2, s3⟩, ⟨s4, s5, s6, s7⟩, ⟨s8, s9, s10, s11⟩, ⟨s12, s13, s14, s15⟩⟩; go_simp; with_reducible rfl) PUT_ ?_
  refine get_ (i := 2) (N := some 34) (MKs 5) hHeld rfl rfl (fun _ _ _ h => h) (take_ofW HT_.out HW_.out (by kernel_rfl)) (by rfl) (by rintro w' ⟨⟨s0, s1, s2, s3⟩, ⟨s4, s5, s6, s7⟩, ⟨s8, s9, s10, s11⟩, ⟨s12, s13, s14, s15⟩⟩; go_simp; with_reducible rfl) PUT_ ?_
  refine one_ (i := 1) (N := some 33) (MKs 7) rfl rfl (one_of HT_.out (by kernel_rfl)) (by decide) (fun K hK => ?_)
  refine goes_ Try.func38 (by kernel_rfl) rfl #[.agg #[.slice As ns cs, .slice Bs ms ds, .int .i64 xs, .int .i64 ys]] (by rfl) rfl rfl (by (try simp only [List.map_toArray, List.map_cons, List.map_nil]); first | done | rfl) ?_
  with_reducible refine ((ok_x HS_79.out.all hbs).1).mono ?_
  rintro e Y2 ⟨rfl, hb⟩
  refine ⟨_, rfl, ?_⟩
  have HBEL_85 := Aside0.mk (Below.trans' HBEL_78.out hb)
  have HS_86 := Aside0.mk (HS_79.out.below hb)
  have HA_87 := Aside0.mk (HA_80.out.below hb)
  have HB_88 := Aside0.mk (HB_81.out.below hb)
  have HX_89 := Aside0.mk (HX_82.out.below hb)
  have HO_90 := Aside0.mk (HO_83.out.below hb)
  have HL_91 := Aside0.mk (Kd.R_below HL_84.out hb)
  clear HBEL_78 HS_79 HA_80 HB_81 HX_82 HO_83 HL_84
  clear hb
  refine hK.out _ _ ⟨HS_86.out.cells, HA_87.out.cells, HB_88.out.cells, HO_90.out.cells⟩ (fun hHeld => ?_)
  clear hK K
  refine norm_ (a' := ?_) ?_ ?_
  rotate_left
  · show Act.put _ (some 33) _ = _
    simp only [Act.put, List.setIfInBounds_toArray, List.set_cons_zero, List.set_cons_succ, i64_w, i32_w]
    rfl
  refine one_ (i := 3) (N := some 35) (MKs 15) rfl rfl (one_of HT_.out (by kernel_rfl)) (by decide) (fun K hK => ?_)
  refine goes_ Try.func36 (by kernel_rfl) rfl #[.agg #[.slice As ns cs, .slice Bs ms ds, .int .i64 xs, .int .i64 ys]] (by rfl) rfl rfl (by (try simp only [List.map_toArray, List.map_cons, List.map_nil]); first | done | rfl) ?_
  with_reducible refine ((ok_x HS_86.out.all hbs).2).mono ?_
  rintro e Y4 ⟨rfl, hb⟩
  refine ⟨_, rfl, ?_⟩
  have HBEL_92 := Aside0.mk (Below.trans' HBEL_85.out hb)
  have HS_93 := Aside0.mk (HS_86.out.below hb)
  have HA_94 := Aside0.mk (HA_87.out.below hb)
  have HB_95 := Aside0.mk (HB_88.out.below hb)
  have HX_96 := Aside0.mk (HX_89.out.below hb)
  have HO_97 := Aside0.mk (HO_90.out.below hb)
  have HL_98 := Aside0.mk (Kd.R_below HL_91.out hb)
  clear HBEL_85 HS_86 HA_87 HB_88 HX_89 HO_90 HL_91
  clear hb
  refine hK.out _ _ ⟨HS_93.out.cells, HA_94.out.cells, HB_95.out.cells, HO_97.out.cells⟩ (fun hHeld => ?_)
  clear hK K
  refine norm_ (a' := ?_) ?_ ?_
  rotate_left
  · show Act.put _ (some 35) _ = _
    simp only [Act.put, List.setIfInBounds_toArray, List.set_cons_zero, List.set_cons_succ, i64_w, i32_w]
    rfl
  refine on_ (i := 4) (N := some 36) (v := .bool false) (MKs 31) rfl rfl (fun _ _ _ h => h) (any_of HT_.out (by kernel_rfl)) (by rfl) (by intro w'; go_simp; (first | done | with_reducible rfl | simp)) PUT_ ?_
  refine on_ (i := 5) (N := some 37) (MKs 63) rfl rfl (fun _ _ _ h => h) (any_of HT_.out (by kernel_rfl)) (by rfl) (by intro w'; go_simp; (first | done | with_reducible rfl | simp)) PUT_ ?_
  refine get_ (i := 6) (N := some 38) (MKs 127) hHeld rfl rfl (fun _ _ _ h => h) (take_ofW HT_.out HW_.out (by kernel_rfl)) (by rfl) (by rintro w' ⟨⟨s0, s1, s2, s3⟩, ⟨s4, s5, s6, s7⟩, ⟨s8, s9, s10, s11⟩, ⟨s12, s13, s14, s15⟩⟩; go_simp; with_reducible rfl) PUT_ ?_
  refine get_ (i := 7) (N := some 39) (MKs 255) hHeld rfl rfl (fun _ _ _ h => h) (take_ofW HT_.out HW_.out (by kernel_rfl)) (by rfl) (by rintro w' ⟨⟨s0, s1, s2, s3⟩, ⟨s4, s5, s6, s7⟩, ⟨s8, s9, s10, s11⟩, ⟨s12, s13, s14, s15⟩⟩; go_simp; with_reducible rfl) PUT_ ?_
  refine get_ (i := 9) (N := some 41) (MKs 767) hHeld rfl rfl (fun _ _ _ h => h) (take_ofW HT_.out HW_.out (by kernel_rfl)) (by rfl) (by rintro w' ⟨⟨s0, s1, s2, s3⟩, ⟨s4, s5, s6, s7⟩, ⟨s8, s9, s10, s11⟩, ⟨s12, s13, s14, s15⟩⟩; go_simp; with_reducible rfl) PUT_ ?_
  refine get_ (i := 10) (N := some 42) (MKs 1791) hHeld rfl rfl (fun _ _ _ h => h) (take_ofW HT_.out HW_.out (by kernel_rfl)) (by rfl) (by rintro w' ⟨⟨s0, s1, s2, s3⟩, ⟨s4, s5, s6, s7⟩, ⟨s8, s9, s10, s11⟩, ⟨s12, s13, s14, s15⟩⟩; go_simp; with_reducible rfl) PUT_ ?_
  refine one_ (i := 8) (N := some 40) (MKs 2047) rfl rfl (one_of HT_.out (by kernel_rfl)) (by decide) (fun K hK => ?_)
  refine goes_ Try.func46 (by kernel_rfl) rfl #[.agg #[.slice Aa na ca, .slice Ba ma da, .int .i64 xa, .int .i64 ya], .agg #[.slice Ab nb cb, .slice Bb mb db, .int .i64 xb, .int .i64 yb]] (by rfl) rfl rfl (by (try simp only [List.map_toArray, List.map_cons, List.map_nil]); first | done | rfl) ?_
  with_reducible refine ((same_x _ _ _ _ _ _ _ _ _ _ _ _ _ _ _ _ _ _ _ _ _ _ _ _ _ HA_94.out HB_95.out br).1 hb1).mono ?_
  rintro e Y9 ⟨rfl, hb⟩
  refine ⟨_, rfl, ?_⟩
  have HBEL_99 := Aside0.mk (Below.trans' HBEL_92.out hb)
  have HS_100 := Aside0.mk (HS_93.out.below hb)
  have HA_101 := Aside0.mk (HA_94.out.below hb)
  have HB_102 := Aside0.mk (HB_95.out.below hb)
  have HX_103 := Aside0.mk (HX_96.out.below hb)
  have HO_104 := Aside0.mk (HO_97.out.below hb)
  have HL_105 := Aside0.mk (Kd.R_below HL_98.out hb)
  clear HBEL_92 HS_93 HA_94 HB_95 HX_96 HO_97 HL_98
  clear hb
  refine hK.out _ _ ⟨HS_100.out.cells, HA_101.out.cells, HB_102.out.cells, HO_104.out.cells⟩ (fun hHeld => ?_)
  clear hK K
  refine norm_ (a' := ?_) ?_ ?_
  rotate_left
  · show Act.put _ (some 40) _ = _
    simp only [Act.put, List.setIfInBounds_toArray, List.set_cons_zero, List.set_cons_succ, i64_w, i32_w]
    rfl
  refine one_ (i := 11) (N := some 43) (MKs 4095) rfl rfl (one_of HT_.out (by kernel_rfl)) (by decide) (fun K hK => ?_)
  refine goes_ Try.func47 (by kernel_rfl) rfl #[.agg #[.slice Aa na ca, .slice Ba ma da, .int .i64 xa, .int .i64 ya], .agg #[.slice Ab nb cb, .slice Bb mb db, .int .i64 xb, .int .i64 yb]] (by rfl) rfl rfl (by (try simp only [List.map_toArray, List.map_cons, List.map_nil]); first | done | rfl) ?_
  with_reducible refine ((same_x _ _ _ _ _ _ _ _ _ _ _ _ _ _ _ _ _ _ _ _ _ _ _ _ _ HA_101.out HB_102.out br).2 hb2).mono ?_
  rintro e Y12 ⟨rfl, hb⟩
  refine ⟨_, rfl, ?_⟩
  have HBEL_106 := Aside0.mk (Below.trans' HBEL_99.out hb)
  have HS_107 := Aside0.mk (HS_100.out.below hb)
  have HA_108 := Aside0.mk (HA_101.out.below hb)
  have HB_109 := Aside0.mk (HB_102.out.below hb)
  have HX_110 := Aside0.mk (HX_103.out.below hb)
  have HO_111 := Aside0.mk (HO_104.out.below hb)
  have HL_112 := Aside0.mk (Kd.R_below HL_105.out hb)
  clear HBEL_99 HS_100 HA_101 HB_102 HX_103 HO_104 HL_105
  clear hb
  refine hK.out _ _ ⟨HS_107.out.cells, HA_108.out.cells, HB_109.out.cells, HO_111.out.cells⟩ (fun hHeld => ?_)
  clear hK K
  refine norm_ (a' := ?_) ?_ ?_
  rotate_left
  · show Act.put _ (some 43) _ = _
    simp only [Act.put, List.setIfInBounds_toArray, List.set_cons_zero, List.set_cons_succ, i64_w, i32_w]
    rfl
  refine on_ (i := 12) (N := some 44) (v := .bool false) (MKs 8191) rfl rfl (fun _ _ _ h => h) (any_of HT_.out (by kernel_rfl)) (by rfl) (by intro w'; go_simp; (first | done | with_reducible rfl | simp)) PUT_ ?_
  refine on_ (i := 13) (N := some 45) (MKs 16383) rfl rfl (fun _ _ _ h => h) (any_of HT_.out (by kernel_rfl)) (by rfl) (by intro w'; go_simp; (first | done | with_reducible rfl | simp)) PUT_ ?_
  refine on_ (i := 14) (N := some 46) (MKs 32767) rfl rfl (fun _ _ _ h => h) (any_of HT_.out (by kernel_rfl)) (by rfl) (by intro w'; go_simp; (first | done | with_reducible rfl | simp)) PUT_ ?_
  refine get_ (i := 15) (N := some 47) (MKs 65535) hHeld rfl rfl (fun _ _ _ h => h) (take_ofW HT_.out HW_.out (by kernel_rfl)) (by rfl) (by rintro w' ⟨⟨s0, s1, s2, s3⟩, ⟨s4, s5, s6, s7⟩, ⟨s8, s9, s10, s11⟩, ⟨s12, s13, s14, s15⟩⟩; go_simp; with_reducible rfl) PUT_ ?_
  refine get_ (i := 16) (N := some 48) (MKs 131071) hHeld rfl rfl (fun _ _ _ h => h) (take_ofW HT_.out HW_.out (by kernel_rfl)) (by rfl) (by rintro w' ⟨⟨s0, s1, s2, s3⟩, ⟨s4, s5, s6, s7⟩, ⟨s8, s9, s10, s11⟩, ⟨s12, s13, s14, s15⟩⟩; go_simp; with_reducible rfl) PUT_ ?_
  refine one_ (i := 17) (N := some 49) (MKs 262143) rfl rfl (one_of HT_.out (by kernel_rfl)) (by decide) (fun K hK => ?_)
  refine goes_ Try.func46 (by kernel_rfl) rfl #[.agg #[.slice As ns cs, .slice Bs ms ds, .int .i64 xs, .int .i64 ys], .agg #[.slice As ns cs, .slice Bs ms ds, .int .i64 xs, .int .i64 ys]] (by rfl) rfl rfl (by (try simp only [List.map_toArray, List.map_cons, List.map_nil]); first | done | rfl) ?_
  with_reducible refine ((same_x _ _ _ _ _ _ _ _ _ _ _ _ _ _ _ _ _ _ _ _ _ _ _ _ _ HS_107.out HS_107.out true).1 hb3).mono ?_
  rintro e Y18 ⟨rfl, hb⟩
  refine ⟨_, rfl, ?_⟩
  have HBEL_113 := Aside0.mk (Below.trans' HBEL_106.out hb)
  have HS_114 := Aside0.mk (HS_107.out.below hb)
  have HA_115 := Aside0.mk (HA_108.out.below hb)
  have HB_116 := Aside0.mk (HB_109.out.below hb)
  have HX_117 := Aside0.mk (HX_110.out.below hb)
  have HO_118 := Aside0.mk (HO_111.out.below hb)
  have HL_119 := Aside0.mk (Kd.R_below HL_112.out hb)
  clear HBEL_106 HS_107 HA_108 HB_109 HX_110 HO_111 HL_112
  clear hb
  refine hK.out _ _ ⟨HS_114.out.cells, HA_115.out.cells, HB_116.out.cells, HO_118.out.cells⟩ (fun hHeld => ?_)
  clear hK K
  refine norm_ (a' := ?_) ?_ ?_
  rotate_left
  · show Act.put _ (some 49) _ = _
    simp only [Act.put, List.setIfInBounds_toArray, List.set_cons_zero, List.set_cons_succ, i64_w, i32_w]
    rfl
  refine on_ (i := 18) (N := some 50) (MKs 524287) rfl rfl (fun _ _ _ h => h) (any_of HT_.out (by kernel_rfl)) (by rfl) (by intro w'; go_simp; (first | done | with_reducible rfl | simp)) PUT_ ?_
  refine on_ (i := 19) (N := some 51) (MKs 1048575) rfl rfl (fun _ _ _ h => h) (any_of HT_.out (by kernel_rfl)) (by rfl) (by intro w'; go_simp; (first | done | with_reducible rfl | simp)) PUT_ ?_
  refine on_ (i := 20) (N := some 52) (MKs 2097151) rfl rfl (fun _ _ _ h => h) (any_of HT_.out (by kernel_rfl)) (by rfl) (by intro w'; go_simp; (first | done | with_reducible rfl | simp)) PUT_ ?_
  refine on_ (i := 21) (N := some 53) (MKs 4194303) rfl rfl (fun _ _ _ h => h) (any_of HT_.out (by kernel_rfl)) (by rfl) (by intro w'; go_simp; (first | done | with_reducible rfl | simp)) PUT_ ?_
  refine get_ (i := 22) (N := some 54) (MKs 8388607) hHeld rfl rfl (fun _ _ _ h => h) (take_ofW HT_.out HW_.out (by kernel_rfl)) (by rfl) (by rintro w' ⟨⟨s0, s1, s2, s3⟩, ⟨s4, s5, s6, s7⟩, ⟨s8, s9, s10, s11⟩, ⟨s12, s13, s14, s15⟩⟩; go_simp; with_reducible rfl) PUT_ ?_
  refine on_ (i := 23) (N := some 55) (MKs 16777215) rfl rfl (fun _ _ _ h => h) (any_of HT_.out (by kernel_rfl)) (by rfl) (by intro w'; go_simp; (first | done | with_reducible rfl | simp)) PUT_ ?_
  refine one_ (i := 24) (N := some 56) (MKs 33554431) rfl rfl (one_of HT_.out (by kernel_rfl)) (by decide) (fun K hK => ?_)
  refine goes_ Try.func49 (by kernel_rfl) rfl #[.agg #[.slice Ao no co, .slice Bo mo do_, .int .i64 xo, .int .i64 yo], .int .i64 side] (by rfl) rfl rfl (by (try simp only [List.map_toArray, List.map_cons, List.map_nil]); first | done | rfl) ?_
  with_reducible refine ((on_x HO_118.out SMo.out side).2).mono ?_
  rintro e Y25 ⟨Am, cm, rfl, hr, hb⟩
  refine ⟨_, rfl, ?_⟩
  have LOW := Aside0.mk HBEL_113.out.size
  have HBEL_120 := Aside0.mk (Below.trans' HBEL_113.out hb)
  have HS_121 := Aside0.mk (HS_114.out.below hb)
  have HA_122 := Aside0.mk (HA_115.out.below hb)
  have HB_123 := Aside0.mk (HB_116.out.below hb)
  have HX_124 := Aside0.mk (HX_117.out.below hb)
  have HO_125 := Aside0.mk (HO_118.out.below hb)
  have HL_126 := Aside0.mk (Kd.R_below HL_119.out hb)
  clear HBEL_113 HS_114 HA_115 HB_116 HX_117 HO_118 HL_119
  have HM2_127 := Aside0.mk (Kd.R_lower hr LOW.out)
  clear hb hr LOW
  refine hK.out _ _ ⟨HS_121.out.cells, HA_122.out.cells, HB_123.out.cells, HO_125.out.cells⟩ (fun hHeld => ?_)
  clear hK K
  refine norm_ (a' := ?_) ?_ ?_
  rotate_left
  · show Act.put _ (some 56) _ = _
    simp only [Act.put, List.setIfInBounds_toArray, List.set_cons_zero, List.set_cons_succ, i64_w, i32_w]
    rfl
  refine one_ (i := 25) (N := some 57) (MKs 67108863) rfl rfl (one_of HT_.out (by kernel_rfl)) (by decide) (fun K hK => ?_)
  refine goes_ Try.func48 (by kernel_rfl) rfl #[.slice Al (onf side po).length cl, .slice Am (onf side po).length cm] (by rfl) rfl rfl (by (try simp only [List.map_toArray, List.map_cons, List.map_nil]); first | done | rfl) ?_
  with_reducible refine (laws_sameInts.calls 40 _ _ _ _ _ _ true _ (Kd.R_reads' HL_126.out).2.2 (Kd.R_reads' HL_126.out).2.1 (Kd.R_reads' HM2_127.out).2.2 (Kd.R_reads' HM2_127.out).2.1 hb4).mono ?_
  rintro e Y26 ⟨rfl, hd⟩
  refine ⟨_, rfl, ?_⟩
  have hb := hd.below
  clear hd
  have HBEL_128 := Aside0.mk (Below.trans' HBEL_120.out hb)
  have HS_129 := Aside0.mk (HS_121.out.below hb)
  have HA_130 := Aside0.mk (HA_122.out.below hb)
  have HB_131 := Aside0.mk (HB_123.out.below hb)
  have HX_132 := Aside0.mk (HX_124.out.below hb)
  have HO_133 := Aside0.mk (HO_125.out.below hb)
  have HL_134 := Aside0.mk (Kd.R_below HL_126.out hb)
  have HM2_135 := Aside0.mk (Kd.R_below HM2_127.out hb)
  clear HBEL_120 HS_121 HA_122 HB_123 HX_124 HO_125 HL_126 HM2_127
  clear hb
  refine hK.out _ _ ⟨HS_129.out.cells, HA_130.out.cells, HB_131.out.cells, HO_133.out.cells⟩ (fun hHeld => ?_)
  clear hK K
  refine norm_ (a' := ?_) ?_ ?_
  rotate_left
  · show Act.put _ (some 57) _ = _
    simp only [Act.put, List.setIfInBounds_toArray, List.set_cons_zero, List.set_cons_succ, i64_w, i32_w]
    rfl
  refine on_ (i := 26) (N := some 58) (MKs 134217727) rfl rfl (fun _ _ _ h => h) (any_of HT_.out (by kernel_rfl)) (by rfl) (by intro w'; go_simp; (first | done | with_reducible rfl | simp)) PUT_ ?_
  refine on_ (i := 27) (N := some 59) (MKs 268435455) rfl rfl (fun _ _ _ h => h) (any_of HT_.out (by kernel_rfl)) (by rfl) (by intro w'; go_simp; (first | done | with_reducible rfl | simp)) PUT_ ?_
  refine done_ (done_of HT_.out (by kernel_rfl)) ?_
  clear HT_ HW_ hHeld
  rcases HM.out with ⟨hn3, hm3⟩ | ⟨hn3, hm3⟩
  · subst hn3
    subst hm3
    obtain ⟨x0, x1, x2, x3⟩ := HX_132.out.cells
    go_wp2_with (first
      | (go_at_call 38; (with_reducible refine ((ok_x HX_132.out.all OKX.out.1).1).mono ?_); rintro e W1 ⟨rfl, hb⟩; have HBEL_136 := Aside0.mk (Below.trans' HBEL_128.out hb); have HS_137 := Aside0.mk (HS_129.out.below hb); have HA_138 := Aside0.mk (HA_130.out.below hb); have HB_139 := Aside0.mk (HB_131.out.below hb); have HX_140 := Aside0.mk (HX_132.out.below hb); have HO_141 := Aside0.mk (HO_133.out.below hb); have HL_142 := Aside0.mk (Kd.R_below HL_134.out hb); have HM2_143 := Aside0.mk (Kd.R_below HM2_135.out hb); clear HBEL_128 HS_129 HA_130 HB_131 HX_132 HO_133 HL_134 HM2_135; clear hb; obtain ⟨x0, x1, x2, x3⟩ := HX_140.out.cells; obtain ⟨ad, ea, hx0, -, -⟩ := at_T71 HX_140.out.cs.1 0 (by decide) (by have := HX_140.out.em; omega); cases ea; rw [OKX.out.2] at hx0; (try rw [show ((0 : Int)).toNat = 0 from rfl] at hx0); (try rw [show 0 * 3 = 0 from rfl] at hx0); (try rw [Addr.add_zero'] at hx0); obtain ⟨o0, o1, o2, o3⟩ := HO_141.out.cells)
      | (go_at_call 45; (with_reducible refine ((on_x HO_141.out SMo.out (-1)).1).mono ?_); rintro e W2 ⟨Aq, cq, rfl, hr, hb⟩; have LOW := Aside0.mk HBEL_136.out.size; have HBEL_144 := Aside0.mk (Below.trans' HBEL_136.out hb); have HS_145 := Aside0.mk (HS_137.out.below hb); have HA_146 := Aside0.mk (HA_138.out.below hb); have HB_147 := Aside0.mk (HB_139.out.below hb); have HX_148 := Aside0.mk (HX_140.out.below hb); have HO_149 := Aside0.mk (HO_141.out.below hb); have HL_150 := Aside0.mk (Kd.R_below HL_142.out hb); have HM2_151 := Aside0.mk (Kd.R_below HM2_143.out hb); clear HBEL_136 HS_137 HA_138 HB_139 HX_140 HO_141 HL_142 HM2_143; have HL2_152 := Aside0.mk (Kd.R_lower hr LOW.out); clear hb hr LOW)
      | (go_at_call 50; (with_reducible refine (impl_Within.calls 60 _ _ _ _ _ _ true _ (Kd.R_reads' HL_150.out).2.2 (Kd.R_reads' HL_150.out).2.1 (Kd.R_reads' HL2_152.out).2.2 (Kd.R_reads' HL2_152.out).2.1 hb5.out).mono ?_); rintro e W3 ⟨rfl, hb⟩; have HBEL_153 := Aside0.mk (Below.trans' HBEL_144.out hb); have HS_154 := Aside0.mk (HS_145.out.below hb); have HA_155 := Aside0.mk (HA_146.out.below hb); have HB_156 := Aside0.mk (HB_147.out.below hb); have HX_157 := Aside0.mk (HX_148.out.below hb); have HO_158 := Aside0.mk (HO_149.out.below hb); have HL_159 := Aside0.mk (Kd.R_below HL_150.out hb); have HM2_160 := Aside0.mk (Kd.R_below HM2_151.out hb); have HL2_161 := Aside0.mk (Kd.R_below HL2_152.out hb); clear HBEL_144 HS_145 HA_146 HB_147 HX_148 HO_149 HL_150 HM2_151 HL2_152; clear hb)
      | (go_at_call 51; (with_reducible refine (drawState_ex A k b _ (Kd.C_below HR.out HBEL_153.out) HC.out HS0.out).mono ?_); rintro e W4 ⟨v, pt, st, xt, yt, rfl, hsv, hgs, hb⟩; obtain ⟨At, ct, Bt, dt, nt, mt, rfl, hwt⟩ := own_of hsv; have LOW := Aside0.mk HBEL_153.out.size; have HBEL_162 := Aside0.mk (Below.trans' HBEL_153.out hb); have HS_163 := Aside0.mk (HS_154.out.below hb); have HA_164 := Aside0.mk (HA_155.out.below hb); have HB_165 := Aside0.mk (HB_156.out.below hb); have HX_166 := Aside0.mk (HX_157.out.below hb); have HO_167 := Aside0.mk (HO_158.out.below hb); have HL_168 := Aside0.mk (Kd.R_below HL_159.out hb); have HM2_169 := Aside0.mk (Kd.R_below HM2_160.out hb); have HL2_170 := Aside0.mk (Kd.R_below HL2_161.out hb); clear HBEL_153 HS_154 HA_155 HB_156 HX_157 HO_158 HL_159 HM2_160 HL2_161; have Ot_171 := Aside0.mk (hwt.low LOW.out); have OKT := Aside0.mk hgs.1; clear hsv hwt hb hgs LOW)
      | (go_at_call 38; (with_reducible refine (ok_x Ot_171.out.cp OKT.out).1.mono ?_); rintro e WZ ⟨rfl, hb⟩; have HEND := Aside0.mk (Below.trans' HBEL_162.out hb); clear hb))
    go_ret
    exact ⟨rfl, HEND.out⟩
  · subst hm3
    have c26b0 : (nn == 3) = false := beq_eq_false_iff_ne.mpr hn3
    have c26b1 : (nn != 3) = true := bne_iff_ne.mpr hn3
    obtain ⟨x0, x1, x2, x3⟩ := HX_132.out.cells
    go_wp2_with (first
      | (go_at_call 38; (with_reducible refine ((ok_x HX_132.out.all OKX.out.1).1).mono ?_); rintro e W1 ⟨rfl, hb⟩; have HBEL_172 := Aside0.mk (Below.trans' HBEL_128.out hb); have HS_173 := Aside0.mk (HS_129.out.below hb); have HA_174 := Aside0.mk (HA_130.out.below hb); have HB_175 := Aside0.mk (HB_131.out.below hb); have HX_176 := Aside0.mk (HX_132.out.below hb); have HO_177 := Aside0.mk (HO_133.out.below hb); have HL_178 := Aside0.mk (Kd.R_below HL_134.out hb); have HM2_179 := Aside0.mk (Kd.R_below HM2_135.out hb); clear HBEL_128 HS_129 HA_130 HB_131 HX_132 HO_133 HL_134 HM2_135; clear hb; obtain ⟨x0, x1, x2, x3⟩ := HX_176.out.cells; obtain ⟨ad, ea, hx0, -, -⟩ := at_T71 HX_176.out.cs.1 0 (by decide) (by have := HX_176.out.em; omega); cases ea; rw [OKX.out.2] at hx0; (try rw [show ((0 : Int)).toNat = 0 from rfl] at hx0); (try rw [show 0 * 3 = 0 from rfl] at hx0); (try rw [Addr.add_zero'] at hx0); obtain ⟨o0, o1, o2, o3⟩ := HO_177.out.cells)
      | (go_at_call 45; (with_reducible refine ((on_x HO_177.out SMo.out (-1)).1).mono ?_); rintro e W2 ⟨Aq, cq, rfl, hr, hb⟩; have LOW := Aside0.mk HBEL_172.out.size; have HBEL_180 := Aside0.mk (Below.trans' HBEL_172.out hb); have HS_181 := Aside0.mk (HS_173.out.below hb); have HA_182 := Aside0.mk (HA_174.out.below hb); have HB_183 := Aside0.mk (HB_175.out.below hb); have HX_184 := Aside0.mk (HX_176.out.below hb); have HO_185 := Aside0.mk (HO_177.out.below hb); have HL_186 := Aside0.mk (Kd.R_below HL_178.out hb); have HM2_187 := Aside0.mk (Kd.R_below HM2_179.out hb); clear HBEL_172 HS_173 HA_174 HB_175 HX_176 HO_177 HL_178 HM2_179; have HL2_188 := Aside0.mk (Kd.R_lower hr LOW.out); clear hb hr LOW)
      | (go_at_call 50; (with_reducible refine (impl_Within.calls 60 _ _ _ _ _ _ true _ (Kd.R_reads' HL_186.out).2.2 (Kd.R_reads' HL_186.out).2.1 (Kd.R_reads' HL2_188.out).2.2 (Kd.R_reads' HL2_188.out).2.1 hb5.out).mono ?_); rintro e W3 ⟨rfl, hb⟩; have HBEL_189 := Aside0.mk (Below.trans' HBEL_180.out hb); have HS_190 := Aside0.mk (HS_181.out.below hb); have HA_191 := Aside0.mk (HA_182.out.below hb); have HB_192 := Aside0.mk (HB_183.out.below hb); have HX_193 := Aside0.mk (HX_184.out.below hb); have HO_194 := Aside0.mk (HO_185.out.below hb); have HL_195 := Aside0.mk (Kd.R_below HL_186.out hb); have HM2_196 := Aside0.mk (Kd.R_below HM2_187.out hb); have HL2_197 := Aside0.mk (Kd.R_below HL2_188.out hb); clear HBEL_180 HS_181 HA_182 HB_183 HX_184 HO_185 HL_186 HM2_187 HL2_188; clear hb)
      | (go_at_call 51; (with_reducible refine (drawState_ex A k b _ (Kd.C_below HR.out HBEL_189.out) HC.out HS0.out).mono ?_); rintro e W4 ⟨v, pt, st, xt, yt, rfl, hsv, hgs, hb⟩; obtain ⟨At, ct, Bt, dt, nt, mt, rfl, hwt⟩ := own_of hsv; have LOW := Aside0.mk HBEL_189.out.size; have HBEL_198 := Aside0.mk (Below.trans' HBEL_189.out hb); have HS_199 := Aside0.mk (HS_190.out.below hb); have HA_200 := Aside0.mk (HA_191.out.below hb); have HB_201 := Aside0.mk (HB_192.out.below hb); have HX_202 := Aside0.mk (HX_193.out.below hb); have HO_203 := Aside0.mk (HO_194.out.below hb); have HL_204 := Aside0.mk (Kd.R_below HL_195.out hb); have HM2_205 := Aside0.mk (Kd.R_below HM2_196.out hb); have HL2_206 := Aside0.mk (Kd.R_below HL2_197.out hb); clear HBEL_189 HS_190 HA_191 HB_192 HX_193 HO_194 HL_195 HM2_196 HL2_197; have Ot_207 := Aside0.mk (hwt.low LOW.out); have OKT := Aside0.mk hgs.1; clear hsv hwt hb hgs LOW)
      | (go_at_call 38; (with_reducible refine (ok_x Ot_207.out.cp OKT.out).1.mono ?_); rintro e WZ ⟨rfl, hb⟩; have HEND := Aside0.mk (Below.trans' HBEL_198.out hb); clear hb))
    go_ret
    exact ⟨rfl, HEND.out⟩
theorem laws_FnStates.walk (a0 : Option Addr) (len0 cap0 : Nat) (z0 : List Int) (w : World) (w0 : (a0 = none ∧ len0 = 0 ∧ cap0 = 0 ∧ z0 = []) ∨ ∃ x, a0 = some x ∧ len0 ≤ cap0 ∧ cap0 ≤ maxLen ∧ z0.length = cap0 ∧ (∀ i, i < z0.length → w.cell? (x.add i) = some (.int .u8 (z0.getD i 0))) ∧ ∀ n ∈ z0, (Lit.int .u8 n).wf = true) (y0 : len0 * 1 ≤ 140737488351232) :
    Calls Try.prog 6 #[.slice a0 len0 cap0] w fun e w' => e = .returned (.bool true) ∧ Below w.heap.size w w' := by
  obtain ⟨l0, rfl, hr0, hm0, hw0, hc0⟩ := ReadsInt.ofRowC w0
  exact law_states _ _ l0 w (Kd.C_of_reads (d := (0 : Int)) (h1 := fun _ => rfl) hr0) hc0
end Go.Proofs.Ytfkidiagmekleaa.QAll
