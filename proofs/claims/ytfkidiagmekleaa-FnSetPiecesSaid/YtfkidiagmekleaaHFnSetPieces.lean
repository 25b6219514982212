/- The law FnSetPieces, walked by hand: whichever states and pieces are drawn, the law answers true. -/
import Derived.Test.YtfkidiagmekleaaHDrawP
import Derived.Test.YtfkidiagmekleaaHSpS
import Derived.Test.YtfkidiagmekleaaRISm
import Derived.Test.YtfkidiagmekleaaRSam
import Derived.Test.YtfkidiagmekleaaQAllx1
namespace Go.Proofs.Ytfkidiagmekleaa.QAll
open Go.RowKit Go.Proofs.YtfkidiagmekleaaW.PrintWords Go.Proofs.YtfkidiagmekleaaW.PrintLast Go.Proofs.YtfkidiagmekleaaW.PrintMore
attribute [local go_sem high] eqA25
set_option linter.unusedVariables false
set_option linter.unusedSimpArgs false
theorem same_ps_l0 (a : List S25) (hb : a.length ≤ 1048576) : ∀ (d k n : Nat), n + d = a.length → d < k → impl_Piece_110.l0 k a a (a.length : Int) (n : Int) = some true
  | 0, k, n, hn, hk => by
    obtain ⟨k, rfl⟩ : ∃ q, k = q + 1 := ⟨k - 1, by omega⟩
    simp only [impl_Piece_110.l0]
    rw [if_neg (by omega)]
  | d + 1, k, n, hn, hk => by
    obtain ⟨k, rfl⟩ : ∃ q, k = q + 1 := ⟨k - 1, by omega⟩
    have ih := same_ps_l0 a hb d k (n + 1) (by omega) (by omega)
    simp (disch := omega) only [impl_Piece_110.l0, if_pos, wrap_nat, beq_self_eq_true, Bool.not_true, Bool.or_false, Bool.false_eq_true, if_false]
    exact ih
theorem same_ss_l0 (a : List S71) (hb : a.length ≤ 1048576) : ∀ (d k n : Nat), n + d = a.length → d < k → impl_Side_111.l0 k a a (a.length : Int) (n : Int) = some true
  | 0, k, n, hn, hk => by
    obtain ⟨k, rfl⟩ : ∃ q, k = q + 1 := ⟨k - 1, by omega⟩
    simp only [impl_Side_111.l0]
    rw [if_neg (by omega)]
  | d + 1, k, n, hn, hk => by
    obtain ⟨k, rfl⟩ : ∃ q, k = q + 1 := ⟨k - 1, by omega⟩
    have ih := same_ss_l0 a hb d k (n + 1) (by omega) (by omega)
    simp (disch := omega) only [impl_Side_111.l0, if_pos, wrap_nat, beq_self_eq_true, Bool.not_true, Bool.or_false, Bool.false_eq_true, if_false]
    exact ih
theorem same_self (k : Nat) (a : List S25) (s : List S71) (x y : Int) (ha : a.length ≤ 1048576) (hs : s.length ≤ 1048576) (hk : a.length + s.length < k) : impl_SameState.f k a s x y a s x y = some true := by
  unfold impl_SameState.f impl_Piece_110.f impl_Side_111.f
  have e1 : impl_Piece_110.l0 k a a (a.length : Int) 0 = some true := same_ps_l0 a ha a.length k 0 (by omega) (by omega)
  have e2 : impl_Side_111.l0 k s s (s.length : Int) 0 = some true := same_ss_l0 s hs s.length k 0 (by omega) (by omega)
  rw [if_pos rfl, if_pos rfl, if_pos rfl, if_pos rfl, e1]
  simp only [Option.bind_some]
  rw [if_pos trivial, e2]
  rfl
/-- A state lies in the block g. -/
structure Bx (B : Nat) (W : World) (g : Nat) (A : Option Addr) (ca : Nat) (ps : List S25) (A' : Option Addr) (cb : Nat) (ss : List S71) (n m : Nat) (a c : Int) : Prop where
  l : B ≤ g
  b : W.heap[g]? = some (.cells #[.slice A n ca, .slice A' m cb, .int .i64 a, .int .i64 c] 56 (0, 0))
  en : n = ps.length
  em : m = ss.length
  rp : Kd.R k25 25 W B (fun _ => True) (.slice A n ca) ps
  rs : Kd.R k71 71 W B (fun _ => True) (.slice A' m cb) ss
namespace Bx
variable {B : Nat} {W W1 : World} {g : Nat} {A : Option Addr} {ca : Nat} {ps : List S25} {A' : Option Addr} {cb : Nat} {ss : List S71} {n m : Nat} {a c : Int}
theorem below (h : Bx B W g A ca ps A' cb ss n m a c) (hb : Below W.heap.size W W1) : Bx B W1 g A ca ps A' cb ss n m a c := ⟨h.l, blk_below h.b hb, h.en, h.em, Kd.R_below h.rp hb, Kd.R_below h.rs hb⟩
theorem put (h : Bx B W g A ca ps A' cb ss n m a c) {g' : Nat} {o : Array Value} (ho : W.heap[g']? = some (.cells o 56 (0, 0))) (hg : W.grownBy W1 (some g')) (hne : g ≠ g') : Bx B W1 g A ca ps A' cb ss n m a c := ⟨h.l, blk_step hg hne h.b, h.en, h.em, R_box h.rp ho (by decide) hg, R_box h.rs ho (by decide) hg⟩
theorem lt (h : Bx B W g A ca ps A' cb ss n m a c) : g < W.heap.size := blk_lt h.b
theorem cp (h : Bx B W g A ca ps A' cb ss n m a c) : Kd.C k25 W A ps.length ps ∧ ps.length ≤ ca := by
  have := h.rp
  have e := h.en
  subst e
  exact ⟨(Kd.R_reads' this).2.2, (Kd.R_reads' this).2.1⟩
theorem cs (h : Bx B W g A ca ps A' cb ss n m a c) : Kd.C k71 W A' ss.length ss ∧ ss.length ≤ cb := by
  have := h.rs
  have e := h.em
  subst e
  exact ⟨(Kd.R_reads' this).2.2, (Kd.R_reads' this).2.1⟩
theorem cells (h : Bx B W g A ca ps A' cb ss n m a c) : W.cell? ⟨g, 0, none⟩ = some (.slice A n ca) ∧ W.cell? ⟨g, 1, none⟩ = some (.slice A' m cb) ∧ W.cell? ⟨g, 2, none⟩ = some (.int .i64 a) ∧ W.cell? ⟨g, 3, none⟩ = some (.int .i64 c) := cells4 h.b
end Bx
/-- A state handed back, its rows' lengths as letters. -/
def Own (B : Nat) (W : World) (A : Option Addr) (ca : Nat) (ps : List S25) (A' : Option Addr) (cb : Nat) (ss : List S71) (n m : Nat) : Prop := n = ps.length ∧ m = ss.length ∧ Kd.R k25 25 W B (fun _ => True) (.slice A n ca) ps ∧ Kd.R k71 71 W B (fun _ => True) (.slice A' m cb) ss
theorem own_of {B : Nat} {w' : World} {v : Value} {ps : List S25} {ss : List S71} {a c : Int} (h : Sv B w' v ps ss a c) : ∃ A ca A' cb n m, v = .agg #[.slice A n ca, .slice A' m cb, .int .i64 a, .int .i64 c] ∧ Own B w' A ca ps A' cb ss n m := by
  obtain ⟨A, ca, A', cb, e, h0, h1⟩ := h
  exact ⟨A, ca, A', cb, _, _, e, rfl, rfl, h0, h1⟩
theorem Own.low {B B' : Nat} {W : World} {A : Option Addr} {ca : Nat} {ps : List S25} {A' : Option Addr} {cb : Nat} {ss : List S71} {n m : Nat} (h : Own B W A ca ps A' cb ss n m) (hb : B' ≤ B) : Own B' W A ca ps A' cb ss n m := ⟨h.1, h.2.1, Kd.R_lower h.2.2.1 hb, Kd.R_lower h.2.2.2 hb⟩
theorem Own.below {B : Nat} {W W1 : World} {A : Option Addr} {ca : Nat} {ps : List S25} {A' : Option Addr} {cb : Nat} {ss : List S71} {n m : Nat} (h : Own B W A ca ps A' cb ss n m) (hb : Below W.heap.size W W1) : Own B W1 A ca ps A' cb ss n m := ⟨h.1, h.2.1, Kd.R_below h.2.2.1 hb, Kd.R_below h.2.2.2 hb⟩
theorem Own.put {B : Nat} {W W1 : World} {A : Option Addr} {ca : Nat} {ps : List S25} {A' : Option Addr} {cb : Nat} {ss : List S71} {n m : Nat} (h : Own B W A ca ps A' cb ss n m) {g' : Nat} {o : Array Value} (ho : W.heap[g']? = some (.cells o 56 (0, 0))) (hg : W.grownBy W1 (some g')) : Own B W1 A ca ps A' cb ss n m := ⟨h.1, h.2.1, R_box h.2.2.1 ho (by decide) hg, R_box h.2.2.2 ho (by decide) hg⟩
theorem Own.box {B : Nat} {W W1 : World} {A : Option Addr} {ca : Nat} {ps : List S25} {A' : Option Addr} {cb : Nat} {ss : List S71} {n m : Nat} (h : Own B W A ca ps A' cb ss n m) {g' : Nat} {o : Array Value} {a c : Int} (ho : W.heap[g']? = some (.cells o 56 (0, 0))) (hg : W.grownBy W1 (some g')) (hl : B ≤ g') (hb : W1.heap[g']? = some (.cells #[.slice A n ca, .slice A' m cb, .int .i64 a, .int .i64 c] 56 (0, 0))) : Bx B W1 g' A ca ps A' cb ss n m a c := ⟨hl, hb, h.1, h.2.1, (h.put ho hg).2.2.1, (h.put ho hg).2.2.2⟩
theorem Own.cp {B : Nat} {W : World} {A : Option Addr} {ca : Nat} {ps : List S25} {A' : Option Addr} {cb : Nat} {ss : List S71} {n m : Nat} (h : Own B W A ca ps A' cb ss n m) : n = ps.length ∧ m = ss.length ∧ Kd.C k25 W A ps.length ps ∧ ps.length ≤ ca ∧ Kd.C k71 W A' ss.length ss ∧ ss.length ≤ cb := by
  obtain ⟨rfl, rfl, h0, h1⟩ := h
  exact ⟨rfl, rfl, (Kd.R_reads' h0).2.2, (Kd.R_reads' h0).2.1, (Kd.R_reads' h1).2.2, (Kd.R_reads' h1).2.1⟩
theorem Bx.all {B : Nat} {W : World} {g : Nat} {A : Option Addr} {ca : Nat} {ps : List S25} {A' : Option Addr} {cb : Nat} {ss : List S71} {n m : Nat} {a c : Int} (h : Bx B W g A ca ps A' cb ss n m a c) : n = ps.length ∧ m = ss.length ∧ Kd.C k25 W A ps.length ps ∧ ps.length ≤ ca ∧ Kd.C k71 W A' ss.length ss ∧ ss.length ≤ cb := ⟨h.en, h.em, h.cp.1, h.cp.2, h.cs.1, h.cs.2⟩
theorem own_vals {B : Nat} {w' : World} {v0 v1 : Value} {ps : List S25} {ss : List S71} (h0 : Kd.R k25 25 w' B (fun _ => True) v0 ps) (h1 : Kd.R k71 71 w' B (fun _ => True) v1 ss) : ∃ A ca A' cb n m, v0 = .slice A n ca ∧ v1 = .slice A' m cb ∧ Own B w' A ca ps A' cb ss n m := by
  obtain ⟨A, ca, rfl⟩ := Kd.R_slice h0
  obtain ⟨A', cb, rfl⟩ := Kd.R_slice h1
  exact ⟨A, ca, A', cb, _, _, rfl, rfl, rfl, rfl, h0, h1⟩
theorem Bx.putp {B : Nat} {W W1 : World} {g : Nat} {A : Option Addr} {ca : Nat} {ps : List S25} {A' : Option Addr} {cb : Nat} {ss : List S71} {a c : Int} {n m : Nat} (h : Bx B W g A ca ps A' cb ss n m a c) {g' : Nat} {o : Array Value} (ho : W.heap[g']? = some (.cells o 25 (0, 0))) (hg : W.grownBy W1 (some g')) (hne : g ≠ g') (hf : ∀ k, (Value.slice A n ca).ownBlock = some k → k ≠ g') : Bx B W1 g A ca ps A' cb ss n m a c :=
  ⟨h.l, blk_step hg hne h.b, h.en, h.em, R25_far h.rp hg hf, R_box h.rs ho (by decide) hg⟩
theorem own_valsu {B : Nat} {w' : World} {v0 v1 : Value} {ps : List S25} {ss : List S71} (h0 : Kd.R k25 25 w' B (fun _ => True) v0 ps) (h1 : Kd.R k71 71 w' B (fun _ => True) v1 ss) (hp : 0 < ps.length) : ∃ gx ca A' cb n m, v0 = .slice (some ⟨gx, 0, none⟩) n ca ∧ v1 = .slice A' m cb ∧ Own B w' (some ⟨gx, 0, none⟩) ca ps A' cb ss n m := by
  obtain ⟨gx, ca, rfl, -⟩ := Kd.R_form h0 hp
  obtain ⟨A', cb, rfl⟩ := Kd.R_slice h1
  exact ⟨gx, ca, A', cb, _, _, rfl, rfl, rfl, rfl, h0, h1⟩
theorem same_all {W : World} {A : Option Addr} {ca : Nat} {ps : List S25} {A' : Option Addr} {cb : Nat} {ss : List S71} {n m : Nat} {D : Option Addr} {da : Nat} {D' : Option Addr} {db : Nat} {n' m' : Nat} (hx : n = ps.length ∧ m = ss.length ∧ Kd.C k25 W A ps.length ps ∧ ps.length ≤ ca ∧ Kd.C k71 W A' ss.length ss ∧ ss.length ≤ cb) (hy : n' = ps.length ∧ m' = ss.length ∧ Kd.C k25 W D ps.length ps ∧ ps.length ≤ da ∧ Kd.C k71 W D' ss.length ss ∧ ss.length ≤ db) (hl : ps.length ≤ 30 ∧ ss.length ≤ 3) (a c : Int) :
    Calls Try.prog 46 #[.agg #[.slice A n ca, .slice A' m cb, .int .i64 a, .int .i64 c], .agg #[.slice D n' da, .slice D' m' db, .int .i64 a, .int .i64 c]] W fun e w' => e = .returned (.bool true) ∧ Below W.heap.size W w' := by
  obtain ⟨rfl, rfl, h1, h2, h3, h4⟩ := hx
  obtain ⟨rfl, rfl, h5, h6, h7, h8⟩ := hy
  exact impl_SameState.calls 50 _ _ ps _ _ ss a c _ _ ps _ _ ss a c true W h1 h2 h3 h4 h5 h6 h7 h8 (same_self 50 ps ss a c (by omega) (by omega) (by omega))
theorem set_all {W : World} {A : Option Addr} {ca : Nat} {ps : List S25} {A' : Option Addr} {cb : Nat} {ss : List S71} {a c : Int} {n m : Nat} (hx : n = ps.length ∧ m = ss.length ∧ Kd.C k25 W A ps.length ps ∧ ps.length ≤ ca ∧ Kd.C k71 W A' ss.length ss ∧ ss.length ≤ cb) (hl : ps.length ≤ 30 ∧ ss.length ≤ 3) (p : S25) (qs : List S25) (hq : setP ps p = qs) :
    Calls Try.prog 60 #[.agg #[.slice A n ca, .slice A' m cb, .int .i64 a, .int .i64 c], .agg #[.int .i64 p.f0, .int .i64 p.f1, .int .i64 p.f2, .int .i64 p.f3, .int .i64 p.f4, .int .i64 p.f5, .int .i64 p.f6, .int .i64 p.f7, .int .i64 p.f8, .int .i64 p.f9, .int .i64 p.f10, .bool p.f11, .bool p.f12]] W fun e w' => ∃ v0 v1 : Value, e = .returned (.agg #[v0, v1, .int .i64 a, .int .i64 c]) ∧ Kd.R k25 25 w' W.heap.size (fun _ => True) v0 qs ∧ Kd.R k71 71 w' W.heap.size (fun _ => True) v1 ss ∧ Below W.heap.size W w' := by
  obtain ⟨rfl, rfl, h1, h2, h3, h4⟩ := hx
  subst hq
  exact setPiece_x A ca ps A' cb ss a c p W h1 h2 h3 h4 ⟨by omega, by omega⟩
theorem sset_all {W : World} {A : Option Addr} {ca : Nat} {ps : List S25} {A' : Option Addr} {cb : Nat} {ss : List S71} {a c : Int} {n m : Nat} (hx : n = ps.length ∧ m = ss.length ∧ Kd.C k25 W A ps.length ps ∧ ps.length ≤ ca ∧ Kd.C k71 W A' ss.length ss ∧ ss.length ≤ cb) (hl : ps.length ≤ 30 ∧ ss.length ≤ 3) (p : S25) (qs : List S25) (hq : setP ps p = qs) :
    Calls Try.prog 58 #[.agg #[.slice A n ca, .slice A' m cb, .int .i64 a, .int .i64 c], .agg #[.int .i64 p.f0, .int .i64 p.f1, .int .i64 p.f2, .int .i64 p.f3, .int .i64 p.f4, .int .i64 p.f5, .int .i64 p.f6, .int .i64 p.f7, .int .i64 p.f8, .int .i64 p.f9, .int .i64 p.f10, .bool p.f11, .bool p.f12]] W fun e w' => ∃ v0 v1 : Value, e = .returned (.agg #[v0, v1, .int .i64 a, .int .i64 c]) ∧ Kd.R k25 25 w' W.heap.size (fun _ => True) v0 qs ∧ Kd.R k71 71 w' W.heap.size (fun _ => True) v1 ss ∧ Below W.heap.size W w' := by
  obtain ⟨rfl, rfl, h1, h2, h3, h4⟩ := hx
  subst hq
  exact spec_SetPiece.calls 50 A ca ps A' cb ss a c p.f0 p.f1 p.f2 p.f3 p.f4 p.f5 p.f6 p.f7 p.f8 p.f9 p.f10 p.f11 p.f12 _ _ _ _ W h1 h2 h3 h4 (spec_set 50 ps ss a c p.f0 p.f1 p.f2 p.f3 p.f4 p.f5 p.f6 p.f7 p.f8 p.f9 p.f10 p.f11 p.f12 (by omega) (by omega) (by omega))
theorem at_all {W : World} {A : Option Addr} {ca : Nat} {ps : List S25} {A' : Option Addr} {cb : Nat} {ss : List S71} {a c : Int} {n m : Nat} (hx : n = ps.length ∧ m = ss.length ∧ Kd.C k25 W A ps.length ps ∧ ps.length ≤ ca ∧ Kd.C k71 W A' ss.length ss ∧ ss.length ≤ cb) (hl : ps.length ≤ 30) (q r : Int) (h : atP ps q = r) :
    (Calls Try.prog 66 #[.agg #[.slice A n ca, .slice A' m cb, .int .i64 a, .int .i64 c], .int .i64 q] W fun e w' => e = .returned (.int .i64 r) ∧ Below W.heap.size W w') ∧ (Calls Try.prog 68 #[.agg #[.slice A n ca, .slice A' m cb, .int .i64 a, .int .i64 c], .int .i64 q] W fun e w' => e = .returned (.int .i64 r) ∧ Below W.heap.size W w') := by
  obtain ⟨rfl, rfl, h1, h2, h3, h4⟩ := hx
  exact ⟨impl_PieceAt.calls A ca ps A' cb ss a c q r W h1 h2 h3 h4 (pieceAt_f ps ss a c q r h), spec_PieceAt.calls 50 A ca ps A' cb ss a c q r W h1 h2 h3 h4 (by rw [spec_at 50 ps ss a c q (by omega) (by omega), h])⟩
theorem elem13 {w : World} {g n : Nat} {qs : List S25} {j : Nat} {y : S25} (h : Kd.C k25 w (some ⟨g, 0, none⟩) n qs) (hj : j < n) (he : rd_T25 qs (j : Int) = y) : w.cell? ⟨g, j * 13, none⟩ = some (.int .i64 y.f0) ∧ w.cell? ⟨g, j * 13 + 1, none⟩ = some (.int .i64 y.f1) ∧ w.cell? ⟨g, j * 13 + 2, none⟩ = some (.int .i64 y.f2) ∧ w.cell? ⟨g, j * 13 + 3, none⟩ = some (.int .i64 y.f3) ∧ w.cell? ⟨g, j * 13 + 4, none⟩ = some (.int .i64 y.f4) ∧ w.cell? ⟨g, j * 13 + 5, none⟩ = some (.int .i64 y.f5) ∧ w.cell? ⟨g, j * 13 + 6, none⟩ = some (.int .i64 y.f6) ∧ w.cell? ⟨g, j * 13 + 7, none⟩ = some (.int .i64 y.f7) ∧ w.cell? ⟨g, j * 13 + 8, none⟩ = some (.int .i64 y.f8) ∧ w.cell? ⟨g, j * 13 + 9, none⟩ = some (.int .i64 y.f9) ∧ w.cell? ⟨g, j * 13 + 10, none⟩ = some (.int .i64 y.f10) ∧ w.cell? ⟨g, j * 13 + 11, none⟩ = some (.bool y.f11) ∧ w.cell? ⟨g, j * 13 + 12, none⟩ = some (.bool y.f12) := by
  have h2 := cells_of25 h hj
  subst he
  simp only [Int.toNat_natCast] at h2
  exact ⟨h2 0 _ rfl, h2 1 _ rfl, h2 2 _ rfl, h2 3 _ rfl, h2 4 _ rfl, h2 5 _ rfl, h2 6 _ rfl, h2 7 _ rfl, h2 8 _ rfl, h2 9 _ rfl, h2 10 _ rfl, h2 11 _ rfl, h2 12 _ rfl⟩
def laws_FnSetPieces.T8 : Bool × List (List Nat × List Nat) := (true, [([], []), ([], []), ([], []), ([1, 2], [1, 2]), ([0, 3, 3], [0, 3]), ([4], [4]), ([5, 4], [5]), ([6], [6]), ([6], [6]), ([7, 8, 6, 6], [6, 7, 8]), ([6], [6]), ([6], [6]), ([10, 11, 9, 6], [6, 10, 11]), ([9, 12, 6], [6, 9, 12]), ([6, 13], [6, 13]), ([14, 12], [14]), ([15], [15]), ([16, 15], [15, 16]), ([15, 17], [15, 17]), ([18, 15], [18]), ([19], [19]), ([20, 19], [19, 20]), ([19], [19]), ([21, 22, 19], [19, 21, 22]), ([23, 19], [19, 23]), ([19], [19]), ([24, 25, 19], [19, 24, 25]), ([19, 26], [19, 26])])
def laws_FnSetPieces.B8 : List Nat := [0, 0, 0, 6, 15, 31, 63, 127, 127, 511, 127, 127, 4095, 8191, 16383, 32767, 65535, 131071, 262143, 524287, 1048575, 2097151, 1048575, 8388607, 16777215, 1048575, 67108863, 134217727]
theorem laws_FnSetPieces.tab8 : rtab .any (opsOf Try.f10 8) = laws_FnSetPieces.T8 := by kernel_rfl
theorem laws_FnSetPieces.bits8 : waitsOk laws_FnSetPieces.T8.2 laws_FnSetPieces.B8 = true := by kernel_rfl
def laws_FnSetPieces.T12 : Bool × List (List Nat × List Nat) := (true, [([], []), ([], []), ([0, 1], [0, 1]), ([2], [2]), ([3], [3]), ([3], [3]), ([5, 3], [3, 5]), ([3], [3]), ([6, 7, 3], [3, 6, 7]), ([8, 3], [3, 8]), ([4, 9, 3, 3], [3, 4, 9]), ([3], [3]), ([10, 11, 10, 3], [3, 10, 11]), ([3, 12], [3, 12]), ([13, 12, 0, 1, 2, 3, 4, 5, 6, 7, 8, 9, 10, 11, 12, 13], [13])])
def laws_FnSetPieces.B12 : List Nat := [0, 0, 3, 7, 15, 15, 47, 15, 239, 495, 1023, 15, 4095, 8191, 16383]
theorem laws_FnSetPieces.tab12 : rtab .any (opsOf Try.f10 12) = laws_FnSetPieces.T12 := by kernel_rfl
theorem laws_FnSetPieces.bits12 : waitsOk laws_FnSetPieces.T12.2 laws_FnSetPieces.B12 = true := by kernel_rfl
def MKp (k : Nat) : Array Bool := ((List.range 28).map fun j => k.testBit j).toArray
def MKq (k : Nat) : Array Bool := ((List.range 15).map fun j => k.testBit j).toArray
set_option maxHeartbeats 16000000 in
set_option maxRecDepth 100000 in
theorem law_setpieces (A : Option Addr) (k : Nat) (b : List Int) (w : World) (hr : Kd.C (Kd.int .u8) w A b.length b) (hc : b.length ≤ k) :
    Calls Try.prog 10 #[.slice A b.length k] w fun e w' => e = .returned (.bool true) ∧ Below w.heap.size w w' := by
  have hu56 := Try.underlying56
  have hu25 := Try.underlying25
  have HR := Aside0.mk hr
  have HC := Aside0.mk hc
  clear hr hc
  by_cases hbig : (b.length : Int) > 1048576
  · have HF := Aside0.mk (show laws_big.f b = some true by unfold laws_big.f; rw [decide_eq_true hbig])
    clear hbig
    go_enter Try.func10, Try.ntmps10
    go_wp2_with (go_at_call 12; ((with_reducible refine (laws_big.calls A k b true _ HR.out HC.out HF.out).mono ?_); rintro e w1 ⟨rfl, hd⟩; have HBEL := Aside0.mk hd.below; clear hd))
    go_ret
    exact ⟨rfl, HBEL.out⟩
  have HS0 := Aside0.mk (show b.length ≤ 1048576 by omega)
  have HF := Aside0.mk (show laws_big.f b = some false by unfold laws_big.f; rw [decide_eq_false hbig])
  clear hbig
  go_enter Try.func10, Try.ntmps10
  go_wp2_with (go_at_call 12; ((with_reducible refine (laws_big.calls A k b false _ HR.out HC.out HF.out).mono ?_); rintro e w1 ⟨rfl, hd⟩; have HBEL := Aside0.mk hd.below; clear hd HF))
  go_wp2_with (first
    | (go_at_call 65; (with_reducible refine (drawSetPiece_ex A k b _ (Kd.C_below HR.out HBEL.out) HC.out HS0.out).mono ?_); rintro e W1 ⟨v, ps, ss, xs, ys, p, rfl, hsv, hsm, hb⟩; obtain ⟨As, cs, Bs, ds, ns, ms, rfl, hws⟩ := own_of hsv; have LOW := Aside0.mk HBEL.out.size; have HBEL_1 := Aside0.mk (Below.trans' HBEL.out hb); clear HBEL; have Os_2 := Aside0.mk (hws.low LOW.out); have SP := Aside0.mk (show ps.length ≤ 30 ∧ ss.length ≤ 3 from ⟨Nat.le_trans hsm.1 (by decide), hsm.2⟩); have SM := Aside0.mk hsm; clear hsv hws hb hsm LOW)
    | ((with_reducible refine gate_dst (N := 3) rfl ?_); refine box_event (N := 3) rfl rfl (cs := #[.slice none 0 0, .slice none 0 0, .int .i64 0, .int .i64 0]) (t := 56) ?hr ?_; (case hr => first | (go_simp; done) | (go_simp; rfl)); intro g3 hg2 W2 hb2 hb; have L3 := Aside0.mk (show w.heap.size ≤ g3 by rw [hg2]; exact HBEL_1.out.size); have HBEL_3 := Aside0.mk (Below.trans' HBEL_1.out hb); have Os_4 := Aside0.mk (Os_2.out.below hb); clear HBEL_1 Os_2; have Z3_5 := Aside0.mk hb2; clear hg2 hb2 hb)
    | ((with_reducible refine gate_dst (N := 4) rfl ?_); refine box_event (N := 4) rfl rfl (cs := #[.int .i64 0, .int .i64 0, .int .i64 0, .int .i64 0, .int .i64 0, .int .i64 0, .int .i64 0, .int .i64 0, .int .i64 0, .int .i64 0, .int .i64 0, .bool false, .bool false]) (t := 25) ?hr ?_; (case hr => first | (go_simp; done) | (go_simp; rfl)); intro g4 hg2 W3 hb2 hb; have L4 := Aside0.mk (show w.heap.size ≤ g4 by rw [hg2]; exact HBEL_3.out.size); have NEZ3_4 := Aside0.mk (show g3 ≠ g4 by have := blk_lt Z3_5.out; omega); have FAR := Aside0.mk (show ∀ k, (Value.slice As ns cs).ownBlock = some k → k ≠ g4 from fun k hk => by have := own_lt (R_flat Os_4.out.2.2.1) k hk; omega); have HBEL_6 := Aside0.mk (Below.trans' HBEL_3.out hb); have Os_7 := Aside0.mk (Os_4.out.below hb); have Z3_8 := Aside0.mk (blk_below Z3_5.out hb); clear HBEL_3 Os_4 Z3_5; have Z4_9 := Aside0.mk hb2; clear hg2 hb2 hb)
    | ((with_reducible refine gate_store (t := 56) (p := 3) (v := .tmp 15) rfl ?_); refine put_event rfl rfl rfl 56 g3 0 _ #[.slice As ns cs, .slice Bs ms ds, .int .i64 xs, .int .i64 ys] (.agg #[.slice As ns cs, .slice Bs ms ds, .int .i64 xs, .int .i64 ys]) [.slice As ns cs, .slice Bs ms ds, .int .i64 xs, .int .i64 ys] rfl rfl Z3_8.out rfl (by kernel_rfl) (by simp) (by simp [Value.oneCell']) rfl ?_; intro W4 hb1 hg1; have HBEL_10 := Aside0.mk (below_put hg1 L3.out HBEL_6.out.size HBEL_6.out); have Z4_11 := Aside0.mk (blk_step hg1 (Ne.symm NEZ3_4.out) Z4_9.out); have HS_12 := Aside0.mk (Os_7.out.box Z3_8.out hg1 L3.out hb1); clear HBEL_6 Z4_9 Z3_8 Os_7 hb1 hg1; obtain ⟨_, _, _, _⟩ := HS_12.out.cells)
    | ((with_reducible refine gate_store (t := 25) (p := 4) (v := .tmp 16) rfl ?_); refine put_event rfl rfl rfl 25 g4 0 _ #[.int .i64 p.f0, .int .i64 p.f1, .int .i64 p.f2, .int .i64 p.f3, .int .i64 p.f4, .int .i64 p.f5, .int .i64 p.f6, .int .i64 p.f7, .int .i64 p.f8, .int .i64 p.f9, .int .i64 p.f10, .bool p.f11, .bool p.f12] (.agg #[.int .i64 p.f0, .int .i64 p.f1, .int .i64 p.f2, .int .i64 p.f3, .int .i64 p.f4, .int .i64 p.f5, .int .i64 p.f6, .int .i64 p.f7, .int .i64 p.f8, .int .i64 p.f9, .int .i64 p.f10, .bool p.f11, .bool p.f12]) [.int .i64 p.f0, .int .i64 p.f1, .int .i64 p.f2, .int .i64 p.f3, .int .i64 p.f4, .int .i64 p.f5, .int .i64 p.f6, .int .i64 p.f7, .int .i64 p.f8, .int .i64 p.f9, .int .i64 p.f10, .bool p.f11, .bool p.f12] rfl rfl Z4_11.out rfl (by kernel_rfl) (by simp) (by simp [Value.oneCell']) rfl ?_; intro W5 hb1 hg1; have HS_13 := Aside0.mk (HS_12.out.putp Z4_11.out hg1 NEZ3_4.out FAR.out); have HBEL_14 := Aside0.mk (below_put hg1 L4.out HBEL_10.out.size HBEL_10.out); have HP_15 := Aside0.mk (show W5.heap[g4]? = some (.cells (pl p).toArray 25 (0, 0)) from hb1); clear hb1 hg1 FAR HS_12 HBEL_10 Z4_11; obtain ⟨_, _, _, _⟩ := HS_13.out.cells; obtain ⟨_, _, _, _, _, _, _, _, _, _, _, _, _⟩ := pcells HP_15.out)
    | (go_at_call 60; (with_reducible refine (set_all HS_13.out.all SP.out p _ rfl).mono ?_); rintro e W6 ⟨v0, v1, rfl, h0, h1, hb⟩; have hlx := setP_length ps p; have hle := setP_le ps p; obtain ⟨j, hj, hk, hget, hkeep⟩ := at_set ps p; obtain ⟨gx, cu, Bu, du, nu, mu, rfl, rfl, hwu⟩ := own_valsu h0 h1 (Nat.lt_of_le_of_lt (Nat.zero_le _) hj); have LOW := Aside0.mk HBEL_14.out.size; have HBEL_16 := Aside0.mk (Below.trans' HBEL_14.out hb); have HS_17 := Aside0.mk (HS_13.out.below hb); have HP_18 := Aside0.mk (blk_below HP_15.out hb); clear HBEL_14 HS_13 HP_15; have Ou_19 := Aside0.mk (hwu.low LOW.out); obtain ⟨qs, hqs⟩ : ∃ q, setP ps p = q := ⟨_, rfl⟩; have HQ := Aside0.mk hqs; have HJ := Aside0.mk (show j < qs.length by rw [← hqs]; exact hj); have HK := Aside0.mk (show atP qs p.f0 = (j : Int) by rw [← hqs]; exact hk); have HE := Aside0.mk (show rd_T25 qs (j : Int) = p by rw [← hqs]; exact (show rd_T25 (setP ps p) (j : Int) = (setP ps p)[j] by simp [rd_T25, hj]).trans hget); have SQ := Aside0.mk (show qs.length ≤ 30 ∧ ss.length ≤ 3 by rw [← hqs]; have := SM.out.1; have := SM.out.2; omega); obtain ⟨ii, hii⟩ : ∃ q, atP ps p.f0 = q := ⟨_, rfl⟩; have HI := Aside0.mk hii; have HKP := Aside0.mk hkeep; have HLX := Aside0.mk hlx; clear h0 h1 hwu hb LOW hj hk hget hkeep hii hlx hle; have Ou_20 := Aside0.mk (hqs ▸ Ou_19.out); clear hqs Ou_19; obtain ⟨_, _, _, _⟩ := HS_17.out.cells; obtain ⟨_, _, _, _, _, _, _, _, _, _, _, _, _⟩ := pcells HP_18.out)
    | ((with_reducible refine gate_dst (N := 5) rfl ?_); refine box_event (N := 5) rfl rfl (cs := #[.slice none 0 0, .slice none 0 0, .int .i64 0, .int .i64 0]) (t := 56) ?hr ?_; (case hr => first | (go_simp; done) | (go_simp; rfl)); intro g5 hg2 W7 hb2 hb; have L5 := Aside0.mk (show w.heap.size ≤ g5 by rw [hg2]; exact HBEL_16.out.size); have NEHS_5 := Aside0.mk (show g3 ≠ g5 by have := HS_17.out.lt; omega); have NEHP_5 := Aside0.mk (show g4 ≠ g5 by have := blk_lt HP_18.out; omega); have HBEL_21 := Aside0.mk (Below.trans' HBEL_16.out hb); have HS_22 := Aside0.mk (HS_17.out.below hb); have HP_23 := Aside0.mk (blk_below HP_18.out hb); have Ou_24 := Aside0.mk (Ou_20.out.below hb); clear HBEL_16 HS_17 HP_18 Ou_20; have Z5_25 := Aside0.mk hb2; clear hg2 hb2 hb; obtain ⟨_, _, _, _⟩ := HS_22.out.cells; obtain ⟨_, _, _, _, _, _, _, _, _, _, _, _, _⟩ := pcells HP_23.out)
    | ((with_reducible refine gate_store (t := 56) (p := 5) (v := .tmp 19) rfl ?_); refine put_event rfl rfl rfl 56 g5 0 _ #[.slice (some ⟨gx, 0, none⟩) nu cu, .slice Bu mu du, .int .i64 xs, .int .i64 ys] (.agg #[.slice (some ⟨gx, 0, none⟩) nu cu, .slice Bu mu du, .int .i64 xs, .int .i64 ys]) [.slice (some ⟨gx, 0, none⟩) nu cu, .slice Bu mu du, .int .i64 xs, .int .i64 ys] rfl rfl Z5_25.out rfl (by kernel_rfl) (by simp) (by simp [Value.oneCell']) rfl ?_; intro W8 hb1 hg1; have HBEL_26 := Aside0.mk (below_put hg1 L5.out HBEL_21.out.size HBEL_21.out); have HS_27 := Aside0.mk (HS_22.out.put Z5_25.out hg1 NEHS_5.out); have HP_28 := Aside0.mk (blk_step hg1 NEHP_5.out HP_23.out); have HX_29 := Aside0.mk (Ou_24.out.box Z5_25.out hg1 L5.out hb1); clear HBEL_21 HS_22 HP_23 Z5_25 Ou_24 hb1 hg1; obtain ⟨_, _, _, _⟩ := HS_27.out.cells; obtain ⟨_, _, _, _⟩ := HX_29.out.cells; obtain ⟨_, _, _, _, _, _, _, _, _, _, _, _, _⟩ := pcells HP_28.out)
    | (go_at_call 66; (with_reducible refine ((at_all HX_29.out.all SQ.out.1 p.f0 (j : Int) HK.out).1).mono ?_); rintro e W9 ⟨rfl, hb⟩; have HBEL_30 := Aside0.mk (Below.trans' HBEL_26.out hb); have HS_31 := Aside0.mk (HS_27.out.below hb); have HP_32 := Aside0.mk (blk_below HP_28.out hb); have HX_33 := Aside0.mk (HX_29.out.below hb); clear HBEL_26 HS_27 HP_28 HX_29; clear hb; obtain ⟨_, _, _, _⟩ := HS_31.out.cells; obtain ⟨_, _, _, _⟩ := HX_33.out.cells; obtain ⟨_, _, _, _, _, _, _, _, _, _, _, _, _⟩ := pcells HP_32.out)
    | (go_at_call 66; (with_reducible refine ((at_all HS_31.out.all SP.out.1 p.f0 ii HI.out).1).mono ?_); rintro e W10 ⟨rfl, hb⟩; have HBEL_34 := Aside0.mk (Below.trans' HBEL_30.out hb); have HS_35 := Aside0.mk (HS_31.out.below hb); have HP_36 := Aside0.mk (blk_below HP_32.out hb); have HX_37 := Aside0.mk (HX_33.out.below hb); clear HBEL_30 HS_31 HP_32 HX_33; clear hb; obtain ⟨_, _, _, _⟩ := HS_35.out.cells; obtain ⟨_, _, _, _⟩ := HX_37.out.cells; obtain ⟨_, _, _, _, _, _, _, _, _, _, _, _, _⟩ := pcells HP_36.out)
    | (go_at_call 67; (with_reducible refine (drawPieceAt_ex A k b _ (Kd.C_below HR.out HBEL_34.out) HC.out HS0.out).mono ?_); rintro e W11 ⟨v, id, pt, st, xt, yt, rfl, hsv, hsm, hb⟩; obtain ⟨At, ct, Bt, dt, nt, mt, rfl, hwt⟩ := own_of hsv; have LOW := Aside0.mk HBEL_34.out.size; have HBEL_38 := Aside0.mk (Below.trans' HBEL_34.out hb); have HS_39 := Aside0.mk (HS_35.out.below hb); have HP_40 := Aside0.mk (blk_below HP_36.out hb); have HX_41 := Aside0.mk (HX_37.out.below hb); clear HBEL_34 HS_35 HP_36 HX_37; have Ot_42 := Aside0.mk (hwt.low LOW.out); have SMT := Aside0.mk (show pt.length ≤ 30 from Nat.le_trans hsm.1 (by decide)); clear hsv hwt hb hsm LOW; obtain ⟨_, _, _, _⟩ := HS_39.out.cells; obtain ⟨_, _, _, _⟩ := HX_41.out.cells; obtain ⟨_, _, _, _, _, _, _, _, _, _, _, _, _⟩ := pcells HP_40.out)
    | ((with_reducible refine gate_dst (N := 8) rfl ?_); refine box_event (N := 8) rfl rfl (cs := #[.slice none 0 0, .slice none 0 0, .int .i64 0, .int .i64 0]) (t := 56) ?hr ?_; (case hr => first | (go_simp; done) | (go_simp; rfl)); intro g8 hg2 W12 hb2 hb; have L8 := Aside0.mk (show w.heap.size ≤ g8 by rw [hg2]; exact HBEL_38.out.size); have NEHS_8 := Aside0.mk (show g3 ≠ g8 by have := HS_39.out.lt; omega); have NEHP_8 := Aside0.mk (show g4 ≠ g8 by have := blk_lt HP_40.out; omega); have NEHX_8 := Aside0.mk (show g5 ≠ g8 by have := HX_41.out.lt; omega); have HBEL_43 := Aside0.mk (Below.trans' HBEL_38.out hb); have HS_44 := Aside0.mk (HS_39.out.below hb); have HP_45 := Aside0.mk (blk_below HP_40.out hb); have HX_46 := Aside0.mk (HX_41.out.below hb); have Ot_47 := Aside0.mk (Ot_42.out.below hb); clear HBEL_38 HS_39 HP_40 HX_41 Ot_42; have Z8_48 := Aside0.mk hb2; clear hg2 hb2 hb; obtain ⟨_, _, _, _⟩ := HS_44.out.cells; obtain ⟨_, _, _, _⟩ := HX_46.out.cells; obtain ⟨_, _, _, _, _, _, _, _, _, _, _, _, _⟩ := pcells HP_45.out)
    | ((with_reducible refine gate_store (t := 56) (p := 8) (v := .tmp 31) rfl ?_); refine put_event rfl rfl rfl 56 g8 0 _ #[.slice At nt ct, .slice Bt mt dt, .int .i64 xt, .int .i64 yt] (.agg #[.slice At nt ct, .slice Bt mt dt, .int .i64 xt, .int .i64 yt]) [.slice At nt ct, .slice Bt mt dt, .int .i64 xt, .int .i64 yt] rfl rfl Z8_48.out rfl (by kernel_rfl) (by simp) (by simp [Value.oneCell']) rfl ?_; intro W13 hb1 hg1; have HBEL_49 := Aside0.mk (below_put hg1 L8.out HBEL_43.out.size HBEL_43.out); have HS_50 := Aside0.mk (HS_44.out.put Z8_48.out hg1 NEHS_8.out); have HP_51 := Aside0.mk (blk_step hg1 NEHP_8.out HP_45.out); have HX_52 := Aside0.mk (HX_46.out.put Z8_48.out hg1 NEHX_8.out); have HT_53 := Aside0.mk (Ot_47.out.box Z8_48.out hg1 L8.out hb1); clear HBEL_43 HS_44 HP_45 HX_46 Z8_48 Ot_47 hb1 hg1; obtain ⟨_, _, _, _⟩ := HS_50.out.cells; obtain ⟨_, _, _, _⟩ := HX_52.out.cells; obtain ⟨_, _, _, _⟩ := HT_53.out.cells; obtain ⟨_, _, _, _, _, _, _, _, _, _, _, _, _⟩ := pcells HP_51.out))
  obtain ⟨rr, hrr⟩ : ∃ q, atP pt id = q := ⟨_, rfl⟩
  have HRR := Aside0.mk hrr
  clear hrr
  have hjn : (j : Int) < (nu : Int) := by have := HX_52.out.en; have := HJ.out; omega
  have hj0 : (0 : Int) ≤ (j : Int) := Int.natCast_nonneg j
  have HBEL_54 := Aside0.mk (Below.trans' HBEL_49.out (below_drew (Below.refl _ _)))
  have HS_55 := Aside0.mk (HS_50.out.below (below_drew (Below.refl _ _)))
  have HP_56 := Aside0.mk (blk_below HP_51.out (below_drew (Below.refl _ _)))
  have HX_57 := Aside0.mk (HX_52.out.below (below_drew (Below.refl _ _)))
  have HT_58 := Aside0.mk (HT_53.out.below (below_drew (Below.refl _ _)))
  clear HBEL_49 HS_50 HP_51 HX_52 HT_53
  refine start_ (n := 28) (S := fun w' => (w'.cell? ⟨g3, 0, none⟩ = some (.slice As ns cs) ∧ w'.cell? ⟨g3, 1, none⟩ = some (.slice Bs ms ds) ∧ w'.cell? ⟨g3, 2, none⟩ = some (.int .i64 xs) ∧ w'.cell? ⟨g3, 3, none⟩ = some (.int .i64 ys)) ∧ (w'.cell? ⟨g5, 0, none⟩ = some (.slice (some ⟨gx, 0, none⟩) nu cu) ∧ w'.cell? ⟨g5, 1, none⟩ = some (.slice Bu mu du) ∧ w'.cell? ⟨g5, 2, none⟩ = some (.int .i64 xs) ∧ w'.cell? ⟨g5, 3, none⟩ = some (.int .i64 ys)) ∧ (w'.cell? ⟨g8, 0, none⟩ = some (.slice At nt ct) ∧ w'.cell? ⟨g8, 1, none⟩ = some (.slice Bt mt dt) ∧ w'.cell? ⟨g8, 2, none⟩ = some (.int .i64 xt) ∧ w'.cell? ⟨g8, 3, none⟩ = some (.int .i64 yt)) ∧ (w'.cell? ⟨g4, 0, none⟩ = some (.int .i64 p.f0) ∧ w'.cell? ⟨g4, 1, none⟩ = some (.int .i64 p.f1) ∧ w'.cell? ⟨g4, 2, none⟩ = some (.int .i64 p.f2) ∧ w'.cell? ⟨g4, 3, none⟩ = some (.int .i64 p.f3) ∧ w'.cell? ⟨g4, 4, none⟩ = some (.int .i64 p.f4) ∧ w'.cell? ⟨g4, 5, none⟩ = some (.int .i64 p.f5) ∧ w'.cell? ⟨g4, 6, none⟩ = some (.int .i64 p.f6) ∧ w'.cell? ⟨g4, 7, none⟩ = some (.int .i64 p.f7) ∧ w'.cell? ⟨g4, 8, none⟩ = some (.int .i64 p.f8) ∧ w'.cell? ⟨g4, 9, none⟩ = some (.int .i64 p.f9) ∧ w'.cell? ⟨g4, 10, none⟩ = some (.int .i64 p.f10) ∧ w'.cell? ⟨g4, 11, none⟩ = some (.bool p.f11) ∧ w'.cell? ⟨g4, 12, none⟩ = some (.bool p.f12)) ∧ (w'.cell? ⟨gx, j * 13, none⟩ = some (.int .i64 p.f0) ∧ w'.cell? ⟨gx, j * 13 + 1, none⟩ = some (.int .i64 p.f1) ∧ w'.cell? ⟨gx, j * 13 + 2, none⟩ = some (.int .i64 p.f2) ∧ w'.cell? ⟨gx, j * 13 + 3, none⟩ = some (.int .i64 p.f3) ∧ w'.cell? ⟨gx, j * 13 + 4, none⟩ = some (.int .i64 p.f4) ∧ w'.cell? ⟨gx, j * 13 + 5, none⟩ = some (.int .i64 p.f5) ∧ w'.cell? ⟨gx, j * 13 + 6, none⟩ = some (.int .i64 p.f6) ∧ w'.cell? ⟨gx, j * 13 + 7, none⟩ = some (.int .i64 p.f7) ∧ w'.cell? ⟨gx, j * 13 + 8, none⟩ = some (.int .i64 p.f8) ∧ w'.cell? ⟨gx, j * 13 + 9, none⟩ = some (.int .i64 p.f9) ∧ w'.cell? ⟨gx, j * 13 + 10, none⟩ = some (.int .i64 p.f10) ∧ w'.cell? ⟨gx, j * 13 + 11, none⟩ = some (.bool p.f11) ∧ w'.cell? ⟨gx, j * 13 + 12, none⟩ = some (.bool p.f12))) (ds := []) #[false, false, false, false, false, false, false, false, false, false, false, false, false, false, false, false, false, false, false, false, false, false, false, false, false, false, false, false] (by kernel_rfl) rfl rfl ⟨HS_55.out.cells, HX_57.out.cells, HT_58.out.cells, pcells HP_56.out, elem13 HX_57.out.cp.1 HJ.out HE.out⟩ (fun hHeld => ?_); refine with_tabW laws_FnSetPieces.tab8 laws_FnSetPieces.bits8 (fun HT_ HW_ => ?_)
  generalize W13.drew = Y0 at HBEL_54 HS_55 HP_56 HX_57 HT_58 hHeld ⊢
  refine get_ (i := 0) (N := some 33) (MKp 1) hHeld rfl rfl (fun _ _ _ h => h) (take_ofW HT_.out HW_.out (by kernel_rfl)) (by rfl) (by rintro w' ⟨⟨s0, s1, s2, s3⟩, ⟨s4, s5, s6, s7⟩, ⟨s8, s9, s10, s11⟩, ⟨p0, p1, p2, p3, p4, p5, p6, p7, p8, p9, p10, p11, p12⟩, ⟨e0, e1, e2, e3, e4, e5, e6, e7, e8, e9, e10, e11, e12⟩⟩; go_simp; with_reducible rfl) PUT_ ?_
  refine get_ (i := 1) (N := some 34) (MKp 3) hHeld rfl rfl (fun _ _ _ h => h) (take_ofW HT_.out HW_.out (by kernel_rfl)) (by rfl) (by rintro w' ⟨⟨s0, s1, s2, s3⟩, ⟨s4, s5, s6, s7⟩, ⟨s8, s9, s10, s11⟩, ⟨p0, p1, p2, p3, p4, p5, p6, p7, p8, p9, p10, p11, p12⟩, ⟨e0, e1, e2, e3, e4, e5, e6, e7, e8, e9, e10, e11, e12⟩⟩; go_simp; with_reducible rfl) PUT_ ?_
  refine get_ (i := 2) (N := some 35) (MKp 7) hHeld rfl rfl (fun _ _ _ h => h) (take_ofW HT_.out HW_.out (by kernel_rfl)) (by rfl) (by rintro w' ⟨⟨s0, s1, s2, s3⟩, ⟨s4, s5, s6, s7⟩, ⟨s8, s9, s10, s11⟩, ⟨p0, p1, p2, p3, p4, p5, p6, p7, p8, p9, p10, p11, p12⟩, ⟨e0, e1, e2, e3, e4, e5, e6, e7, e8, e9, e10, e11, e12⟩⟩; go_simp; with_reducible rfl) PUT_ ?_
  refine one_ (i := 3) (N := some 36) (MKp 15) rfl rfl (one_of HT_.out (by kernel_rfl)) (by decide) (fun K hK => ?_)
  refine goes_ Try.func58 (by kernel_rfl) rfl #[.agg #[.slice As ns cs, .slice Bs ms ds, .int .i64 xs, .int .i64 ys], .agg #[.int .i64 p.f0, .int .i64 p.f1, .int .i64 p.f2, .int .i64 p.f3, .int .i64 p.f4, .int .i64 p.f5, .int .i64 p.f6, .int .i64 p.f7, .int .i64 p.f8, .int .i64 p.f9, .int .i64 p.f10, .bool p.f11, .bool p.f12]] (by rfl) rfl rfl (by (try simp only [List.map_toArray, List.map_cons, List.map_nil]); first | done | rfl) ?_
  with_reducible refine (sset_all HS_55.out.all SP.out p qs HQ.out).mono ?_
  rintro e Yr4 ⟨v0, v1, rfl, h0, h1, hb⟩
  refine ⟨_, rfl, ?_⟩
  obtain ⟨Av, cv, Bv, dv, nv, mv, rfl, rfl, hwv⟩ := own_vals h0 h1
  have LOW := Aside0.mk HBEL_54.out.size
  have HBEL_59 := Aside0.mk (Below.trans' HBEL_54.out hb)
  have HS_60 := Aside0.mk (HS_55.out.below hb)
  have HP_61 := Aside0.mk (blk_below HP_56.out hb)
  have HX_62 := Aside0.mk (HX_57.out.below hb)
  have HT_63 := Aside0.mk (HT_58.out.below hb)
  clear HBEL_54 HS_55 HP_56 HX_57 HT_58
  have Ov_64 := Aside0.mk (hwv.low LOW.out)
  clear h0 h1 hwv hb LOW
  refine hK.out _ _ ⟨HS_60.out.cells, HX_62.out.cells, HT_63.out.cells, pcells HP_61.out, elem13 HX_62.out.cp.1 HJ.out HE.out⟩ (fun hHeld => ?_)
  clear hK K
  refine norm_ (a' := ?_) ?_ ?_
  rotate_left
  · show Act.put _ (some 36) _ = _
    simp only [Act.put, List.setIfInBounds_toArray, List.set_cons_zero, List.set_cons_succ, i64_w, i32_w]
    rfl
  refine one_ (i := 4) (N := some 37) (MKp 31) rfl rfl (one_of HT_.out (by kernel_rfl)) (by decide) (fun K hK => ?_)
  refine goes_ Try.func46 (by kernel_rfl) rfl #[.agg #[.slice (some ⟨gx, 0, none⟩) nu cu, .slice Bu mu du, .int .i64 xs, .int .i64 ys], .agg #[.slice Av nv cv, .slice Bv mv dv, .int .i64 xs, .int .i64 ys]] (by rfl) rfl rfl (by (try simp only [List.map_toArray, List.map_cons, List.map_nil]); first | done | rfl) ?_
  with_reducible refine (same_all HX_62.out.all Ov_64.out.cp SQ.out xs ys).mono ?_
  rintro e Yr5 ⟨rfl, hb⟩
  refine ⟨_, rfl, ?_⟩
  have HBEL_65 := Aside0.mk (Below.trans' HBEL_59.out hb)
  have HS_66 := Aside0.mk (HS_60.out.below hb)
  have HP_67 := Aside0.mk (blk_below HP_61.out hb)
  have HX_68 := Aside0.mk (HX_62.out.below hb)
  have HT_69 := Aside0.mk (HT_63.out.below hb)
  have Ov_70 := Aside0.mk (Ov_64.out.below hb)
  clear HBEL_59 HS_60 HP_61 HX_62 HT_63 Ov_64
  clear hb
  refine hK.out _ _ ⟨HS_66.out.cells, HX_68.out.cells, HT_69.out.cells, pcells HP_67.out, elem13 HX_68.out.cp.1 HJ.out HE.out⟩ (fun hHeld => ?_)
  clear hK K
  refine norm_ (a' := ?_) ?_ ?_
  rotate_left
  · show Act.put _ (some 37) _ = _
    simp only [Act.put, List.setIfInBounds_toArray, List.set_cons_zero, List.set_cons_succ, i64_w, i32_w]
    rfl
  clear Ov_70
  refine on_ (i := 5) (N := some 38) (v := .bool false) (MKp 63) rfl rfl (fun _ _ _ h => h) (any_of HT_.out (by kernel_rfl)) (by rfl) (by intro w'; go_simp; (first | done | with_reducible rfl | simp)) PUT_ ?_
  refine on_ (i := 6) (N := some 39) (MKp 127) rfl rfl (fun _ _ _ h => h) (any_of HT_.out (by kernel_rfl)) (by rfl) (by intro w'; go_simp; (first | done | with_reducible rfl | simp)) PUT_ ?_
  refine get_ (i := 7) (N := some 40) (MKp 255) hHeld rfl rfl (fun _ _ _ h => h) (take_ofW HT_.out HW_.out (by kernel_rfl)) (by rfl) (by rintro w' ⟨⟨s0, s1, s2, s3⟩, ⟨s4, s5, s6, s7⟩, ⟨s8, s9, s10, s11⟩, ⟨p0, p1, p2, p3, p4, p5, p6, p7, p8, p9, p10, p11, p12⟩, ⟨e0, e1, e2, e3, e4, e5, e6, e7, e8, e9, e10, e11, e12⟩⟩; go_simp; with_reducible rfl) PUT_ ?_
  refine on_ (i := 8) (N := some 41) (MKp 511) rfl rfl (fun _ _ _ h => h) (any_of HT_.out (by kernel_rfl)) (by rfl) (by intro w'; go_simp; (first | done | with_reducible rfl | simp)) PUT_ ?_
  refine get_ (i := 10) (N := some 43) (MKp 1535) hHeld rfl rfl (fun _ _ _ h => h) (take_ofW HT_.out HW_.out (by kernel_rfl)) (by rfl) (by rintro w' ⟨⟨s0, s1, s2, s3⟩, ⟨s4, s5, s6, s7⟩, ⟨s8, s9, s10, s11⟩, ⟨p0, p1, p2, p3, p4, p5, p6, p7, p8, p9, p10, p11, p12⟩, ⟨e0, e1, e2, e3, e4, e5, e6, e7, e8, e9, e10, e11, e12⟩⟩; go_simp; with_reducible rfl) PUT_ ?_
  refine on_ (i := 11) (N := some 44) (MKp 3583) rfl rfl (fun _ _ _ h => h) (any_of HT_.out (by kernel_rfl)) (by rfl) (by intro w'; go_simp; (first | done | with_reducible rfl | simp)) PUT_ ?_
  refine one_ (i := 9) (N := some 42) (MKp 4095) rfl rfl (one_of HT_.out (by kernel_rfl)) (by decide) (fun K hK => ?_)
  refine goes_ Try.func66 (by kernel_rfl) rfl #[.agg #[.slice At nt ct, .slice Bt mt dt, .int .i64 xt, .int .i64 yt], .int .i64 id] (by rfl) rfl rfl (by (try simp only [List.map_toArray, List.map_cons, List.map_nil]); first | done | rfl) ?_
  with_reducible refine ((at_all HT_69.out.all SMT.out id rr HRR.out).1).mono ?_
  rintro e Yr10 ⟨rfl, hb⟩
  refine ⟨_, rfl, ?_⟩
  have HBEL_71 := Aside0.mk (Below.trans' HBEL_65.out hb)
  have HS_72 := Aside0.mk (HS_66.out.below hb)
  have HP_73 := Aside0.mk (blk_below HP_67.out hb)
  have HX_74 := Aside0.mk (HX_68.out.below hb)
  have HT_75 := Aside0.mk (HT_69.out.below hb)
  clear HBEL_65 HS_66 HP_67 HX_68 HT_69
  clear hb
  refine hK.out _ _ ⟨HS_72.out.cells, HX_74.out.cells, HT_75.out.cells, pcells HP_73.out, elem13 HX_74.out.cp.1 HJ.out HE.out⟩ (fun hHeld => ?_)
  clear hK K
  refine norm_ (a' := ?_) ?_ ?_
  rotate_left
  · show Act.put _ (some 42) _ = _
    simp only [Act.put, List.setIfInBounds_toArray, List.set_cons_zero, List.set_cons_succ, i64_w, i32_w]
    rfl
  refine one_ (i := 12) (N := some 45) (MKp 8191) rfl rfl (one_of HT_.out (by kernel_rfl)) (by decide) (fun K hK => ?_)
  refine goes_ Try.func68 (by kernel_rfl) rfl #[.agg #[.slice At nt ct, .slice Bt mt dt, .int .i64 xt, .int .i64 yt], .int .i64 id] (by rfl) rfl rfl (by (try simp only [List.map_toArray, List.map_cons, List.map_nil]); first | done | rfl) ?_
  with_reducible refine ((at_all HT_75.out.all SMT.out id rr HRR.out).2).mono ?_
  rintro e Yr13 ⟨rfl, hb⟩
  refine ⟨_, rfl, ?_⟩
  have HBEL_76 := Aside0.mk (Below.trans' HBEL_71.out hb)
  have HS_77 := Aside0.mk (HS_72.out.below hb)
  have HP_78 := Aside0.mk (blk_below HP_73.out hb)
  have HX_79 := Aside0.mk (HX_74.out.below hb)
  have HT_80 := Aside0.mk (HT_75.out.below hb)
  clear HBEL_71 HS_72 HP_73 HX_74 HT_75
  clear hb
  refine hK.out _ _ ⟨HS_77.out.cells, HX_79.out.cells, HT_80.out.cells, pcells HP_78.out, elem13 HX_79.out.cp.1 HJ.out HE.out⟩ (fun hHeld => ?_)
  clear hK K
  refine norm_ (a' := ?_) ?_ ?_
  rotate_left
  · show Act.put _ (some 45) _ = _
    simp only [Act.put, List.setIfInBounds_toArray, List.set_cons_zero, List.set_cons_succ, i64_w, i32_w]
    rfl
  refine on_ (i := 13) (N := some 46) (v := .bool false) (MKp 16383) rfl rfl (fun _ _ _ h => h) (any_of HT_.out (by kernel_rfl)) (by rfl) (by intro w'; go_simp; (first | done | with_reducible rfl | simp)) PUT_ ?_
  refine on_ (i := 14) (N := some 47) (MKp 32767) rfl rfl (fun _ _ _ h => h) (any_of HT_.out (by kernel_rfl)) (by rfl) (by intro w'; go_simp; (first | done | with_reducible rfl | simp)) PUT_ ?_
  refine on_ (i := 15) (N := some 48) (MKp 65535) rfl rfl (fun _ _ _ h => h) (any_of HT_.out (by kernel_rfl)) (by rfl) (by intro w'; go_simp; (first | done | with_reducible rfl | simp)) PUT_ ?_
  refine on_ (i := 16) (N := some 49) (MKp 131071) rfl rfl (fun _ _ _ h => h) (any_of HT_.out (by kernel_rfl)) (by rfl) (by intro w'; go_simp; (first | done | with_reducible rfl | simp)) PUT_ ?_
  refine on_ (i := 17) (N := some 50) (v := .bool false) (MKp 262143) rfl rfl (fun _ _ _ h => h) (any_of HT_.out (by kernel_rfl)) (by rfl) (by intro w'; go_simp; (first | done | with_reducible rfl | (simp; done) | (simp; omega) | omega)) PUT_ ?_
  refine on_ (i := 18) (N := some 51) (MKp 524287) rfl rfl (fun _ _ _ h => h) (any_of HT_.out (by kernel_rfl)) (by rfl) (by intro w'; go_simp; (first | done | with_reducible rfl | simp)) PUT_ ?_
  refine on_ (i := 19) (N := some 52) (MKp 1048575) rfl rfl (fun _ _ _ h => h) (any_of HT_.out (by kernel_rfl)) (by rfl) (by intro w'; go_simp; (first | done | with_reducible rfl | simp)) PUT_ ?_
  refine on_ (i := 20) (N := some 53) (MKp 2097151) rfl rfl (fun _ _ _ h => h) (any_of HT_.out (by kernel_rfl)) (by rfl) (by intro w'; go_simp; (first | done | with_reducible rfl | simp)) PUT_ ?_
  refine get_ (i := 21) (N := some 54) (MKp 4194303) hHeld rfl rfl (fun _ _ _ h => h) (take_ofW HT_.out HW_.out (by kernel_rfl)) (by rfl) (by rintro w' ⟨⟨s0, s1, s2, s3⟩, ⟨s4, s5, s6, s7⟩, ⟨s8, s9, s10, s11⟩, ⟨p0, p1, p2, p3, p4, p5, p6, p7, p8, p9, p10, p11, p12⟩, ⟨e0, e1, e2, e3, e4, e5, e6, e7, e8, e9, e10, e11, e12⟩⟩; go_simp; with_reducible rfl) PUT_ ?_
  refine on_ (i := 22) (N := some 55) (MKp 8388607) rfl rfl (fun _ _ _ h => h) (any_of HT_.out (by kernel_rfl)) (by rfl) (by intro w'; go_simp; (first | done | with_reducible rfl | simp)) PUT_ ?_
  refine on_ (i := 23) (N := some 56) (MKp 16777215) rfl rfl (fun _ _ _ h => h) (any_of HT_.out (by kernel_rfl)) (by rfl) (by intro w'; go_simp; (first | done | with_reducible rfl | simp)) PUT_ ?_
  refine get_ (i := 24) (N := some 57) (MKp 33554431) hHeld rfl rfl (fun _ _ _ h => h) (take_ofW HT_.out HW_.out (by kernel_rfl)) (by rfl) (by rintro w' ⟨⟨s0, s1, s2, s3⟩, ⟨s4, s5, s6, s7⟩, ⟨s8, s9, s10, s11⟩, ⟨p0, p1, p2, p3, p4, p5, p6, p7, p8, p9, p10, p11, p12⟩, ⟨e0, e1, e2, e3, e4, e5, e6, e7, e8, e9, e10, e11, e12⟩⟩; go_simp; with_reducible rfl) PUT_ ?_
  refine get_ (i := 25) (N := some 58) (MKp 67108863) hHeld rfl rfl (fun _ _ _ h => h) (take_ofW HT_.out HW_.out (by kernel_rfl)) (by rfl) (by rintro w' ⟨⟨s0, s1, s2, s3⟩, ⟨s4, s5, s6, s7⟩, ⟨s8, s9, s10, s11⟩, ⟨p0, p1, p2, p3, p4, p5, p6, p7, p8, p9, p10, p11, p12⟩, ⟨e0, e1, e2, e3, e4, e5, e6, e7, e8, e9, e10, e11, e12⟩⟩; go_simp; with_reducible rfl) PUT_ ?_
  refine on_ (i := 26) (N := some 59) (v := .bool false) (MKp 134217727) rfl rfl (fun _ _ _ h => h) (any_of HT_.out (by kernel_rfl)) (by rfl) (by intro w'; go_simp; (first | done | with_reducible rfl | simp)) PUT_ ?_
  refine on_ (i := 27) (N := some 60) (MKp 268435455) rfl rfl (fun _ _ _ h => h) (any_of HT_.out (by kernel_rfl)) (by rfl) (by intro w'; go_simp; (first | done | with_reducible rfl | simp)) PUT_ ?_
  refine done_ (done_of HT_.out (by kernel_rfl)) ?_
  clear HT_ HW_ hHeld
  rcases atP_cases ps p.f0 with h1 | ⟨m, hm, h1⟩
  · have e1 : ii = -1 := HI.out.symm.trans h1
    subst e1
    have e2 : nu = ns + 1 := by
      have h2 := HLX.out
      rw [HQ.out, h1, if_neg (by decide)] at h2
      have := HX_79.out.en
      have := HS_77.out.en
      omega
    have hsl : ns ≤ 30 := by have := HS_77.out.en; have := SP.out.1; omega
    subst e2
    have hw : IntKind.i64.wrap ((ns : Int) + 1) = (ns : Int) + 1 := by rw [IntKind.wrap_i64]; omega
    obtain ⟨_, _, _, _⟩ := HX_79.out.cells
    obtain ⟨_, _, _, _⟩ := HS_77.out.cells
    clear h1
    go_wp2
    go_ret
    exact ⟨by first | rfl | (simp; done) | (simp [hw]; done), HBEL_76.out⟩
  · have e1 : ii = (j : Int) := HI.out.symm.trans (HKP.out (by rw [h1]; exact Int.natCast_nonneg m))
    have e2 : m = j := by have := HI.out; omega
    subst e1
    subst e2
    have HM := Aside0.mk hm
    clear h1 hm
    obtain ⟨y, hy⟩ : ∃ q, ps[m]'HM.out = q := ⟨_, rfl⟩
    have HY := Aside0.mk (show rd_T25 ps (m : Int) = y by rw [← hy]; simp [rd_T25, HM.out])
    have HB := Aside0.mk (show setP qs y = ps by rw [← HQ.out, ← hy]; exact set_back ps p m HM.out HI.out)
    clear hy
    obtain ⟨gs, cap, e0, -⟩ := Kd.R_form HS_77.out.rp (Nat.lt_of_le_of_lt (Nat.zero_le _) HM.out)
    injection e0 with e1 e2 e3
    clear e2 e3
    subst e1
    have hmn : (m : Int) < (ns : Int) := by have := HS_77.out.en; have := HM.out; omega
    obtain ⟨_, _, _, _⟩ := HX_79.out.cells
    obtain ⟨_, _, _, _⟩ := HS_77.out.cells
    (try go_wp2)
    have HBEL_81 := Aside0.mk (Below.trans' HBEL_76.out (below_drew (Below.refl _ _)))
    have HS_82 := Aside0.mk (HS_77.out.below (below_drew (Below.refl _ _)))
    have HP_83 := Aside0.mk (blk_below HP_78.out (below_drew (Below.refl _ _)))
    have HX_84 := Aside0.mk (HX_79.out.below (below_drew (Below.refl _ _)))
    have HT_85 := Aside0.mk (HT_80.out.below (below_drew (Below.refl _ _)))
    clear HBEL_76 HS_77 HP_78 HX_79 HT_80
    refine start_ (n := 15) (S := fun w' => (w'.cell? ⟨g3, 0, none⟩ = some (.slice (some ⟨gs, 0, none⟩) ns cs) ∧ w'.cell? ⟨g3, 1, none⟩ = some (.slice Bs ms ds) ∧ w'.cell? ⟨g3, 2, none⟩ = some (.int .i64 xs) ∧ w'.cell? ⟨g3, 3, none⟩ = some (.int .i64 ys)) ∧ (w'.cell? ⟨g5, 0, none⟩ = some (.slice (some ⟨gx, 0, none⟩) nu cu) ∧ w'.cell? ⟨g5, 1, none⟩ = some (.slice Bu mu du) ∧ w'.cell? ⟨g5, 2, none⟩ = some (.int .i64 xs) ∧ w'.cell? ⟨g5, 3, none⟩ = some (.int .i64 ys)) ∧ (w'.cell? ⟨gs, m * 13, none⟩ = some (.int .i64 y.f0) ∧ w'.cell? ⟨gs, m * 13 + 1, none⟩ = some (.int .i64 y.f1) ∧ w'.cell? ⟨gs, m * 13 + 2, none⟩ = some (.int .i64 y.f2) ∧ w'.cell? ⟨gs, m * 13 + 3, none⟩ = some (.int .i64 y.f3) ∧ w'.cell? ⟨gs, m * 13 + 4, none⟩ = some (.int .i64 y.f4) ∧ w'.cell? ⟨gs, m * 13 + 5, none⟩ = some (.int .i64 y.f5) ∧ w'.cell? ⟨gs, m * 13 + 6, none⟩ = some (.int .i64 y.f6) ∧ w'.cell? ⟨gs, m * 13 + 7, none⟩ = some (.int .i64 y.f7) ∧ w'.cell? ⟨gs, m * 13 + 8, none⟩ = some (.int .i64 y.f8) ∧ w'.cell? ⟨gs, m * 13 + 9, none⟩ = some (.int .i64 y.f9) ∧ w'.cell? ⟨gs, m * 13 + 10, none⟩ = some (.int .i64 y.f10) ∧ w'.cell? ⟨gs, m * 13 + 11, none⟩ = some (.bool y.f11) ∧ w'.cell? ⟨gs, m * 13 + 12, none⟩ = some (.bool y.f12))) (ds := []) #[false, false, false, false, false, false, false, false, false, false, false, false, false, false, false] (by kernel_rfl) rfl rfl ⟨HS_82.out.cells, HX_84.out.cells, elem13 HS_82.out.cp.1 HM.out HY.out⟩ (fun hHeld => ?_); refine with_tabW laws_FnSetPieces.tab12 laws_FnSetPieces.bits12 (fun HT_ HW_ => ?_)
    generalize Yr13.drew = Y0q at HBEL_81 HS_82 HP_83 HX_84 HT_85 hHeld ⊢
    refine on_ (i := 0) (N := some 71) (MKq 1) rfl rfl (fun _ _ _ h => h) (any_of HT_.out (by kernel_rfl)) (by rfl) (by intro w'; go_simp; (first | done | with_reducible rfl | simp)) PUT_ ?_
    refine on_ (i := 1) (N := some 72) (MKq 3) rfl rfl (fun _ _ _ h => h) (any_of HT_.out (by kernel_rfl)) (by rfl) (by intro w'; go_simp; (first | done | with_reducible rfl | simp)) PUT_ ?_
    refine on_ (i := 2) (N := some 73) (v := .bool true) (MKq 7) rfl rfl (fun _ _ _ h => h) (any_of HT_.out (by kernel_rfl)) (by rfl) (by intro w'; go_simp; (first | done | with_reducible rfl | simp)) PUT_ ?_
    refine on_ (i := 3) (N := some 74) (MKq 15) rfl rfl (fun _ _ _ h => h) (any_of HT_.out (by kernel_rfl)) (by rfl) (by intro w'; go_simp; (first | done | with_reducible rfl | simp)) PUT_ ?_
    refine get_ (i := 4) (N := some 75) (MKq 31) hHeld rfl rfl (fun _ _ _ h => h) (take_ofW HT_.out HW_.out (by kernel_rfl)) (by rfl) (by rintro w' ⟨⟨s0, s1, s2, s3⟩, ⟨s4, s5, s6, s7⟩, ⟨e0, e1, e2, e3, e4, e5, e6, e7, e8, e9, e10, e11, e12⟩⟩; go_simp; with_reducible rfl) PUT_ ?_
    refine on_ (i := 5) (N := some 76) (MKq 63) rfl rfl (fun _ _ _ h => h) (any_of HT_.out (by kernel_rfl)) (by rfl) (by intro w'; go_simp; (first | done | with_reducible rfl | simp)) PUT_ ?_
    refine get_ (i := 6) (N := some 77) (MKq 127) hHeld rfl rfl (fun _ _ _ h => h) (take_ofW HT_.out HW_.out (by kernel_rfl)) (by rfl) (by rintro w' ⟨⟨s0, s1, s2, s3⟩, ⟨s4, s5, s6, s7⟩, ⟨e0, e1, e2, e3, e4, e5, e6, e7, e8, e9, e10, e11, e12⟩⟩; go_simp; with_reducible rfl) PUT_ ?_
    refine on_ (i := 7) (N := some 78) (MKq 255) rfl rfl (fun _ _ _ h => h) (any_of HT_.out (by kernel_rfl)) (by rfl) (by intro w'; go_simp; (first | done | with_reducible rfl | simp)) PUT_ ?_
    refine on_ (i := 8) (N := some 79) (MKq 511) rfl rfl (fun _ _ _ h => h) (any_of HT_.out (by kernel_rfl)) (by rfl) (by intro w'; go_simp; (first | done | with_reducible rfl | simp)) PUT_ ?_
    refine get_ (i := 9) (N := some 80) (MKq 1023) hHeld rfl rfl (fun _ _ _ h => h) (take_ofW HT_.out HW_.out (by kernel_rfl)) (by rfl) (by rintro w' ⟨⟨s0, s1, s2, s3⟩, ⟨s4, s5, s6, s7⟩, ⟨e0, e1, e2, e3, e4, e5, e6, e7, e8, e9, e10, e11, e12⟩⟩; go_simp; with_reducible rfl) PUT_ ?_
    refine get_ (i := 11) (N := some 82) (MKq 3071) hHeld rfl rfl (fun _ _ _ h => h) (take_ofW HT_.out HW_.out (by kernel_rfl)) (by rfl) (by rintro w' ⟨⟨s0, s1, s2, s3⟩, ⟨s4, s5, s6, s7⟩, ⟨e0, e1, e2, e3, e4, e5, e6, e7, e8, e9, e10, e11, e12⟩⟩; go_simp; with_reducible rfl) PUT_ ?_
    refine one_ (i := 10) (N := some 81) (MKq 4095) rfl rfl (one_of HT_.out (by kernel_rfl)) (by decide) (fun K hK => ?_)
    refine goes_ Try.func60 (by kernel_rfl) rfl #[.agg #[.slice (some ⟨gx, 0, none⟩) nu cu, .slice Bu mu du, .int .i64 xs, .int .i64 ys], .agg #[.int .i64 y.f0, .int .i64 y.f1, .int .i64 y.f2, .int .i64 y.f3, .int .i64 y.f4, .int .i64 y.f5, .int .i64 y.f6, .int .i64 y.f7, .int .i64 y.f8, .int .i64 y.f9, .int .i64 y.f10, .bool y.f11, .bool y.f12]] (by rfl) rfl rfl (by (try simp only [List.map_toArray, List.map_cons, List.map_nil]); first | done | rfl) ?_
    with_reducible refine (set_all HX_84.out.all SQ.out y ps HB.out).mono ?_
    rintro e Yq11 ⟨v0, v1, rfl, h0, h1, hb⟩
    refine ⟨_, rfl, ?_⟩
    obtain ⟨Az, cz, Bz, dz, nz, mz, rfl, rfl, hwz⟩ := own_vals h0 h1
    have LOW := Aside0.mk HBEL_81.out.size
    have HBEL_86 := Aside0.mk (Below.trans' HBEL_81.out hb)
    have HS_87 := Aside0.mk (HS_82.out.below hb)
    have HP_88 := Aside0.mk (blk_below HP_83.out hb)
    have HX_89 := Aside0.mk (HX_84.out.below hb)
    have HT_90 := Aside0.mk (HT_85.out.below hb)
    clear HBEL_81 HS_82 HP_83 HX_84 HT_85
    have Oz_91 := Aside0.mk (hwz.low LOW.out)
    clear h0 h1 hwz hb LOW
    refine hK.out _ _ ⟨HS_87.out.cells, HX_89.out.cells, elem13 HS_87.out.cp.1 HM.out HY.out⟩ (fun hHeld => ?_)
    clear hK K
    refine norm_ (a' := ?_) ?_ ?_
    rotate_left
    · show Act.put _ (some 81) _ = _
      simp only [Act.put, List.setIfInBounds_toArray, List.set_cons_zero, List.set_cons_succ, i64_w, i32_w]
      rfl
    refine one_ (i := 12) (N := some 83) (MKq 8191) rfl rfl (one_of HT_.out (by kernel_rfl)) (by decide) (fun K hK => ?_)
    refine goes_ Try.func46 (by kernel_rfl) rfl #[.agg #[.slice Az nz cz, .slice Bz mz dz, .int .i64 xs, .int .i64 ys], .agg #[.slice (some ⟨gs, 0, none⟩) ns cs, .slice Bs ms ds, .int .i64 xs, .int .i64 ys]] (by rfl) rfl rfl (by (try simp only [List.map_toArray, List.map_cons, List.map_nil]); first | done | rfl) ?_
    with_reducible refine (same_all Oz_91.out.cp HS_87.out.all SP.out xs ys).mono ?_
    rintro e Yq13 ⟨rfl, hb⟩
    refine ⟨_, rfl, ?_⟩
    have HBEL_92 := Aside0.mk (Below.trans' HBEL_86.out hb)
    have HS_93 := Aside0.mk (HS_87.out.below hb)
    have HP_94 := Aside0.mk (blk_below HP_88.out hb)
    have HX_95 := Aside0.mk (HX_89.out.below hb)
    have HT_96 := Aside0.mk (HT_90.out.below hb)
    have Oz_97 := Aside0.mk (Oz_91.out.below hb)
    clear HBEL_86 HS_87 HP_88 HX_89 HT_90 Oz_91
    clear hb
    refine hK.out _ _ ⟨HS_93.out.cells, HX_95.out.cells, elem13 HS_93.out.cp.1 HM.out HY.out⟩ (fun hHeld => ?_)
    clear hK K
    refine norm_ (a' := ?_) ?_ ?_
    rotate_left
    · show Act.put _ (some 83) _ = _
      simp only [Act.put, List.setIfInBounds_toArray, List.set_cons_zero, List.set_cons_succ, i64_w, i32_w]
      rfl
    refine on_ (i := 13) (N := some 84) (MKq 16383) rfl rfl (fun _ _ _ h => h) (any_of HT_.out (by kernel_rfl)) (by rfl) (by intro w'; go_simp; (first | done | with_reducible rfl | simp)) PUT_ ?_
    refine on_ (i := 14) (N := some 2) (MKq 32767) rfl rfl (fun _ _ _ h => h) (any_of HT_.out (by kernel_rfl)) (by rfl) (by intro w'; go_simp; (first | done | with_reducible rfl | simp)) PUT_ ?_
    refine done_ (done_of HT_.out (by kernel_rfl)) ?_
    clear HT_ HW_ hHeld
    (try go_wp2)
    go_ret
    exact ⟨rfl, HBEL_92.out⟩
theorem laws_FnSetPieces.walk (a0 : Option Addr) (len0 cap0 : Nat) (z0 : List Int) (w : World) (w0 : (a0 = none ∧ len0 = 0 ∧ cap0 = 0 ∧ z0 = []) ∨ ∃ x, a0 = some x ∧ len0 ≤ cap0 ∧ cap0 ≤ maxLen ∧ z0.length = cap0 ∧ (∀ i, i < z0.length → w.cell? (x.add i) = some (.int .u8 (z0.getD i 0))) ∧ ∀ n ∈ z0, (Lit.int .u8 n).wf = true) (y0 : len0 * 1 ≤ 140737488351232) :
    Calls Try.prog 10 #[.slice a0 len0 cap0] w fun e w' => e = .returned (.bool true) ∧ Below w.heap.size w w' := by
  obtain ⟨l0, rfl, hr0, hm0, hw0, hc0⟩ := ReadsInt.ofRowC w0
  exact law_setpieces _ _ l0 w (Kd.C_of_reads (d := (0 : Int)) (h1 := fun _ => rfl) hr0) hc0
end Go.Proofs.Ytfkidiagmekleaa.QAll
