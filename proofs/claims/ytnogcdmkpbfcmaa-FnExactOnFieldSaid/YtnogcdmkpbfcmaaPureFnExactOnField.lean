/- For every state s whose lists together have at most 2^20 elements and every int the program's OnField and the reference's OnField return the same list, in new memory, and s stays as it was (of a longer one the law says nothing: it answers true). -/
import Derived.Test.YtnogcdmkpbfcmaaQFnExactOnFieldx5
namespace Go.Proofs.Ytnogcdmkpbfcmaa.Pure
open Go.RowKit Go.Proofs.Ytnogcdmkpbfcmaa.QFnExactOnField Go.Proofs.YtnogcdmkpbfcmaaW.PrintWords Go.Proofs.YtnogcdmkpbfcmaaW.PrintLast
theorem wrap_nat (n : Nat) (h : n ≤ 4611686018427387904) : wrap64 ((n : Int) + 1) = ((n + 1 : Nat) : Int) := by unfold wrap64; omega
theorem rd_nat (l : List Int) (n : Nat) (h : n < l.length) : l[n]? = some (rd l (n : Int)) := by
  unfold rd
  rw [Int.toNat_natCast, List.getD_eq_getElem?_getD, List.getElem?_eq_getElem h]
  rfl
theorem ext_upto {α : Type} (a b : List α) (hl : a.length = b.length) (h : ∀ j, j < a.length → a[j]? = b[j]?) : a = b := by
  apply List.ext_getElem?
  intro j
  by_cases hj : j < a.length
  · exact h j hj
  · rw [List.getElem?_eq_none (by omega), List.getElem?_eq_none (by omega)]

theorem rdT_52 (l : List S52) (n : Nat) (h : n < l.length) : l[n]? = some (rd_T52 l (n : Int)) := by
  unfold rd_T52
  rw [Int.toNat_natCast, List.getD_eq_getElem?_getD, List.getElem?_eq_getElem h]
  rfl
theorem rdT_42 (l : List S42) (n : Nat) (h : n < l.length) : l[n]? = some (rd_T42 l (n : Int)) := by
  unfold rd_T42
  rw [Int.toNat_natCast, List.getD_eq_getElem?_getD, List.getElem?_eq_getElem h]
  rfl
def convPiece (x : S52) : S42 := ⟨x.f0, x.f1, x.f2, x.f3, x.f4, x.f5, x.f6, x.f7, x.f8, x.f9, x.f10, x.f11, x.f12⟩
theorem toPieceS_l0 : ∀ (d k n : Nat) (l : List S52) (out : List S42), n + d = l.length → d < k → out.length = l.length → l.length ≤ 4611686018427387904 → (∀ j, j < n → out[j]? = (l.map convPiece)[j]?) → laws_toPieceS.l0 k l out (n : Int) = some (l.map convPiece)
  | 0, k, n, l, out, hn, hk, hl, hb, h => by
    obtain ⟨k, rfl⟩ : ∃ q, k = q + 1 := ⟨k - 1, by omega⟩
    simp only [laws_toPieceS.l0]
    rw [if_neg (by omega), ext_upto out (l.map convPiece) (by rw [List.length_map]; exact hl) (fun j hj => h j (by omega))]
  | d + 1, k, n, l, out, hn, hk, hl, hb, h => by
    obtain ⟨k, rfl⟩ : ∃ q, k = q + 1 := ⟨k - 1, by omega⟩
    simp only [laws_toPieceS.l0, laws_toPiece.f, Option.bind_some]
    rw [if_pos (by omega), if_pos (by omega), if_pos (by omega), wrap_nat n (by omega), Int.toNat_natCast]
    refine toPieceS_l0 d k (n + 1) l _ (by omega) (by omega) (by rw [List.length_set]; exact hl) hb (fun j hj => ?_)
    by_cases e : n = j
    · subst e
      rw [List.getElem?_set_self (by omega), List.getElem?_map, rdT_52 l n (by omega)]
      rfl
    · rw [List.getElem?_set_ne e]
      exact h j (by omega)
theorem toPieceS_f (k : Nat) (l : List S52) (hk : l.length < k) (hb : l.length ≤ 1048576) : laws_toPieceS.f k l = some (l.map convPiece) := by
  unfold laws_toPieceS.f
  rw [if_pos (by omega), Int.toNat_natCast, if_pos (by omega)]
  exact toPieceS_l0 l.length k 0 l _ (by omega) hk (by simp) (by omega) (fun j hj => by omega)
theorem eqPiece_same (x : S42) : laws_eqPiece.f (x.f0) (x.f1) (x.f2) (x.f3) (x.f4) (x.f5) (x.f6) (x.f7) (x.f8) (x.f9) (x.f10) (x.f11) (x.f12) (x.f0) (x.f1) (x.f2) (x.f3) (x.f4) (x.f5) (x.f6) (x.f7) (x.f8) (x.f9) (x.f10) (x.f11) (x.f12) = some true := by
  unfold laws_eqPiece.f
  simp only [if_true, bne_self_eq_false, Bool.false_eq_true, if_false]
theorem eqPieceS_l0 : ∀ (d k n : Nat) (a : List S42), n + d = a.length → d < k → a.length ≤ 4611686018427387904 → laws_eqPieceS.l0 k a a (n : Int) = some true
  | 0, k, n, a, hn, hk, hb => by
    obtain ⟨k, rfl⟩ : ∃ q, k = q + 1 := ⟨k - 1, by omega⟩
    simp only [laws_eqPieceS.l0]
    rw [if_neg (by omega)]
  | d + 1, k, n, a, hn, hk, hb => by
    obtain ⟨k, rfl⟩ : ∃ q, k = q + 1 := ⟨k - 1, by omega⟩
    simp only [laws_eqPieceS.l0]
    rw [if_pos (by omega), if_pos (by omega), if_pos (by omega), eqPiece_same (rd_T42 a (n : Int)), wrap_nat n (by omega)]
    simp only [Option.bind_some, if_true]
    exact eqPieceS_l0 d k (n + 1) a (by omega) (by omega) hb
theorem eqPieceS_same (k : Nat) (a : List S42) (hk : a.length < k) (hb : a.length ≤ 4611686018427387904) : laws_eqPieceS.f k a a = some true := by
  unfold laws_eqPieceS.f
  rw [if_pos rfl]
  exact eqPieceS_l0 a.length k 0 a (by omega) hk hb

theorem rdT_97 (l : List S97) (n : Nat) (h : n < l.length) : l[n]? = some (rd_T97 l (n : Int)) := by
  unfold rd_T97
  rw [Int.toNat_natCast, List.getD_eq_getElem?_getD, List.getElem?_eq_getElem h]
  rfl
theorem rdT_78 (l : List S78) (n : Nat) (h : n < l.length) : l[n]? = some (rd_T78 l (n : Int)) := by
  unfold rd_T78
  rw [Int.toNat_natCast, List.getD_eq_getElem?_getD, List.getElem?_eq_getElem h]
  rfl
def convSide (x : S97) : S78 := ⟨x.f0, x.f1, x.f2⟩
theorem toSideS_l0 : ∀ (d k n : Nat) (l : List S97) (out : List S78), n + d = l.length → d < k → out.length = l.length → l.length ≤ 4611686018427387904 → (∀ j, j < n → out[j]? = (l.map convSide)[j]?) → laws_toSideS.l0 k l out (n : Int) = some (l.map convSide)
  | 0, k, n, l, out, hn, hk, hl, hb, h => by
    obtain ⟨k, rfl⟩ : ∃ q, k = q + 1 := ⟨k - 1, by omega⟩
    simp only [laws_toSideS.l0]
    rw [if_neg (by omega), ext_upto out (l.map convSide) (by rw [List.length_map]; exact hl) (fun j hj => h j (by omega))]
  | d + 1, k, n, l, out, hn, hk, hl, hb, h => by
    obtain ⟨k, rfl⟩ : ∃ q, k = q + 1 := ⟨k - 1, by omega⟩
    simp only [laws_toSideS.l0, laws_toSide.f, Option.bind_some]
    rw [if_pos (by omega), if_pos (by omega), if_pos (by omega), wrap_nat n (by omega), Int.toNat_natCast]
    refine toSideS_l0 d k (n + 1) l _ (by omega) (by omega) (by rw [List.length_set]; exact hl) hb (fun j hj => ?_)
    by_cases e : n = j
    · subst e
      rw [List.getElem?_set_self (by omega), List.getElem?_map, rdT_97 l n (by omega)]
      rfl
    · rw [List.getElem?_set_ne e]
      exact h j (by omega)
theorem toSideS_f (k : Nat) (l : List S97) (hk : l.length < k) (hb : l.length ≤ 1048576) : laws_toSideS.f k l = some (l.map convSide) := by
  unfold laws_toSideS.f
  rw [if_pos (by omega), Int.toNat_natCast, if_pos (by omega)]
  exact toSideS_l0 l.length k 0 l _ (by omega) hk (by simp) (by omega) (fun j hj => by omega)
theorem eqSide_same (x : S78) : laws_eqSide.f (x.f0) (x.f1) (x.f2) (x.f0) (x.f1) (x.f2) = some true := by
  unfold laws_eqSide.f
  simp only [if_true, bne_self_eq_false, Bool.false_eq_true, if_false]
theorem eqSideS_l0 : ∀ (d k n : Nat) (a : List S78), n + d = a.length → d < k → a.length ≤ 4611686018427387904 → laws_eqSideS.l0 k a a (n : Int) = some true
  | 0, k, n, a, hn, hk, hb => by
    obtain ⟨k, rfl⟩ : ∃ q, k = q + 1 := ⟨k - 1, by omega⟩
    simp only [laws_eqSideS.l0]
    rw [if_neg (by omega)]
  | d + 1, k, n, a, hn, hk, hb => by
    obtain ⟨k, rfl⟩ : ∃ q, k = q + 1 := ⟨k - 1, by omega⟩
    simp only [laws_eqSideS.l0]
    rw [if_pos (by omega), if_pos (by omega), if_pos (by omega), eqSide_same (rd_T78 a (n : Int)), wrap_nat n (by omega)]
    simp only [Option.bind_some, if_true]
    exact eqSideS_l0 d k (n + 1) a (by omega) (by omega) hb
theorem eqSideS_same (k : Nat) (a : List S78) (hk : a.length < k) (hb : a.length ≤ 4611686018427387904) : laws_eqSideS.f k a a = some true := by
  unfold laws_eqSideS.f
  rw [if_pos rfl]
  exact eqSideS_l0 a.length k 0 a (by omega) hk hb

theorem toState_f (k : Nat) (ps : List S52) (ss : List S97) (a c : Int) (hk : ps.length + ss.length < k) (hb : ps.length + ss.length ≤ 1048576) : laws_toState.f k ps ss a c = some (ps.map convPiece, ss.map convSide, a, c) := by
  unfold laws_toState.f
  rw [toPieceS_f k ps (by omega) (by omega), toSideS_f k ss (by omega) (by omega)]
  rfl
theorem eqState_same (k : Nat) (ps : List S42) (ss : List S78) (a c : Int) (hk : ps.length + ss.length < k) (hb : ps.length + ss.length ≤ 1048576) : laws_eqState.f k ps ss a c ps ss a c = some true := by
  unfold laws_eqState.f
  rw [eqPieceS_same k ps (by omega) (by omega), eqSideS_same k ss (by omega) (by omega)]
  simp only [Option.bind_some, if_true]

theorem sz_f (ps : List S52) (ss : List S97) (a c n : Int) (h0 : 0 ≤ n) (h1 : n ≤ 1048576) (hp : ps.length ≤ 9223372036854775807) (hs : ss.length ≤ 9223372036854775807) : laws_szState.f ps ss a c n = some (if n - (ps.length : Int) - (ss.length : Int) < 0 then -1 else n - (ps.length : Int) - (ss.length : Int)) := by
  have w1 : wrap64 (n - (ps.length : Int)) = n - (ps.length : Int) := by unfold wrap64; omega
  unfold laws_szState.f laws_szPieceS.f laws_szSideS.f
  rw [w1]
  by_cases g : n - (ps.length : Int) < 0
  · rw [if_pos g]
    simp only [Option.bind_some]
    rw [if_pos (by decide), if_pos (by omega)]
  · rw [if_neg g]
    simp only [Option.bind_some]
    have w2 : wrap64 (n - (ps.length : Int) - (ss.length : Int)) = n - (ps.length : Int) - (ss.length : Int) := by unfold wrap64; omega
    rw [if_neg g, w2]
    by_cases g2 : n - (ps.length : Int) - (ss.length : Int) < 0
    · rw [if_pos g2, if_pos g2]
      simp only [Option.bind_some]
      rw [if_pos (by decide)]
    · rw [if_neg g2, if_neg g2]
      simp only [Option.bind_some]
      rw [if_neg g2]

theorem bind_of {α β : Type} {x : Option α} {v : α} {f : α → Option β} {r : Option β} (h : x = some v) (h2 : f v = r) : x.bind f = r := by rw [h]; exact h2
theorem ite_of {α : Type} {c : Prop} [Decidable c] {a b r : α} (hc : c) (h : a = r) : (if c then a else b) = r := by rw [if_pos hc]; exact h
theorem ite_no {α : Type} {c : Prop} [Decidable c] {a b r : α} (hc : ¬ c) (h : b = r) : (if c then a else b) = r := by rw [if_neg hc]; exact h

theorem mstep_Piece {Q : Option (Int × List S42) → Prop} {f : List S42 → Option (Int × List S42)} {z : List S42} (h : ∀ y : List S42, y.length = z.length → Q (f y)) : Q ((some z).bind f) := h z rfl
theorem markPieceS_any_l0 : ∀ (d k n : Nat) (x : List S42) (s : Int), n + d = x.length → d < k → x.length ≤ 4611686018427387904 → 0 ≤ s → s + 13 * (d : Int) ≤ 4611686018427387904 → ∃ y, laws_markPieceS.l0 k x s (n : Int) = some (s + 13 * (d : Int), y)
  | 0, k, n, x, s, hn, hk, hb, h0, h1 => by
    obtain ⟨k, rfl⟩ : ∃ q, k = q + 1 := ⟨k - 1, by omega⟩
    simp only [laws_markPieceS.l0]
    rw [if_neg (by omega)]
    exact ⟨x, by simp⟩
  | d + 1, k, n, x, s, hn, hk, hb, h0, h1 => by
    obtain ⟨k, rfl⟩ : ∃ q, k = q + 1 := ⟨k - 1, by omega⟩
    have key : ∀ (z : List S42) (q : Int), z.length = x.length → q = s + 13 → ∃ y, laws_markPieceS.l0 k z q (wrap64 ((n : Int) + 1)) = some (s + 13 * ((d + 1 : Nat) : Int), y) := fun z q hz hq => by
      subst hq
      rw [wrap_nat n (by omega)]
      obtain ⟨y, hy⟩ := markPieceS_any_l0 d k (n + 1) z (s + 13) (by omega) (by omega) (by omega) (by omega) (by omega)
      exact ⟨y, by rw [hy]; congr 2; omega⟩
    have hw : ∀ t : Int, 0 ≤ t ∧ t ≤ 4611686018427387904 → wrap64 (t + 1) = t + 1 := fun t ht => by unfold wrap64; omega
    simp only [laws_markPieceS.l0]
    rw [if_pos (by omega), if_pos (by omega)]
    refine mstep_Piece (Q := fun r => ∃ y, r = some (s + 13 * ((d + 1 : Nat) : Int), y)) (fun y1 h1 => ?_)
    refine mstep_Piece (Q := fun r => ∃ y, r = some (s + 13 * ((d + 1 : Nat) : Int), y)) (fun y2 h2 => ?_)
    refine mstep_Piece (Q := fun r => ∃ y, r = some (s + 13 * ((d + 1 : Nat) : Int), y)) (fun y3 h3 => ?_)
    refine mstep_Piece (Q := fun r => ∃ y, r = some (s + 13 * ((d + 1 : Nat) : Int), y)) (fun y4 h4 => ?_)
    refine mstep_Piece (Q := fun r => ∃ y, r = some (s + 13 * ((d + 1 : Nat) : Int), y)) (fun y5 h5 => ?_)
    refine mstep_Piece (Q := fun r => ∃ y, r = some (s + 13 * ((d + 1 : Nat) : Int), y)) (fun y6 h6 => ?_)
    refine mstep_Piece (Q := fun r => ∃ y, r = some (s + 13 * ((d + 1 : Nat) : Int), y)) (fun y7 h7 => ?_)
    refine mstep_Piece (Q := fun r => ∃ y, r = some (s + 13 * ((d + 1 : Nat) : Int), y)) (fun y8 h8 => ?_)
    refine mstep_Piece (Q := fun r => ∃ y, r = some (s + 13 * ((d + 1 : Nat) : Int), y)) (fun y9 h9 => ?_)
    refine mstep_Piece (Q := fun r => ∃ y, r = some (s + 13 * ((d + 1 : Nat) : Int), y)) (fun y10 h10 => ?_)
    refine mstep_Piece (Q := fun r => ∃ y, r = some (s + 13 * ((d + 1 : Nat) : Int), y)) (fun y11 h11 => ?_)
    refine mstep_Piece (Q := fun r => ∃ y, r = some (s + 13 * ((d + 1 : Nat) : Int), y)) (fun y12 h12 => ?_)
    refine key _ _ (by rw [List.length_set, h12, List.length_set, h11, List.length_set, h10, List.length_set, h9, List.length_set, h8, List.length_set, h7, List.length_set, h6, List.length_set, h5, List.length_set, h4, List.length_set, h3, List.length_set, h2, List.length_set, h1, List.length_set]) ?_
    clear key
    simp (disch := omega) only [hw]
    omega
theorem markPieceS_any (k : Nat) (x : List S42) (s : Int) (hk : x.length < k) (hb : x.length ≤ 1048576) (h0 : 0 ≤ s) (h1 : s ≤ 2305843009213693952) : ∃ y, laws_markPieceS.f k x s = some (s + 13 * (x.length : Int), y) := by
  unfold laws_markPieceS.f
  exact markPieceS_any_l0 x.length k 0 x s (by omega) hk (by omega) h0 (by omega)
theorem mstep_Side {Q : Option (Int × List S78) → Prop} {f : List S78 → Option (Int × List S78)} {z : List S78} (h : ∀ y : List S78, y.length = z.length → Q (f y)) : Q ((some z).bind f) := h z rfl
theorem markSideS_any_l0 : ∀ (d k n : Nat) (x : List S78) (s : Int), n + d = x.length → d < k → x.length ≤ 4611686018427387904 → 0 ≤ s → s + 3 * (d : Int) ≤ 4611686018427387904 → ∃ y, laws_markSideS.l0 k x s (n : Int) = some (s + 3 * (d : Int), y)
  | 0, k, n, x, s, hn, hk, hb, h0, h1 => by
    obtain ⟨k, rfl⟩ : ∃ q, k = q + 1 := ⟨k - 1, by omega⟩
    simp only [laws_markSideS.l0]
    rw [if_neg (by omega)]
    exact ⟨x, by simp⟩
  | d + 1, k, n, x, s, hn, hk, hb, h0, h1 => by
    obtain ⟨k, rfl⟩ : ∃ q, k = q + 1 := ⟨k - 1, by omega⟩
    have key : ∀ (z : List S78) (q : Int), z.length = x.length → q = s + 3 → ∃ y, laws_markSideS.l0 k z q (wrap64 ((n : Int) + 1)) = some (s + 3 * ((d + 1 : Nat) : Int), y) := fun z q hz hq => by
      subst hq
      rw [wrap_nat n (by omega)]
      obtain ⟨y, hy⟩ := markSideS_any_l0 d k (n + 1) z (s + 3) (by omega) (by omega) (by omega) (by omega) (by omega)
      exact ⟨y, by rw [hy]; congr 2; omega⟩
    have hw : ∀ t : Int, 0 ≤ t ∧ t ≤ 4611686018427387904 → wrap64 (t + 1) = t + 1 := fun t ht => by unfold wrap64; omega
    simp only [laws_markSideS.l0]
    rw [if_pos (by omega), if_pos (by omega)]
    refine mstep_Side (Q := fun r => ∃ y, r = some (s + 3 * ((d + 1 : Nat) : Int), y)) (fun y1 h1 => ?_)
    refine mstep_Side (Q := fun r => ∃ y, r = some (s + 3 * ((d + 1 : Nat) : Int), y)) (fun y2 h2 => ?_)
    refine key _ _ (by rw [List.length_set, h2, List.length_set, h1, List.length_set]) ?_
    clear key
    simp (disch := omega) only [hw]
    omega
theorem markSideS_any (k : Nat) (x : List S78) (s : Int) (hk : x.length < k) (hb : x.length ≤ 1048576) (h0 : 0 ≤ s) (h1 : s ≤ 2305843009213693952) : ∃ y, laws_markSideS.f k x s = some (s + 3 * (x.length : Int), y) := by
  unfold laws_markSideS.f
  exact markSideS_any_l0 x.length k 0 x s (by omega) hk (by omega) h0 (by omega)
theorem markState_any (k : Nat) (ps : List S42) (ss : List S78) (a c : Int) (hk : ps.length + ss.length < k) (hb : ps.length + ss.length ≤ 1048576) : ∃ v x y, laws_markState.f k ps ss a c 1 = some (v, x, y) ∧ 0 ≤ v := by
  obtain ⟨x, hx⟩ := markPieceS_any k ps 1 (by omega) (by omega) (by omega) (by omega)
  obtain ⟨y, hy⟩ := markSideS_any k ss (1 + 13 * (ps.length : Int)) (by omega) (by omega) (by omega) (by omega)
  refine ⟨1 + 13 * (ps.length : Int) + 3 * (ss.length : Int), x, y, ?_, by omega⟩
  unfold laws_markState.f
  rw [hx]
  simp only [Option.bind_some]
  rw [hy]
  rfl

theorem eqIntS_l0 : ∀ (d k n : Nat) (a b : List Int), n + d = a.length → d < k → a.length = b.length → a.length ≤ 4611686018427387904 → (∀ j, j < n → a[j]? = b[j]?) → laws_eqIntS.l0 k a b (n : Int) = some (decide (a = b))
  | 0, k, n, a, b, hn, hk, hl, hb, h => by
    obtain ⟨k, rfl⟩ : ∃ q, k = q + 1 := ⟨k - 1, by omega⟩
    simp only [laws_eqIntS.l0]
    rw [if_neg (by omega), ext_upto a b hl (fun j hj => h j (by omega))]
    simp
  | d + 1, k, n, a, b, hn, hk, hl, hb, h => by
    obtain ⟨k, rfl⟩ : ∃ q, k = q + 1 := ⟨k - 1, by omega⟩
    simp only [laws_eqIntS.l0]
    rw [if_pos (by omega), if_pos (by omega), if_pos (by omega)]
    by_cases e : rd a (n : Int) = rd b (n : Int)
    · rw [if_pos e, wrap_nat n (by omega)]
      refine eqIntS_l0 d k (n + 1) a b (by omega) (by omega) hl hb (fun j hj => ?_)
      by_cases ej : j = n
      · subst ej
        rw [rd_nat a j (by omega), rd_nat b j (by omega), e]
      · exact h j (by omega)
    · rw [if_neg e, decide_eq_false]
      intro hab
      exact e (by rw [hab])
theorem eqIntS_f (k : Nat) (a b : List Int) (hk : a.length < k) (hb : a.length ≤ 4611686018427387904) : laws_eqIntS.f k a b = some (decide (a = b)) := by
  unfold laws_eqIntS.f
  by_cases hl : (a.length : Int) = (b.length : Int)
  · rw [if_pos hl]
    exact eqIntS_l0 a.length k 0 a b (by omega) hk (by omega) hb (fun j hj => by omega)
  · rw [if_neg hl, decide_eq_false]
    intro hab
    exact hl (by rw [hab])
theorem eqIntS_same (k : Nat) (a : List Int) (hk : a.length < k) (hb : a.length ≤ 4611686018427387904) : laws_eqIntS.f k a a = some true := by rw [eqIntS_f k a a hk hb]; simp

def marksInt (n : Nat) : List Int := (List.range n).map fun (j : Nat) => (1 + (j : Int))
theorem marksInt_length (n : Nat) : (marksInt n).length = n := by simp [marksInt]
theorem marksInt_at (n j : Nat) (h : j < n) : (marksInt n)[j]? = some ((1 + (j : Int))) := by simp [marksInt, h]
theorem markIntS_l0 : ∀ (d k n : Nat) (x : List Int), n + d = x.length → d < k → x.length ≤ 4611686018427387904 → (∀ j, j < n → x[j]? = some ((1 + (j : Int)))) → laws_markIntS.l0 k x (1 + (n : Int)) (n : Int) = some (1 + (x.length : Int), marksInt x.length)
  | 0, k, n, x, hn, hk, hb, h => by
    obtain ⟨k, rfl⟩ : ∃ q, k = q + 1 := ⟨k - 1, by omega⟩
    simp only [laws_markIntS.l0]
    rw [if_neg (by omega), ← ext_upto x (marksInt x.length) (marksInt_length _).symm (fun j hj => by rw [h j (by omega), marksInt_at _ j hj])]
    congr 2
    omega
  | d + 1, k, n, x, hn, hk, hb, h => by
    obtain ⟨k, rfl⟩ : ∃ q, k = q + 1 := ⟨k - 1, by omega⟩
    simp only [laws_markIntS.l0]
    have hw : wrap64 (1 + (n : Int) + 1) = 1 + ((n + 1 : Nat) : Int) := by unfold wrap64; omega
    rw [if_pos (by omega), if_pos (by omega), wrap_nat n (by omega), hw, Int.toNat_natCast]
    have hl : (x.set n ((1 + (n : Int)))).length = x.length := List.length_set ..
    have := markIntS_l0 d k (n + 1) (x.set n ((1 + (n : Int)))) (by omega) (by omega) (by omega) (fun j hj => ?_)
    · rw [hl] at this
      exact this
    · by_cases e : n = j
      · subst e
        rw [List.getElem?_set_self (by omega)]
      · rw [List.getElem?_set_ne e]
        exact h j (by omega)
theorem markIntS_f (k : Nat) (x : List Int) (hk : x.length < k) (hb : x.length ≤ 4611686018427387904) : laws_markIntS.f k x 1 = some (1 + (x.length : Int), marksInt x.length) := by
  unfold laws_markIntS.f
  exact markIntS_l0 x.length k 0 x (by omega) hk hb (fun j hj => by omega)

theorem heldIntS_l0 : ∀ (d k n m : Nat), n + d = m → d < k → m ≤ 4611686018427387904 → laws_heldIntS.l0 k (marksInt m) (1 + (n : Int)) (n : Int) = some (1 + (m : Int))
  | 0, k, n, m, hn, hk, hb => by
    obtain ⟨k, rfl⟩ : ∃ q, k = q + 1 := ⟨k - 1, by omega⟩
    simp only [laws_heldIntS.l0]
    rw [if_neg (by rw [marksInt_length]; omega)]
    congr 2
    omega
  | d + 1, k, n, m, hn, hk, hb => by
    obtain ⟨k, rfl⟩ : ∃ q, k = q + 1 := ⟨k - 1, by omega⟩
    simp only [laws_heldIntS.l0]
    have hw : wrap64 (1 + (n : Int) + 1) = 1 + ((n + 1 : Nat) : Int) := by unfold wrap64; omega
    have hr : rd (marksInt m) (n : Int) = (1 + (n : Int)) := by
      have := rd_nat (marksInt m) n (by rw [marksInt_length]; omega)
      rw [marksInt_at m n (by omega)] at this
      exact (Option.some.inj this).symm
    rw [if_pos (by rw [marksInt_length]; omega), if_pos (by omega), if_pos hr, wrap_nat n (by omega), hw]
    exact heldIntS_l0 d k (n + 1) m (by omega) (by omega) hb
theorem heldIntS_f (k : Nat) (m : Nat) (hk : m < k) (hb : m ≤ 4611686018427387904) : laws_heldIntS.f k (marksInt m) 1 = some (1 + (m : Int)) := by
  unfold laws_heldIntS.f
  exact heldIntS_l0 m k 0 m (by omega) hk hb

def onf (side : Int) (ps : List S42) : List Int := (ps.filter fun x => decide (x.f3 = 2) && (decide (side = -1) || decide (x.f2 = side))).map fun x => x.f0
theorem onf_cons (side : Int) (x : S42) (ps : List S42) : onf side (x :: ps) = (if x.f3 = 2 ∧ (side = -1 ∨ x.f2 = side) then [x.f0] else []) ++ onf side ps := by
  unfold onf
  rw [List.filter_cons]
  by_cases h : x.f3 = 2 ∧ (side = -1 ∨ x.f2 = side)
  · rw [if_pos h, if_pos (by simpa using h)]
    rfl
  · rw [if_neg h, if_neg (by simpa using h)]
    rfl
theorem onf_length (side : Int) (ps : List S42) : (onf side ps).length ≤ ps.length := by
  unfold onf
  rw [List.length_map]
  exact List.length_filter_le _ _
theorem rdrop (ps : List S42) (n : Nat) (h : n < ps.length) : ps.drop n = rd_T42 ps (n : Int) :: ps.drop (n + 1) := by
  rw [List.drop_eq_getElem_cons h]
  congr 1
  simp [rd_T42, h]
theorem impl_onf (side : Int) (ps : List S42) (hb : ps.length ≤ 1048576) : ∀ (d k n : Nat) (out : List Int), n + d = ps.length → d < k → out.length ≤ n → impl_OnField.l0 k side out ps (ps.length : Int) (n : Int) = some (out ++ onf side (ps.drop n))
  | 0, k, n, out, hn, hk, ho => by
    obtain ⟨k, rfl⟩ : ∃ q, k = q + 1 := ⟨k - 1, by omega⟩
    simp only [impl_OnField.l0]
    rw [if_neg (by omega), List.drop_eq_nil_of_le (by omega)]
    simp [onf]
  | d + 1, k, n, out, hn, hk, ho => by
    obtain ⟨k, rfl⟩ : ∃ q, k = q + 1 := ⟨k - 1, by omega⟩
    have ih0 := impl_onf side ps hb d k (n + 1) out (by omega) (by omega) (by omega)
    have ih1 := impl_onf side ps hb d k (n + 1) (out ++ [(rd_T42 ps (n : Int)).f0]) (by omega) (by omega) (by rw [List.length_append, List.length_singleton]; omega)
    rw [List.append_assoc] at ih1
    simp only [impl_OnField.l0]
    rw [if_pos (by omega), if_pos (by omega), if_pos (by omega), wrap_nat n (by omega), rdrop ps n (by omega), onf_cons, if_pos (show out.length < 17592186044416 by omega)]
    by_cases h1 : (rd_T42 ps (n : Int)).f3 = 2
    · rw [if_pos h1]
      by_cases h2 : side = -1
      · rw [if_pos h2, if_pos ⟨h1, Or.inl h2⟩]
        exact ih1
      · rw [if_neg h2]
        by_cases h3 : (rd_T42 ps (n : Int)).f2 = side
        · rw [if_pos h3, if_pos ⟨h1, Or.inr h3⟩]
          exact ih1
        · rw [if_neg h3, if_neg (fun h => h.2.elim h2 h3)]
          exact ih0
    · rw [if_neg h1, if_neg (fun h => h1 h.1)]
      exact ih0
theorem spec_onf (side : Int) (ps : List S42) (ss : List S78) (a c : Int) (hb : ps.length ≤ 1048576) : ∀ (d k n : Nat) (out : List Int), n + d = ps.length → d < k → out.length ≤ n → spec_OnField.l0 k side out (n : Int) ps ss a c = some (out ++ onf side (ps.drop n))
  | 0, k, n, out, hn, hk, ho => by
    obtain ⟨k, rfl⟩ : ∃ q, k = q + 1 := ⟨k - 1, by omega⟩
    simp only [spec_OnField.l0]
    rw [if_neg (by omega), List.drop_eq_nil_of_le (by omega)]
    simp [onf]
  | d + 1, k, n, out, hn, hk, ho => by
    obtain ⟨k, rfl⟩ : ∃ q, k = q + 1 := ⟨k - 1, by omega⟩
    have ih0 := spec_onf side ps ss a c hb d k (n + 1) out (by omega) (by omega) (by omega)
    have ih1 := spec_onf side ps ss a c hb d k (n + 1) (out ++ [(rd_T42 ps (n : Int)).f0]) (by omega) (by omega) (by rw [List.length_append, List.length_singleton]; omega)
    rw [List.append_assoc] at ih1
    simp only [spec_OnField.l0]
    rw [if_pos (by omega), if_pos (by omega), wrap_nat n (by omega), rdrop ps n (by omega), onf_cons, if_pos (show out.length < 17592186044416 by omega)]
    by_cases h1 : (rd_T42 ps (n : Int)).f3 = 2
    · rw [if_pos h1]
      by_cases h2 : side = -1
      · rw [if_pos h2, if_pos ⟨h1, Or.inl h2⟩]
        exact ih1
      · rw [if_neg h2]
        by_cases h3 : (rd_T42 ps (n : Int)).f2 = side
        · rw [if_pos h3, if_pos ⟨h1, Or.inr h3⟩]
          exact ih1
        · rw [if_neg h3, if_neg (fun h => h.2.elim h2 h3)]
          exact ih0
    · rw [if_neg h1, if_neg (fun h => h1 h.1)]
      exact ih0
theorem FnExactOnField : laws_FnExactOnField.Pure := by
  intro ps ss x y side m1 _ m2 _ _ _ _
  have hm : maxLen ≤ 9223372036854775807 := by decide
  have hz := sz_f ps ss x y 1048576 (by omega) (by omega) (by omega) (by omega)
  by_cases g : (1048576 : Int) - (ps.length : Int) - (ss.length : Int) < 0
  · rw [if_pos g] at hz
    exact ⟨0, by unfold laws_FnExactOnField.f; rw [hz]; rfl⟩
  rw [if_neg g] at hz
  obtain ⟨k, hk⟩ : ∃ k : Nat, k = 3000000 := ⟨_, rfl⟩
  refine ⟨k, ?_⟩
  have la : (ps.map convPiece).length = ps.length := List.length_map ..
  have lb : (ss.map convSide).length = ss.length := List.length_map ..
  have T := toState_f k ps ss x y (by omega) (by omega)
  have E := eqState_same k (ps.map convPiece) (ss.map convSide) x y (by omega) (by omega)
  obtain ⟨v, x', y', M, hv⟩ := markState_any k (ps.map convPiece) (ss.map convSide) x y (by omega) (by omega)
  have L := onf_length side (ps.map convPiece)
  have I : impl_OnField.f k (ps.map convPiece) (ss.map convSide) x y side = some (onf side (ps.map convPiece)) := impl_onf side (ps.map convPiece) (by omega) (ps.map convPiece).length k 0 [] (by omega) (by omega) (Nat.le_refl _)
  have S : spec_OnField.f k (ps.map convPiece) (ss.map convSide) x y side = some (onf side (ps.map convPiece)) := spec_onf side (ps.map convPiece) (ss.map convSide) x y (by omega) (ps.map convPiece).length k 0 [] (by omega) (by omega) (Nat.le_refl _)
  generalize onf side (ps.map convPiece) = o at L I S
  have Q := eqIntS_same k o (by omega) (by omega)
  have M2 := markIntS_f k o (by omega) (by omega)
  have Hd := heldIntS_f k o.length (by omega) (by omega)
  unfold laws_FnExactOnField.f
  refine bind_of hz ?_
  refine ite_no g ?_
  refine bind_of T ?_
  refine bind_of S ?_
  refine bind_of T ?_
  refine bind_of I ?_
  refine bind_of Q ?_
  refine ite_of rfl ?_
  refine bind_of T ?_
  refine bind_of E ?_
  refine ite_of rfl ?_
  refine bind_of M ?_
  refine ite_no (by show ¬ v < 0; omega) ?_
  refine bind_of Q ?_
  refine ite_of rfl ?_
  refine bind_of M2 ?_
  refine bind_of Hd ?_
  refine ite_no (by omega) ?_
  refine ite_of rfl ?_
  refine bind_of T ?_
  refine bind_of I ?_
  refine bind_of Q ?_
  refine ite_of rfl ?_
  refine bind_of Hd ?_
  refine ite_no (by omega) ?_
  exact ite_of rfl rfl

end Go.Proofs.Ytnogcdmkpbfcmaa.Pure
