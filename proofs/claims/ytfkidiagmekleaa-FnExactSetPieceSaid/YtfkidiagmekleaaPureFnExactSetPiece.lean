/- For every state s and every piece p, where the lists of s together have at most 2^20 elements, the program's SetPiece and the reference's SetPiece return the same state, in new memory, and the arguments stay as they were (of a longer state the law says nothing: it answers true). -/
import Derived.Test.YtfkidiagmekleaaHFnExactSetPiece
import Derived.Test.YtfkidiagmekleaaHSpS
namespace Go.Proofs.Ytfkidiagmekleaa.Pure
open Go.RowKit Go.Proofs.Ytfkidiagmekleaa.QAll Go.Proofs.YtfkidiagmekleaaW.PrintWords Go.Proofs.YtfkidiagmekleaaW.PrintLast
theorem wrap_nat (n : Nat) (h : n ≤ 4611686018427387904) : wrap64 ((n : Int) + 1) = ((n + 1 : Nat) : Int) := by unfold wrap64; omega
theorem rd_nat (l : List Int) (n : Nat) (h : n < l.length) : l[n]? = some (rd l (n : Int)) := by
  unfold rd
  rw [Int.toNat_natCast, List.getD_eq_getElem?_getD, List.getElem?_eq_getElem h]
  rfl
theorem ext_upto {α : Type} (a b : List α) (hl : a.length = b.length) (h : ∀ j, j < a.length → a[j]? = b[j]?) : a = b := by
  apply List.ext_getElem?
  intro j
  by_cases hj : j < a.length
  · exact h j hj
  · rw [List.getElem?_eq_none (by omega), List.getElem?_eq_none (by omega)]

theorem rdT_75 (l : List S75) (n : Nat) (h : n < l.length) : l[n]? = some (rd_T75 l (n : Int)) := by
  unfold rd_T75
  rw [Int.toNat_natCast, List.getD_eq_getElem?_getD, List.getElem?_eq_getElem h]
  rfl
theorem rdT_25 (l : List S25) (n : Nat) (h : n < l.length) : l[n]? = some (rd_T25 l (n : Int)) := by
  unfold rd_T25
  rw [Int.toNat_natCast, List.getD_eq_getElem?_getD, List.getElem?_eq_getElem h]
  rfl
def convPiece (x : S75) : S25 := ⟨x.f0, x.f1, x.f2, x.f3, x.f4, x.f5, x.f6, x.f7, x.f8, x.f9, x.f10, x.f11, x.f12⟩
theorem toPieceS_l0 : ∀ (d k n : Nat) (l : List S75) (out : List S25), n + d = l.length → d < k → out.length = l.length → l.length ≤ 4611686018427387904 → (∀ j, j < n → out[j]? = (l.map convPiece)[j]?) → laws_toPieceS.l0 k l out (n : Int) = some (l.map convPiece)
  | 0, k, n, l, out, hn, hk, hl, hb, h => by
    obtain ⟨k, rfl⟩ : ∃ q, k = q + 1 := ⟨k - 1, by omega⟩
    simp only [laws_toPieceS.l0]
    rw [if_neg (by omega), ext_upto out (l.map convPiece) (by rw [List.length_map]; exact hl) (fun j hj => h j (by omega))]
  | d + 1, k, n, l, out, hn, hk, hl, hb, h => by
    obtain ⟨k, rfl⟩ : ∃ q, k = q + 1 := ⟨k - 1, by omega⟩
    simp only [laws_toPieceS.l0, laws_toPiece.f, Option.bind_some]
    rw [if_pos (by omega), if_pos (by omega), if_pos (by omega), wrap_nat n (by omega), Int.toNat_natCast]
    refine toPieceS_l0 d k (n + 1) l _ (by omega) (by omega) (by rw [List.length_set]; exact hl) hb (fun j hj => ?_)
    by_cases e : n = j
    · subst e
      rw [List.getElem?_set_self (by omega), List.getElem?_map, rdT_75 l n (by omega)]
      rfl
    · rw [List.getElem?_set_ne e]
      exact h j (by omega)
theorem toPieceS_f (k : Nat) (l : List S75) (hk : l.length < k) (hb : l.length ≤ 2097152) : laws_toPieceS.f k l = some (l.map convPiece) := by
  unfold laws_toPieceS.f
  rw [if_pos (by omega), Int.toNat_natCast, if_pos (by omega)]
  exact toPieceS_l0 l.length k 0 l _ (by omega) hk (by simp) (by omega) (fun j hj => by omega)
theorem eqPiece_same (x : S25) : laws_eqPiece.f (x.f0) (x.f1) (x.f2) (x.f3) (x.f4) (x.f5) (x.f6) (x.f7) (x.f8) (x.f9) (x.f10) (x.f11) (x.f12) (x.f0) (x.f1) (x.f2) (x.f3) (x.f4) (x.f5) (x.f6) (x.f7) (x.f8) (x.f9) (x.f10) (x.f11) (x.f12) = some true := by
  unfold laws_eqPiece.f
  simp only [if_true, bne_self_eq_false, Bool.false_eq_true, if_false]
theorem eqPieceS_l0 : ∀ (d k n : Nat) (a : List S25), n + d = a.length → d < k → a.length ≤ 4611686018427387904 → laws_eqPieceS.l0 k a a (n : Int) = some true
  | 0, k, n, a, hn, hk, hb => by
    obtain ⟨k, rfl⟩ : ∃ q, k = q + 1 := ⟨k - 1, by omega⟩
    simp only [laws_eqPieceS.l0]
    rw [if_neg (by omega)]
  | d + 1, k, n, a, hn, hk, hb => by
    obtain ⟨k, rfl⟩ : ∃ q, k = q + 1 := ⟨k - 1, by omega⟩
    simp only [laws_eqPieceS.l0]
    rw [if_pos (by omega), if_pos (by omega), if_pos (by omega), eqPiece_same (rd_T25 a (n : Int)), wrap_nat n (by omega)]
    simp only [Option.bind_some, if_true]
    exact eqPieceS_l0 d k (n + 1) a (by omega) (by omega) hb
theorem eqPieceS_same (k : Nat) (a : List S25) (hk : a.length < k) (hb : a.length ≤ 4611686018427387904) : laws_eqPieceS.f k a a = some true := by
  unfold laws_eqPieceS.f
  rw [if_pos rfl]
  exact eqPieceS_l0 a.length k 0 a (by omega) hk hb

theorem rdT_124 (l : List S124) (n : Nat) (h : n < l.length) : l[n]? = some (rd_T124 l (n : Int)) := by
  unfold rd_T124
  rw [Int.toNat_natCast, List.getD_eq_getElem?_getD, List.getElem?_eq_getElem h]
  rfl
theorem rdT_71 (l : List S71) (n : Nat) (h : n < l.length) : l[n]? = some (rd_T71 l (n : Int)) := by
  unfold rd_T71
  rw [Int.toNat_natCast, List.getD_eq_getElem?_getD, List.getElem?_eq_getElem h]
  rfl
def convSide (x : S124) : S71 := ⟨x.f0, x.f1, x.f2⟩
theorem toSideS_l0 : ∀ (d k n : Nat) (l : List S124) (out : List S71), n + d = l.length → d < k → out.length = l.length → l.length ≤ 4611686018427387904 → (∀ j, j < n → out[j]? = (l.map convSide)[j]?) → laws_toSideS.l0 k l out (n : Int) = some (l.map convSide)
  | 0, k, n, l, out, hn, hk, hl, hb, h => by
    obtain ⟨k, rfl⟩ : ∃ q, k = q + 1 := ⟨k - 1, by omega⟩
    simp only [laws_toSideS.l0]
    rw [if_neg (by omega), ext_upto out (l.map convSide) (by rw [List.length_map]; exact hl) (fun j hj => h j (by omega))]
  | d + 1, k, n, l, out, hn, hk, hl, hb, h => by
    obtain ⟨k, rfl⟩ : ∃ q, k = q + 1 := ⟨k - 1, by omega⟩
    simp only [laws_toSideS.l0, laws_toSide.f, Option.bind_some]
    rw [if_pos (by omega), if_pos (by omega), if_pos (by omega), wrap_nat n (by omega), Int.toNat_natCast]
    refine toSideS_l0 d k (n + 1) l _ (by omega) (by omega) (by rw [List.length_set]; exact hl) hb (fun j hj => ?_)
    by_cases e : n = j
    · subst e
      rw [List.getElem?_set_self (by omega), List.getElem?_map, rdT_124 l n (by omega)]
      rfl
    · rw [List.getElem?_set_ne e]
      exact h j (by omega)
theorem toSideS_f (k : Nat) (l : List S124) (hk : l.length < k) (hb : l.length ≤ 2097152) : laws_toSideS.f k l = some (l.map convSide) := by
  unfold laws_toSideS.f
  rw [if_pos (by omega), Int.toNat_natCast, if_pos (by omega)]
  exact toSideS_l0 l.length k 0 l _ (by omega) hk (by simp) (by omega) (fun j hj => by omega)
theorem eqSide_same (x : S71) : laws_eqSide.f (x.f0) (x.f1) (x.f2) (x.f0) (x.f1) (x.f2) = some true := by
  unfold laws_eqSide.f
  simp only [if_true, bne_self_eq_false, Bool.false_eq_true, if_false]
theorem eqSideS_l0 : ∀ (d k n : Nat) (a : List S71), n + d = a.length → d < k → a.length ≤ 4611686018427387904 → laws_eqSideS.l0 k a a (n : Int) = some true
  | 0, k, n, a, hn, hk, hb => by
    obtain ⟨k, rfl⟩ : ∃ q, k = q + 1 := ⟨k - 1, by omega⟩
    simp only [laws_eqSideS.l0]
    rw [if_neg (by omega)]
  | d + 1, k, n, a, hn, hk, hb => by
    obtain ⟨k, rfl⟩ : ∃ q, k = q + 1 := ⟨k - 1, by omega⟩
    simp only [laws_eqSideS.l0]
    rw [if_pos (by omega), if_pos (by omega), if_pos (by omega), eqSide_same (rd_T71 a (n : Int)), wrap_nat n (by omega)]
    simp only [Option.bind_some, if_true]
    exact eqSideS_l0 d k (n + 1) a (by omega) (by omega) hb
theorem eqSideS_same (k : Nat) (a : List S71) (hk : a.length < k) (hb : a.length ≤ 4611686018427387904) : laws_eqSideS.f k a a = some true := by
  unfold laws_eqSideS.f
  rw [if_pos rfl]
  exact eqSideS_l0 a.length k 0 a (by omega) hk hb

theorem toState_f (k : Nat) (ps : List S75) (ss : List S124) (a c : Int) (hk : ps.length + ss.length < k) (hb : ps.length + ss.length ≤ 2097152) : laws_toState.f k ps ss a c = some (ps.map convPiece, ss.map convSide, a, c) := by
  unfold laws_toState.f
  rw [toPieceS_f k ps (by omega) (by omega), toSideS_f k ss (by omega) (by omega)]
  rfl
theorem eqState_same (k : Nat) (ps : List S25) (ss : List S71) (a c : Int) (hk : ps.length + ss.length < k) (hb : ps.length + ss.length ≤ 2097152) : laws_eqState.f k ps ss a c ps ss a c = some true := by
  unfold laws_eqState.f
  rw [eqPieceS_same k ps (by omega) (by omega), eqSideS_same k ss (by omega) (by omega)]
  simp only [Option.bind_some, if_true]

theorem sz_f (ps : List S75) (ss : List S124) (a c n : Int) (h0 : 0 ≤ n) (h1 : n ≤ 2097152) (hp : ps.length ≤ 9223372036854775807) (hs : ss.length ≤ 9223372036854775807) : laws_szState.f ps ss a c n = some (if n - (ps.length : Int) - (ss.length : Int) < 0 then -1 else n - (ps.length : Int) - (ss.length : Int)) := by
  have w1 : wrap64 (n - (ps.length : Int)) = n - (ps.length : Int) := by unfold wrap64; omega
  unfold laws_szState.f laws_szPieceS.f laws_szSideS.f
  rw [w1]
  by_cases g : n - (ps.length : Int) < 0
  · rw [if_pos g]
    simp only [Option.bind_some]
    rw [if_pos (by decide), if_pos (by omega)]
  · rw [if_neg g]
    simp only [Option.bind_some]
    have w2 : wrap64 (n - (ps.length : Int) - (ss.length : Int)) = n - (ps.length : Int) - (ss.length : Int) := by unfold wrap64; omega
    rw [if_neg g, w2]
    by_cases g2 : n - (ps.length : Int) - (ss.length : Int) < 0
    · rw [if_pos g2, if_pos g2]
      simp only [Option.bind_some]
      rw [if_pos (by decide)]
    · rw [if_neg g2, if_neg g2]
      simp only [Option.bind_some]
      rw [if_neg g2]

theorem bind_of {α β : Type} {x : Option α} {v : α} {f : α → Option β} {r : Option β} (h : x = some v) (h2 : f v = r) : x.bind f = r := by rw [h]; exact h2
theorem ite_of {α : Type} {c : Prop} [Decidable c] {a b r : α} (hc : c) (h : a = r) : (if c then a else b) = r := by rw [if_pos hc]; exact h
theorem ite_no {α : Type} {c : Prop} [Decidable c] {a b r : α} (hc : ¬ c) (h : b = r) : (if c then a else b) = r := by rw [if_neg hc]; exact h

def mkPiece (s : Int) : S25 := ⟨s, s + 1, s + 2, s + 3, s + 4, s + 5, s + 6, s + 7, s + 8, s + 9, s + 10, (Int.tmod (s + 11) 3 == 0), (Int.tmod (s + 12) 3 == 0)⟩
def mkPieceS : Int → Nat → List S25
  | _, 0 => []
  | s, d + 1 => mkPiece s :: mkPieceS (s + 13) d
theorem mkPieceS_length : ∀ (d : Nat) (s : Int), (mkPieceS s d).length = d
  | 0, _ => rfl
  | d + 1, s => by unfold mkPieceS; rw [List.length_cons, mkPieceS_length d]
theorem rd_setPiece (x : List S25) (n : Nat) (v : S25) (h : n < x.length) : rd_T25 (x.set ((n : Int)).toNat v) (n : Int) = v := by
  unfold rd_T25
  rw [Int.toNat_natCast, List.getD_eq_getElem?_getD, List.getElem?_set_self h]
  rfl
theorem rd_atPiece (x y : List S25) (n : Nat) (v : S25) (h : x.length = n) : rd_T25 (x ++ v :: y) (n : Int) = v := by
  subst h
  unfold rd_T25
  rw [Int.toNat_natCast, List.getD_eq_getElem?_getD, List.getElem?_append_right (Nat.le_refl _), Nat.sub_self]
  rfl
theorem bstepPiece {β : Type} {z z' : List S25} {f : List S25 → Option β} {r : Option β} (h : z = z') (h2 : f z' = r) : (some z).bind f = r := by rw [h]; exact h2
set_option maxHeartbeats 4000000 in
theorem markPieceS_x_l0 : ∀ (d k n : Nat) (x : List S25) (s : Int), n + d = x.length → d < k → x.length ≤ 2097152 → 0 ≤ s → s + 13 * (d : Int) ≤ 4611686018427387904 → laws_markPieceS.l0 k x s (n : Int) = some (s + 13 * (d : Int), x.take n ++ mkPieceS s d)
  | 0, k, n, x, s, hn, hk, hb, h0, hz => by
    obtain ⟨k, rfl⟩ : ∃ q, k = q + 1 := ⟨k - 1, by omega⟩
    simp only [laws_markPieceS.l0]
    rw [if_neg (by omega), List.take_of_length_le (by omega)]
    simp [mkPieceS]
  | d + 1, k, n, x, s, hn, hk, hb, h0, hz => by
    obtain ⟨k, rfl⟩ : ∃ q, k = q + 1 := ⟨k - 1, by omega⟩
    have h1 : wrap64 (s + 1) = s + 1 := by unfold wrap64; omega
    have h2 : wrap64 (s + 1 + 1) = s + 2 := by unfold wrap64; omega
    have h3 : wrap64 (s + 2 + 1) = s + 3 := by unfold wrap64; omega
    have h4 : wrap64 (s + 3 + 1) = s + 4 := by unfold wrap64; omega
    have h5 : wrap64 (s + 4 + 1) = s + 5 := by unfold wrap64; omega
    have h6 : wrap64 (s + 5 + 1) = s + 6 := by unfold wrap64; omega
    have h7 : wrap64 (s + 6 + 1) = s + 7 := by unfold wrap64; omega
    have h8 : wrap64 (s + 7 + 1) = s + 8 := by unfold wrap64; omega
    have h9 : wrap64 (s + 8 + 1) = s + 9 := by unfold wrap64; omega
    have h10 : wrap64 (s + 9 + 1) = s + 10 := by unfold wrap64; omega
    have h11 : wrap64 (s + 10 + 1) = s + 11 := by unfold wrap64; omega
    have h12 : wrap64 (s + 11 + 1) = s + 12 := by unfold wrap64; omega
    have h13 : wrap64 (s + 12 + 1) = s + 13 := by unfold wrap64; omega
    have R : ∀ v, rd_T25 (x.set ((n : Int)).toNat v) (n : Int) = v := fun v => rd_setPiece x n v (by omega)
    simp only [laws_markPieceS.l0]
    rw [if_pos (by omega), if_pos (by omega), wrap_nat n (by omega)]
    rw [h1, h2, h3, h4, h5, h6, h7, h8, h9, h10, h11, h12, h13]
    refine bstepPiece (z' := x.set ((n : Int)).toNat (⟨s, (rd_T25 x (n : Int)).f1, (rd_T25 x (n : Int)).f2, (rd_T25 x (n : Int)).f3, (rd_T25 x (n : Int)).f4, (rd_T25 x (n : Int)).f5, (rd_T25 x (n : Int)).f6, (rd_T25 x (n : Int)).f7, (rd_T25 x (n : Int)).f8, (rd_T25 x (n : Int)).f9, (rd_T25 x (n : Int)).f10, (rd_T25 x (n : Int)).f11, (rd_T25 x (n : Int)).f12⟩ : S25)) (by rfl) ?_
    refine bstepPiece (z' := x.set ((n : Int)).toNat (⟨s, s + 1, (rd_T25 x (n : Int)).f2, (rd_T25 x (n : Int)).f3, (rd_T25 x (n : Int)).f4, (rd_T25 x (n : Int)).f5, (rd_T25 x (n : Int)).f6, (rd_T25 x (n : Int)).f7, (rd_T25 x (n : Int)).f8, (rd_T25 x (n : Int)).f9, (rd_T25 x (n : Int)).f10, (rd_T25 x (n : Int)).f11, (rd_T25 x (n : Int)).f12⟩ : S25)) (by simp only [R, List.set_set]) ?_
    refine bstepPiece (z' := x.set ((n : Int)).toNat (⟨s, s + 1, s + 2, (rd_T25 x (n : Int)).f3, (rd_T25 x (n : Int)).f4, (rd_T25 x (n : Int)).f5, (rd_T25 x (n : Int)).f6, (rd_T25 x (n : Int)).f7, (rd_T25 x (n : Int)).f8, (rd_T25 x (n : Int)).f9, (rd_T25 x (n : Int)).f10, (rd_T25 x (n : Int)).f11, (rd_T25 x (n : Int)).f12⟩ : S25)) (by simp only [R, List.set_set]) ?_
    refine bstepPiece (z' := x.set ((n : Int)).toNat (⟨s, s + 1, s + 2, s + 3, (rd_T25 x (n : Int)).f4, (rd_T25 x (n : Int)).f5, (rd_T25 x (n : Int)).f6, (rd_T25 x (n : Int)).f7, (rd_T25 x (n : Int)).f8, (rd_T25 x (n : Int)).f9, (rd_T25 x (n : Int)).f10, (rd_T25 x (n : Int)).f11, (rd_T25 x (n : Int)).f12⟩ : S25)) (by simp only [R, List.set_set]) ?_
    refine bstepPiece (z' := x.set ((n : Int)).toNat (⟨s, s + 1, s + 2, s + 3, s + 4, (rd_T25 x (n : Int)).f5, (rd_T25 x (n : Int)).f6, (rd_T25 x (n : Int)).f7, (rd_T25 x (n : Int)).f8, (rd_T25 x (n : Int)).f9, (rd_T25 x (n : Int)).f10, (rd_T25 x (n : Int)).f11, (rd_T25 x (n : Int)).f12⟩ : S25)) (by simp only [R, List.set_set]) ?_
    refine bstepPiece (z' := x.set ((n : Int)).toNat (⟨s, s + 1, s + 2, s + 3, s + 4, s + 5, (rd_T25 x (n : Int)).f6, (rd_T25 x (n : Int)).f7, (rd_T25 x (n : Int)).f8, (rd_T25 x (n : Int)).f9, (rd_T25 x (n : Int)).f10, (rd_T25 x (n : Int)).f11, (rd_T25 x (n : Int)).f12⟩ : S25)) (by simp only [R, List.set_set]) ?_
    refine bstepPiece (z' := x.set ((n : Int)).toNat (⟨s, s + 1, s + 2, s + 3, s + 4, s + 5, s + 6, (rd_T25 x (n : Int)).f7, (rd_T25 x (n : Int)).f8, (rd_T25 x (n : Int)).f9, (rd_T25 x (n : Int)).f10, (rd_T25 x (n : Int)).f11, (rd_T25 x (n : Int)).f12⟩ : S25)) (by simp only [R, List.set_set]) ?_
    refine bstepPiece (z' := x.set ((n : Int)).toNat (⟨s, s + 1, s + 2, s + 3, s + 4, s + 5, s + 6, s + 7, (rd_T25 x (n : Int)).f8, (rd_T25 x (n : Int)).f9, (rd_T25 x (n : Int)).f10, (rd_T25 x (n : Int)).f11, (rd_T25 x (n : Int)).f12⟩ : S25)) (by simp only [R, List.set_set]) ?_
    refine bstepPiece (z' := x.set ((n : Int)).toNat (⟨s, s + 1, s + 2, s + 3, s + 4, s + 5, s + 6, s + 7, s + 8, (rd_T25 x (n : Int)).f9, (rd_T25 x (n : Int)).f10, (rd_T25 x (n : Int)).f11, (rd_T25 x (n : Int)).f12⟩ : S25)) (by simp only [R, List.set_set]) ?_
    refine bstepPiece (z' := x.set ((n : Int)).toNat (⟨s, s + 1, s + 2, s + 3, s + 4, s + 5, s + 6, s + 7, s + 8, s + 9, (rd_T25 x (n : Int)).f10, (rd_T25 x (n : Int)).f11, (rd_T25 x (n : Int)).f12⟩ : S25)) (by simp only [R, List.set_set]) ?_
    refine bstepPiece (z' := x.set ((n : Int)).toNat (⟨s, s + 1, s + 2, s + 3, s + 4, s + 5, s + 6, s + 7, s + 8, s + 9, s + 10, (rd_T25 x (n : Int)).f11, (rd_T25 x (n : Int)).f12⟩ : S25)) (by simp only [R, List.set_set]) ?_
    refine bstepPiece (z' := x.set ((n : Int)).toNat (⟨s, s + 1, s + 2, s + 3, s + 4, s + 5, s + 6, s + 7, s + 8, s + 9, s + 10, (Int.tmod (s + 11) 3 == 0), (rd_T25 x (n : Int)).f12⟩ : S25)) (by simp only [R, List.set_set]) ?_
    have e : (x.set ((n : Int)).toNat (mkPiece s)).take (n + 1) = x.take n ++ [mkPiece s] := by
      rw [Int.toNat_natCast, List.take_add_one, List.getElem?_set_self (by omega), List.take_set_of_le (Nat.le_refl _)]
      rfl
    have ih := markPieceS_x_l0 d k (n + 1) (x.set ((n : Int)).toNat (mkPiece s)) (s + 13) (by rw [List.length_set]; omega) (by omega) (by rw [List.length_set]; omega) (by omega) (by omega)
    rw [e, List.append_assoc] at ih
    have e2 : s + 13 + 13 * (d : Int) = s + 13 * ((d + 1 : Nat) : Int) := by omega
    rw [e2] at ih
    refine Eq.trans ?_ ih
    simp only [R, List.set_set]
    rfl
set_option maxHeartbeats 4000000 in
theorem heldPieceS_x_l0 : ∀ (d k n : Nat) (x : List S25) (s : Int), x.length = n → d < k → n + d ≤ 2097152 → 0 ≤ s → s + 13 * (d : Int) ≤ 4611686018427387904 → laws_heldPieceS.l0 k (x ++ mkPieceS s d) s (n : Int) = some (s + 13 * (d : Int))
  | 0, k, n, x, s, hn, hk, hb, h0, hz => by
    obtain ⟨k, rfl⟩ : ∃ q, k = q + 1 := ⟨k - 1, by omega⟩
    simp only [laws_heldPieceS.l0]
    rw [if_neg (by rw [List.length_append, mkPieceS_length]; omega)]
    simp
  | d + 1, k, n, x, s, hn, hk, hb, h0, hz => by
    obtain ⟨k, rfl⟩ : ∃ q, k = q + 1 := ⟨k - 1, by omega⟩
    have h1 : wrap64 (s + 1) = s + 1 := by unfold wrap64; omega
    have h2 : wrap64 (s + 1 + 1) = s + 2 := by unfold wrap64; omega
    have h3 : wrap64 (s + 2 + 1) = s + 3 := by unfold wrap64; omega
    have h4 : wrap64 (s + 3 + 1) = s + 4 := by unfold wrap64; omega
    have h5 : wrap64 (s + 4 + 1) = s + 5 := by unfold wrap64; omega
    have h6 : wrap64 (s + 5 + 1) = s + 6 := by unfold wrap64; omega
    have h7 : wrap64 (s + 6 + 1) = s + 7 := by unfold wrap64; omega
    have h8 : wrap64 (s + 7 + 1) = s + 8 := by unfold wrap64; omega
    have h9 : wrap64 (s + 8 + 1) = s + 9 := by unfold wrap64; omega
    have h10 : wrap64 (s + 9 + 1) = s + 10 := by unfold wrap64; omega
    have h11 : wrap64 (s + 10 + 1) = s + 11 := by unfold wrap64; omega
    have h12 : wrap64 (s + 11 + 1) = s + 12 := by unfold wrap64; omega
    have h13 : wrap64 (s + 12 + 1) = s + 13 := by unfold wrap64; omega
    have R : rd_T25 (x ++ mkPieceS s (d + 1)) (n : Int) = mkPiece s := rd_atPiece x _ n _ hn
    have ih := heldPieceS_x_l0 d k (n + 1) (x ++ [mkPiece s]) (s + 13) (by rw [List.length_append, hn]; rfl) (by omega) (by omega) (by omega) (by omega)
    rw [List.append_assoc] at ih
    simp only [laws_heldPieceS.l0]
    rw [if_pos (by rw [List.length_append, mkPieceS_length]; omega), if_pos (by omega), wrap_nat n (by omega), R]
    rw [h1, h2, h3, h4, h5, h6, h7, h8, h9, h10, h11, h12, h13]
    rw [if_pos (show (mkPiece s).f0 = s from rfl), if_pos (show (mkPiece s).f1 = s + 1 from rfl), if_pos (show (mkPiece s).f2 = s + 2 from rfl), if_pos (show (mkPiece s).f3 = s + 3 from rfl), if_pos (show (mkPiece s).f4 = s + 4 from rfl), if_pos (show (mkPiece s).f5 = s + 5 from rfl), if_pos (show (mkPiece s).f6 = s + 6 from rfl), if_pos (show (mkPiece s).f7 = s + 7 from rfl), if_pos (show (mkPiece s).f8 = s + 8 from rfl), if_pos (show (mkPiece s).f9 = s + 9 from rfl), if_pos (show (mkPiece s).f10 = s + 10 from rfl), if_neg (show ¬ ((mkPiece s).f11 != (Int.tmod (s + 11) 3 == 0)) = true by simp [mkPiece]), if_neg (show ¬ ((mkPiece s).f12 != (Int.tmod (s + 12) 3 == 0)) = true by simp [mkPiece])]
    have e2 : s + 13 + 13 * (d : Int) = s + 13 * ((d + 1 : Nat) : Int) := by omega
    rw [e2] at ih
    exact ih
def mkSide (s : Int) : S71 := ⟨s, s + 1, (Int.tmod (s + 2) 3 == 0)⟩
def mkSideS : Int → Nat → List S71
  | _, 0 => []
  | s, d + 1 => mkSide s :: mkSideS (s + 3) d
theorem mkSideS_length : ∀ (d : Nat) (s : Int), (mkSideS s d).length = d
  | 0, _ => rfl
  | d + 1, s => by unfold mkSideS; rw [List.length_cons, mkSideS_length d]
theorem rd_setSide (x : List S71) (n : Nat) (v : S71) (h : n < x.length) : rd_T71 (x.set ((n : Int)).toNat v) (n : Int) = v := by
  unfold rd_T71
  rw [Int.toNat_natCast, List.getD_eq_getElem?_getD, List.getElem?_set_self h]
  rfl
theorem rd_atSide (x y : List S71) (n : Nat) (v : S71) (h : x.length = n) : rd_T71 (x ++ v :: y) (n : Int) = v := by
  subst h
  unfold rd_T71
  rw [Int.toNat_natCast, List.getD_eq_getElem?_getD, List.getElem?_append_right (Nat.le_refl _), Nat.sub_self]
  rfl
theorem bstepSide {β : Type} {z z' : List S71} {f : List S71 → Option β} {r : Option β} (h : z = z') (h2 : f z' = r) : (some z).bind f = r := by rw [h]; exact h2
set_option maxHeartbeats 4000000 in
theorem markSideS_x_l0 : ∀ (d k n : Nat) (x : List S71) (s : Int), n + d = x.length → d < k → x.length ≤ 2097152 → 0 ≤ s → s + 3 * (d : Int) ≤ 4611686018427387904 → laws_markSideS.l0 k x s (n : Int) = some (s + 3 * (d : Int), x.take n ++ mkSideS s d)
  | 0, k, n, x, s, hn, hk, hb, h0, hz => by
    obtain ⟨k, rfl⟩ : ∃ q, k = q + 1 := ⟨k - 1, by omega⟩
    simp only [laws_markSideS.l0]
    rw [if_neg (by omega), List.take_of_length_le (by omega)]
    simp [mkSideS]
  | d + 1, k, n, x, s, hn, hk, hb, h0, hz => by
    obtain ⟨k, rfl⟩ : ∃ q, k = q + 1 := ⟨k - 1, by omega⟩
    have h1 : wrap64 (s + 1) = s + 1 := by unfold wrap64; omega
    have h2 : wrap64 (s + 1 + 1) = s + 2 := by unfold wrap64; omega
    have h3 : wrap64 (s + 2 + 1) = s + 3 := by unfold wrap64; omega
    have R : ∀ v, rd_T71 (x.set ((n : Int)).toNat v) (n : Int) = v := fun v => rd_setSide x n v (by omega)
    simp only [laws_markSideS.l0]
    rw [if_pos (by omega), if_pos (by omega), wrap_nat n (by omega)]
    rw [h1, h2, h3]
    refine bstepSide (z' := x.set ((n : Int)).toNat (⟨s, (rd_T71 x (n : Int)).f1, (rd_T71 x (n : Int)).f2⟩ : S71)) (by rfl) ?_
    refine bstepSide (z' := x.set ((n : Int)).toNat (⟨s, s + 1, (rd_T71 x (n : Int)).f2⟩ : S71)) (by simp only [R, List.set_set]) ?_
    have e : (x.set ((n : Int)).toNat (mkSide s)).take (n + 1) = x.take n ++ [mkSide s] := by
      rw [Int.toNat_natCast, List.take_add_one, List.getElem?_set_self (by omega), List.take_set_of_le (Nat.le_refl _)]
      rfl
    have ih := markSideS_x_l0 d k (n + 1) (x.set ((n : Int)).toNat (mkSide s)) (s + 3) (by rw [List.length_set]; omega) (by omega) (by rw [List.length_set]; omega) (by omega) (by omega)
    rw [e, List.append_assoc] at ih
    have e2 : s + 3 + 3 * (d : Int) = s + 3 * ((d + 1 : Nat) : Int) := by omega
    rw [e2] at ih
    refine Eq.trans ?_ ih
    simp only [R, List.set_set]
    rfl
set_option maxHeartbeats 4000000 in
theorem heldSideS_x_l0 : ∀ (d k n : Nat) (x : List S71) (s : Int), x.length = n → d < k → n + d ≤ 2097152 → 0 ≤ s → s + 3 * (d : Int) ≤ 4611686018427387904 → laws_heldSideS.l0 k (x ++ mkSideS s d) s (n : Int) = some (s + 3 * (d : Int))
  | 0, k, n, x, s, hn, hk, hb, h0, hz => by
    obtain ⟨k, rfl⟩ : ∃ q, k = q + 1 := ⟨k - 1, by omega⟩
    simp only [laws_heldSideS.l0]
    rw [if_neg (by rw [List.length_append, mkSideS_length]; omega)]
    simp
  | d + 1, k, n, x, s, hn, hk, hb, h0, hz => by
    obtain ⟨k, rfl⟩ : ∃ q, k = q + 1 := ⟨k - 1, by omega⟩
    have h1 : wrap64 (s + 1) = s + 1 := by unfold wrap64; omega
    have h2 : wrap64 (s + 1 + 1) = s + 2 := by unfold wrap64; omega
    have h3 : wrap64 (s + 2 + 1) = s + 3 := by unfold wrap64; omega
    have R : rd_T71 (x ++ mkSideS s (d + 1)) (n : Int) = mkSide s := rd_atSide x _ n _ hn
    have ih := heldSideS_x_l0 d k (n + 1) (x ++ [mkSide s]) (s + 3) (by rw [List.length_append, hn]; rfl) (by omega) (by omega) (by omega) (by omega)
    rw [List.append_assoc] at ih
    simp only [laws_heldSideS.l0]
    rw [if_pos (by rw [List.length_append, mkSideS_length]; omega), if_pos (by omega), wrap_nat n (by omega), R]
    rw [h1, h2, h3]
    rw [if_pos (show (mkSide s).f0 = s from rfl), if_pos (show (mkSide s).f1 = s + 1 from rfl), if_neg (show ¬ ((mkSide s).f2 != (Int.tmod (s + 2) 3 == 0)) = true by simp [mkSide])]
    have e2 : s + 3 + 3 * (d : Int) = s + 3 * ((d + 1 : Nat) : Int) := by omega
    rw [e2] at ih
    exact ih
theorem markState_x (k : Nat) (ps : List S25) (ss : List S71) (a c : Int) (hk : ps.length + ss.length < k) (hb : ps.length + ss.length ≤ 2097152) : laws_markState.f k ps ss a c 1 = some (1 + 13 * (ps.length : Int) + 3 * (ss.length : Int), mkPieceS 1 ps.length, mkSideS (1 + 13 * (ps.length : Int)) ss.length) := by
  have h1 : laws_markPieceS.f k ps 1 = some (1 + 13 * (ps.length : Int), mkPieceS 1 ps.length) := markPieceS_x_l0 ps.length k 0 ps 1 (by omega) (by omega) (by omega) (by omega) (by omega)
  have h2 : laws_markSideS.f k ss (1 + 13 * (ps.length : Int)) = some (1 + 13 * (ps.length : Int) + 3 * (ss.length : Int), mkSideS (1 + 13 * (ps.length : Int)) ss.length) := markSideS_x_l0 ss.length k 0 ss _ (by omega) (by omega) (by omega) (by omega) (by omega)
  unfold laws_markState.f
  rw [h1]
  simp only [Option.bind_some]
  rw [h2]
  rfl
theorem heldState_x (k n m : Nat) (a c : Int) (hk : n + m < k) (hb : n + m ≤ 2097152) : laws_heldState.f k (mkPieceS 1 n) (mkSideS (1 + 13 * (n : Int)) m) a c 1 = some (1 + 13 * (n : Int) + 3 * (m : Int)) := by
  have h1 : laws_heldPieceS.f k (mkPieceS 1 n) 1 = some (1 + 13 * (n : Int)) := heldPieceS_x_l0 n k 0 [] 1 rfl (by omega) (by omega) (by omega) (by omega)
  have h2 : laws_heldSideS.f k (mkSideS (1 + 13 * (n : Int)) m) (1 + 13 * (n : Int)) = some (1 + 13 * (n : Int) + 3 * (m : Int)) := heldSideS_x_l0 m k 0 [] _ rfl (by omega) (by omega) (by omega) (by omega)
  unfold laws_heldState.f
  rw [h1]
  simp only [Option.bind_some]
  rw [if_neg (by omega), h2]
  simp only [Option.bind_some]
  rw [if_neg (by omega)]
theorem FnExactSetPiece : laws_FnExactSetPiece.Pure := by
  intro ps ss x y y0 y1 y2 y3 y4 y5 y6 y7 y8 y9 y10 y11 y12 m1 _ m2 _
  intros
  have hm : maxLen ≤ 9223372036854775807 := by decide
  have hz := sz_f ps ss x y 1048576 (by omega) (by omega) (by omega) (by omega)
  by_cases g : (1048576 : Int) - (ps.length : Int) - (ss.length : Int) < 0
  · rw [if_pos g] at hz
    exact ⟨0, by unfold laws_FnExactSetPiece.f; rw [hz]; rfl⟩
  rw [if_neg g] at hz
  obtain ⟨k, hk⟩ : ∃ k : Nat, k = 3000000 := ⟨_, rfl⟩
  refine ⟨k, ?_⟩
  have la : (ps.map convPiece).length = ps.length := List.length_map ..
  have lb : (ss.map convSide).length = ss.length := List.length_map ..
  have T := toState_f k ps ss x y (by omega) (by omega)
  have E := eqState_same k (ps.map convPiece) (ss.map convSide) x y (by omega) (by omega)
  have W := spec_set k (ps.map convPiece) (ss.map convSide) x y y0 y1 y2 y3 y4 y5 y6 y7 y8 y9 y10 y11 y12 (by omega) (by omega) (by omega)
  have I := impl_set (ps.map convPiece) (ss.map convSide) x y y0 y1 y2 y3 y4 y5 y6 y7 y8 y9 y10 y11 y12 (by omega) (by omega)
  have hl := setP_le (ps.map convPiece) ⟨y0, y1, y2, y3, y4, y5, y6, y7, y8, y9, y10, y11, y12⟩
  have X := markState_x k (ps.map convPiece) (ss.map convSide) x y (by omega) (by omega)
  generalize setP (ps.map convPiece) ⟨y0, y1, y2, y3, y4, y5, y6, y7, y8, y9, y10, y11, y12⟩ = o at W I hl
  have B := eqState_same k o (ss.map convSide) x y (by omega) (by omega)
  have K := markState_x k o (ss.map convSide) x y (by omega) (by omega)
  have H := heldState_x k o.length (ss.map convSide).length x y (by omega) (by omega)
  have Q : laws_toPiece.f y0 y1 y2 y3 y4 y5 y6 y7 y8 y9 y10 y11 y12 = some (y0, y1, y2, y3, y4, y5, y6, y7, y8, y9, y10, y11, y12) := rfl
  unfold laws_FnExactSetPiece.f
  refine bind_of hz ?_
  refine ite_no g ?_
  refine bind_of T ?_
  refine bind_of Q ?_
  refine bind_of W ?_
  refine bind_of T ?_
  refine bind_of Q ?_
  refine bind_of I ?_
  refine bind_of B ?_
  refine ite_of rfl ?_
  refine bind_of T ?_
  refine bind_of E ?_
  refine ite_of rfl ?_
  refine bind_of X ?_
  refine ite_no (by simp only; omega) ?_
  refine bind_of B ?_
  refine ite_of rfl ?_
  refine bind_of K ?_
  refine bind_of H ?_
  refine ite_no (by first | omega | (simp only; omega)) ?_
  refine ite_of rfl ?_
  refine bind_of T ?_
  refine bind_of Q ?_
  refine bind_of I ?_
  refine bind_of B ?_
  refine ite_of rfl ?_
  refine bind_of H ?_
  refine ite_no (by first | omega | (simp only; omega)) ?_
  exact ite_of rfl rfl

end Go.Proofs.Ytfkidiagmekleaa.Pure
