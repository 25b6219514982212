/- For every state s whose lists together have at most 2^20 elements the program's StateOk and the reference's StateOk return the same bool, and s stays as it was (of a longer one the law says nothing: it answers true). -/
import Derived.Test.YtfkidiagmekleaaHFnExactStateOk
namespace Go.Proofs.Ytfkidiagmekleaa.Pure
open Go.RowKit Go.Proofs.Ytfkidiagmekleaa.QAll Go.Proofs.YtfkidiagmekleaaW.PrintWords Go.Proofs.YtfkidiagmekleaaW.PrintLast
theorem wrap_nat (n : Nat) (h : n ≤ 4611686018427387904) : wrap64 ((n : Int) + 1) = ((n + 1 : Nat) : Int) := by unfold wrap64; omega
theorem rd_nat (l : List Int) (n : Nat) (h : n < l.length) : l[n]? = some (rd l (n : Int)) := by
  unfold rd
  rw [Int.toNat_natCast, List.getD_eq_getElem?_getD, List.getElem?_eq_getElem h]
  rfl
theorem ext_upto {α : Type} (a b : List α) (hl : a.length = b.length) (h : ∀ j, j < a.length → a[j]? = b[j]?) : a = b := by
  apply List.ext_getElem?
  intro j
  by_cases hj : j < a.length
  · exact h j hj
  · rw [List.getElem?_eq_none (by omega), List.getElem?_eq_none (by omega)]

theorem rdT_75 (l : List S75) (n : Nat) (h : n < l.length) : l[n]? = some (rd_T75 l (n : Int)) := by
  unfold rd_T75
  rw [Int.toNat_natCast, List.getD_eq_getElem?_getD, List.getElem?_eq_getElem h]
  rfl
theorem rdT_25 (l : List S25) (n : Nat) (h : n < l.length) : l[n]? = some (rd_T25 l (n : Int)) := by
  unfold rd_T25
  rw [Int.toNat_natCast, List.getD_eq_getElem?_getD, List.getElem?_eq_getElem h]
  rfl
def convPiece (x : S75) : S25 := ⟨x.f0, x.f1, x.f2, x.f3, x.f4, x.f5, x.f6, x.f7, x.f8, x.f9, x.f10, x.f11, x.f12⟩
theorem toPieceS_l0 : ∀ (d k n : Nat) (l : List S75) (out : List S25), n + d = l.length → d < k → out.length = l.length → l.length ≤ 4611686018427387904 → (∀ j, j < n → out[j]? = (l.map convPiece)[j]?) → laws_toPieceS.l0 k l out (n : Int) = some (l.map convPiece)
  | 0, k, n, l, out, hn, hk, hl, hb, h => by
    obtain ⟨k, rfl⟩ : ∃ q, k = q + 1 := ⟨k - 1, by omega⟩
    simp only [laws_toPieceS.l0]
    rw [if_neg (by omega), ext_upto out (l.map convPiece) (by rw [List.length_map]; exact hl) (fun j hj => h j (by omega))]
  | d + 1, k, n, l, out, hn, hk, hl, hb, h => by
    obtain ⟨k, rfl⟩ : ∃ q, k = q + 1 := ⟨k - 1, by omega⟩
    simp only [laws_toPieceS.l0, laws_toPiece.f, Option.bind_some]
    rw [if_pos (by omega), if_pos (by omega), if_pos (by omega), wrap_nat n (by omega), Int.toNat_natCast]
    refine toPieceS_l0 d k (n + 1) l _ (by omega) (by omega) (by rw [List.length_set]; exact hl) hb (fun j hj => ?_)
    by_cases e : n = j
    · subst e
      rw [List.getElem?_set_self (by omega), List.getElem?_map, rdT_75 l n (by omega)]
      rfl
    · rw [List.getElem?_set_ne e]
      exact h j (by omega)
theorem toPieceS_f (k : Nat) (l : List S75) (hk : l.length < k) (hb : l.length ≤ 1048576) : laws_toPieceS.f k l = some (l.map convPiece) := by
  unfold laws_toPieceS.f
  rw [if_pos (by omega), Int.toNat_natCast, if_pos (by omega)]
  exact toPieceS_l0 l.length k 0 l _ (by omega) hk (by simp) (by omega) (fun j hj => by omega)
theorem eqPiece_same (x : S25) : laws_eqPiece.f (x.f0) (x.f1) (x.f2) (x.f3) (x.f4) (x.f5) (x.f6) (x.f7) (x.f8) (x.f9) (x.f10) (x.f11) (x.f12) (x.f0) (x.f1) (x.f2) (x.f3) (x.f4) (x.f5) (x.f6) (x.f7) (x.f8) (x.f9) (x.f10) (x.f11) (x.f12) = some true := by
  unfold laws_eqPiece.f
  simp only [if_true, bne_self_eq_false, Bool.false_eq_true, if_false]
theorem eqPieceS_l0 : ∀ (d k n : Nat) (a : List S25), n + d = a.length → d < k → a.length ≤ 4611686018427387904 → laws_eqPieceS.l0 k a a (n : Int) = some true
  | 0, k, n, a, hn, hk, hb => by
    obtain ⟨k, rfl⟩ : ∃ q, k = q + 1 := ⟨k - 1, by omega⟩
    simp only [laws_eqPieceS.l0]
    rw [if_neg (by omega)]
  | d + 1, k, n, a, hn, hk, hb => by
    obtain ⟨k, rfl⟩ : ∃ q, k = q + 1 := ⟨k - 1, by omega⟩
    simp only [laws_eqPieceS.l0]
    rw [if_pos (by omega), if_pos (by omega), if_pos (by omega), eqPiece_same (rd_T25 a (n : Int)), wrap_nat n (by omega)]
    simp only [Option.bind_some, if_true]
    exact eqPieceS_l0 d k (n + 1) a (by omega) (by omega) hb
theorem eqPieceS_same (k : Nat) (a : List S25) (hk : a.length < k) (hb : a.length ≤ 4611686018427387904) : laws_eqPieceS.f k a a = some true := by
  unfold laws_eqPieceS.f
  rw [if_pos rfl]
  exact eqPieceS_l0 a.length k 0 a (by omega) hk hb

theorem rdT_124 (l : List S124) (n : Nat) (h : n < l.length) : l[n]? = some (rd_T124 l (n : Int)) := by
  unfold rd_T124
  rw [Int.toNat_natCast, List.getD_eq_getElem?_getD, List.getElem?_eq_getElem h]
  rfl
theorem rdT_71 (l : List S71) (n : Nat) (h : n < l.length) : l[n]? = some (rd_T71 l (n : Int)) := by
  unfold rd_T71
  rw [Int.toNat_natCast, List.getD_eq_getElem?_getD, List.getElem?_eq_getElem h]
  rfl
def convSide (x : S124) : S71 := ⟨x.f0, x.f1, x.f2⟩
theorem toSideS_l0 : ∀ (d k n : Nat) (l : List S124) (out : List S71), n + d = l.length → d < k → out.length = l.length → l.length ≤ 4611686018427387904 → (∀ j, j < n → out[j]? = (l.map convSide)[j]?) → laws_toSideS.l0 k l out (n : Int) = some (l.map convSide)
  | 0, k, n, l, out, hn, hk, hl, hb, h => by
    obtain ⟨k, rfl⟩ : ∃ q, k = q + 1 := ⟨k - 1, by omega⟩
    simp only [laws_toSideS.l0]
    rw [if_neg (by omega), ext_upto out (l.map convSide) (by rw [List.length_map]; exact hl) (fun j hj => h j (by omega))]
  | d + 1, k, n, l, out, hn, hk, hl, hb, h => by
    obtain ⟨k, rfl⟩ : ∃ q, k = q + 1 := ⟨k - 1, by omega⟩
    simp only [laws_toSideS.l0, laws_toSide.f, Option.bind_some]
    rw [if_pos (by omega), if_pos (by omega), if_pos (by omega), wrap_nat n (by omega), Int.toNat_natCast]
    refine toSideS_l0 d k (n + 1) l _ (by omega) (by omega) (by rw [List.length_set]; exact hl) hb (fun j hj => ?_)
    by_cases e : n = j
    · subst e
      rw [List.getElem?_set_self (by omega), List.getElem?_map, rdT_124 l n (by omega)]
      rfl
    · rw [List.getElem?_set_ne e]
      exact h j (by omega)
theorem toSideS_f (k : Nat) (l : List S124) (hk : l.length < k) (hb : l.length ≤ 1048576) : laws_toSideS.f k l = some (l.map convSide) := by
  unfold laws_toSideS.f
  rw [if_pos (by omega), Int.toNat_natCast, if_pos (by omega)]
  exact toSideS_l0 l.length k 0 l _ (by omega) hk (by simp) (by omega) (fun j hj => by omega)
theorem eqSide_same (x : S71) : laws_eqSide.f (x.f0) (x.f1) (x.f2) (x.f0) (x.f1) (x.f2) = some true := by
  unfold laws_eqSide.f
  simp only [if_true, bne_self_eq_false, Bool.false_eq_true, if_false]
theorem eqSideS_l0 : ∀ (d k n : Nat) (a : List S71), n + d = a.length → d < k → a.length ≤ 4611686018427387904 → laws_eqSideS.l0 k a a (n : Int) = some true
  | 0, k, n, a, hn, hk, hb => by
    obtain ⟨k, rfl⟩ : ∃ q, k = q + 1 := ⟨k - 1, by omega⟩
    simp only [laws_eqSideS.l0]
    rw [if_neg (by omega)]
  | d + 1, k, n, a, hn, hk, hb => by
    obtain ⟨k, rfl⟩ : ∃ q, k = q + 1 := ⟨k - 1, by omega⟩
    simp only [laws_eqSideS.l0]
    rw [if_pos (by omega), if_pos (by omega), if_pos (by omega), eqSide_same (rd_T71 a (n : Int)), wrap_nat n (by omega)]
    simp only [Option.bind_some, if_true]
    exact eqSideS_l0 d k (n + 1) a (by omega) (by omega) hb
theorem eqSideS_same (k : Nat) (a : List S71) (hk : a.length < k) (hb : a.length ≤ 4611686018427387904) : laws_eqSideS.f k a a = some true := by
  unfold laws_eqSideS.f
  rw [if_pos rfl]
  exact eqSideS_l0 a.length k 0 a (by omega) hk hb

theorem toState_f (k : Nat) (ps : List S75) (ss : List S124) (a c : Int) (hk : ps.length + ss.length < k) (hb : ps.length + ss.length ≤ 1048576) : laws_toState.f k ps ss a c = some (ps.map convPiece, ss.map convSide, a, c) := by
  unfold laws_toState.f
  rw [toPieceS_f k ps (by omega) (by omega), toSideS_f k ss (by omega) (by omega)]
  rfl
theorem eqState_same (k : Nat) (ps : List S25) (ss : List S71) (a c : Int) (hk : ps.length + ss.length < k) (hb : ps.length + ss.length ≤ 1048576) : laws_eqState.f k ps ss a c ps ss a c = some true := by
  unfold laws_eqState.f
  rw [eqPieceS_same k ps (by omega) (by omega), eqSideS_same k ss (by omega) (by omega)]
  simp only [Option.bind_some, if_true]

theorem sz_f (ps : List S75) (ss : List S124) (a c n : Int) (h0 : 0 ≤ n) (h1 : n ≤ 1048576) (hp : ps.length ≤ 9223372036854775807) (hs : ss.length ≤ 9223372036854775807) : laws_szState.f ps ss a c n = some (if n - (ps.length : Int) - (ss.length : Int) < 0 then -1 else n - (ps.length : Int) - (ss.length : Int)) := by
  have w1 : wrap64 (n - (ps.length : Int)) = n - (ps.length : Int) := by unfold wrap64; omega
  unfold laws_szState.f laws_szPieceS.f laws_szSideS.f
  rw [w1]
  by_cases g : n - (ps.length : Int) < 0
  · rw [if_pos g]
    simp only [Option.bind_some]
    rw [if_pos (by decide), if_pos (by omega)]
  · rw [if_neg g]
    simp only [Option.bind_some]
    have w2 : wrap64 (n - (ps.length : Int) - (ss.length : Int)) = n - (ps.length : Int) - (ss.length : Int) := by unfold wrap64; omega
    rw [if_neg g, w2]
    by_cases g2 : n - (ps.length : Int) - (ss.length : Int) < 0
    · rw [if_pos g2, if_pos g2]
      simp only [Option.bind_some]
      rw [if_pos (by decide)]
    · rw [if_neg g2, if_neg g2]
      simp only [Option.bind_some]
      rw [if_neg g2]

theorem bind_of {α β : Type} {x : Option α} {v : α} {f : α → Option β} {r : Option β} (h : x = some v) (h2 : f v = r) : x.bind f = r := by rw [h]; exact h2
theorem ite_of {α : Type} {c : Prop} [Decidable c] {a b r : α} (hc : c) (h : a = r) : (if c then a else b) = r := by rw [if_pos hc]; exact h
theorem ite_no {α : Type} {c : Prop} [Decidable c] {a b r : α} (hc : ¬ c) (h : b = r) : (if c then a else b) = r := by rw [if_neg hc]; exact h

theorem FnExactStateOk : laws_FnExactStateOk.Pure := by
  intro ps ss x y m1 _ m2 _ _ _
  have hm : maxLen ≤ 9223372036854775807 := by decide
  have hz := sz_f ps ss x y 1048576 (by omega) (by omega) (by omega) (by omega)
  by_cases g : (1048576 : Int) - (ps.length : Int) - (ss.length : Int) < 0
  · rw [if_pos g] at hz
    exact ⟨0, by unfold laws_FnExactStateOk.f; rw [hz]; rfl⟩
  rw [if_neg g] at hz
  obtain ⟨k, hk⟩ : ∃ k : Nat, k = 3000000 := ⟨_, rfl⟩
  refine ⟨k, ?_⟩
  have la : (ps.map convPiece).length = ps.length := List.length_map ..
  have lb : (ss.map convSide).length = ss.length := List.length_map ..
  have T := toState_f k ps ss x y (by omega) (by omega)
  have E := eqState_same k (ps.map convPiece) (ss.map convSide) x y (by omega) (by omega)
  unfold laws_FnExactStateOk.f
  refine bind_of hz ?_
  refine ite_no g ?_
  refine bind_of T ?_
  refine bind_of (show spec_StateOk.f k (ps.map convPiece) (ss.map convSide) x y = _ from rfl) ?_
  refine bind_of T ?_
  refine bind_of (show impl_StateOk.f k (ps.map convPiece) (ss.map convSide) x y = _ from rfl) ?_
  refine ite_no (by simp) ?_
  refine bind_of T ?_
  refine bind_of E ?_
  exact ite_of rfl rfl

end Go.Proofs.Ytfkidiagmekleaa.Pure
