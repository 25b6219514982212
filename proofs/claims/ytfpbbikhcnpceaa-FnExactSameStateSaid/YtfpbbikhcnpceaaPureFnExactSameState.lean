/- For all states a and b whose lists together have at most 2^20 elements the program's SameState and the reference's SameState return the same bool, and a and b stay as they were (of longer ones the law says nothing: it answers true). -/
import Derived.Test.YtfpbbikhcnpceaaQFnExactSameStatex8
namespace Go.Proofs.Ytfpbbikhcnpceaa.Pure
open Go.RowKit Go.Proofs.Ytfpbbikhcnpceaa.QFnExactSameState Go.Proofs.YtfpbbikhcnpceaaW.PrintWords Go.Proofs.YtfpbbikhcnpceaaW.PrintLast
theorem wrap_nat (n : Nat) (h : n ≤ 4611686018427387904) : wrap64 ((n : Int) + 1) = ((n + 1 : Nat) : Int) := by unfold wrap64; omega
theorem rd_nat (l : List Int) (n : Nat) (h : n < l.length) : l[n]? = some (rd l (n : Int)) := by
  unfold rd
  rw [Int.toNat_natCast, List.getD_eq_getElem?_getD, List.getElem?_eq_getElem h]
  rfl
theorem ext_upto {α : Type} (a b : List α) (hl : a.length = b.length) (h : ∀ j, j < a.length → a[j]? = b[j]?) : a = b := by
  apply List.ext_getElem?
  intro j
  by_cases hj : j < a.length
  · exact h j hj
  · rw [List.getElem?_eq_none (by omega), List.getElem?_eq_none (by omega)]

theorem rdT_52 (l : List S52) (n : Nat) (h : n < l.length) : l[n]? = some (rd_T52 l (n : Int)) := by
  unfold rd_T52
  rw [Int.toNat_natCast, List.getD_eq_getElem?_getD, List.getElem?_eq_getElem h]
  rfl
theorem rdT_54 (l : List S54) (n : Nat) (h : n < l.length) : l[n]? = some (rd_T54 l (n : Int)) := by
  unfold rd_T54
  rw [Int.toNat_natCast, List.getD_eq_getElem?_getD, List.getElem?_eq_getElem h]
  rfl
def convPiece (x : S52) : S54 := ⟨x.f0, x.f1, x.f2, x.f3, x.f4, x.f5, x.f6, x.f7, x.f8, x.f9, x.f10, x.f11, x.f12⟩
theorem toPieceS_l0 : ∀ (d k n : Nat) (l : List S52) (out : List S54), n + d = l.length → d < k → out.length = l.length → l.length ≤ 4611686018427387904 → (∀ j, j < n → out[j]? = (l.map convPiece)[j]?) → laws_toPieceS.l0 k l out (n : Int) = some (l.map convPiece)
  | 0, k, n, l, out, hn, hk, hl, hb, h => by
    obtain ⟨k, rfl⟩ : ∃ q, k = q + 1 := ⟨k - 1, by omega⟩
    simp only [laws_toPieceS.l0]
    rw [if_neg (by omega), ext_upto out (l.map convPiece) (by rw [List.length_map]; exact hl) (fun j hj => h j (by omega))]
  | d + 1, k, n, l, out, hn, hk, hl, hb, h => by
    obtain ⟨k, rfl⟩ : ∃ q, k = q + 1 := ⟨k - 1, by omega⟩
    simp only [laws_toPieceS.l0, laws_toPiece.f, Option.bind_some]
    rw [if_pos (by omega), if_pos (by omega), if_pos (by omega), wrap_nat n (by omega), Int.toNat_natCast]
    refine toPieceS_l0 d k (n + 1) l _ (by omega) (by omega) (by rw [List.length_set]; exact hl) hb (fun j hj => ?_)
    by_cases e : n = j
    · subst e
      rw [List.getElem?_set_self (by omega), List.getElem?_map, rdT_52 l n (by omega)]
      rfl
    · rw [List.getElem?_set_ne e]
      exact h j (by omega)
theorem toPieceS_f (k : Nat) (l : List S52) (hk : l.length < k) (hb : l.length ≤ 1048576) : laws_toPieceS.f k l = some (l.map convPiece) := by
  unfold laws_toPieceS.f
  rw [if_pos (by omega), Int.toNat_natCast, if_pos (by omega)]
  exact toPieceS_l0 l.length k 0 l _ (by omega) hk (by simp) (by omega) (fun j hj => by omega)
theorem eqPiece_same (x : S54) : laws_eqPiece.f (x.f0) (x.f1) (x.f2) (x.f3) (x.f4) (x.f5) (x.f6) (x.f7) (x.f8) (x.f9) (x.f10) (x.f11) (x.f12) (x.f0) (x.f1) (x.f2) (x.f3) (x.f4) (x.f5) (x.f6) (x.f7) (x.f8) (x.f9) (x.f10) (x.f11) (x.f12) = some true := by
  unfold laws_eqPiece.f
  simp only [if_true, bne_self_eq_false, Bool.false_eq_true, if_false]
theorem eqPieceS_l0 : ∀ (d k n : Nat) (a : List S54), n + d = a.length → d < k → a.length ≤ 4611686018427387904 → laws_eqPieceS.l0 k a a (n : Int) = some true
  | 0, k, n, a, hn, hk, hb => by
    obtain ⟨k, rfl⟩ : ∃ q, k = q + 1 := ⟨k - 1, by omega⟩
    simp only [laws_eqPieceS.l0]
    rw [if_neg (by omega)]
  | d + 1, k, n, a, hn, hk, hb => by
    obtain ⟨k, rfl⟩ : ∃ q, k = q + 1 := ⟨k - 1, by omega⟩
    simp only [laws_eqPieceS.l0]
    rw [if_pos (by omega), if_pos (by omega), if_pos (by omega), eqPiece_same (rd_T54 a (n : Int)), wrap_nat n (by omega)]
    simp only [Option.bind_some, if_true]
    exact eqPieceS_l0 d k (n + 1) a (by omega) (by omega) hb
theorem eqPieceS_same (k : Nat) (a : List S54) (hk : a.length < k) (hb : a.length ≤ 4611686018427387904) : laws_eqPieceS.f k a a = some true := by
  unfold laws_eqPieceS.f
  rw [if_pos rfl]
  exact eqPieceS_l0 a.length k 0 a (by omega) hk hb

theorem rdT_127 (l : List S127) (n : Nat) (h : n < l.length) : l[n]? = some (rd_T127 l (n : Int)) := by
  unfold rd_T127
  rw [Int.toNat_natCast, List.getD_eq_getElem?_getD, List.getElem?_eq_getElem h]
  rfl
theorem rdT_118 (l : List S118) (n : Nat) (h : n < l.length) : l[n]? = some (rd_T118 l (n : Int)) := by
  unfold rd_T118
  rw [Int.toNat_natCast, List.getD_eq_getElem?_getD, List.getElem?_eq_getElem h]
  rfl
def convSide (x : S127) : S118 := ⟨x.f0, x.f1, x.f2⟩
theorem toSideS_l0 : ∀ (d k n : Nat) (l : List S127) (out : List S118), n + d = l.length → d < k → out.length = l.length → l.length ≤ 4611686018427387904 → (∀ j, j < n → out[j]? = (l.map convSide)[j]?) → laws_toSideS.l0 k l out (n : Int) = some (l.map convSide)
  | 0, k, n, l, out, hn, hk, hl, hb, h => by
    obtain ⟨k, rfl⟩ : ∃ q, k = q + 1 := ⟨k - 1, by omega⟩
    simp only [laws_toSideS.l0]
    rw [if_neg (by omega), ext_upto out (l.map convSide) (by rw [List.length_map]; exact hl) (fun j hj => h j (by omega))]
  | d + 1, k, n, l, out, hn, hk, hl, hb, h => by
    obtain ⟨k, rfl⟩ : ∃ q, k = q + 1 := ⟨k - 1, by omega⟩
    simp only [laws_toSideS.l0, laws_toSide.f, Option.bind_some]
    rw [if_pos (by omega), if_pos (by omega), if_pos (by omega), wrap_nat n (by omega), Int.toNat_natCast]
    refine toSideS_l0 d k (n + 1) l _ (by omega) (by omega) (by rw [List.length_set]; exact hl) hb (fun j hj => ?_)
    by_cases e : n = j
    · subst e
      rw [List.getElem?_set_self (by omega), List.getElem?_map, rdT_127 l n (by omega)]
      rfl
    · rw [List.getElem?_set_ne e]
      exact h j (by omega)
theorem toSideS_f (k : Nat) (l : List S127) (hk : l.length < k) (hb : l.length ≤ 1048576) : laws_toSideS.f k l = some (l.map convSide) := by
  unfold laws_toSideS.f
  rw [if_pos (by omega), Int.toNat_natCast, if_pos (by omega)]
  exact toSideS_l0 l.length k 0 l _ (by omega) hk (by simp) (by omega) (fun j hj => by omega)
theorem eqSide_same (x : S118) : laws_eqSide.f (x.f0) (x.f1) (x.f2) (x.f0) (x.f1) (x.f2) = some true := by
  unfold laws_eqSide.f
  simp only [if_true, bne_self_eq_false, Bool.false_eq_true, if_false]
theorem eqSideS_l0 : ∀ (d k n : Nat) (a : List S118), n + d = a.length → d < k → a.length ≤ 4611686018427387904 → laws_eqSideS.l0 k a a (n : Int) = some true
  | 0, k, n, a, hn, hk, hb => by
    obtain ⟨k, rfl⟩ : ∃ q, k = q + 1 := ⟨k - 1, by omega⟩
    simp only [laws_eqSideS.l0]
    rw [if_neg (by omega)]
  | d + 1, k, n, a, hn, hk, hb => by
    obtain ⟨k, rfl⟩ : ∃ q, k = q + 1 := ⟨k - 1, by omega⟩
    simp only [laws_eqSideS.l0]
    rw [if_pos (by omega), if_pos (by omega), if_pos (by omega), eqSide_same (rd_T118 a (n : Int)), wrap_nat n (by omega)]
    simp only [Option.bind_some, if_true]
    exact eqSideS_l0 d k (n + 1) a (by omega) (by omega) hb
theorem eqSideS_same (k : Nat) (a : List S118) (hk : a.length < k) (hb : a.length ≤ 4611686018427387904) : laws_eqSideS.f k a a = some true := by
  unfold laws_eqSideS.f
  rw [if_pos rfl]
  exact eqSideS_l0 a.length k 0 a (by omega) hk hb

theorem toState_f (k : Nat) (ps : List S52) (ss : List S127) (a c : Int) (hk : ps.length + ss.length < k) (hb : ps.length + ss.length ≤ 1048576) : laws_toState.f k ps ss a c = some (ps.map convPiece, ss.map convSide, a, c) := by
  unfold laws_toState.f
  rw [toPieceS_f k ps (by omega) (by omega), toSideS_f k ss (by omega) (by omega)]
  rfl
theorem eqState_same (k : Nat) (ps : List S54) (ss : List S118) (a c : Int) (hk : ps.length + ss.length < k) (hb : ps.length + ss.length ≤ 1048576) : laws_eqState.f k ps ss a c ps ss a c = some true := by
  unfold laws_eqState.f
  rw [eqPieceS_same k ps (by omega) (by omega), eqSideS_same k ss (by omega) (by omega)]
  simp only [Option.bind_some, if_true]

theorem both_if2 {C : Prop} [Decidable C] {A B E : Option Bool} (h : ∃ r, A = some r ∧ B = if r = true then E else some false) : ∃ r, (if C then some false else A) = some r ∧ (if C then some false else B) = if r = true then E else some false := by
  by_cases c : C
  · rw [if_pos c, if_pos c]
    exact ⟨false, rfl, rfl⟩
  · rw [if_neg c, if_neg c]
    exact h
theorem both_if {C : Prop} [Decidable C] {A B : Option Bool} (h : ∃ r, A = some r ∧ B = some r) : ∃ r, (if C then some false else A) = some r ∧ (if C then some false else B) = some r := by
  by_cases c : C
  · rw [if_pos c, if_pos c]
    exact ⟨false, rfl, rfl⟩
  · rw [if_neg c, if_neg c]
    exact h
theorem ps_l0 (a b : List S54) (sa sb : List S118) (x y x' y' : Int) (hl : a.length = b.length) (hb : a.length ≤ 1048576) : ∀ (d k k' n : Nat), n + d = a.length → d < k → d < k' → ∃ r, impl_Piece.l0 k a b (a.length : Int) (n : Int) = some r ∧ spec_SameState.l0 k' (n : Int) a sa x y b sb x' y' = if r = true then spec_SameState.l1 (k' - d - 1) 0 a sa x y b sb x' y' else some false
  | 0, k, k', n, hn, hk, hk' => by
    obtain ⟨k, rfl⟩ : ∃ q, k = q + 1 := ⟨k - 1, by omega⟩
    obtain ⟨k', rfl⟩ : ∃ q, k' = q + 1 := ⟨k' - 1, by omega⟩
    refine ⟨true, ?_, ?_⟩
    · simp only [impl_Piece.l0]
      rw [if_neg (by omega)]
    · simp only [spec_SameState.l0]
      rw [if_neg (by omega), if_pos trivial]
      rfl
  | d + 1, k, k', n, hn, hk, hk' => by
    obtain ⟨k, rfl⟩ : ∃ q, k = q + 1 := ⟨k - 1, by omega⟩
    obtain ⟨k', rfl⟩ : ∃ q, k' = q + 1 := ⟨k' - 1, by omega⟩
    have ih := ps_l0 a b sa sb x y x' y' hl hb d k k' (n + 1) (by omega) (by omega) (by omega)
    simp (disch := omega) only [impl_Piece.l0, spec_SameState.l0, if_pos, wrap_nat]
    rw [show k' + 1 - (d + 1) - 1 = k' - d - 1 from by omega]
    exact both_if2 ih
theorem ss_l1 (a b : List S54) (sa sb : List S118) (x y x' y' : Int) (hl : sa.length = sb.length) (hb : sa.length ≤ 1048576) : ∀ (d k k' n : Nat), n + d = sa.length → d < k → d < k' → ∃ r, impl_Side.l0 k sa sb (sa.length : Int) (n : Int) = some r ∧ spec_SameState.l1 k' (n : Int) a sa x y b sb x' y' = some r
  | 0, k, k', n, hn, hk, hk' => by
    obtain ⟨k, rfl⟩ : ∃ q, k = q + 1 := ⟨k - 1, by omega⟩
    obtain ⟨k', rfl⟩ : ∃ q, k' = q + 1 := ⟨k' - 1, by omega⟩
    refine ⟨true, ?_, ?_⟩
    · simp only [impl_Side.l0]
      rw [if_neg (by omega)]
    · simp only [spec_SameState.l1]
      rw [if_neg (by omega)]
  | d + 1, k, k', n, hn, hk, hk' => by
    obtain ⟨k, rfl⟩ : ∃ q, k = q + 1 := ⟨k - 1, by omega⟩
    obtain ⟨k', rfl⟩ : ∃ q, k' = q + 1 := ⟨k' - 1, by omega⟩
    have ih := ss_l1 a b sa sb x y x' y' hl hb d k k' (n + 1) (by omega) (by omega) (by omega)
    simp (disch := omega) only [impl_Side.l0, spec_SameState.l1, if_pos, wrap_nat]
    exact both_if ih
theorem same_both (k : Nat) (a b : List S54) (sa sb : List S118) (x y x' y' : Int) (hk : a.length + sa.length + 10 < k) (ha : a.length ≤ 1048576) (hs : sa.length ≤ 1048576) : ∃ r, impl_SameState.f k a sa x y b sb x' y' = some r ∧ spec_SameState.f k a sa x y b sb x' y' = some r := by
  have hj : spec_SameState.j0 k true a sa x y b sb x' y' = some false := by
    obtain ⟨k, rfl⟩ : ∃ q, k = q + 1 := ⟨k - 1, by omega⟩
    simp only [spec_SameState.j0, if_true]
  have bad : ∀ h : Bool, h = true → (spec_SameState.j0 k h a sa x y b sb x' y' = some false) := fun h e => by rw [e]; exact hj
  unfold impl_SameState.f spec_SameState.f
  by_cases hx : x = x'
  · by_cases hy : y = y'
    · rw [if_pos hx, if_pos hy]
      by_cases h1 : (a.length : Int) = (b.length : Int)
      · rw [if_pos h1]
        obtain ⟨q, hq⟩ : ∃ q, k = q + 1 := ⟨k - 1, by omega⟩
        obtain ⟨r, e1, e2⟩ := ps_l0 a b sa sb x y x' y' (by omega) ha a.length k q 0 (by omega) (by omega) (by omega)
        have hP : impl_Piece.f k a b = some r := by
          unfold impl_Piece.f
          rw [if_pos h1]
          exact e1
        rw [hP]
        simp only [Option.bind_some]
        by_cases h2 : (sa.length : Int) = (sb.length : Int)
        · rw [if_pos h2, if_pos hx]
          have hn : (y != y') = false := by rw [hy]; exact bne_self_eq_false y'
          obtain ⟨r', f1, f2⟩ := ss_l1 a b sa sb x y x' y' (by omega) hs sa.length k (q - a.length - 1) 0 (by omega) (by omega) (by omega)
          have hS : impl_Side.f k sa sb = some r' := by
            unfold impl_Side.f
            rw [if_pos h2]
            exact f1
          have hJ : spec_SameState.j0 k false a sa x y b sb x' y' = spec_SameState.l0 q 0 a sa x y b sb x' y' := by
            rw [hq]
            simp only [spec_SameState.j0, Bool.false_eq_true, if_false]
          have e2' : spec_SameState.l0 q 0 a sa x y b sb x' y' = if r = true then spec_SameState.l1 (q - a.length - 1) 0 a sa x y b sb x' y' else some false := e2
          have f2' : spec_SameState.l1 (q - a.length - 1) 0 a sa x y b sb x' y' = some r' := f2
          rw [hn, hJ, e2', hS, f2']
          cases r
          · exact ⟨false, rfl, rfl⟩
          · exact ⟨r', rfl, rfl⟩
        · rw [if_neg h2, hj]
          have hS : impl_Side.f k sa sb = some false := by
            unfold impl_Side.f
            rw [if_neg h2]
          rw [hS]
          refine ⟨false, ?_, rfl⟩
          cases r <;> rfl
      · rw [if_neg h1, hj]
        have hP : impl_Piece.f k a b = some false := by
          unfold impl_Piece.f
          rw [if_neg h1]
        rw [hP]
        exact ⟨false, rfl, rfl⟩
    · rw [if_pos hx, if_neg hy]
      refine ⟨false, rfl, ?_⟩
      have hn : (y != y') = true := bne_iff_ne.mpr hy
      rw [bad _ hn, hj]
      split
      · split <;> rfl
      · rfl
  · rw [if_neg hx]
    refine ⟨false, rfl, ?_⟩
    rw [if_neg hx, hj]
    split
    · split <;> rfl
    · rfl
theorem sz_f (ps : List S52) (ss : List S127) (a c n : Int) (h0 : 0 ≤ n) (h1 : n ≤ 1048576) (hp : ps.length ≤ 9223372036854775807) (hs : ss.length ≤ 9223372036854775807) : laws_szState.f ps ss a c n = some (if n - (ps.length : Int) - (ss.length : Int) < 0 then -1 else n - (ps.length : Int) - (ss.length : Int)) := by
  have w1 : wrap64 (n - (ps.length : Int)) = n - (ps.length : Int) := by unfold wrap64; omega
  unfold laws_szState.f laws_szPieceS.f laws_szSideS.f
  rw [w1]
  by_cases g : n - (ps.length : Int) < 0
  · rw [if_pos g]
    simp only [Option.bind_some]
    rw [if_pos (by decide), if_pos (by omega)]
  · rw [if_neg g]
    simp only [Option.bind_some]
    have w2 : wrap64 (n - (ps.length : Int) - (ss.length : Int)) = n - (ps.length : Int) - (ss.length : Int) := by unfold wrap64; omega
    rw [if_neg g, w2]
    by_cases g2 : n - (ps.length : Int) - (ss.length : Int) < 0
    · rw [if_pos g2, if_pos g2]
      simp only [Option.bind_some]
      rw [if_pos (by decide)]
    · rw [if_neg g2, if_neg g2]
      simp only [Option.bind_some]
      rw [if_neg g2]
theorem FnExactSameState : laws_FnExactSameState.Pure := by
  intro ps ss x y ps' ss' x' y' m1 _ m2 _ _ _ m3 _ m4 _ _ _
  have hm : maxLen ≤ 9223372036854775807 := by decide
  have hz := sz_f ps ss x y 1048576 (by omega) (by omega) (by omega) (by omega)
  by_cases g : (1048576 : Int) - (ps.length : Int) - (ss.length : Int) < 0
  · rw [if_pos g] at hz
    exact ⟨0, by unfold laws_FnExactSameState.f; rw [hz]; rfl⟩
  rw [if_neg g] at hz
  have hz2 := sz_f ps' ss' x' y' (1048576 - (ps.length : Int) - (ss.length : Int)) (by omega) (by omega) (by omega) (by omega)
  by_cases g2 : (1048576 : Int) - (ps.length : Int) - (ss.length : Int) - (ps'.length : Int) - (ss'.length : Int) < 0
  · rw [if_pos g2] at hz2
    refine ⟨0, ?_⟩
    unfold laws_FnExactSameState.f
    rw [hz]
    simp only [Option.bind_some]
    rw [if_neg g, hz2]
    rfl
  rw [if_neg g2] at hz2
  obtain ⟨k, hk⟩ : ∃ k : Nat, k = 3000000 := ⟨_, rfl⟩
  refine ⟨k, ?_⟩
  have la : (ps.map convPiece).length = ps.length := List.length_map ..
  have lb : (ss.map convSide).length = ss.length := List.length_map ..
  have la' : (ps'.map convPiece).length = ps'.length := List.length_map ..
  have lb' : (ss'.map convSide).length = ss'.length := List.length_map ..
  obtain ⟨r, h1, h2⟩ := same_both k (ps.map convPiece) (ps'.map convPiece) (ss.map convSide) (ss'.map convSide) x y x' y' (by omega) (by omega) (by omega)
  unfold laws_FnExactSameState.f
  rw [hz]
  simp only [Option.bind_some]
  rw [if_neg g, hz2]
  simp only [Option.bind_some]
  rw [if_neg g2, toState_f k ps ss x y (by omega) (by omega), toState_f k ps' ss' x' y' (by omega) (by omega)]
  simp only [Option.bind_some]
  rw [h2]
  simp only [Option.bind_some]
  rw [h1]
  simp only [Option.bind_some, bne_self_eq_false, Bool.false_eq_true, if_false]
  rw [eqState_same k _ _ x y (by omega) (by omega), eqState_same k _ _ x' y' (by omega) (by omega)]
  simp only [Option.bind_some, if_true]

end Go.Proofs.Ytfpbbikhcnpceaa.Pure
