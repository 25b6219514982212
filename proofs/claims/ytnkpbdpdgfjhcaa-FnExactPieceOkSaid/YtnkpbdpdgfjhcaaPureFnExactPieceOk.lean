/- For every Piece the program's PieceOk and the reference's PieceOk return the same bool. No condition. -/
import Derived.Test.YtnkpbdpdgfjhcaaQFnExactPieceOkx5
namespace Go.Proofs.Ytnkpbdpdgfjhcaa.Pure
open Go.RowKit Go.Proofs.Ytnkpbdpdgfjhcaa.QFnExactPieceOk Go.Proofs.YtnkpbdpdgfjhcaaW.PrintWords Go.Proofs.YtnkpbdpdgfjhcaaW.PrintLast
def inr (a lo hi : Int) : Bool := decide (lo ≤ a ∧ a ≤ hi)
theorem inr_if (a lo hi : Int) : (if a ≥ lo then (some (decide (a ≤ hi))) else (some false)) = some (inr a lo hi) := by
  unfold inr
  by_cases h : a ≥ lo
  · rw [if_pos h]; congr 1; simp [show lo ≤ a from h]
  · rw [if_neg h]; congr 1; simp; omega
theorem spec_in (a lo hi : Int) : spec_l1In.f a lo hi = some (inr a lo hi) := inr_if a lo hi
theorem impl_from_in (a lo hi : Int) : impl_from.f a lo hi = some (inr a lo hi) := inr_if a lo hi

def pok (a0 a1 a2 a3 a4 a5 a6 a7 a8 a9 a10 : Int) (a11 a12 : Bool) : Bool :=
  inr a0 1 99 && (inr a1 0 2 && (inr a2 0 2 && (inr a3 1 4 && (inr a4 0 9999 && (inr a5 0 999 && (inr a6 0 999 && (inr a7 0 63 && (inr a8 0 2147483647 && (inr a9 0 2147483647 && (inr a10 0 2147483647 && (decide (a3 = 2) || (decide (a2 = a1) && (decide (a8 = 0) && (decide (a9 = 0) && (decide (a10 = 0) && (!a11 && !a12))))))))))))))))
theorem spec_pieceok (k : Nat) (a0 a1 a2 a3 a4 a5 a6 a7 a8 a9 a10 : Int) (a11 a12 : Bool) (hk : 1 ≤ k) : spec_PieceOk.f k a0 a1 a2 a3 a4 a5 a6 a7 a8 a9 a10 a11 a12 = some (pok a0 a1 a2 a3 a4 a5 a6 a7 a8 a9 a10 a11 a12) := by
  obtain ⟨k, rfl⟩ : ∃ q, k = q + 1 := ⟨k - 1, by omega⟩
  have hj : spec_PieceOk.j0 (k + 1) true a0 a1 a2 a3 a4 a5 a6 a7 a8 a9 a10 a11 a12 = some false := by simp only [spec_PieceOk.j0, if_true]
  unfold spec_PieceOk.f pok
  simp only [spec_in, Option.bind_some, hj]
  cases inr a0 1 99
  · simp only [Bool.false_eq_true, if_false, Bool.false_and]
  cases inr a1 0 2
  · simp only [Bool.false_eq_true, if_false, if_true, Bool.false_and, Bool.true_and]
  cases inr a2 0 2
  · simp only [Bool.false_eq_true, if_false, if_true, Bool.false_and, Bool.true_and]
  cases inr a3 1 4
  · simp only [Bool.false_eq_true, if_false, if_true, Bool.false_and, Bool.true_and]
  cases inr a4 0 9999
  · simp only [Bool.false_eq_true, if_false, if_true, Bool.false_and, Bool.true_and]
  cases inr a5 0 999
  · simp only [Bool.false_eq_true, if_false, if_true, Bool.false_and, Bool.true_and]
  cases inr a6 0 999
  · simp only [Bool.false_eq_true, if_false, if_true, Bool.false_and, Bool.true_and]
  cases inr a7 0 63
  · simp only [if_true, Bool.false_and, Bool.true_and, Bool.not_false, hj]
  simp only [spec_PieceOk.j0, spec_in, Option.bind_some, if_true, Bool.true_and, Bool.not_true, Bool.false_eq_true, if_false]
  cases inr a8 0 2147483647
  · simp only [Bool.false_eq_true, if_false, Bool.false_and]
  cases inr a9 0 2147483647
  · simp only [Bool.false_eq_true, if_false, if_true, Bool.false_and, Bool.true_and]
  cases inr a10 0 2147483647
  · simp only [Bool.false_eq_true, if_false, if_true, Bool.false_and, Bool.true_and]
  simp only [if_true, Bool.true_and]
  by_cases h3 : a3 = 2
  · simp [h3]
  by_cases h2 : a2 = a1
  · by_cases h8 : a8 = 0
    · by_cases h9 : a9 = 0
      · by_cases h10 : a10 = 0
        · cases a11 <;> simp [h3, h2, h8, h9, h10]
        · simp [h3, h2, h8, h9, h10]
      · simp [h3, h2, h8, h9]
    · simp [h3, h2, h8]
  · simp [h3, h2]
theorem impl_pieceok (k : Nat) (a0 a1 a2 a3 a4 a5 a6 a7 a8 a9 a10 : Int) (a11 a12 : Bool) (hk : 1 ≤ k) : impl_PieceOk.f k a0 a1 a2 a3 a4 a5 a6 a7 a8 a9 a10 a11 a12 = some (pok a0 a1 a2 a3 a4 a5 a6 a7 a8 a9 a10 a11 a12) := by
  obtain ⟨k, rfl⟩ : ∃ q, k = q + 1 := ⟨k - 1, by omega⟩
  have hj : impl_PieceOk.j0 (k + 1) true a0 a1 a2 a3 a4 a5 a6 a7 a8 a9 a10 a11 a12 = some false := by simp only [impl_PieceOk.j0, if_true]
  unfold impl_PieceOk.f pok
  simp only [impl_isId.f, impl_isPlayer.f, impl_isZone.f, impl_isTime.f, impl_isTraits.f, impl_from_in, Option.bind_some, hj]
  cases inr a0 1 99
  · simp only [Bool.false_eq_true, if_false, Bool.false_and]
  cases inr a1 0 2
  · simp only [Bool.false_eq_true, if_false, if_true, Bool.false_and, Bool.true_and]
  cases inr a2 0 2
  · simp only [Bool.false_eq_true, if_false, if_true, Bool.false_and, Bool.true_and]
  cases inr a3 1 4
  · simp only [Bool.false_eq_true, if_false, if_true, Bool.false_and, Bool.true_and]
  cases inr a4 0 9999
  · simp only [Bool.false_eq_true, if_false, if_true, Bool.false_and, Bool.true_and]
  cases inr a5 0 999
  · simp only [Bool.false_eq_true, if_false, if_true, Bool.false_and, Bool.true_and]
  cases inr a6 0 999
  · simp only [Bool.false_eq_true, if_false, if_true, Bool.false_and, Bool.true_and]
  cases inr a7 0 63
  · simp only [if_true, Bool.false_and, Bool.true_and, Bool.not_false, hj]
  simp only [impl_PieceOk.j0, impl_isAmount.f, impl_from_in, Option.bind_some, if_true, Bool.true_and, Bool.not_true, Bool.false_eq_true, if_false]
  by_cases h3 : a3 = 2
  · rw [if_pos h3]
    cases inr a8 0 2147483647 <;> cases inr a9 0 2147483647 <;> simp [h3]
  rw [if_neg h3]
  by_cases h2 : a2 = a1
  · by_cases h8 : a8 = 0
    · by_cases h9 : a9 = 0
      · by_cases h10 : a10 = 0
        · subst h8 h9 h10
          cases a11 <;> simp [h3, h2, inr]
        · simp [h3, h2, h8, h9, h10]
      · simp [h3, h2, h8, h9]
    · simp [h3, h2, h8]
  · simp [h3, h2]

theorem FnExactPieceOk : laws_FnExactPieceOk.Pure := by
  unfold laws_FnExactPieceOk.Pure
  intros
  refine ⟨1, ?_⟩
  simp only [laws_FnExactPieceOk.f, laws_toPiece.f, Option.bind_some]
  rw [spec_pieceok 1 _ _ _ _ _ _ _ _ _ _ _ _ _ (by omega), impl_pieceok 1 _ _ _ _ _ _ _ _ _ _ _ _ _ (by omega)]
  simp only [Option.bind_some, bne_self_eq_false, Bool.false_eq_true, if_false]

end Go.Proofs.Ytnkpbdpdgfjhcaa.Pure
