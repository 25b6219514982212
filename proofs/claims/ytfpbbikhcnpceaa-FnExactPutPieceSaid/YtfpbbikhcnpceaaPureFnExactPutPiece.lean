/- For every slice of bytes b of at most 2^20 bytes and every Piece the program's PutPiece and the reference's PutPiece return the same bytes, in new memory, and b stays as it was (of a longer b the law says nothing: it answers true). -/
import Derived.Test.YtfpbbikhcnpceaaQFnExactPutPiecex7
namespace Go.Proofs.Ytfpbbikhcnpceaa.Pure
open Go.RowKit Go.Proofs.Ytfpbbikhcnpceaa.QFnExactPutPiece Go.Proofs.YtfpbbikhcnpceaaW.PrintWords Go.Proofs.YtfpbbikhcnpceaaW.PrintLast
theorem wrap_nat (n : Nat) (h : n ≤ 4611686018427387904) : wrap64 ((n : Int) + 1) = ((n + 1 : Nat) : Int) := by unfold wrap64; omega
theorem rd_nat (l : List Int) (n : Nat) (h : n < l.length) : l[n]? = some (rd l (n : Int)) := by
  unfold rd
  rw [Int.toNat_natCast, List.getD_eq_getElem?_getD, List.getElem?_eq_getElem h]
  rfl
theorem ext_upto {α : Type} (a b : List α) (hl : a.length = b.length) (h : ∀ j, j < a.length → a[j]? = b[j]?) : a = b := by
  apply List.ext_getElem?
  intro j
  by_cases hj : j < a.length
  · exact h j hj
  · rw [List.getElem?_eq_none (by omega), List.getElem?_eq_none (by omega)]

theorem toByteS_l0 : ∀ (d k n : Nat) (l out : List Int), n + d = l.length → d < k → out.length = l.length → l.length ≤ 4611686018427387904 → (∀ j, j < n → out[j]? = l[j]?) → laws_toByteS.l0 k l out (n : Int) = some l
  | 0, k, n, l, out, hn, hk, hl, hb, h => by
    obtain ⟨k, rfl⟩ : ∃ q, k = q + 1 := ⟨k - 1, by omega⟩
    simp only [laws_toByteS.l0]
    rw [if_neg (by omega), ext_upto out l hl (fun j hj => h j (by omega))]
  | d + 1, k, n, l, out, hn, hk, hl, hb, h => by
    obtain ⟨k, rfl⟩ : ∃ q, k = q + 1 := ⟨k - 1, by omega⟩
    simp only [laws_toByteS.l0]
    rw [if_pos (by omega), if_pos (by omega), if_pos (by omega), wrap_nat n (by omega), Int.toNat_natCast]
    refine toByteS_l0 d k (n + 1) l _ (by omega) (by omega) (by rw [List.length_set]; exact hl) hb (fun j hj => ?_)
    by_cases e : n = j
    · subst e
      rw [List.getElem?_set_self (by omega), rd_nat l n (by omega)]
    · rw [List.getElem?_set_ne e]
      exact h j (by omega)
theorem toByteS_f (k : Nat) (l : List Int) (hk : l.length < k) (hb : l.length ≤ 281474976710656) : laws_toByteS.f k l = some l := by
  unfold laws_toByteS.f
  rw [if_pos (by omega), Int.toNat_natCast, if_pos (by omega)]
  exact toByteS_l0 l.length k 0 l _ (by omega) hk (by simp) (by omega) (fun j hj => by omega)

theorem eqByteS_l0 : ∀ (d k n : Nat) (a b : List Int), n + d = a.length → d < k → a.length = b.length → a.length ≤ 4611686018427387904 → (∀ j, j < n → a[j]? = b[j]?) → laws_eqByteS.l0 k a b (n : Int) = some (decide (a = b))
  | 0, k, n, a, b, hn, hk, hl, hb, h => by
    obtain ⟨k, rfl⟩ : ∃ q, k = q + 1 := ⟨k - 1, by omega⟩
    simp only [laws_eqByteS.l0]
    rw [if_neg (by omega), ext_upto a b hl (fun j hj => h j (by omega))]
    simp
  | d + 1, k, n, a, b, hn, hk, hl, hb, h => by
    obtain ⟨k, rfl⟩ : ∃ q, k = q + 1 := ⟨k - 1, by omega⟩
    simp only [laws_eqByteS.l0]
    rw [if_pos (by omega), if_pos (by omega), if_pos (by omega)]
    by_cases e : rd a (n : Int) = rd b (n : Int)
    · rw [if_pos e, wrap_nat n (by omega)]
      refine eqByteS_l0 d k (n + 1) a b (by omega) (by omega) hl hb (fun j hj => ?_)
      by_cases ej : j = n
      · subst ej
        rw [rd_nat a j (by omega), rd_nat b j (by omega), e]
      · exact h j (by omega)
    · rw [if_neg e, decide_eq_false]
      intro hab
      exact e (by rw [hab])
theorem eqByteS_f (k : Nat) (a b : List Int) (hk : a.length < k) (hb : a.length ≤ 4611686018427387904) : laws_eqByteS.f k a b = some (decide (a = b)) := by
  unfold laws_eqByteS.f
  by_cases hl : (a.length : Int) = (b.length : Int)
  · rw [if_pos hl]
    exact eqByteS_l0 a.length k 0 a b (by omega) hk (by omega) hb (fun j hj => by omega)
  · rw [if_neg hl, decide_eq_false]
    intro hab
    exact hl (by rw [hab])
theorem eqByteS_same (k : Nat) (a : List Int) (hk : a.length < k) (hb : a.length ≤ 4611686018427387904) : laws_eqByteS.f k a a = some true := by rw [eqByteS_f k a a hk hb]; simp

def marksByte (n : Nat) : List Int := (List.range n).map fun (j : Nat) => (1 + (j : Int)) % 256
theorem marksByte_length (n : Nat) : (marksByte n).length = n := by simp [marksByte]
theorem marksByte_at (n j : Nat) (h : j < n) : (marksByte n)[j]? = some ((1 + (j : Int)) % 256) := by simp [marksByte, h]
theorem markByteS_l0 : ∀ (d k n : Nat) (x : List Int), n + d = x.length → d < k → x.length ≤ 4611686018427387904 → (∀ j, j < n → x[j]? = some ((1 + (j : Int)) % 256)) → laws_markByteS.l0 k x (1 + (n : Int)) (n : Int) = some (1 + (x.length : Int), marksByte x.length)
  | 0, k, n, x, hn, hk, hb, h => by
    obtain ⟨k, rfl⟩ : ∃ q, k = q + 1 := ⟨k - 1, by omega⟩
    simp only [laws_markByteS.l0]
    rw [if_neg (by omega), ← ext_upto x (marksByte x.length) (marksByte_length _).symm (fun j hj => by rw [h j (by omega), marksByte_at _ j hj])]
    congr 2
    omega
  | d + 1, k, n, x, hn, hk, hb, h => by
    obtain ⟨k, rfl⟩ : ∃ q, k = q + 1 := ⟨k - 1, by omega⟩
    simp only [laws_markByteS.l0]
    have hw : wrap64 (1 + (n : Int) + 1) = 1 + ((n + 1 : Nat) : Int) := by unfold wrap64; omega
    rw [if_pos (by omega), if_pos (by omega), wrap_nat n (by omega), hw, Int.toNat_natCast]
    have hl : (x.set n ((1 + (n : Int)) % 256)).length = x.length := List.length_set ..
    have := markByteS_l0 d k (n + 1) (x.set n ((1 + (n : Int)) % 256)) (by omega) (by omega) (by omega) (fun j hj => ?_)
    · rw [hl] at this
      exact this
    · by_cases e : n = j
      · subst e
        rw [List.getElem?_set_self (by omega)]
      · rw [List.getElem?_set_ne e]
        exact h j (by omega)
theorem markByteS_f (k : Nat) (x : List Int) (hk : x.length < k) (hb : x.length ≤ 4611686018427387904) : laws_markByteS.f k x 1 = some (1 + (x.length : Int), marksByte x.length) := by
  unfold laws_markByteS.f
  exact markByteS_l0 x.length k 0 x (by omega) hk hb (fun j hj => by omega)

theorem heldByteS_l0 : ∀ (d k n m : Nat), n + d = m → d < k → m ≤ 4611686018427387904 → laws_heldByteS.l0 k (marksByte m) (1 + (n : Int)) (n : Int) = some (1 + (m : Int))
  | 0, k, n, m, hn, hk, hb => by
    obtain ⟨k, rfl⟩ : ∃ q, k = q + 1 := ⟨k - 1, by omega⟩
    simp only [laws_heldByteS.l0]
    rw [if_neg (by rw [marksByte_length]; omega)]
    congr 2
    omega
  | d + 1, k, n, m, hn, hk, hb => by
    obtain ⟨k, rfl⟩ : ∃ q, k = q + 1 := ⟨k - 1, by omega⟩
    simp only [laws_heldByteS.l0]
    have hw : wrap64 (1 + (n : Int) + 1) = 1 + ((n + 1 : Nat) : Int) := by unfold wrap64; omega
    have hr : rd (marksByte m) (n : Int) = (1 + (n : Int)) % 256 := by
      have := rd_nat (marksByte m) n (by rw [marksByte_length]; omega)
      rw [marksByte_at m n (by omega)] at this
      exact (Option.some.inj this).symm
    rw [if_pos (by rw [marksByte_length]; omega), if_pos (by omega), if_pos hr, wrap_nat n (by omega), hw]
    exact heldByteS_l0 d k (n + 1) m (by omega) (by omega) hb
theorem heldByteS_f (k : Nat) (m : Nat) (hk : m < k) (hb : m ≤ 4611686018427387904) : laws_heldByteS.f k (marksByte m) 1 = some (1 + (m : Int)) := by
  unfold laws_heldByteS.f
  exact heldByteS_l0 m k 0 m (by omega) hk hb

theorem neg1 (n : Nat) : (1 + (n : Int) < 0) = False := eq_false (by omega)


def bnd (n : Int) : Int := if n > 2147483647 then 2147483647 else if n < -2147483647 then -2147483647 else n

theorem spec_bound (n : Int) : spec_Bound.f n = some (bnd n) := by
  unfold spec_Bound.f bnd
  by_cases h1 : n > 2147483647
  · rw [if_pos h1, if_pos h1]
  · rw [if_neg h1, if_neg h1]
    by_cases h2 : n < -2147483647
    · rw [if_pos h2, if_pos h2]
    · rw [if_neg h2, if_neg h2]

theorem impl_bound (n : Int) : impl_Bound.f n = some (bnd n) := by
  unfold impl_Bound.f bnd mx mn
  congr 1
  split <;> split <;> (try split) <;> omega


theorem bnd_range (n : Int) : -2147483647 ≤ bnd n ∧ bnd n ≤ 2147483647 := by
  unfold bnd
  split
  · omega
  · split <;> omega
def code (n : Int) : List Int := [(bnd n + 2147483648) / 16777216, (bnd n + 2147483648) / 65536 % 256, (bnd n + 2147483648) / 256 % 256, (bnd n + 2147483648) % 256]
theorem code_length (n : Int) : (code n).length = 4 := rfl
theorem and255 (x : Int) (h0 : 0 ≤ x) (h : x ≤ 4611686018427387904) : Go.bits .and .i64 x 255 = x % 256 :=
  bits_mask .i64 63 (by decide) (fun n h0 h1 => by rw [IntKind.wrap_i64]; omega) 8 (by decide) x h0 (by omega)
theorem impl_putnum (l : List Int) (n : Int) (hb : l.length < 140737488355000) : impl_PutNum.f l n = some (l ++ code n) := by
  have hr := bnd_range n
  have hw : wrap64 (bnd n + 2147483648) = bnd n + 2147483648 := by unfold wrap64; omega
  unfold impl_PutNum.f slices_Clone_byte_byte.f
  rw [impl_bound]
  simp only [Option.bind_some, List.length_nil, List.nil_append, List.length_cons]
  rw [if_pos (by omega)]
  simp only [Option.bind_some]
  rw [if_pos (by omega), hw]
  unfold code
  congr 4
  omega
theorem spec_putnum (l : List Int) (n : Int) (hb : l.length < 140737488355000) : spec_PutNum.f l n = some (l ++ code n) := by
  have hr := bnd_range n
  have hw : wrap64 (bnd n + 2147483648) = bnd n + 2147483648 := by unfold wrap64; omega
  unfold spec_PutNum.f
  rw [spec_bound]
  simp only [Option.bind_some, List.length_nil, List.nil_append, List.length_cons]
  rw [if_pos (by omega)]
  rw [if_pos (by omega), hw, and255 _ (by omega) (by omega), and255 _ (by omega) (by omega), and255 _ (by omega) (by omega), and255 _ (by omega) (by omega)]
  unfold code
  congr 3
  · omega
  · congr 1
    · omega
    · congr 1
      · omega
      · congr 1
        omega

theorem flat_length (l : List Int) : (l.flatMap code).length = 4 * l.length := by
  induction l with
  | nil => rfl
  | cons x l ih => rw [List.flatMap_cons, List.length_append, code_length, ih, List.length_cons]; omega
theorem drop_cons (l : List Int) (n : Nat) (h : n < l.length) : l.drop n = rd l (n : Int) :: l.drop (n + 1) := by
  have h1 := rd_nat l n h
  rw [List.getElem?_eq_getElem h] at h1
  rw [List.drop_eq_getElem_cons h, Option.some.inj h1]

def inr (a lo hi : Int) : Bool := decide (lo ≤ a ∧ a ≤ hi)
theorem inr_if (a lo hi : Int) : (if a ≥ lo then (some (decide (a ≤ hi))) else (some false)) = some (inr a lo hi) := by
  unfold inr
  by_cases h : a ≥ lo
  · rw [if_pos h]; congr 1; simp [show lo ≤ a from h]
  · rw [if_neg h]; congr 1; simp; omega
theorem spec_in (a lo hi : Int) : spec_l1In.f a lo hi = some (inr a lo hi) := inr_if a lo hi

theorem impl_from_in (a lo hi : Int) : impl_from.f a lo hi = some (inr a lo hi) := inr_if a lo hi

def pok (a0 a1 a2 a3 a4 a5 a6 a7 a8 a9 a10 : Int) (a11 a12 : Bool) : Bool :=
  inr a0 1 99 && (inr a1 0 2 && (inr a2 0 2 && (inr a3 1 4 && (inr a4 0 9999 && (inr a5 0 999 && (inr a6 0 999 && (inr a7 0 63 && (inr a8 0 2147483647 && (inr a9 0 2147483647 && (inr a10 0 2147483647 && (decide (a3 = 2) || (decide (a2 = a1) && (decide (a8 = 0) && (decide (a9 = 0) && (decide (a10 = 0) && (!a11 && !a12))))))))))))))))
theorem spec_pieceok (k : Nat) (a0 a1 a2 a3 a4 a5 a6 a7 a8 a9 a10 : Int) (a11 a12 : Bool) (hk : 1 ≤ k) : spec_PieceOk.f k a0 a1 a2 a3 a4 a5 a6 a7 a8 a9 a10 a11 a12 = some (pok a0 a1 a2 a3 a4 a5 a6 a7 a8 a9 a10 a11 a12) := by
  obtain ⟨k, rfl⟩ : ∃ q, k = q + 1 := ⟨k - 1, by omega⟩
  have hj : spec_PieceOk.j0 (k + 1) true a0 a1 a2 a3 a4 a5 a6 a7 a8 a9 a10 a11 a12 = some false := by simp only [spec_PieceOk.j0, if_true]
  unfold spec_PieceOk.f pok
  simp only [spec_in, Option.bind_some, hj]
  cases inr a0 1 99
  · simp only [Bool.false_eq_true, if_false, Bool.false_and]
  cases inr a1 0 2
  · simp only [Bool.false_eq_true, if_false, if_true, Bool.false_and, Bool.true_and]
  cases inr a2 0 2
  · simp only [Bool.false_eq_true, if_false, if_true, Bool.false_and, Bool.true_and]
  cases inr a3 1 4
  · simp only [Bool.false_eq_true, if_false, if_true, Bool.false_and, Bool.true_and]
  cases inr a4 0 9999
  · simp only [Bool.false_eq_true, if_false, if_true, Bool.false_and, Bool.true_and]
  cases inr a5 0 999
  · simp only [Bool.false_eq_true, if_false, if_true, Bool.false_and, Bool.true_and]
  cases inr a6 0 999
  · simp only [Bool.false_eq_true, if_false, if_true, Bool.false_and, Bool.true_and]
  cases inr a7 0 63
  · simp only [if_true, Bool.false_and, Bool.true_and, Bool.not_false, hj]
  simp only [spec_PieceOk.j0, spec_in, Option.bind_some, if_true, Bool.true_and, Bool.not_true, Bool.false_eq_true, if_false]
  cases inr a8 0 2147483647
  · simp only [Bool.false_eq_true, if_false, Bool.false_and]
  cases inr a9 0 2147483647
  · simp only [Bool.false_eq_true, if_false, if_true, Bool.false_and, Bool.true_and]
  cases inr a10 0 2147483647
  · simp only [Bool.false_eq_true, if_false, if_true, Bool.false_and, Bool.true_and]
  simp only [if_true, Bool.true_and]
  by_cases h3 : a3 = 2
  · simp [h3]
  by_cases h2 : a2 = a1
  · by_cases h8 : a8 = 0
    · by_cases h9 : a9 = 0
      · by_cases h10 : a10 = 0
        · cases a11 <;> simp [h3, h2, h8, h9, h10]
        · simp [h3, h2, h8, h9, h10]
      · simp [h3, h2, h8, h9]
    · simp [h3, h2, h8]
  · simp [h3, h2]
theorem impl_pieceok (k : Nat) (a0 a1 a2 a3 a4 a5 a6 a7 a8 a9 a10 : Int) (a11 a12 : Bool) (hk : 1 ≤ k) : impl_PieceOk.f k a0 a1 a2 a3 a4 a5 a6 a7 a8 a9 a10 a11 a12 = some (pok a0 a1 a2 a3 a4 a5 a6 a7 a8 a9 a10 a11 a12) := by
  obtain ⟨k, rfl⟩ : ∃ q, k = q + 1 := ⟨k - 1, by omega⟩
  have hj : impl_PieceOk.j0 (k + 1) true a0 a1 a2 a3 a4 a5 a6 a7 a8 a9 a10 a11 a12 = some false := by simp only [impl_PieceOk.j0, if_true]
  unfold impl_PieceOk.f pok
  simp only [impl_isId.f, impl_isPlayer.f, impl_isZone.f, impl_isTime.f, impl_isTraits.f, impl_from_in, Option.bind_some, hj]
  cases inr a0 1 99
  · simp only [Bool.false_eq_true, if_false, Bool.false_and]
  cases inr a1 0 2
  · simp only [Bool.false_eq_true, if_false, if_true, Bool.false_and, Bool.true_and]
  cases inr a2 0 2
  · simp only [Bool.false_eq_true, if_false, if_true, Bool.false_and, Bool.true_and]
  cases inr a3 1 4
  · simp only [Bool.false_eq_true, if_false, if_true, Bool.false_and, Bool.true_and]
  cases inr a4 0 9999
  · simp only [Bool.false_eq_true, if_false, if_true, Bool.false_and, Bool.true_and]
  cases inr a5 0 999
  · simp only [Bool.false_eq_true, if_false, if_true, Bool.false_and, Bool.true_and]
  cases inr a6 0 999
  · simp only [Bool.false_eq_true, if_false, if_true, Bool.false_and, Bool.true_and]
  cases inr a7 0 63
  · simp only [if_true, Bool.false_and, Bool.true_and, Bool.not_false, hj]
  simp only [impl_PieceOk.j0, impl_isAmount.f, impl_from_in, Option.bind_some, if_true, Bool.true_and, Bool.not_true, Bool.false_eq_true, if_false]
  by_cases h3 : a3 = 2
  · rw [if_pos h3]
    cases inr a8 0 2147483647 <;> cases inr a9 0 2147483647 <;> simp [h3]
  rw [if_neg h3]
  by_cases h2 : a2 = a1
  · by_cases h8 : a8 = 0
    · by_cases h9 : a9 = 0
      · by_cases h10 : a10 = 0
        · subst h8 h9 h10
          cases a11 <;> simp [h3, h2, inr]
        · simp [h3, h2, h8, h9, h10]
      · simp [h3, h2, h8, h9]
    · simp [h3, h2, h8]
  · simp [h3, h2]

def bit (b : Bool) : Int := if b = true then 1 else 0
def nums (a0 a1 a2 a3 a4 a5 a6 a7 a8 a9 a10 : Int) (a11 a12 : Bool) : List Int := [a0, a1, a2, a3, a4, a5, a6, a7, a8, a9, a10, bit a11, bit a12]
def pput (b : List Int) (a0 a1 a2 a3 a4 a5 a6 a7 a8 a9 a10 : Int) (a11 a12 : Bool) : List Int :=
  if pok a0 a1 a2 a3 a4 a5 a6 a7 a8 a9 a10 a11 a12 = true then b ++ (nums a0 a1 a2 a3 a4 a5 a6 a7 a8 a9 a10 a11 a12).flatMap code else b
theorem pput_length (b : List Int) (a0 a1 a2 a3 a4 a5 a6 a7 a8 a9 a10 : Int) (a11 a12 : Bool) : (pput b a0 a1 a2 a3 a4 a5 a6 a7 a8 a9 a10 a11 a12).length ≤ b.length + 52 := by
  unfold pput
  split
  · rw [List.length_append, flat_length]; unfold nums; simp
  · omega
theorem impl_putpiece_l0 : ∀ (d k n : Nat) (out l : List Int), n + d = l.length → d < k → l.length ≤ 255 → out.length + 4 * d < 140737488300000 → impl_PutPiece.l0 k out l (l.length : Int) (n : Int) = some (out ++ (l.drop n).flatMap code)
  | 0, k, n, out, l, hn, hk, hl, hb => by
    obtain ⟨k, rfl⟩ : ∃ q, k = q + 1 := ⟨k - 1, by omega⟩
    simp only [impl_PutPiece.l0]
    rw [if_neg (by omega), List.drop_eq_nil_of_le (by omega)]
    simp
  | d + 1, k, n, out, l, hn, hk, hl, hb => by
    obtain ⟨k, rfl⟩ : ∃ q, k = q + 1 := ⟨k - 1, by omega⟩
    simp only [impl_PutPiece.l0]
    rw [if_pos (by omega), if_pos (by omega), if_pos (by omega), impl_putnum _ _ (by omega), wrap_nat n (by omega)]
    simp only [Option.bind_some]
    rw [impl_putpiece_l0 d k (n + 1) _ l (by omega) (by omega) hl (by rw [List.length_append, code_length]; omega), drop_cons l n (by omega), List.flatMap_cons, List.append_assoc]
theorem spec_putpiece_l0 : ∀ (d k n : Nat) (out l : List Int), n + d = l.length → d < k → l.length ≤ 255 → out.length + 4 * d < 140737488300000 → spec_PutPiece.l0 k out l (n : Int) = some (out ++ (l.drop n).flatMap code)
  | 0, k, n, out, l, hn, hk, hl, hb => by
    obtain ⟨k, rfl⟩ : ∃ q, k = q + 1 := ⟨k - 1, by omega⟩
    simp only [spec_PutPiece.l0]
    rw [if_neg (by omega), List.drop_eq_nil_of_le (by omega)]
    simp
  | d + 1, k, n, out, l, hn, hk, hl, hb => by
    obtain ⟨k, rfl⟩ : ∃ q, k = q + 1 := ⟨k - 1, by omega⟩
    simp only [spec_PutPiece.l0]
    rw [if_pos (by omega), if_pos (by omega), spec_putnum _ _ (by omega), wrap_nat n (by omega)]
    simp only [Option.bind_some]
    rw [spec_putpiece_l0 d k (n + 1) _ l (by omega) (by omega) hl (by rw [List.length_append, code_length]; omega), drop_cons l n (by omega), List.flatMap_cons, List.append_assoc]
theorem impl_bit_f (b : Bool) : impl_bit.f b = some (bit b) := by cases b <;> rfl
theorem spec_bit_f (b : Bool) : spec_l4Bit.f b = some (bit b) := by cases b <;> rfl
theorem impl_putpiece (k : Nat) (b : List Int) (a0 a1 a2 a3 a4 a5 a6 a7 a8 a9 a10 : Int) (a11 a12 : Bool) (hk : 14 ≤ k) (hb : b.length < 140737488200000) : impl_PutPiece.f k b a0 a1 a2 a3 a4 a5 a6 a7 a8 a9 a10 a11 a12 = some (pput b a0 a1 a2 a3 a4 a5 a6 a7 a8 a9 a10 a11 a12) := by
  unfold impl_PutPiece.f slices_Clone_byte_byte.f pput
  simp only [Option.bind_some, List.length_nil, List.nil_append]
  rw [if_pos (by omega)]
  simp only [Option.bind_some]
  rw [impl_pieceok k _ _ _ _ _ _ _ _ _ _ _ _ _ (by omega)]
  simp only [Option.bind_some, impl_bit_f]
  split
  · exact impl_putpiece_l0 13 k 0 b (nums a0 a1 a2 a3 a4 a5 a6 a7 a8 a9 a10 a11 a12) rfl (by omega) (by unfold nums; simp) (by omega)
  · rfl
theorem spec_putpiece (k : Nat) (b : List Int) (a0 a1 a2 a3 a4 a5 a6 a7 a8 a9 a10 : Int) (a11 a12 : Bool) (hk : 14 ≤ k) (hb : b.length < 140737488200000) : spec_PutPiece.f k b a0 a1 a2 a3 a4 a5 a6 a7 a8 a9 a10 a11 a12 = some (pput b a0 a1 a2 a3 a4 a5 a6 a7 a8 a9 a10 a11 a12) := by
  unfold spec_PutPiece.f pput
  simp only [Option.bind_some, List.length_nil, List.nil_append]
  rw [if_pos (by omega)]
  rw [spec_pieceok k _ _ _ _ _ _ _ _ _ _ _ _ _ (by omega)]
  simp only [Option.bind_some, spec_bit_f]
  split
  · exact spec_putpiece_l0 13 k 0 b (nums a0 a1 a2 a3 a4 a5 a6 a7 a8 a9 a10 a11 a12) rfl (by omega) (by unfold nums; simp) (by omega)
  · rfl

theorem FnExactPutPiece : laws_FnExactPutPiece.Pure := by
  intro l a0 a1 a2 a3 a4 a5 a6 a7 a8 a9 a10 a11 a12 _ _ _ _ _ _ _ _ _ _ _ _ _ _
  by_cases hbig : (l.length : Int) > 1048576
  · exact ⟨0, by unfold laws_FnExactPutPiece.f; rw [if_pos hbig]⟩
  have hp := pput_length l a0 a1 a2 a3 a4 a5 a6 a7 a8 a9 a10 a11 a12
  refine ⟨l.length + 211, ?_⟩
  unfold laws_FnExactPutPiece.f
  rw [if_neg hbig]
  have hneg : (1 + (l.length : Int) < 0) = False := eq_false (by omega)
  have hneg2 : (1 + ((pput l a0 a1 a2 a3 a4 a5 a6 a7 a8 a9 a10 a11 a12).length : Int) < 0) = False := eq_false (by omega)
  simp (maxSteps := 10000000) (disch := omega) only [toByteS_f, laws_toPiece.f, spec_putpiece, impl_putpiece, Option.bind_some, eqByteS_same, if_true, markByteS_f, hneg, hneg2, if_false, laws_FnExactPutPiece.j0, Bool.not_true, Bool.false_eq_true, heldByteS_f]

end Go.Proofs.Ytfpbbikhcnpceaa.Pure
