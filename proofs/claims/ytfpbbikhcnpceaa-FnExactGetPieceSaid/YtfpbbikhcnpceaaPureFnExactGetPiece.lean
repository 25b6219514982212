/- For every slice of bytes b of at most 2^20 bytes and every int i the program's GetPiece and the reference's GetPiece return the same piece, place and bool, and b stays as it was (of a longer b the law says nothing: it answers true). -/
import Derived.Test.YtfpbbikhcnpceaaQFnExactGetPiecex9
namespace Go.Proofs.Ytfpbbikhcnpceaa.Pure
open Go.RowKit Go.Proofs.Ytfpbbikhcnpceaa.QFnExactGetPiece Go.Proofs.YtfpbbikhcnpceaaW.PrintWords Go.Proofs.YtfpbbikhcnpceaaW.PrintLast
theorem wrap_nat (n : Nat) (h : n ≤ 4611686018427387904) : wrap64 ((n : Int) + 1) = ((n + 1 : Nat) : Int) := by unfold wrap64; omega
theorem rd_nat (l : List Int) (n : Nat) (h : n < l.length) : l[n]? = some (rd l (n : Int)) := by
  unfold rd
  rw [Int.toNat_natCast, List.getD_eq_getElem?_getD, List.getElem?_eq_getElem h]
  rfl
theorem ext_upto {α : Type} (a b : List α) (hl : a.length = b.length) (h : ∀ j, j < a.length → a[j]? = b[j]?) : a = b := by
  apply List.ext_getElem?
  intro j
  by_cases hj : j < a.length
  · exact h j hj
  · rw [List.getElem?_eq_none (by omega), List.getElem?_eq_none (by omega)]

theorem toByteS_l0 : ∀ (d k n : Nat) (l out : List Int), n + d = l.length → d < k → out.length = l.length → l.length ≤ 4611686018427387904 → (∀ j, j < n → out[j]? = l[j]?) → laws_toByteS.l0 k l out (n : Int) = some l
  | 0, k, n, l, out, hn, hk, hl, hb, h => by
    obtain ⟨k, rfl⟩ : ∃ q, k = q + 1 := ⟨k - 1, by omega⟩
    simp only [laws_toByteS.l0]
    rw [if_neg (by omega), ext_upto out l hl (fun j hj => h j (by omega))]
  | d + 1, k, n, l, out, hn, hk, hl, hb, h => by
    obtain ⟨k, rfl⟩ : ∃ q, k = q + 1 := ⟨k - 1, by omega⟩
    simp only [laws_toByteS.l0]
    rw [if_pos (by omega), if_pos (by omega), if_pos (by omega), wrap_nat n (by omega), Int.toNat_natCast]
    refine toByteS_l0 d k (n + 1) l _ (by omega) (by omega) (by rw [List.length_set]; exact hl) hb (fun j hj => ?_)
    by_cases e : n = j
    · subst e
      rw [List.getElem?_set_self (by omega), rd_nat l n (by omega)]
    · rw [List.getElem?_set_ne e]
      exact h j (by omega)
theorem toByteS_f (k : Nat) (l : List Int) (hk : l.length < k) (hb : l.length ≤ 281474976710656) : laws_toByteS.f k l = some l := by
  unfold laws_toByteS.f
  rw [if_pos (by omega), Int.toNat_natCast, if_pos (by omega)]
  exact toByteS_l0 l.length k 0 l _ (by omega) hk (by simp) (by omega) (fun j hj => by omega)

theorem eqByteS_l0 : ∀ (d k n : Nat) (a b : List Int), n + d = a.length → d < k → a.length = b.length → a.length ≤ 4611686018427387904 → (∀ j, j < n → a[j]? = b[j]?) → laws_eqByteS.l0 k a b (n : Int) = some (decide (a = b))
  | 0, k, n, a, b, hn, hk, hl, hb, h => by
    obtain ⟨k, rfl⟩ : ∃ q, k = q + 1 := ⟨k - 1, by omega⟩
    simp only [laws_eqByteS.l0]
    rw [if_neg (by omega), ext_upto a b hl (fun j hj => h j (by omega))]
    simp
  | d + 1, k, n, a, b, hn, hk, hl, hb, h => by
    obtain ⟨k, rfl⟩ : ∃ q, k = q + 1 := ⟨k - 1, by omega⟩
    simp only [laws_eqByteS.l0]
    rw [if_pos (by omega), if_pos (by omega), if_pos (by omega)]
    by_cases e : rd a (n : Int) = rd b (n : Int)
    · rw [if_pos e, wrap_nat n (by omega)]
      refine eqByteS_l0 d k (n + 1) a b (by omega) (by omega) hl hb (fun j hj => ?_)
      by_cases ej : j = n
      · subst ej
        rw [rd_nat a j (by omega), rd_nat b j (by omega), e]
      · exact h j (by omega)
    · rw [if_neg e, decide_eq_false]
      intro hab
      exact e (by rw [hab])
theorem eqByteS_f (k : Nat) (a b : List Int) (hk : a.length < k) (hb : a.length ≤ 4611686018427387904) : laws_eqByteS.f k a b = some (decide (a = b)) := by
  unfold laws_eqByteS.f
  by_cases hl : (a.length : Int) = (b.length : Int)
  · rw [if_pos hl]
    exact eqByteS_l0 a.length k 0 a b (by omega) hk (by omega) hb (fun j hj => by omega)
  · rw [if_neg hl, decide_eq_false]
    intro hab
    exact hl (by rw [hab])
theorem eqByteS_same (k : Nat) (a : List Int) (hk : a.length < k) (hb : a.length ≤ 4611686018427387904) : laws_eqByteS.f k a a = some true := by rw [eqByteS_f k a a hk hb]; simp

def inr (a lo hi : Int) : Bool := decide (lo ≤ a ∧ a ≤ hi)
theorem inr_if (a lo hi : Int) : (if a ≥ lo then (some (decide (a ≤ hi))) else (some false)) = some (inr a lo hi) := by
  unfold inr
  by_cases h : a ≥ lo
  · rw [if_pos h]; congr 1; simp [show lo ≤ a from h]
  · rw [if_neg h]; congr 1; simp; omega
theorem spec_in (a lo hi : Int) : spec_l1In.f a lo hi = some (inr a lo hi) := inr_if a lo hi

theorem impl_from_in (a lo hi : Int) : impl_from.f a lo hi = some (inr a lo hi) := inr_if a lo hi

def pok (a0 a1 a2 a3 a4 a5 a6 a7 a8 a9 a10 : Int) (a11 a12 : Bool) : Bool :=
  inr a0 1 99 && (inr a1 0 2 && (inr a2 0 2 && (inr a3 1 4 && (inr a4 0 9999 && (inr a5 0 999 && (inr a6 0 999 && (inr a7 0 63 && (inr a8 0 2147483647 && (inr a9 0 2147483647 && (inr a10 0 2147483647 && (decide (a3 = 2) || (decide (a2 = a1) && (decide (a8 = 0) && (decide (a9 = 0) && (decide (a10 = 0) && (!a11 && !a12))))))))))))))))
theorem spec_pieceok (k : Nat) (a0 a1 a2 a3 a4 a5 a6 a7 a8 a9 a10 : Int) (a11 a12 : Bool) (hk : 1 ≤ k) : spec_PieceOk.f k a0 a1 a2 a3 a4 a5 a6 a7 a8 a9 a10 a11 a12 = some (pok a0 a1 a2 a3 a4 a5 a6 a7 a8 a9 a10 a11 a12) := by
  obtain ⟨k, rfl⟩ : ∃ q, k = q + 1 := ⟨k - 1, by omega⟩
  have hj : spec_PieceOk.j0 (k + 1) true a0 a1 a2 a3 a4 a5 a6 a7 a8 a9 a10 a11 a12 = some false := by simp only [spec_PieceOk.j0, if_true]
  unfold spec_PieceOk.f pok
  simp only [spec_in, Option.bind_some, hj]
  cases inr a0 1 99
  · simp only [Bool.false_eq_true, if_false, Bool.false_and]
  cases inr a1 0 2
  · simp only [Bool.false_eq_true, if_false, if_true, Bool.false_and, Bool.true_and]
  cases inr a2 0 2
  · simp only [Bool.false_eq_true, if_false, if_true, Bool.false_and, Bool.true_and]
  cases inr a3 1 4
  · simp only [Bool.false_eq_true, if_false, if_true, Bool.false_and, Bool.true_and]
  cases inr a4 0 9999
  · simp only [Bool.false_eq_true, if_false, if_true, Bool.false_and, Bool.true_and]
  cases inr a5 0 999
  · simp only [Bool.false_eq_true, if_false, if_true, Bool.false_and, Bool.true_and]
  cases inr a6 0 999
  · simp only [Bool.false_eq_true, if_false, if_true, Bool.false_and, Bool.true_and]
  cases inr a7 0 63
  · simp only [if_true, Bool.false_and, Bool.true_and, Bool.not_false, hj]
  simp only [spec_PieceOk.j0, spec_in, Option.bind_some, if_true, Bool.true_and, Bool.not_true, Bool.false_eq_true, if_false]
  cases inr a8 0 2147483647
  · simp only [Bool.false_eq_true, if_false, Bool.false_and]
  cases inr a9 0 2147483647
  · simp only [Bool.false_eq_true, if_false, if_true, Bool.false_and, Bool.true_and]
  cases inr a10 0 2147483647
  · simp only [Bool.false_eq_true, if_false, if_true, Bool.false_and, Bool.true_and]
  simp only [if_true, Bool.true_and]
  by_cases h3 : a3 = 2
  · simp [h3]
  by_cases h2 : a2 = a1
  · by_cases h8 : a8 = 0
    · by_cases h9 : a9 = 0
      · by_cases h10 : a10 = 0
        · cases a11 <;> simp [h3, h2, h8, h9, h10]
        · simp [h3, h2, h8, h9, h10]
      · simp [h3, h2, h8, h9]
    · simp [h3, h2, h8]
  · simp [h3, h2]
theorem impl_pieceok (k : Nat) (a0 a1 a2 a3 a4 a5 a6 a7 a8 a9 a10 : Int) (a11 a12 : Bool) (hk : 1 ≤ k) : impl_PieceOk.f k a0 a1 a2 a3 a4 a5 a6 a7 a8 a9 a10 a11 a12 = some (pok a0 a1 a2 a3 a4 a5 a6 a7 a8 a9 a10 a11 a12) := by
  obtain ⟨k, rfl⟩ : ∃ q, k = q + 1 := ⟨k - 1, by omega⟩
  have hj : impl_PieceOk.j0 (k + 1) true a0 a1 a2 a3 a4 a5 a6 a7 a8 a9 a10 a11 a12 = some false := by simp only [impl_PieceOk.j0, if_true]
  unfold impl_PieceOk.f pok
  simp only [impl_isId.f, impl_isPlayer.f, impl_isZone.f, impl_isTime.f, impl_isTraits.f, impl_from_in, Option.bind_some, hj]
  cases inr a0 1 99
  · simp only [Bool.false_eq_true, if_false, Bool.false_and]
  cases inr a1 0 2
  · simp only [Bool.false_eq_true, if_false, if_true, Bool.false_and, Bool.true_and]
  cases inr a2 0 2
  · simp only [Bool.false_eq_true, if_false, if_true, Bool.false_and, Bool.true_and]
  cases inr a3 1 4
  · simp only [Bool.false_eq_true, if_false, if_true, Bool.false_and, Bool.true_and]
  cases inr a4 0 9999
  · simp only [Bool.false_eq_true, if_false, if_true, Bool.false_and, Bool.true_and]
  cases inr a5 0 999
  · simp only [Bool.false_eq_true, if_false, if_true, Bool.false_and, Bool.true_and]
  cases inr a6 0 999
  · simp only [Bool.false_eq_true, if_false, if_true, Bool.false_and, Bool.true_and]
  cases inr a7 0 63
  · simp only [if_true, Bool.false_and, Bool.true_and, Bool.not_false, hj]
  simp only [impl_PieceOk.j0, impl_isAmount.f, impl_from_in, Option.bind_some, if_true, Bool.true_and, Bool.not_true, Bool.false_eq_true, if_false]
  by_cases h3 : a3 = 2
  · rw [if_pos h3]
    cases inr a8 0 2147483647 <;> cases inr a9 0 2147483647 <;> simp [h3]
  rw [if_neg h3]
  by_cases h2 : a2 = a1
  · by_cases h8 : a8 = 0
    · by_cases h9 : a9 = 0
      · by_cases h10 : a10 = 0
        · subst h8 h9 h10
          cases a11 <;> simp [h3, h2, inr]
        · simp [h3, h2, h8, h9, h10]
      · simp [h3, h2, h8, h9]
    · simp [h3, h2, h8]
  · simp [h3, h2]

def Bytes (l : List Int) : Prop := ∀ x ∈ l, 0 ≤ x ∧ x ≤ 255
theorem bytes_of_wf {l : List Int} (h : ∀ x ∈ l, (Lit.int .u8 x).wf = true) : Bytes l := by
  intro x hx
  have := h x hx
  simp [Lit.wf, IntKind.min, IntKind.max, IntKind.signed, IntKind.bits] at this
  omega
theorem Bytes.rd {l : List Int} (h : Bytes l) (i : Int) : 0 ≤ rd l i ∧ rd l i ≤ 255 := by
  unfold Go.Proofs.YtfpbbikhcnpceaaW.PrintWords.rd
  rw [List.getD_eq_getElem?_getD]
  by_cases hi : i.toNat < l.length
  · rw [List.getElem?_eq_getElem hi]
    exact h _ (List.getElem_mem hi)
  · rw [List.getElem?_eq_none (by omega)]
    exact ⟨by decide, by decide⟩
def val4 (l : List Int) (i : Int) : Int := rd l i * 16777216 + rd l (i + 1) * 65536 + rd l (i + 2) * 256 + rd l (i + 3)
def gn (l : List Int) (i : Int) : Int × Int × Bool := if i < 0 ∨ i > (l.length : Int) - 4 then (0, 0, false) else if val4 l i = 0 then (0, 0, false) else (val4 l i - 2147483648, i + 4, true)
theorem orJoin (i : Nat) (x y : Int) (m : Int) (hm : m = 2 ^ i) (hmb : m ≤ 16777216) (h0 : 0 ≤ x) (hx : x % m = 0) (h1 : x < 4611686018427387904) (g0 : 0 ≤ y) (g1 : y < m) : Go.bits .or .i64 x y = x + y := by
  have hy1 : y < 9223372036854775808 := by omega
  have hi : i ≤ 62 := by
    rcases Nat.lt_or_ge 62 i with h | h
    · have h2 : (2 : Nat) ^ 62 ≤ 2 ^ i := Nat.pow_le_pow_right (by decide) (by omega)
      have h3 : ((2 ^ 62 : Nat) : Int) ≤ ((2 ^ i : Nat) : Int) := Int.ofNat_le.2 h2
      rw [Int.natCast_pow] at h3
      have h4 : ((2 : Nat) : Int) = 2 := rfl
      rw [h4, Int.natCast_pow, h4, ← hm] at h3
      omega
    · exact h
  subst hm
  exact bits_join .i64 63 (by decide) (fun n h0 h1 => by rw [IntKind.wrap_i64]; omega) i x y h0 hx (by omega) g0 g1 (by omega)
theorem impl_getnum (k : Nat) (l : List Int) (i : Int) (hB : Bytes l) (hb : l.length ≤ 4611686018427387904) (hk : 1 ≤ k) : impl_GetNum.f k l i = some (gn l i) := by
  obtain ⟨k, rfl⟩ : ∃ q, k = q + 1 := ⟨k - 1, by omega⟩
  unfold impl_GetNum.f gn
  by_cases h0 : i < 0
  · rw [if_pos h0, if_pos (Or.inl h0)]
    simp only [impl_GetNum.j0, if_true]
  · rw [if_neg h0]
    have hw : wrap64 ((l.length : Int) - 4) = (l.length : Int) - 4 := by unfold wrap64; omega
    rw [hw]
    by_cases h1 : i > (l.length : Int) - 4
    · rw [if_pos (Or.inr h1)]
      simp only [impl_GetNum.j0]
      rw [if_pos (by simpa using h1)]
    · rw [if_neg (by omega)]
      have e1 : wrap64 (i + 1) = i + 1 := by unfold wrap64; omega
      have e2 : wrap64 (i + 2) = i + 2 := by unfold wrap64; omega
      have e3 : wrap64 (i + 3) = i + 3 := by unfold wrap64; omega
      have e4 : wrap64 (i + 4) = i + 4 := by unfold wrap64; omega
      simp only [impl_GetNum.j0]
      rw [if_neg (by simpa using h1), e1, e2, e3, e4, if_pos (by omega), if_pos (by omega), if_pos (by omega), if_pos (by omega), if_pos (by omega), if_pos (by omega), if_pos (by omega), if_pos (by omega)]
      have r0 := hB.rd i
      have r1 := hB.rd (i + 1)
      have r2 := hB.rd (i + 2)
      have r3 := hB.rd (i + 3)
      unfold val4
      generalize rd l i = b0 at *
      generalize rd l (i + 1) = b1 at *
      generalize rd l (i + 2) = b2 at *
      generalize rd l (i + 3) = b3 at *
      have w0 : wrap64 ((wrap64 b0) * 16777216) = b0 * 16777216 := by unfold wrap64; omega
      have w1 : wrap64 ((wrap64 b1) * 65536) = b1 * 65536 := by unfold wrap64; omega
      have w2 : wrap64 ((wrap64 b2) * 256) = b2 * 256 := by unfold wrap64; omega
      have w3 : wrap64 b3 = b3 := by unfold wrap64; omega
      rw [w0, w1, w2, w3, orJoin 24 (b0 * 16777216) (b1 * 65536) 16777216 (by decide) (by decide) (by omega) (by omega) (by omega) (by omega) (by omega), orJoin 16 (b0 * 16777216 + b1 * 65536) (b2 * 256) 65536 (by decide) (by decide) (by omega) (by omega) (by omega) (by omega) (by omega), orJoin 8 (b0 * 16777216 + b1 * 65536 + b2 * 256) b3 256 (by decide) (by decide) (by omega) (by omega) (by omega) (by omega) (by omega)]
      have e5 : wrap64 (b0 * 16777216 + b1 * 65536 + b2 * 256 + b3 - 2147483648) = b0 * 16777216 + b1 * 65536 + b2 * 256 + b3 - 2147483648 := by unfold wrap64; omega
      rw [e5]
      by_cases hz : b0 * 16777216 + b1 * 65536 + b2 * 256 + b3 = 0
      · rw [if_pos hz, if_pos hz]
      · rw [if_neg hz, if_neg hz]
theorem spec_getnum_step (k : Nat) (l : List Int) (i x j : Int) (hB : Bytes l) (hb : l.length ≤ 4611686018427387904) (h0 : 0 ≤ i) (h1 : i + 4 ≤ (l.length : Int)) (hj0 : 0 ≤ j) (hj : j < 4) (hx0 : 0 ≤ x) (hx : x ≤ 4294967296) :
    spec_GetNum.l0 (k + 1) l i x j = spec_GetNum.l0 k l i (x * 256 + rd l (i + j)) (j + 1) := by
  have r0 := hB.rd (i + j)
  have e1 : wrap64 (i + j) = i + j := by unfold wrap64; omega
  have e2 : wrap64 (j + 1) = j + 1 := by unfold wrap64; omega
  simp only [spec_GetNum.l0]
  rw [if_pos hj, e1, e2, if_pos (by omega), if_pos (by omega)]
  congr 1
  unfold wrap64
  omega
theorem spec_getnum (k : Nat) (l : List Int) (i : Int) (hB : Bytes l) (hb : l.length ≤ 4611686018427387904) (hk : 6 ≤ k) : spec_GetNum.f k l i = some (gn l i) := by
  obtain ⟨k, rfl⟩ : ∃ q, k = q + 6 := ⟨k - 6, by omega⟩
  unfold spec_GetNum.f gn
  by_cases h0 : i < 0
  · rw [if_pos h0, if_pos (Or.inl h0)]
    simp only [spec_GetNum.j0, if_true]
  · rw [if_neg h0]
    have hw : wrap64 ((l.length : Int) - 4) = (l.length : Int) - 4 := by unfold wrap64; omega
    rw [hw]
    by_cases h1 : i > (l.length : Int) - 4
    · rw [if_pos (Or.inr h1)]
      simp only [spec_GetNum.j0]
      rw [if_pos (by simpa using h1)]
    · rw [if_neg (by omega)]
      have r0 := hB.rd (i + 0)
      have r1 := hB.rd (i + (0 + 1))
      have r2 := hB.rd (i + (0 + 1 + 1))
      have r3 := hB.rd (i + (0 + 1 + 1 + 1))
      simp only [spec_GetNum.j0]
      rw [if_neg (by simpa using h1), spec_getnum_step (k + 4) l i 0 0 hB hb (by omega) (by omega) (by omega) (by omega) (by omega) (by omega),
        spec_getnum_step (k + 3) l i _ _ hB hb (by omega) (by omega) (by omega) (by omega) (by omega) (by omega),
        spec_getnum_step (k + 2) l i _ _ hB hb (by omega) (by omega) (by omega) (by omega) (by omega) (by omega),
        spec_getnum_step (k + 1) l i _ _ hB hb (by omega) (by omega) (by omega) (by omega) (by omega) (by omega)]
      simp only [spec_GetNum.l0]
      have hv : ((((0 : Int) * 256 + rd l (i + 0)) * 256 + rd l (i + (0 + 1))) * 256 + rd l (i + (0 + 1 + 1))) * 256 + rd l (i + (0 + 1 + 1 + 1)) = val4 l i := by
        unfold val4
        rw [show i + 0 = i from by omega, show i + (0 + 1) = i + 1 from by omega, show i + (0 + 1 + 1) = i + 2 from by omega, show i + (0 + 1 + 1 + 1) = i + 3 from by omega]
        omega
      rw [if_neg (by omega), hv]
      have hr : 0 ≤ val4 l i ∧ val4 l i ≤ 4294967295 := by rw [← hv]; omega
      by_cases hz : val4 l i = 0
      · rw [if_pos hz, if_pos hz]
      · rw [if_neg hz, if_neg hz]
        have e4 : wrap64 (i + 4) = i + 4 := by unfold wrap64; omega
        have e5 : wrap64 (val4 l i - 2147483648) = val4 l i - 2147483648 := by unfold wrap64; omega
        rw [e4, e5]

def glr (b : List Int) : Nat → Int → List Int → List Int × Int × Bool
  | 0, i, acc => (acc, i, true)
  | d + 1, i, acc => if (gn b i).2.2 = true then glr b d (gn b i).2.1 (acc ++ [(gn b i).1]) else ([], 0, false)
theorem glr_length (b : List Int) : ∀ (d : Nat) (i : Int) (acc : List Int), (glr b d i acc).1.length ≤ acc.length + d
  | 0, i, acc => by unfold glr; exact Nat.le_refl _
  | d + 1, i, acc => by
    unfold glr
    split
    · have := glr_length b d (gn b i).2.1 (acc ++ [(gn b i).1])
      rw [List.length_append, List.length_singleton] at this
      omega
    · simp

abbrev PieceR := Int × Int × Int × Int × Int × Int × Int × Int × Int × Int × Int × Bool × Bool × Int × Bool
def noPiece : PieceR := (0, 0, 0, 0, 0, 0, 0, 0, 0, 0, 0, false, false, 0, false)
def gpj (x : List Int) (i : Int) (bad : Bool) : PieceR := if bad = true then noPiece else if pok (rd x 0) (rd x 1) (rd x 2) (rd x 3) (rd x 4) (rd x 5) (rd x 6) (rd x 7) (rd x 8) (rd x 9) (rd x 10) ((rd x 11) == 1) ((rd x 12) == 1) = true then (rd x 0, rd x 1, rd x 2, rd x 3, rd x 4, rd x 5, rd x 6, rd x 7, rd x 8, rd x 9, rd x 10, ((rd x 11) == 1), ((rd x 12) == 1), i, true) else noPiece
def gpn (q : List Int × Int × Bool) : PieceR := if q.2.2 = true then (if inr (rd q.1 11) 0 1 = true then gpj q.1 q.2.1 (!inr (rd q.1 12) 0 1) else noPiece) else noPiece
/-- The piece that the bytes b tell at the place i. -/
def gpc (b : List Int) (i : Int) : PieceR := gpn (glr b 13 i [])
theorem glr_true (b : List Int) : ∀ (d : Nat) (i : Int) (acc : List Int), (glr b d i acc).2.2 = true → (glr b d i acc).1.length = acc.length + d
  | 0, i, acc, _ => rfl
  | d + 1, i, acc, h => by
    unfold glr at h ⊢
    by_cases hg : (gn b i).2.2 = true
    · rw [if_pos hg] at h ⊢
      rw [glr_true b d _ _ h, List.length_append, List.length_singleton]
      omega
    · rw [if_neg hg] at h
      cases h
theorem spec_nums_l0 (b : List Int) (hB : Bytes b) (hb : b.length ≤ 4611686018427387904) : ∀ (d k n : Nat) (i : Int) (acc : List Int), n + d = 13 → d + 8 ≤ k → acc.length + d < 1000 → ∃ q, spec_l4Nums.l0 k b 13 acc i (n : Int) = some q ∧ q.2.2 = (glr b d i acc).2.2 ∧ ((glr b d i acc).2.2 = true → q = glr b d i acc)
  | 0, k, n, i, acc, hn, hk, ha => by
    obtain ⟨k, rfl⟩ : ∃ q, k = q + 1 := ⟨k - 1, by omega⟩
    simp only [spec_l4Nums.l0]
    rw [if_neg (by omega)]
    exact ⟨_, rfl, rfl, fun _ => rfl⟩
  | d + 1, k, n, i, acc, hn, hk, ha => by
    obtain ⟨k, rfl⟩ : ∃ q, k = q + 1 := ⟨k - 1, by omega⟩
    simp only [spec_l4Nums.l0]
    rw [if_pos (by omega), spec_getnum k b i hB hb (by omega), wrap_nat n (by omega)]
    simp only [Option.bind_some, glr]
    by_cases h : (gn b i).2.2 = true
    · rw [if_pos h, if_pos h, if_pos (by omega)]
      exact spec_nums_l0 b hB hb d k (n + 1) _ _ (by omega) (by omega) (by rw [List.length_append, List.length_singleton]; omega)
    · rw [if_neg h, if_neg h]
      exact ⟨_, rfl, rfl, fun h => by cases h⟩
theorem impl_nums_l0 (b : List Int) (hB : Bytes b) (hb : b.length ≤ 4611686018427387904) : ∀ (d k n : Nat) (i : Int) (acc : List Int), n + d = 13 → d + 8 ≤ k → acc.length + d < 1000 → impl_getNums.l0 k b i acc 13 (n : Int) = some (glr b d i acc)
  | 0, k, n, i, acc, hn, hk, ha => by
    obtain ⟨k, rfl⟩ : ∃ q, k = q + 1 := ⟨k - 1, by omega⟩
    simp only [impl_getNums.l0]
    rw [if_neg (by omega)]
    rfl
  | d + 1, k, n, i, acc, hn, hk, ha => by
    obtain ⟨k, rfl⟩ : ∃ q, k = q + 1 := ⟨k - 1, by omega⟩
    simp only [impl_getNums.l0]
    rw [if_pos (by omega), impl_getnum k b i hB hb (by omega), wrap_nat n (by omega)]
    simp only [Option.bind_some, glr]
    by_cases h : (gn b i).2.2 = true
    · rw [if_pos h, if_pos h, if_pos (by omega)]
      exact impl_nums_l0 b hB hb d k (n + 1) _ _ (by omega) (by omega) (by rw [List.length_append, List.length_singleton]; omega)
    · rw [if_neg h, if_neg h]
theorem spec_gpj (k : Nat) (x : List Int) (i : Int) (bad : Bool) (hk : 3 ≤ k) (hx : bad = false → x.length = 13) : spec_GetPiece.j0 k x i bad = some (gpj x i bad) := by
  obtain ⟨k, rfl⟩ : ∃ q, k = q + 1 := ⟨k - 1, by omega⟩
  unfold gpj
  simp only [spec_GetPiece.j0]
  cases bad with
  | true => rfl
  | false =>
    have hl := hx rfl
    simp only [Bool.false_eq_true, if_false]
    rw [if_pos (by omega), if_pos (by omega), if_pos (by omega), if_pos (by omega), if_pos (by omega), if_pos (by omega), if_pos (by omega), if_pos (by omega), if_pos (by omega), if_pos (by omega), if_pos (by omega), if_pos (by omega), if_pos (by omega), spec_pieceok k _ _ _ _ _ _ _ _ _ _ _ _ _ (by omega)]
    simp only [Option.bind_some]
    split <;> rfl
theorem impl_gpj (k : Nat) (x : List Int) (i : Int) (bad : Bool) (hk : 3 ≤ k) (hx : bad = false → x.length = 13) : impl_GetPiece.j0 k x i bad = some (gpj x i bad) := by
  obtain ⟨k, rfl⟩ : ∃ q, k = q + 1 := ⟨k - 1, by omega⟩
  unfold gpj
  simp only [impl_GetPiece.j0]
  cases bad with
  | true => rfl
  | false =>
    have hl := hx rfl
    simp only [Bool.false_eq_true, if_false]
    rw [if_pos (by omega), if_pos (by omega), if_pos (by omega), if_pos (by omega), if_pos (by omega), if_pos (by omega), if_pos (by omega), if_pos (by omega), if_pos (by omega), if_pos (by omega), if_pos (by omega), if_pos (by omega), if_pos (by omega), impl_pieceok k _ _ _ _ _ _ _ _ _ _ _ _ _ (by omega)]
    simp only [Option.bind_some]
    split <;> rfl
theorem spec_getpiece (k : Nat) (b : List Int) (i : Int) (hB : Bytes b) (hb : b.length ≤ 4611686018427387904) (hk : 30 ≤ k) : spec_GetPiece.f k b i = some (gpc b i) := by
  obtain ⟨q, h1, h2, h3⟩ := spec_nums_l0 b hB hb 13 k 0 i [] rfl (by omega) (by simp)
  have hf : spec_l4Nums.f k b i 13 = some q := h1
  have hz : ∀ x j, gpj x j true = noPiece := fun _ _ => rfl
  unfold spec_GetPiece.f gpc gpn
  rw [hf]
  simp only [Option.bind_some]
  by_cases hq : (glr b 13 i []).2.2 = true
  · have hl := glr_true b 13 i [] hq
    simp only [List.length_nil, Nat.zero_add] at hl
    rw [h3 hq]
    rw [if_pos hq, if_pos hq, if_pos (by omega), spec_in]
    simp only [Option.bind_some]
    by_cases h11 : inr (rd (glr b 13 i []).1 11) 0 1 = true
    · rw [if_pos h11, if_pos h11, if_pos (by omega), spec_in]
      simp only [Option.bind_some]
      exact spec_gpj k _ _ _ (by omega) (fun _ => hl)
    · rw [if_neg h11, if_neg h11, spec_gpj k _ _ _ (by omega) (fun h => by cases h), hz]
  · rw [if_neg (by rw [h2]; exact hq), if_neg hq, spec_gpj k _ _ _ (by omega) (fun h => by cases h), hz]
theorem impl_getpiece (k : Nat) (b : List Int) (i : Int) (hB : Bytes b) (hb : b.length ≤ 4611686018427387904) (hk : 30 ≤ k) : impl_GetPiece.f k b i = some (gpc b i) := by
  have h1 := impl_nums_l0 b hB hb 13 k 0 i [] rfl (by omega) (by simp)
  have hf : impl_getNums.f k b i 13 = some (glr b 13 i []) := h1
  have hz : ∀ x j, gpj x j true = noPiece := fun _ _ => rfl
  unfold impl_GetPiece.f gpc gpn
  rw [hf]
  simp only [Option.bind_some]
  by_cases hq : (glr b 13 i []).2.2 = true
  · have hl := glr_true b 13 i [] hq
    simp only [List.length_nil, Nat.zero_add] at hl
    rw [if_pos hq, if_pos hq, if_pos (by omega), impl_from_in]
    simp only [Option.bind_some]
    by_cases h11 : inr (rd (glr b 13 i []).1 11) 0 1 = true
    · rw [if_pos h11, if_pos h11, if_pos (by omega), impl_from_in]
      simp only [Option.bind_some]
      exact impl_gpj k _ _ _ (by omega) (fun _ => hl)
    · rw [if_neg h11, if_neg h11, impl_gpj k _ _ _ (by omega) (fun h => by cases h), hz]
  · rw [if_neg hq, if_neg hq, impl_gpj k _ _ _ (by omega) (fun h => by cases h), hz]

theorem eqPiece_same (p : PieceR) : laws_eqPiece.f p.1 p.2.1 p.2.2.1 p.2.2.2.1 p.2.2.2.2.1 p.2.2.2.2.2.1 p.2.2.2.2.2.2.1 p.2.2.2.2.2.2.2.1 p.2.2.2.2.2.2.2.2.1 p.2.2.2.2.2.2.2.2.2.1 p.2.2.2.2.2.2.2.2.2.2.1 p.2.2.2.2.2.2.2.2.2.2.2.1 p.2.2.2.2.2.2.2.2.2.2.2.2.1 p.1 p.2.1 p.2.2.1 p.2.2.2.1 p.2.2.2.2.1 p.2.2.2.2.2.1 p.2.2.2.2.2.2.1 p.2.2.2.2.2.2.2.1 p.2.2.2.2.2.2.2.2.1 p.2.2.2.2.2.2.2.2.2.1 p.2.2.2.2.2.2.2.2.2.2.1 p.2.2.2.2.2.2.2.2.2.2.2.1 p.2.2.2.2.2.2.2.2.2.2.2.2.1 = some true := by
  unfold laws_eqPiece.f
  simp only [if_true, bne_self_eq_false, Bool.false_eq_true, if_false]
theorem FnExactGetPiece : laws_FnExactGetPiece.Pure := by
  intro l i _ _ hw _
  by_cases hbig : (l.length : Int) > 1048576
  · exact ⟨0, by unfold laws_FnExactGetPiece.f; rw [if_pos hbig]⟩
  have hB := bytes_of_wf hw
  refine ⟨l.length + 111, ?_⟩
  unfold laws_FnExactGetPiece.f
  rw [if_neg hbig, toByteS_f _ l (by omega) (by omega)]
  simp only [Option.bind_some]
  rw [spec_getpiece _ l i hB (by omega) (by omega), impl_getpiece _ l i hB (by omega) (by omega)]
  simp only [Option.bind_some]
  rw [eqPiece_same]
  simp only [Option.bind_some, if_true, bne_self_eq_false, Bool.false_eq_true, if_false]
  rw [eqByteS_same _ l (by omega) (by omega)]
  simp only [Option.bind_some, if_true]

end Go.Proofs.Ytfpbbikhcnpceaa.Pure
