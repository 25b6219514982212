/- For all bytes, at most 2^20 of them, the program's GetState and the reference's GetState return the same state and the same bool, the state in new memory, and the bytes stay as they were (of more bytes the law says nothing: it answers true). -/
import Derived.Test.YtfkidiagmekleaaHFnExactGetState
namespace Go.Proofs.Ytfkidiagmekleaa.Pure
open Go.RowKit Go.Proofs.Ytfkidiagmekleaa.QAll Go.Proofs.YtfkidiagmekleaaW.PrintWords Go.Proofs.YtfkidiagmekleaaW.PrintLast
def inr (a lo hi : Int) : Bool := decide (lo ≤ a ∧ a ≤ hi)
theorem inr_if (a lo hi : Int) : (if a ≥ lo then (some (decide (a ≤ hi))) else (some false)) = some (inr a lo hi) := by
  unfold inr
  by_cases h : a ≥ lo
  · rw [if_pos h]; congr 1; simp [show lo ≤ a from h]
  · rw [if_neg h]; congr 1; simp; omega
theorem spec_in (a lo hi : Int) : spec_l1In.f a lo hi = some (inr a lo hi) := inr_if a lo hi

theorem impl_from_in (a lo hi : Int) : impl_from.f a lo hi = some (inr a lo hi) := inr_if a lo hi

def pok (a0 a1 a2 a3 a4 a5 a6 a7 a8 a9 a10 : Int) (a11 a12 : Bool) : Bool :=
  inr a0 1 99 && (inr a1 0 2 && (inr a2 0 2 && (inr a3 1 4 && (inr a4 0 9999 && (inr a5 0 999 && (inr a6 0 999 && (inr a7 0 63 && (inr a8 0 2147483647 && (inr a9 0 2147483647 && (inr a10 0 2147483647 && (decide (a3 = 2) || (decide (a2 = a1) && (decide (a8 = 0) && (decide (a9 = 0) && (decide (a10 = 0) && (!a11 && !a12))))))))))))))))
theorem spec_pieceok (k : Nat) (a0 a1 a2 a3 a4 a5 a6 a7 a8 a9 a10 : Int) (a11 a12 : Bool) (hk : 1 ≤ k) : spec_PieceOk.f k a0 a1 a2 a3 a4 a5 a6 a7 a8 a9 a10 a11 a12 = some (pok a0 a1 a2 a3 a4 a5 a6 a7 a8 a9 a10 a11 a12) := by
  obtain ⟨k, rfl⟩ : ∃ q, k = q + 1 := ⟨k - 1, by omega⟩
  have hj : spec_PieceOk.j0 (k + 1) true a0 a1 a2 a3 a4 a5 a6 a7 a8 a9 a10 a11 a12 = some false := by simp only [spec_PieceOk.j0, if_true]
  unfold spec_PieceOk.f pok
  simp only [spec_in, Option.bind_some, hj]
  cases inr a0 1 99
  · simp only [Bool.false_eq_true, if_false, Bool.false_and]
  cases inr a1 0 2
  · simp only [Bool.false_eq_true, if_false, if_true, Bool.false_and, Bool.true_and]
  cases inr a2 0 2
  · simp only [Bool.false_eq_true, if_false, if_true, Bool.false_and, Bool.true_and]
  cases inr a3 1 4
  · simp only [Bool.false_eq_true, if_false, if_true, Bool.false_and, Bool.true_and]
  cases inr a4 0 9999
  · simp only [Bool.false_eq_true, if_false, if_true, Bool.false_and, Bool.true_and]
  cases inr a5 0 999
  · simp only [Bool.false_eq_true, if_false, if_true, Bool.false_and, Bool.true_and]
  cases inr a6 0 999
  · simp only [Bool.false_eq_true, if_false, if_true, Bool.false_and, Bool.true_and]
  cases inr a7 0 63
  · simp only [if_true, Bool.false_and, Bool.true_and, Bool.not_false, hj]
  simp only [spec_PieceOk.j0, spec_in, Option.bind_some, if_true, Bool.true_and, Bool.not_true, Bool.false_eq_true, if_false]
  cases inr a8 0 2147483647
  · simp only [Bool.false_eq_true, if_false, Bool.false_and]
  cases inr a9 0 2147483647
  · simp only [Bool.false_eq_true, if_false, if_true, Bool.false_and, Bool.true_and]
  cases inr a10 0 2147483647
  · simp only [Bool.false_eq_true, if_false, if_true, Bool.false_and, Bool.true_and]
  simp only [if_true, Bool.true_and]
  by_cases h3 : a3 = 2
  · simp [h3]
  by_cases h2 : a2 = a1
  · by_cases h8 : a8 = 0
    · by_cases h9 : a9 = 0
      · by_cases h10 : a10 = 0
        · cases a11 <;> simp [h3, h2, h8, h9, h10]
        · simp [h3, h2, h8, h9, h10]
      · simp [h3, h2, h8, h9]
    · simp [h3, h2, h8]
  · simp [h3, h2]
theorem impl_pieceok (k : Nat) (a0 a1 a2 a3 a4 a5 a6 a7 a8 a9 a10 : Int) (a11 a12 : Bool) (hk : 1 ≤ k) : impl_PieceOk.f k a0 a1 a2 a3 a4 a5 a6 a7 a8 a9 a10 a11 a12 = some (pok a0 a1 a2 a3 a4 a5 a6 a7 a8 a9 a10 a11 a12) := by
  obtain ⟨k, rfl⟩ : ∃ q, k = q + 1 := ⟨k - 1, by omega⟩
  have hj : impl_PieceOk.j0 (k + 1) true a0 a1 a2 a3 a4 a5 a6 a7 a8 a9 a10 a11 a12 = some false := by simp only [impl_PieceOk.j0, if_true]
  unfold impl_PieceOk.f pok
  simp only [impl_isId.f, impl_isPlayer.f, impl_isZone.f, impl_isTime.f, impl_isTraits.f, impl_from_in, Option.bind_some, hj]
  cases inr a0 1 99
  · simp only [Bool.false_eq_true, if_false, Bool.false_and]
  cases inr a1 0 2
  · simp only [Bool.false_eq_true, if_false, if_true, Bool.false_and, Bool.true_and]
  cases inr a2 0 2
  · simp only [Bool.false_eq_true, if_false, if_true, Bool.false_and, Bool.true_and]
  cases inr a3 1 4
  · simp only [Bool.false_eq_true, if_false, if_true, Bool.false_and, Bool.true_and]
  cases inr a4 0 9999
  · simp only [Bool.false_eq_true, if_false, if_true, Bool.false_and, Bool.true_and]
  cases inr a5 0 999
  · simp only [Bool.false_eq_true, if_false, if_true, Bool.false_and, Bool.true_and]
  cases inr a6 0 999
  · simp only [Bool.false_eq_true, if_false, if_true, Bool.false_and, Bool.true_and]
  cases inr a7 0 63
  · simp only [if_true, Bool.false_and, Bool.true_and, Bool.not_false, hj]
  simp only [impl_PieceOk.j0, impl_isAmount.f, impl_from_in, Option.bind_some, if_true, Bool.true_and, Bool.not_true, Bool.false_eq_true, if_false]
  by_cases h3 : a3 = 2
  · rw [if_pos h3]
    cases inr a8 0 2147483647 <;> cases inr a9 0 2147483647 <;> simp [h3]
  rw [if_neg h3]
  by_cases h2 : a2 = a1
  · by_cases h8 : a8 = 0
    · by_cases h9 : a9 = 0
      · by_cases h10 : a10 = 0
        · subst h8 h9 h10
          cases a11 <;> simp [h3, h2, inr]
        · simp [h3, h2, h8, h9, h10]
      · simp [h3, h2, h8, h9]
    · simp [h3, h2, h8]
  · simp [h3, h2]

theorem wrap_nat (n : Nat) (h : n ≤ 4611686018427387904) : wrap64 ((n : Int) + 1) = ((n + 1 : Nat) : Int) := by unfold wrap64; omega
theorem rd_nat (l : List Int) (n : Nat) (h : n < l.length) : l[n]? = some (rd l (n : Int)) := by
  unfold rd
  rw [Int.toNat_natCast, List.getD_eq_getElem?_getD, List.getElem?_eq_getElem h]
  rfl
theorem ext_upto {α : Type} (a b : List α) (hl : a.length = b.length) (h : ∀ j, j < a.length → a[j]? = b[j]?) : a = b := by
  apply List.ext_getElem?
  intro j
  by_cases hj : j < a.length
  · exact h j hj
  · rw [List.getElem?_eq_none (by omega), List.getElem?_eq_none (by omega)]

def Bytes (l : List Int) : Prop := ∀ x ∈ l, 0 ≤ x ∧ x ≤ 255
theorem bytes_of_wf {l : List Int} (h : ∀ x ∈ l, (Lit.int .u8 x).wf = true) : Bytes l := by
  intro x hx
  have := h x hx
  simp [Lit.wf, IntKind.min, IntKind.max, IntKind.signed, IntKind.bits] at this
  omega
theorem Bytes.rd {l : List Int} (h : Bytes l) (i : Int) : 0 ≤ rd l i ∧ rd l i ≤ 255 := by
  unfold Go.Proofs.YtfkidiagmekleaaW.PrintWords.rd
  rw [List.getD_eq_getElem?_getD]
  by_cases hi : i.toNat < l.length
  · rw [List.getElem?_eq_getElem hi]
    exact h _ (List.getElem_mem hi)
  · rw [List.getElem?_eq_none (by omega)]
    exact ⟨by decide, by decide⟩
def val4 (l : List Int) (i : Int) : Int := rd l i * 16777216 + rd l (i + 1) * 65536 + rd l (i + 2) * 256 + rd l (i + 3)
def gn (l : List Int) (i : Int) : Int × Int × Bool := if i < 0 ∨ i > (l.length : Int) - 4 then (0, 0, false) else if val4 l i = 0 then (0, 0, false) else (val4 l i - 2147483648, i + 4, true)
theorem orJoin (i : Nat) (x y : Int) (m : Int) (hm : m = 2 ^ i) (hmb : m ≤ 16777216) (h0 : 0 ≤ x) (hx : x % m = 0) (h1 : x < 4611686018427387904) (g0 : 0 ≤ y) (g1 : y < m) : Go.bits .or .i64 x y = x + y := by
  have hy1 : y < 9223372036854775808 := by omega
  have hi : i ≤ 62 := by
    rcases Nat.lt_or_ge 62 i with h | h
    · have h2 : (2 : Nat) ^ 62 ≤ 2 ^ i := Nat.pow_le_pow_right (by decide) (by omega)
      have h3 : ((2 ^ 62 : Nat) : Int) ≤ ((2 ^ i : Nat) : Int) := Int.ofNat_le.2 h2
      rw [Int.natCast_pow] at h3
      have h4 : ((2 : Nat) : Int) = 2 := rfl
      rw [h4, Int.natCast_pow, h4, ← hm] at h3
      omega
    · exact h
  subst hm
  exact bits_join .i64 63 (by decide) (fun n h0 h1 => by rw [IntKind.wrap_i64]; omega) i x y h0 hx (by omega) g0 g1 (by omega)
theorem impl_getnum (k : Nat) (l : List Int) (i : Int) (hB : Bytes l) (hb : l.length ≤ 4611686018427387904) (hk : 1 ≤ k) : impl_GetNum.f k l i = some (gn l i) := by
  obtain ⟨k, rfl⟩ : ∃ q, k = q + 1 := ⟨k - 1, by omega⟩
  unfold impl_GetNum.f gn
  by_cases h0 : i < 0
  · rw [if_pos h0, if_pos (Or.inl h0)]
    simp only [impl_GetNum.j0, if_true]
  · rw [if_neg h0]
    have hw : wrap64 ((l.length : Int) - 4) = (l.length : Int) - 4 := by unfold wrap64; omega
    rw [hw]
    by_cases h1 : i > (l.length : Int) - 4
    · rw [if_pos (Or.inr h1)]
      simp only [impl_GetNum.j0]
      rw [if_pos (by simpa using h1)]
    · rw [if_neg (by omega)]
      have e1 : wrap64 (i + 1) = i + 1 := by unfold wrap64; omega
      have e2 : wrap64 (i + 2) = i + 2 := by unfold wrap64; omega
      have e3 : wrap64 (i + 3) = i + 3 := by unfold wrap64; omega
      have e4 : wrap64 (i + 4) = i + 4 := by unfold wrap64; omega
      simp only [impl_GetNum.j0]
      rw [if_neg (by simpa using h1), e1, e2, e3, e4, if_pos (by omega), if_pos (by omega), if_pos (by omega), if_pos (by omega), if_pos (by omega), if_pos (by omega), if_pos (by omega), if_pos (by omega)]
      have r0 := hB.rd i
      have r1 := hB.rd (i + 1)
      have r2 := hB.rd (i + 2)
      have r3 := hB.rd (i + 3)
      unfold val4
      generalize rd l i = b0 at *
      generalize rd l (i + 1) = b1 at *
      generalize rd l (i + 2) = b2 at *
      generalize rd l (i + 3) = b3 at *
      have w0 : wrap64 ((wrap64 b0) * 16777216) = b0 * 16777216 := by unfold wrap64; omega
      have w1 : wrap64 ((wrap64 b1) * 65536) = b1 * 65536 := by unfold wrap64; omega
      have w2 : wrap64 ((wrap64 b2) * 256) = b2 * 256 := by unfold wrap64; omega
      have w3 : wrap64 b3 = b3 := by unfold wrap64; omega
      rw [w0, w1, w2, w3, orJoin 24 (b0 * 16777216) (b1 * 65536) 16777216 (by decide) (by decide) (by omega) (by omega) (by omega) (by omega) (by omega), orJoin 16 (b0 * 16777216 + b1 * 65536) (b2 * 256) 65536 (by decide) (by decide) (by omega) (by omega) (by omega) (by omega) (by omega), orJoin 8 (b0 * 16777216 + b1 * 65536 + b2 * 256) b3 256 (by decide) (by decide) (by omega) (by omega) (by omega) (by omega) (by omega)]
      have e5 : wrap64 (b0 * 16777216 + b1 * 65536 + b2 * 256 + b3 - 2147483648) = b0 * 16777216 + b1 * 65536 + b2 * 256 + b3 - 2147483648 := by unfold wrap64; omega
      rw [e5]
      by_cases hz : b0 * 16777216 + b1 * 65536 + b2 * 256 + b3 = 0
      · rw [if_pos hz, if_pos hz]
      · rw [if_neg hz, if_neg hz]
theorem spec_getnum_step (k : Nat) (l : List Int) (i x j : Int) (hB : Bytes l) (hb : l.length ≤ 4611686018427387904) (h0 : 0 ≤ i) (h1 : i + 4 ≤ (l.length : Int)) (hj0 : 0 ≤ j) (hj : j < 4) (hx0 : 0 ≤ x) (hx : x ≤ 4294967296) :
    spec_GetNum.l0 (k + 1) l i x j = spec_GetNum.l0 k l i (x * 256 + rd l (i + j)) (j + 1) := by
  have r0 := hB.rd (i + j)
  have e1 : wrap64 (i + j) = i + j := by unfold wrap64; omega
  have e2 : wrap64 (j + 1) = j + 1 := by unfold wrap64; omega
  simp only [spec_GetNum.l0]
  rw [if_pos hj, e1, e2, if_pos (by omega), if_pos (by omega)]
  congr 1
  unfold wrap64
  omega
theorem spec_getnum (k : Nat) (l : List Int) (i : Int) (hB : Bytes l) (hb : l.length ≤ 4611686018427387904) (hk : 6 ≤ k) : spec_GetNum.f k l i = some (gn l i) := by
  obtain ⟨k, rfl⟩ : ∃ q, k = q + 6 := ⟨k - 6, by omega⟩
  unfold spec_GetNum.f gn
  by_cases h0 : i < 0
  · rw [if_pos h0, if_pos (Or.inl h0)]
    simp only [spec_GetNum.j0, if_true]
  · rw [if_neg h0]
    have hw : wrap64 ((l.length : Int) - 4) = (l.length : Int) - 4 := by unfold wrap64; omega
    rw [hw]
    by_cases h1 : i > (l.length : Int) - 4
    · rw [if_pos (Or.inr h1)]
      simp only [spec_GetNum.j0]
      rw [if_pos (by simpa using h1)]
    · rw [if_neg (by omega)]
      have r0 := hB.rd (i + 0)
      have r1 := hB.rd (i + (0 + 1))
      have r2 := hB.rd (i + (0 + 1 + 1))
      have r3 := hB.rd (i + (0 + 1 + 1 + 1))
      simp only [spec_GetNum.j0]
      rw [if_neg (by simpa using h1), spec_getnum_step (k + 4) l i 0 0 hB hb (by omega) (by omega) (by omega) (by omega) (by omega) (by omega),
        spec_getnum_step (k + 3) l i _ _ hB hb (by omega) (by omega) (by omega) (by omega) (by omega) (by omega),
        spec_getnum_step (k + 2) l i _ _ hB hb (by omega) (by omega) (by omega) (by omega) (by omega) (by omega),
        spec_getnum_step (k + 1) l i _ _ hB hb (by omega) (by omega) (by omega) (by omega) (by omega) (by omega)]
      simp only [spec_GetNum.l0]
      have hv : ((((0 : Int) * 256 + rd l (i + 0)) * 256 + rd l (i + (0 + 1))) * 256 + rd l (i + (0 + 1 + 1))) * 256 + rd l (i + (0 + 1 + 1 + 1)) = val4 l i := by
        unfold val4
        rw [show i + 0 = i from by omega, show i + (0 + 1) = i + 1 from by omega, show i + (0 + 1 + 1) = i + 2 from by omega, show i + (0 + 1 + 1 + 1) = i + 3 from by omega]
        omega
      rw [if_neg (by omega), hv]
      have hr : 0 ≤ val4 l i ∧ val4 l i ≤ 4294967295 := by rw [← hv]; omega
      by_cases hz : val4 l i = 0
      · rw [if_pos hz, if_pos hz]
      · rw [if_neg hz, if_neg hz]
        have e4 : wrap64 (i + 4) = i + 4 := by unfold wrap64; omega
        have e5 : wrap64 (val4 l i - 2147483648) = val4 l i - 2147483648 := by unfold wrap64; omega
        rw [e4, e5]

def glr (b : List Int) : Nat → Int → List Int → List Int × Int × Bool
  | 0, i, acc => (acc, i, true)
  | d + 1, i, acc => if (gn b i).2.2 = true then glr b d (gn b i).2.1 (acc ++ [(gn b i).1]) else ([], 0, false)
theorem glr_length (b : List Int) : ∀ (d : Nat) (i : Int) (acc : List Int), (glr b d i acc).1.length ≤ acc.length + d
  | 0, i, acc => by unfold glr; exact Nat.le_refl _
  | d + 1, i, acc => by
    unfold glr
    split
    · have := glr_length b d (gn b i).2.1 (acc ++ [(gn b i).1])
      rw [List.length_append, List.length_singleton] at this
      omega
    · simp

abbrev PieceR := Int × Int × Int × Int × Int × Int × Int × Int × Int × Int × Int × Bool × Bool × Int × Bool
def noPiece : PieceR := (0, 0, 0, 0, 0, 0, 0, 0, 0, 0, 0, false, false, 0, false)
def gpj (x : List Int) (i : Int) (bad : Bool) : PieceR := if bad = true then noPiece else if pok (rd x 0) (rd x 1) (rd x 2) (rd x 3) (rd x 4) (rd x 5) (rd x 6) (rd x 7) (rd x 8) (rd x 9) (rd x 10) ((rd x 11) == 1) ((rd x 12) == 1) = true then (rd x 0, rd x 1, rd x 2, rd x 3, rd x 4, rd x 5, rd x 6, rd x 7, rd x 8, rd x 9, rd x 10, ((rd x 11) == 1), ((rd x 12) == 1), i, true) else noPiece
def gpn (q : List Int × Int × Bool) : PieceR := if q.2.2 = true then (if inr (rd q.1 11) 0 1 = true then gpj q.1 q.2.1 (!inr (rd q.1 12) 0 1) else noPiece) else noPiece
/-- The piece that the bytes b tell at the place i. -/
def gpc (b : List Int) (i : Int) : PieceR := gpn (glr b 13 i [])
theorem glr_true (b : List Int) : ∀ (d : Nat) (i : Int) (acc : List Int), (glr b d i acc).2.2 = true → (glr b d i acc).1.length = acc.length + d
  | 0, i, acc, _ => rfl
  | d + 1, i, acc, h => by
    unfold glr at h ⊢
    by_cases hg : (gn b i).2.2 = true
    · rw [if_pos hg] at h ⊢
      rw [glr_true b d _ _ h, List.length_append, List.length_singleton]
      omega
    · rw [if_neg hg] at h
      cases h
theorem spec_nums_l0 (b : List Int) (hB : Bytes b) (hb : b.length ≤ 4611686018427387904) : ∀ (d k n : Nat) (i : Int) (acc : List Int), n + d = 13 → d + 8 ≤ k → acc.length + d < 1000 → ∃ q, spec_l4Nums.l0 k b 13 acc i (n : Int) = some q ∧ q.2.2 = (glr b d i acc).2.2 ∧ ((glr b d i acc).2.2 = true → q = glr b d i acc)
  | 0, k, n, i, acc, hn, hk, ha => by
    obtain ⟨k, rfl⟩ : ∃ q, k = q + 1 := ⟨k - 1, by omega⟩
    simp only [spec_l4Nums.l0]
    rw [if_neg (by omega)]
    exact ⟨_, rfl, rfl, fun _ => rfl⟩
  | d + 1, k, n, i, acc, hn, hk, ha => by
    obtain ⟨k, rfl⟩ : ∃ q, k = q + 1 := ⟨k - 1, by omega⟩
    simp only [spec_l4Nums.l0]
    rw [if_pos (by omega), spec_getnum k b i hB hb (by omega), wrap_nat n (by omega)]
    simp only [Option.bind_some, glr]
    by_cases h : (gn b i).2.2 = true
    · rw [if_pos h, if_pos h, if_pos (by omega)]
      exact spec_nums_l0 b hB hb d k (n + 1) _ _ (by omega) (by omega) (by rw [List.length_append, List.length_singleton]; omega)
    · rw [if_neg h, if_neg h]
      exact ⟨_, rfl, rfl, fun h => by cases h⟩
theorem impl_nums_l0 (b : List Int) (hB : Bytes b) (hb : b.length ≤ 4611686018427387904) : ∀ (d k n : Nat) (i : Int) (acc : List Int), n + d = 13 → d + 8 ≤ k → acc.length + d < 1000 → impl_getNums.l0 k b i acc 13 (n : Int) = some (glr b d i acc)
  | 0, k, n, i, acc, hn, hk, ha => by
    obtain ⟨k, rfl⟩ : ∃ q, k = q + 1 := ⟨k - 1, by omega⟩
    simp only [impl_getNums.l0]
    rw [if_neg (by omega)]
    rfl
  | d + 1, k, n, i, acc, hn, hk, ha => by
    obtain ⟨k, rfl⟩ : ∃ q, k = q + 1 := ⟨k - 1, by omega⟩
    simp only [impl_getNums.l0]
    rw [if_pos (by omega), impl_getnum k b i hB hb (by omega), wrap_nat n (by omega)]
    simp only [Option.bind_some, glr]
    by_cases h : (gn b i).2.2 = true
    · rw [if_pos h, if_pos h, if_pos (by omega)]
      exact impl_nums_l0 b hB hb d k (n + 1) _ _ (by omega) (by omega) (by rw [List.length_append, List.length_singleton]; omega)
    · rw [if_neg h, if_neg h]
theorem spec_gpj (k : Nat) (x : List Int) (i : Int) (bad : Bool) (hk : 3 ≤ k) (hx : bad = false → x.length = 13) : spec_GetPiece.j0 k x i bad = some (gpj x i bad) := by
  obtain ⟨k, rfl⟩ : ∃ q, k = q + 1 := ⟨k - 1, by omega⟩
  unfold gpj
  simp only [spec_GetPiece.j0]
  cases bad with
  | true => rfl
  | false =>
    have hl := hx rfl
    simp only [Bool.false_eq_true, if_false]
    rw [if_pos (by omega), if_pos (by omega), if_pos (by omega), if_pos (by omega), if_pos (by omega), if_pos (by omega), if_pos (by omega), if_pos (by omega), if_pos (by omega), if_pos (by omega), if_pos (by omega), if_pos (by omega), if_pos (by omega), spec_pieceok k _ _ _ _ _ _ _ _ _ _ _ _ _ (by omega)]
    simp only [Option.bind_some]
    split <;> rfl
theorem impl_gpj (k : Nat) (x : List Int) (i : Int) (bad : Bool) (hk : 3 ≤ k) (hx : bad = false → x.length = 13) : impl_GetPiece.j0 k x i bad = some (gpj x i bad) := by
  obtain ⟨k, rfl⟩ : ∃ q, k = q + 1 := ⟨k - 1, by omega⟩
  unfold gpj
  simp only [impl_GetPiece.j0]
  cases bad with
  | true => rfl
  | false =>
    have hl := hx rfl
    simp only [Bool.false_eq_true, if_false]
    rw [if_pos (by omega), if_pos (by omega), if_pos (by omega), if_pos (by omega), if_pos (by omega), if_pos (by omega), if_pos (by omega), if_pos (by omega), if_pos (by omega), if_pos (by omega), if_pos (by omega), if_pos (by omega), if_pos (by omega), impl_pieceok k _ _ _ _ _ _ _ _ _ _ _ _ _ (by omega)]
    simp only [Option.bind_some]
    split <;> rfl
theorem spec_getpiece (k : Nat) (b : List Int) (i : Int) (hB : Bytes b) (hb : b.length ≤ 4611686018427387904) (hk : 30 ≤ k) : spec_GetPiece.f k b i = some (gpc b i) := by
  obtain ⟨q, h1, h2, h3⟩ := spec_nums_l0 b hB hb 13 k 0 i [] rfl (by omega) (by simp)
  have hf : spec_l4Nums.f k b i 13 = some q := h1
  have hz : ∀ x j, gpj x j true = noPiece := fun _ _ => rfl
  unfold spec_GetPiece.f gpc gpn
  rw [hf]
  simp only [Option.bind_some]
  by_cases hq : (glr b 13 i []).2.2 = true
  · have hl := glr_true b 13 i [] hq
    simp only [List.length_nil, Nat.zero_add] at hl
    rw [h3 hq]
    rw [if_pos hq, if_pos hq, if_pos (by omega), spec_in]
    simp only [Option.bind_some]
    by_cases h11 : inr (rd (glr b 13 i []).1 11) 0 1 = true
    · rw [if_pos h11, if_pos h11, if_pos (by omega), spec_in]
      simp only [Option.bind_some]
      exact spec_gpj k _ _ _ (by omega) (fun _ => hl)
    · rw [if_neg h11, if_neg h11, spec_gpj k _ _ _ (by omega) (fun h => by cases h), hz]
  · rw [if_neg (by rw [h2]; exact hq), if_neg hq, spec_gpj k _ _ _ (by omega) (fun h => by cases h), hz]
theorem impl_getpiece (k : Nat) (b : List Int) (i : Int) (hB : Bytes b) (hb : b.length ≤ 4611686018427387904) (hk : 30 ≤ k) : impl_GetPiece.f k b i = some (gpc b i) := by
  have h1 := impl_nums_l0 b hB hb 13 k 0 i [] rfl (by omega) (by simp)
  have hf : impl_getNums.f k b i 13 = some (glr b 13 i []) := h1
  have hz : ∀ x j, gpj x j true = noPiece := fun _ _ => rfl
  unfold impl_GetPiece.f gpc gpn
  rw [hf]
  simp only [Option.bind_some]
  by_cases hq : (glr b 13 i []).2.2 = true
  · have hl := glr_true b 13 i [] hq
    simp only [List.length_nil, Nat.zero_add] at hl
    rw [if_pos hq, if_pos hq, if_pos (by omega), impl_from_in]
    simp only [Option.bind_some]
    by_cases h11 : inr (rd (glr b 13 i []).1 11) 0 1 = true
    · rw [if_pos h11, if_pos h11, if_pos (by omega), impl_from_in]
      simp only [Option.bind_some]
      exact impl_gpj k _ _ _ (by omega) (fun _ => hl)
    · rw [if_neg h11, if_neg h11, impl_gpj k _ _ _ (by omega) (fun h => by cases h), hz]
  · rw [if_neg hq, if_neg hq, impl_gpj k _ _ _ (by omega) (fun h => by cases h), hz]

theorem spec_numsN_l0 (b : List Int) (N : Nat) (hB : Bytes b) (hb : b.length ≤ 4611686018427387904) (hN : N ≤ 900) : ∀ (d k n : Nat) (i : Int) (acc : List Int), n + d = N → d + 8 ≤ k → acc.length = n → ∃ q, spec_l4Nums.l0 k b (N : Int) acc i (n : Int) = some q ∧ q.2.2 = (glr b d i acc).2.2 ∧ ((glr b d i acc).2.2 = true → q = glr b d i acc)
  | 0, k, n, i, acc, hn, hk, ha => by
    obtain ⟨k, rfl⟩ : ∃ q, k = q + 1 := ⟨k - 1, by omega⟩
    simp only [spec_l4Nums.l0]
    rw [if_neg (by omega)]
    exact ⟨_, rfl, rfl, fun _ => rfl⟩
  | d + 1, k, n, i, acc, hn, hk, ha => by
    obtain ⟨k, rfl⟩ : ∃ q, k = q + 1 := ⟨k - 1, by omega⟩
    simp only [spec_l4Nums.l0]
    rw [if_pos (by omega), spec_getnum k b i hB hb (by omega), wrap_nat n (by omega)]
    simp only [Option.bind_some, glr]
    by_cases h : (gn b i).2.2 = true
    · rw [if_pos h, if_pos h, if_pos (by omega)]
      exact spec_numsN_l0 b N hB hb hN d k (n + 1) _ _ (by omega) (by omega) (by rw [List.length_append, List.length_singleton]; omega)
    · rw [if_neg h, if_neg h]
      exact ⟨_, rfl, rfl, fun h => by cases h⟩
theorem impl_numsN_l0 (b : List Int) (N : Nat) (hB : Bytes b) (hb : b.length ≤ 4611686018427387904) (hN : N ≤ 900) : ∀ (d k n : Nat) (i : Int) (acc : List Int), n + d = N → d + 8 ≤ k → acc.length = n → impl_getNums.l0 k b i acc (N : Int) (n : Int) = some (glr b d i acc)
  | 0, k, n, i, acc, hn, hk, ha => by
    obtain ⟨k, rfl⟩ : ∃ q, k = q + 1 := ⟨k - 1, by omega⟩
    simp only [impl_getNums.l0]
    rw [if_neg (by omega)]
    rfl
  | d + 1, k, n, i, acc, hn, hk, ha => by
    obtain ⟨k, rfl⟩ : ∃ q, k = q + 1 := ⟨k - 1, by omega⟩
    simp only [impl_getNums.l0]
    rw [if_pos (by omega), impl_getnum k b i hB hb (by omega), wrap_nat n (by omega)]
    simp only [Option.bind_some, glr]
    by_cases h : (gn b i).2.2 = true
    · rw [if_pos h, if_pos h, if_pos (by omega)]
      exact impl_numsN_l0 b N hB hb hN d k (n + 1) _ _ (by omega) (by omega) (by rw [List.length_append, List.length_singleton]; omega)
    · rw [if_neg h, if_neg h]
abbrev StR := List S25 × List S71 × Int × Int × Int
abbrev StB := List S25 × List S71 × Int × Int × Bool
def noSt : StB := ([], [], 0, 0, false)
def fin (b : List Int) (q : StR) : StB := if q.2.2.2.2 = (b.length : Int) then (q.1, q.2.1, q.2.2.1, q.2.2.2.1, true) else noSt
theorem fin_no (b : List Int) (ps : List S25) (ss : List S71) (x y e : Int) (h : e ≠ (b.length : Int)) : fin b (ps, ss, x, y, e) = noSt := if_neg h
theorem len_ne (b : List Int) : (-1 : Int) ≠ (b.length : Int) := by omega
theorem cut3 (l : List Int) (n : Nat) (h : 3 * n + 3 ≤ l.length) : ∃ y, (l.take ((3 * (n : Int) + 3) : Int).toNat).drop ((3 * (n : Int)) : Int).toNat = y ∧ y.length = 3 ∧ rd y 0 = rd l (3 * (n : Int)) ∧ rd y 1 = rd l (3 * (n : Int) + 1) ∧ rd y 2 = rd l (3 * (n : Int) + 2) := by
  have e1 : ((3 * (n : Int) + 3) : Int).toNat = 3 * n + 3 := by omega
  have e2 : ((3 * (n : Int)) : Int).toNat = 3 * n := by omega
  have e3 : ((3 * (n : Int) + 1) : Int).toNat = 3 * n + 1 := by omega
  have e4 : ((3 * (n : Int) + 2) : Int).toNat = 3 * n + 2 := by omega
  rw [e1, e2]
  refine ⟨_, rfl, by rw [List.length_drop, List.length_take]; omega, ?_, ?_, ?_⟩
  · unfold rd
    rw [e2]
    simp [List.getD_eq_getElem?_getD, List.getElem?_drop]
  · unfold rd
    rw [e3]
    simp [List.getD_eq_getElem?_getD, List.getElem?_drop]
  · unfold rd
    rw [e4]
    simp [List.getD_eq_getElem?_getD, List.getElem?_drop]
theorem w3 (n : Nat) (h : n ≤ 1000) : wrap64 (3 * (n : Int)) = 3 * (n : Int) := by unfold wrap64; omega
theorem w3a (n : Nat) (j : Int) (h : n ≤ 1000) (h0 : 0 ≤ j) (h1 : j ≤ 3) : wrap64 (3 * (n : Int) + j) = 3 * (n : Int) + j := by unfold wrap64; omega
theorem stok_len {ps : List S25} {ss : List S71} {a c : Int} (h : stOk ps ss a c = true) : ps.length ≤ 8 ∧ ss.length ≤ 3 := by
  unfold stOk at h
  simp only [Bool.and_eq_true] at h
  obtain ⟨h1, h2, -⟩ := h
  have := of_decide_eq_true h1
  have := of_decide_eq_true (p := 2 ≤ (ss.length : Int) ∧ (ss.length : Int) ≤ 3) h2
  omega
/-- What a reader hands back: a state that is right, or none. -/
def Fine (q : StR) : Prop := q.2.2.2.2 = -1 ∨ stOk q.1 q.2.1 q.2.2.1 q.2.2.2.1 = true
theorem sides_both (b l : List Int) (m : Nat) (hm : m ≤ 3) (hl : l.length = 3 * m + 2) (e : Int) (ps : List S25) : ∀ (d k k' n : Nat) (ss : List S71) (x y : Int), n + d = m → d < k → d < k' → ss.length = n → ∃ q, spec_l5Get.l1 k (m : Int) l e (n : Int) ps ss x y = some q ∧ (q.2.2.2.2 = e ∨ q.2.2.2.2 = -1) ∧ Fine q ∧ (e = (b.length : Int) → impl_GetState.l1 k' (m : Int) l (m : Int) (n : Int) ps ss x y = some (fin b q))
  | 0, k, k', n, ss, x, y, hn, hk, hk', hs => by
    obtain ⟨k, rfl⟩ : ∃ q, k = q + 1 := ⟨k - 1, by omega⟩
    obtain ⟨k', rfl⟩ : ∃ q, k' = q + 1 := ⟨k' - 1, by omega⟩
    simp only [spec_l5Get.l1, impl_GetState.l1]
    have hnm : ¬ ((n : Int) < (m : Int)) := by omega
    rw [if_neg hnm, if_neg hnm, w3 m (by omega), w3a m 1 (by omega) (by omega) (by omega)]
    simp (disch := omega) only [if_pos, spec_StateOk.f, impl_StateOk.f, Option.bind_some]
    by_cases h : stOk ps ss (rd l (3 * (m : Int))) (rd l (3 * (m : Int) + 1)) = true
    · rw [if_pos h, if_pos h]
      exact ⟨_, rfl, .inl rfl, .inr h, fun he => by subst he; unfold fin; rw [if_pos rfl]⟩
    · rw [if_neg h, if_neg h]
      exact ⟨_, rfl, .inr rfl, .inl rfl, fun he => by rw [fin_no _ _ _ _ _ _ (len_ne b)]; rfl⟩
  | d + 1, k, k', n, ss, x, y, hn, hk, hk', hs => by
    obtain ⟨k, rfl⟩ : ∃ q, k = q + 1 := ⟨k - 1, by omega⟩
    obtain ⟨k', rfl⟩ : ∃ q, k' = q + 1 := ⟨k' - 1, by omega⟩
    obtain ⟨yy, ey, ly, y0, y1, y2⟩ := cut3 l n (by omega)
    simp only [spec_l5Get.l1, impl_GetState.l1]
    have hnm : (n : Int) < (m : Int) := by omega
    rw [if_pos hnm, if_pos hnm, w3 n (by omega), w3a n 1 (by omega) (by omega) (by omega), w3a n 2 (by omega) (by omega) (by omega), w3a n 3 (by omega) (by omega) (by omega), wrap_nat n (by omega)]
    rw [ey]
    simp (disch := omega) only [if_pos, Option.bind_some, spec_in, impl_from_in]
    rw [y0, y1, y2]
    by_cases h : inr (rd l (3 * (n : Int) + 2)) 0 1 = true
    · rw [if_pos h, if_pos h]
      exact sides_both b l m hm hl e ps d k k' (n + 1) _ x y (by omega) (by omega) (by omega) (by rw [List.length_append, List.length_singleton]; omega)
    · rw [if_neg h, if_neg h]
      exact ⟨_, rfl, .inr rfl, .inl rfl, fun he => by rw [fin_no _ _ _ _ _ _ (len_ne b)]; rfl⟩
theorem j2_both (b : List Int) (hB : Bytes b) (hb : b.length ≤ 1048576) (k k' : Nat) (m at_ : Int) (bad : Bool) (ps : List S25) (hk : 40 ≤ k) (hk' : 40 ≤ k') (hm : bad = false → 2 ≤ m ∧ m ≤ 3) : ∃ q, spec_l5Get.j2 k b m at_ bad ps 0 0 = some q ∧ Fine q ∧ impl_GetState.j2 k' b at_ m bad ps 0 0 = some (fin b q) := by
  obtain ⟨k, rfl⟩ : ∃ q, k = q + 1 := ⟨k - 1, by omega⟩
  obtain ⟨k', rfl⟩ : ∃ q, k' = q + 1 := ⟨k' - 1, by omega⟩
  simp only [spec_l5Get.j2, impl_GetState.j2]
  cases bad with
  | true => exact ⟨_, rfl, .inl rfl, by rw [fin_no _ _ _ _ _ _ (len_ne b)]; rfl⟩
  | false =>
    have hm := hm rfl
    obtain ⟨m, rfl⟩ := Int.eq_ofNat_of_zero_le (show 0 ≤ m by omega)
    simp only [Bool.false_eq_true, if_false]
    rw [w3 m (by omega), w3a m 2 (by omega) (by omega) (by omega)]
    obtain ⟨q, h1, h2, h3⟩ := spec_numsN_l0 b (3 * m + 2) hB (by omega) (by omega) (3 * m + 2) k 0 at_ [] (by omega) (by omega) rfl
    have h4 := impl_numsN_l0 b (3 * m + 2) hB (by omega) (by omega) (3 * m + 2) k' 0 at_ [] (by omega) (by omega) rfl
    have g1 : spec_l4Nums.f k b at_ (3 * (m : Int) + 2) = some q := h1
    have g2 : impl_getNums.f k' b at_ (3 * (m : Int) + 2) = some (glr b (3 * m + 2) at_ []) := h4
    rw [g1, g2]
    simp only [Option.bind_some]
    by_cases hq : (glr b (3 * m + 2) at_ []).2.2 = true
    · have hl := glr_true b (3 * m + 2) at_ [] hq
      simp only [List.length_nil, Nat.zero_add] at hl
      rw [h3 hq, if_pos hq, if_pos hq]
      obtain ⟨k'', rfl⟩ : ∃ q, k' = q + 1 := ⟨k' - 1, by omega⟩
      simp only [impl_GetState.j3]
      obtain ⟨r, r1, r2, rf, r3⟩ := sides_both b (glr b (3 * m + 2) at_ []).1 m (by omega) hl (glr b (3 * m + 2) at_ []).2.1 ps m k k'' 0 [] 0 0 (by omega) (by omega) (by omega) rfl
      refine ⟨r, r1, rf, ?_⟩
      by_cases he : (glr b (3 * m + 2) at_ []).2.1 = (b.length : Int)
      · rw [if_neg (by simp [he])]
        exact r3 he
      · rw [if_pos (by simpa using he)]
        obtain ⟨p1, p2, p3, p4, p5⟩ := r
        rw [fin_no _ _ _ _ _ _ (by
          rcases r2 with h | h
          · exact fun e2 => he (h.symm.trans e2)
          · exact fun e2 => len_ne b (h.symm.trans e2))]
        rfl
    · rw [if_neg hq, if_neg (by rw [h2]; exact hq)]
      obtain ⟨k'', rfl⟩ : ∃ q, k' = q + 1 := ⟨k' - 1, by omega⟩
      exact ⟨_, rfl, .inl rfl, by rw [fin_no _ _ _ _ _ _ (len_ne b)]; simp only [impl_GetState.j3, if_true]; rfl⟩
theorem pieces_both (b : List Int) (hB : Bytes b) (hb : b.length ≤ 1048576) (c : Nat) (hc : c ≤ 8) : ∀ (d k k' n : Nat) (i : Int) (ps : List S25), n + d = c → d + 60 < k → d + 60 < k' → ps.length = n → ∃ q, spec_l5Get.l0 k b (c : Int) i (n : Int) ps 0 0 = some q ∧ Fine q ∧ impl_GetState.l0 k' b i (c : Int) (n : Int) ps 0 0 = some (fin b q)
  | 0, k, k', n, i, ps, hn, hk, hk', hp => by
    obtain ⟨k, rfl⟩ : ∃ q, k = q + 1 := ⟨k - 1, by omega⟩
    obtain ⟨k', rfl⟩ : ∃ q, k' = q + 1 := ⟨k' - 1, by omega⟩
    simp only [spec_l5Get.l0, impl_GetState.l0]
    rw [if_neg (by omega), if_neg (by omega), spec_getnum k b i hB (by omega) (by omega), impl_getnum k' b i hB (by omega) (by omega)]
    simp only [Option.bind_some, spec_in, impl_from_in]
    by_cases h : (gn b i).2.2 = true
    · rw [if_pos h, if_pos h]
      exact j2_both b hB hb k k' _ _ _ ps (by omega) (by omega) (fun e => by
        have : inr (gn b i).1 2 3 = true := by simpa using e
        unfold inr at this
        exact of_decide_eq_true this)
    · rw [if_neg h, if_neg h]
      exact j2_both b hB hb k k' _ _ _ ps (by omega) (by omega) (fun e => by cases e)
  | d + 1, k, k', n, i, ps, hn, hk, hk', hp => by
    obtain ⟨k, rfl⟩ : ∃ q, k = q + 1 := ⟨k - 1, by omega⟩
    obtain ⟨k', rfl⟩ : ∃ q, k' = q + 1 := ⟨k' - 1, by omega⟩
    simp only [spec_l5Get.l0, impl_GetState.l0]
    rw [if_pos (by omega), if_pos (by omega), spec_getpiece k b i hB (by omega) (by omega), impl_getpiece k' b i hB (by omega) (by omega), wrap_nat n (by omega)]
    simp only [Option.bind_some]
    by_cases h : (gpc b i).2.2.2.2.2.2.2.2.2.2.2.2.2.2 = true
    · rw [if_pos h, if_pos h, if_pos (by omega), if_pos (by omega)]
      exact pieces_both b hB hb c hc d k k' (n + 1) _ _ (by omega) (by omega) (by omega) (by rw [List.length_append, List.length_singleton]; omega)
    · rw [if_neg h, if_neg h]
      exact ⟨_, rfl, .inl rfl, by rw [fin_no _ _ _ _ _ _ (len_ne b)]; rfl⟩
theorem fine_fin (b : List Int) (q : StR) (h : Fine q) : fin b q = noSt ∨ ((fin b q).2.2.2.2 = true ∧ stOk (fin b q).1 (fin b q).2.1 (fin b q).2.2.1 (fin b q).2.2.2.1 = true) := by
  unfold fin
  split
  · rename_i he
    rcases h with h | h
    · omega
    · exact .inr ⟨rfl, h⟩
  · exact .inl rfl
theorem getstate_both (b : List Int) (hB : Bytes b) (hb : b.length ≤ 1048576) (k k' : Nat) (hk : 100 ≤ k) (hk' : 100 ≤ k') : ∃ r : StB, spec_GetState.f k b = some r ∧ impl_GetState.f k' b = some r ∧ (r = noSt ∨ (r.2.2.2.2 = true ∧ stOk r.1 r.2.1 r.2.2.1 r.2.2.2.1 = true)) := by
  unfold spec_GetState.f spec_l5Get.f impl_GetState.f
  rw [spec_getnum k b 0 hB (by omega) (by omega), impl_getnum k' b 0 hB (by omega) (by omega)]
  simp only [Option.bind_some, spec_in, impl_from_in]
  have key : ∀ bad : Bool, (bad = false → 0 ≤ (gn b 0).1 ∧ (gn b 0).1 ≤ 8) → ∃ q, spec_l5Get.j0 k b (gn b 0).1 (gn b 0).2.1 bad 0 0 = some q ∧ Fine q ∧ impl_GetState.j0 k' b (gn b 0).1 (gn b 0).2.1 bad = some (fin b q) := by
    intro bad hbad
    obtain ⟨k, rfl⟩ : ∃ q, k = q + 1 := ⟨k - 1, by omega⟩
    obtain ⟨k', rfl⟩ : ∃ q, k' = q + 1 := ⟨k' - 1, by omega⟩
    simp only [spec_l5Get.j0, impl_GetState.j0]
    cases bad with
    | true => exact ⟨_, rfl, .inl rfl, by rw [fin_no _ _ _ _ _ _ (len_ne b)]; rfl⟩
    | false =>
      have h := hbad rfl
      simp only [Bool.false_eq_true, if_false]
      generalize (gn b 0).2.1 = i
      generalize (gn b 0).1 = c at h
      obtain ⟨c, rfl⟩ := Int.eq_ofNat_of_zero_le h.1
      exact pieces_both b hB hb c (by omega) c k k' 0 i [] (by omega) (by omega) (by omega) rfl
  have fin_eq : ∀ q : StR, ((some q).bind fun bt => (if bt.2.2.2.2 = (b.length : Int) then (some (bt.1, bt.2.1, bt.2.2.1, bt.2.2.2.1, true)) else (some (([] : List (S25)), ([] : List (S71)), 0, 0, false)))) = some (fin b q) := by
    intro q
    simp only [Option.bind_some]
    unfold fin noSt
    split <;> rfl
  by_cases h : (gn b 0).2.2 = true
  · rw [if_pos h, if_pos h]
    obtain ⟨q, h1, hf, h2⟩ := key (!inr (gn b 0).1 0 8) (fun e => by
      have : inr (gn b 0).1 0 8 = true := by simpa using e
      unfold inr at this
      exact of_decide_eq_true this)
    rw [h1, h2, fin_eq]
    exact ⟨_, rfl, rfl, fine_fin b q hf⟩
  · rw [if_neg h, if_neg h]
    obtain ⟨q, h1, hf, h2⟩ := key true (fun e => by cases e)
    rw [h1, h2, fin_eq]
    exact ⟨_, rfl, rfl, fine_fin b q hf⟩

def mkPiece (s : Int) : S25 := ⟨s, s + 1, s + 2, s + 3, s + 4, s + 5, s + 6, s + 7, s + 8, s + 9, s + 10, (Int.tmod (s + 11) 3 == 0), (Int.tmod (s + 12) 3 == 0)⟩
def mkPieceS : Int → Nat → List S25
  | _, 0 => []
  | s, d + 1 => mkPiece s :: mkPieceS (s + 13) d
theorem mkPieceS_length : ∀ (d : Nat) (s : Int), (mkPieceS s d).length = d
  | 0, _ => rfl
  | d + 1, s => by unfold mkPieceS; rw [List.length_cons, mkPieceS_length d]
theorem rd_setPiece (x : List S25) (n : Nat) (v : S25) (h : n < x.length) : rd_T25 (x.set ((n : Int)).toNat v) (n : Int) = v := by
  unfold rd_T25
  rw [Int.toNat_natCast, List.getD_eq_getElem?_getD, List.getElem?_set_self h]
  rfl
theorem rd_atPiece (x y : List S25) (n : Nat) (v : S25) (h : x.length = n) : rd_T25 (x ++ v :: y) (n : Int) = v := by
  subst h
  unfold rd_T25
  rw [Int.toNat_natCast, List.getD_eq_getElem?_getD, List.getElem?_append_right (Nat.le_refl _), Nat.sub_self]
  rfl
theorem bstepPiece {β : Type} {z z' : List S25} {f : List S25 → Option β} {r : Option β} (h : z = z') (h2 : f z' = r) : (some z).bind f = r := by rw [h]; exact h2
set_option maxHeartbeats 4000000 in
theorem markPieceS_x_l0 : ∀ (d k n : Nat) (x : List S25) (s : Int), n + d = x.length → d < k → x.length ≤ 1048576 → 0 ≤ s → s + 13 * (d : Int) ≤ 4611686018427387904 → laws_markPieceS.l0 k x s (n : Int) = some (s + 13 * (d : Int), x.take n ++ mkPieceS s d)
  | 0, k, n, x, s, hn, hk, hb, h0, hz => by
    obtain ⟨k, rfl⟩ : ∃ q, k = q + 1 := ⟨k - 1, by omega⟩
    simp only [laws_markPieceS.l0]
    rw [if_neg (by omega), List.take_of_length_le (by omega)]
    simp [mkPieceS]
  | d + 1, k, n, x, s, hn, hk, hb, h0, hz => by
    obtain ⟨k, rfl⟩ : ∃ q, k = q + 1 := ⟨k - 1, by omega⟩
    have h1 : wrap64 (s + 1) = s + 1 := by unfold wrap64; omega
    have h2 : wrap64 (s + 1 + 1) = s + 2 := by unfold wrap64; omega
    have h3 : wrap64 (s + 2 + 1) = s + 3 := by unfold wrap64; omega
    have h4 : wrap64 (s + 3 + 1) = s + 4 := by unfold wrap64; omega
    have h5 : wrap64 (s + 4 + 1) = s + 5 := by unfold wrap64; omega
    have h6 : wrap64 (s + 5 + 1) = s + 6 := by unfold wrap64; omega
    have h7 : wrap64 (s + 6 + 1) = s + 7 := by unfold wrap64; omega
    have h8 : wrap64 (s + 7 + 1) = s + 8 := by unfold wrap64; omega
    have h9 : wrap64 (s + 8 + 1) = s + 9 := by unfold wrap64; omega
    have h10 : wrap64 (s + 9 + 1) = s + 10 := by unfold wrap64; omega
    have h11 : wrap64 (s + 10 + 1) = s + 11 := by unfold wrap64; omega
    have h12 : wrap64 (s + 11 + 1) = s + 12 := by unfold wrap64; omega
    have h13 : wrap64 (s + 12 + 1) = s + 13 := by unfold wrap64; omega
    have R : ∀ v, rd_T25 (x.set ((n : Int)).toNat v) (n : Int) = v := fun v => rd_setPiece x n v (by omega)
    simp only [laws_markPieceS.l0]
    rw [if_pos (by omega), if_pos (by omega), wrap_nat n (by omega)]
    rw [h1, h2, h3, h4, h5, h6, h7, h8, h9, h10, h11, h12, h13]
    refine bstepPiece (z' := x.set ((n : Int)).toNat (⟨s, (rd_T25 x (n : Int)).f1, (rd_T25 x (n : Int)).f2, (rd_T25 x (n : Int)).f3, (rd_T25 x (n : Int)).f4, (rd_T25 x (n : Int)).f5, (rd_T25 x (n : Int)).f6, (rd_T25 x (n : Int)).f7, (rd_T25 x (n : Int)).f8, (rd_T25 x (n : Int)).f9, (rd_T25 x (n : Int)).f10, (rd_T25 x (n : Int)).f11, (rd_T25 x (n : Int)).f12⟩ : S25)) (by rfl) ?_
    refine bstepPiece (z' := x.set ((n : Int)).toNat (⟨s, s + 1, (rd_T25 x (n : Int)).f2, (rd_T25 x (n : Int)).f3, (rd_T25 x (n : Int)).f4, (rd_T25 x (n : Int)).f5, (rd_T25 x (n : Int)).f6, (rd_T25 x (n : Int)).f7, (rd_T25 x (n : Int)).f8, (rd_T25 x (n : Int)).f9, (rd_T25 x (n : Int)).f10, (rd_T25 x (n : Int)).f11, (rd_T25 x (n : Int)).f12⟩ : S25)) (by simp only [R, List.set_set]) ?_
    refine bstepPiece (z' := x.set ((n : Int)).toNat (⟨s, s + 1, s + 2, (rd_T25 x (n : Int)).f3, (rd_T25 x (n : Int)).f4, (rd_T25 x (n : Int)).f5, (rd_T25 x (n : Int)).f6, (rd_T25 x (n : Int)).f7, (rd_T25 x (n : Int)).f8, (rd_T25 x (n : Int)).f9, (rd_T25 x (n : Int)).f10, (rd_T25 x (n : Int)).f11, (rd_T25 x (n : Int)).f12⟩ : S25)) (by simp only [R, List.set_set]) ?_
    refine bstepPiece (z' := x.set ((n : Int)).toNat (⟨s, s + 1, s + 2, s + 3, (rd_T25 x (n : Int)).f4, (rd_T25 x (n : Int)).f5, (rd_T25 x (n : Int)).f6, (rd_T25 x (n : Int)).f7, (rd_T25 x (n : Int)).f8, (rd_T25 x (n : Int)).f9, (rd_T25 x (n : Int)).f10, (rd_T25 x (n : Int)).f11, (rd_T25 x (n : Int)).f12⟩ : S25)) (by simp only [R, List.set_set]) ?_
    refine bstepPiece (z' := x.set ((n : Int)).toNat (⟨s, s + 1, s + 2, s + 3, s + 4, (rd_T25 x (n : Int)).f5, (rd_T25 x (n : Int)).f6, (rd_T25 x (n : Int)).f7, (rd_T25 x (n : Int)).f8, (rd_T25 x (n : Int)).f9, (rd_T25 x (n : Int)).f10, (rd_T25 x (n : Int)).f11, (rd_T25 x (n : Int)).f12⟩ : S25)) (by simp only [R, List.set_set]) ?_
    refine bstepPiece (z' := x.set ((n : Int)).toNat (⟨s, s + 1, s + 2, s + 3, s + 4, s + 5, (rd_T25 x (n : Int)).f6, (rd_T25 x (n : Int)).f7, (rd_T25 x (n : Int)).f8, (rd_T25 x (n : Int)).f9, (rd_T25 x (n : Int)).f10, (rd_T25 x (n : Int)).f11, (rd_T25 x (n : Int)).f12⟩ : S25)) (by simp only [R, List.set_set]) ?_
    refine bstepPiece (z' := x.set ((n : Int)).toNat (⟨s, s + 1, s + 2, s + 3, s + 4, s + 5, s + 6, (rd_T25 x (n : Int)).f7, (rd_T25 x (n : Int)).f8, (rd_T25 x (n : Int)).f9, (rd_T25 x (n : Int)).f10, (rd_T25 x (n : Int)).f11, (rd_T25 x (n : Int)).f12⟩ : S25)) (by simp only [R, List.set_set]) ?_
    refine bstepPiece (z' := x.set ((n : Int)).toNat (⟨s, s + 1, s + 2, s + 3, s + 4, s + 5, s + 6, s + 7, (rd_T25 x (n : Int)).f8, (rd_T25 x (n : Int)).f9, (rd_T25 x (n : Int)).f10, (rd_T25 x (n : Int)).f11, (rd_T25 x (n : Int)).f12⟩ : S25)) (by simp only [R, List.set_set]) ?_
    refine bstepPiece (z' := x.set ((n : Int)).toNat (⟨s, s + 1, s + 2, s + 3, s + 4, s + 5, s + 6, s + 7, s + 8, (rd_T25 x (n : Int)).f9, (rd_T25 x (n : Int)).f10, (rd_T25 x (n : Int)).f11, (rd_T25 x (n : Int)).f12⟩ : S25)) (by simp only [R, List.set_set]) ?_
    refine bstepPiece (z' := x.set ((n : Int)).toNat (⟨s, s + 1, s + 2, s + 3, s + 4, s + 5, s + 6, s + 7, s + 8, s + 9, (rd_T25 x (n : Int)).f10, (rd_T25 x (n : Int)).f11, (rd_T25 x (n : Int)).f12⟩ : S25)) (by simp only [R, List.set_set]) ?_
    refine bstepPiece (z' := x.set ((n : Int)).toNat (⟨s, s + 1, s + 2, s + 3, s + 4, s + 5, s + 6, s + 7, s + 8, s + 9, s + 10, (rd_T25 x (n : Int)).f11, (rd_T25 x (n : Int)).f12⟩ : S25)) (by simp only [R, List.set_set]) ?_
    refine bstepPiece (z' := x.set ((n : Int)).toNat (⟨s, s + 1, s + 2, s + 3, s + 4, s + 5, s + 6, s + 7, s + 8, s + 9, s + 10, (Int.tmod (s + 11) 3 == 0), (rd_T25 x (n : Int)).f12⟩ : S25)) (by simp only [R, List.set_set]) ?_
    have e : (x.set ((n : Int)).toNat (mkPiece s)).take (n + 1) = x.take n ++ [mkPiece s] := by
      rw [Int.toNat_natCast, List.take_add_one, List.getElem?_set_self (by omega), List.take_set_of_le (Nat.le_refl _)]
      rfl
    have ih := markPieceS_x_l0 d k (n + 1) (x.set ((n : Int)).toNat (mkPiece s)) (s + 13) (by rw [List.length_set]; omega) (by omega) (by rw [List.length_set]; omega) (by omega) (by omega)
    rw [e, List.append_assoc] at ih
    have e2 : s + 13 + 13 * (d : Int) = s + 13 * ((d + 1 : Nat) : Int) := by omega
    rw [e2] at ih
    refine Eq.trans ?_ ih
    simp only [R, List.set_set]
    rfl
set_option maxHeartbeats 4000000 in
theorem heldPieceS_x_l0 : ∀ (d k n : Nat) (x : List S25) (s : Int), x.length = n → d < k → n + d ≤ 1048576 → 0 ≤ s → s + 13 * (d : Int) ≤ 4611686018427387904 → laws_heldPieceS.l0 k (x ++ mkPieceS s d) s (n : Int) = some (s + 13 * (d : Int))
  | 0, k, n, x, s, hn, hk, hb, h0, hz => by
    obtain ⟨k, rfl⟩ : ∃ q, k = q + 1 := ⟨k - 1, by omega⟩
    simp only [laws_heldPieceS.l0]
    rw [if_neg (by rw [List.length_append, mkPieceS_length]; omega)]
    simp
  | d + 1, k, n, x, s, hn, hk, hb, h0, hz => by
    obtain ⟨k, rfl⟩ : ∃ q, k = q + 1 := ⟨k - 1, by omega⟩
    have h1 : wrap64 (s + 1) = s + 1 := by unfold wrap64; omega
    have h2 : wrap64 (s + 1 + 1) = s + 2 := by unfold wrap64; omega
    have h3 : wrap64 (s + 2 + 1) = s + 3 := by unfold wrap64; omega
    have h4 : wrap64 (s + 3 + 1) = s + 4 := by unfold wrap64; omega
    have h5 : wrap64 (s + 4 + 1) = s + 5 := by unfold wrap64; omega
    have h6 : wrap64 (s + 5 + 1) = s + 6 := by unfold wrap64; omega
    have h7 : wrap64 (s + 6 + 1) = s + 7 := by unfold wrap64; omega
    have h8 : wrap64 (s + 7 + 1) = s + 8 := by unfold wrap64; omega
    have h9 : wrap64 (s + 8 + 1) = s + 9 := by unfold wrap64; omega
    have h10 : wrap64 (s + 9 + 1) = s + 10 := by unfold wrap64; omega
    have h11 : wrap64 (s + 10 + 1) = s + 11 := by unfold wrap64; omega
    have h12 : wrap64 (s + 11 + 1) = s + 12 := by unfold wrap64; omega
    have h13 : wrap64 (s + 12 + 1) = s + 13 := by unfold wrap64; omega
    have R : rd_T25 (x ++ mkPieceS s (d + 1)) (n : Int) = mkPiece s := rd_atPiece x _ n _ hn
    have ih := heldPieceS_x_l0 d k (n + 1) (x ++ [mkPiece s]) (s + 13) (by rw [List.length_append, hn]; rfl) (by omega) (by omega) (by omega) (by omega)
    rw [List.append_assoc] at ih
    simp only [laws_heldPieceS.l0]
    rw [if_pos (by rw [List.length_append, mkPieceS_length]; omega), if_pos (by omega), wrap_nat n (by omega), R]
    rw [h1, h2, h3, h4, h5, h6, h7, h8, h9, h10, h11, h12, h13]
    rw [if_pos (show (mkPiece s).f0 = s from rfl), if_pos (show (mkPiece s).f1 = s + 1 from rfl), if_pos (show (mkPiece s).f2 = s + 2 from rfl), if_pos (show (mkPiece s).f3 = s + 3 from rfl), if_pos (show (mkPiece s).f4 = s + 4 from rfl), if_pos (show (mkPiece s).f5 = s + 5 from rfl), if_pos (show (mkPiece s).f6 = s + 6 from rfl), if_pos (show (mkPiece s).f7 = s + 7 from rfl), if_pos (show (mkPiece s).f8 = s + 8 from rfl), if_pos (show (mkPiece s).f9 = s + 9 from rfl), if_pos (show (mkPiece s).f10 = s + 10 from rfl), if_neg (show ¬ ((mkPiece s).f11 != (Int.tmod (s + 11) 3 == 0)) = true by simp [mkPiece]), if_neg (show ¬ ((mkPiece s).f12 != (Int.tmod (s + 12) 3 == 0)) = true by simp [mkPiece])]
    have e2 : s + 13 + 13 * (d : Int) = s + 13 * ((d + 1 : Nat) : Int) := by omega
    rw [e2] at ih
    exact ih
def mkSide (s : Int) : S71 := ⟨s, s + 1, (Int.tmod (s + 2) 3 == 0)⟩
def mkSideS : Int → Nat → List S71
  | _, 0 => []
  | s, d + 1 => mkSide s :: mkSideS (s + 3) d
theorem mkSideS_length : ∀ (d : Nat) (s : Int), (mkSideS s d).length = d
  | 0, _ => rfl
  | d + 1, s => by unfold mkSideS; rw [List.length_cons, mkSideS_length d]
theorem rd_setSide (x : List S71) (n : Nat) (v : S71) (h : n < x.length) : rd_T71 (x.set ((n : Int)).toNat v) (n : Int) = v := by
  unfold rd_T71
  rw [Int.toNat_natCast, List.getD_eq_getElem?_getD, List.getElem?_set_self h]
  rfl
theorem rd_atSide (x y : List S71) (n : Nat) (v : S71) (h : x.length = n) : rd_T71 (x ++ v :: y) (n : Int) = v := by
  subst h
  unfold rd_T71
  rw [Int.toNat_natCast, List.getD_eq_getElem?_getD, List.getElem?_append_right (Nat.le_refl _), Nat.sub_self]
  rfl
theorem bstepSide {β : Type} {z z' : List S71} {f : List S71 → Option β} {r : Option β} (h : z = z') (h2 : f z' = r) : (some z).bind f = r := by rw [h]; exact h2
set_option maxHeartbeats 4000000 in
theorem markSideS_x_l0 : ∀ (d k n : Nat) (x : List S71) (s : Int), n + d = x.length → d < k → x.length ≤ 1048576 → 0 ≤ s → s + 3 * (d : Int) ≤ 4611686018427387904 → laws_markSideS.l0 k x s (n : Int) = some (s + 3 * (d : Int), x.take n ++ mkSideS s d)
  | 0, k, n, x, s, hn, hk, hb, h0, hz => by
    obtain ⟨k, rfl⟩ : ∃ q, k = q + 1 := ⟨k - 1, by omega⟩
    simp only [laws_markSideS.l0]
    rw [if_neg (by omega), List.take_of_length_le (by omega)]
    simp [mkSideS]
  | d + 1, k, n, x, s, hn, hk, hb, h0, hz => by
    obtain ⟨k, rfl⟩ : ∃ q, k = q + 1 := ⟨k - 1, by omega⟩
    have h1 : wrap64 (s + 1) = s + 1 := by unfold wrap64; omega
    have h2 : wrap64 (s + 1 + 1) = s + 2 := by unfold wrap64; omega
    have h3 : wrap64 (s + 2 + 1) = s + 3 := by unfold wrap64; omega
    have R : ∀ v, rd_T71 (x.set ((n : Int)).toNat v) (n : Int) = v := fun v => rd_setSide x n v (by omega)
    simp only [laws_markSideS.l0]
    rw [if_pos (by omega), if_pos (by omega), wrap_nat n (by omega)]
    rw [h1, h2, h3]
    refine bstepSide (z' := x.set ((n : Int)).toNat (⟨s, (rd_T71 x (n : Int)).f1, (rd_T71 x (n : Int)).f2⟩ : S71)) (by rfl) ?_
    refine bstepSide (z' := x.set ((n : Int)).toNat (⟨s, s + 1, (rd_T71 x (n : Int)).f2⟩ : S71)) (by simp only [R, List.set_set]) ?_
    have e : (x.set ((n : Int)).toNat (mkSide s)).take (n + 1) = x.take n ++ [mkSide s] := by
      rw [Int.toNat_natCast, List.take_add_one, List.getElem?_set_self (by omega), List.take_set_of_le (Nat.le_refl _)]
      rfl
    have ih := markSideS_x_l0 d k (n + 1) (x.set ((n : Int)).toNat (mkSide s)) (s + 3) (by rw [List.length_set]; omega) (by omega) (by rw [List.length_set]; omega) (by omega) (by omega)
    rw [e, List.append_assoc] at ih
    have e2 : s + 3 + 3 * (d : Int) = s + 3 * ((d + 1 : Nat) : Int) := by omega
    rw [e2] at ih
    refine Eq.trans ?_ ih
    simp only [R, List.set_set]
    rfl
set_option maxHeartbeats 4000000 in
theorem heldSideS_x_l0 : ∀ (d k n : Nat) (x : List S71) (s : Int), x.length = n → d < k → n + d ≤ 1048576 → 0 ≤ s → s + 3 * (d : Int) ≤ 4611686018427387904 → laws_heldSideS.l0 k (x ++ mkSideS s d) s (n : Int) = some (s + 3 * (d : Int))
  | 0, k, n, x, s, hn, hk, hb, h0, hz => by
    obtain ⟨k, rfl⟩ : ∃ q, k = q + 1 := ⟨k - 1, by omega⟩
    simp only [laws_heldSideS.l0]
    rw [if_neg (by rw [List.length_append, mkSideS_length]; omega)]
    simp
  | d + 1, k, n, x, s, hn, hk, hb, h0, hz => by
    obtain ⟨k, rfl⟩ : ∃ q, k = q + 1 := ⟨k - 1, by omega⟩
    have h1 : wrap64 (s + 1) = s + 1 := by unfold wrap64; omega
    have h2 : wrap64 (s + 1 + 1) = s + 2 := by unfold wrap64; omega
    have h3 : wrap64 (s + 2 + 1) = s + 3 := by unfold wrap64; omega
    have R : rd_T71 (x ++ mkSideS s (d + 1)) (n : Int) = mkSide s := rd_atSide x _ n _ hn
    have ih := heldSideS_x_l0 d k (n + 1) (x ++ [mkSide s]) (s + 3) (by rw [List.length_append, hn]; rfl) (by omega) (by omega) (by omega) (by omega)
    rw [List.append_assoc] at ih
    simp only [laws_heldSideS.l0]
    rw [if_pos (by rw [List.length_append, mkSideS_length]; omega), if_pos (by omega), wrap_nat n (by omega), R]
    rw [h1, h2, h3]
    rw [if_pos (show (mkSide s).f0 = s from rfl), if_pos (show (mkSide s).f1 = s + 1 from rfl), if_neg (show ¬ ((mkSide s).f2 != (Int.tmod (s + 2) 3 == 0)) = true by simp [mkSide])]
    have e2 : s + 3 + 3 * (d : Int) = s + 3 * ((d + 1 : Nat) : Int) := by omega
    rw [e2] at ih
    exact ih
theorem markState_x (k : Nat) (ps : List S25) (ss : List S71) (a c : Int) (hk : ps.length + ss.length < k) (hb : ps.length + ss.length ≤ 1048576) : laws_markState.f k ps ss a c 1 = some (1 + 13 * (ps.length : Int) + 3 * (ss.length : Int), mkPieceS 1 ps.length, mkSideS (1 + 13 * (ps.length : Int)) ss.length) := by
  have h1 : laws_markPieceS.f k ps 1 = some (1 + 13 * (ps.length : Int), mkPieceS 1 ps.length) := markPieceS_x_l0 ps.length k 0 ps 1 (by omega) (by omega) (by omega) (by omega) (by omega)
  have h2 : laws_markSideS.f k ss (1 + 13 * (ps.length : Int)) = some (1 + 13 * (ps.length : Int) + 3 * (ss.length : Int), mkSideS (1 + 13 * (ps.length : Int)) ss.length) := markSideS_x_l0 ss.length k 0 ss _ (by omega) (by omega) (by omega) (by omega) (by omega)
  unfold laws_markState.f
  rw [h1]
  simp only [Option.bind_some]
  rw [h2]
  rfl
theorem heldState_x (k n m : Nat) (a c : Int) (hk : n + m < k) (hb : n + m ≤ 1048576) : laws_heldState.f k (mkPieceS 1 n) (mkSideS (1 + 13 * (n : Int)) m) a c 1 = some (1 + 13 * (n : Int) + 3 * (m : Int)) := by
  have h1 : laws_heldPieceS.f k (mkPieceS 1 n) 1 = some (1 + 13 * (n : Int)) := heldPieceS_x_l0 n k 0 [] 1 rfl (by omega) (by omega) (by omega) (by omega)
  have h2 : laws_heldSideS.f k (mkSideS (1 + 13 * (n : Int)) m) (1 + 13 * (n : Int)) = some (1 + 13 * (n : Int) + 3 * (m : Int)) := heldSideS_x_l0 m k 0 [] _ rfl (by omega) (by omega) (by omega) (by omega)
  unfold laws_heldState.f
  rw [h1]
  simp only [Option.bind_some]
  rw [if_neg (by omega), h2]
  simp only [Option.bind_some]
  rw [if_neg (by omega)]

theorem eqPiece_same (x : S25) : laws_eqPiece.f (x.f0) (x.f1) (x.f2) (x.f3) (x.f4) (x.f5) (x.f6) (x.f7) (x.f8) (x.f9) (x.f10) (x.f11) (x.f12) (x.f0) (x.f1) (x.f2) (x.f3) (x.f4) (x.f5) (x.f6) (x.f7) (x.f8) (x.f9) (x.f10) (x.f11) (x.f12) = some true := by
  unfold laws_eqPiece.f
  simp only [if_true, bne_self_eq_false, Bool.false_eq_true, if_false]
theorem eqPieceS_l0 : ∀ (d k n : Nat) (a : List S25), n + d = a.length → d < k → a.length ≤ 4611686018427387904 → laws_eqPieceS.l0 k a a (n : Int) = some true
  | 0, k, n, a, hn, hk, hb => by
    obtain ⟨k, rfl⟩ : ∃ q, k = q + 1 := ⟨k - 1, by omega⟩
    simp only [laws_eqPieceS.l0]
    rw [if_neg (by omega)]
  | d + 1, k, n, a, hn, hk, hb => by
    obtain ⟨k, rfl⟩ : ∃ q, k = q + 1 := ⟨k - 1, by omega⟩
    simp only [laws_eqPieceS.l0]
    rw [if_pos (by omega), if_pos (by omega), if_pos (by omega), eqPiece_same (rd_T25 a (n : Int)), wrap_nat n (by omega)]
    simp only [Option.bind_some, if_true]
    exact eqPieceS_l0 d k (n + 1) a (by omega) (by omega) hb
theorem eqPieceS_same (k : Nat) (a : List S25) (hk : a.length < k) (hb : a.length ≤ 4611686018427387904) : laws_eqPieceS.f k a a = some true := by
  unfold laws_eqPieceS.f
  rw [if_pos rfl]
  exact eqPieceS_l0 a.length k 0 a (by omega) hk hb
theorem eqSide_same (x : S71) : laws_eqSide.f (x.f0) (x.f1) (x.f2) (x.f0) (x.f1) (x.f2) = some true := by
  unfold laws_eqSide.f
  simp only [if_true, bne_self_eq_false, Bool.false_eq_true, if_false]
theorem eqSideS_l0 : ∀ (d k n : Nat) (a : List S71), n + d = a.length → d < k → a.length ≤ 4611686018427387904 → laws_eqSideS.l0 k a a (n : Int) = some true
  | 0, k, n, a, hn, hk, hb => by
    obtain ⟨k, rfl⟩ : ∃ q, k = q + 1 := ⟨k - 1, by omega⟩
    simp only [laws_eqSideS.l0]
    rw [if_neg (by omega)]
  | d + 1, k, n, a, hn, hk, hb => by
    obtain ⟨k, rfl⟩ : ∃ q, k = q + 1 := ⟨k - 1, by omega⟩
    simp only [laws_eqSideS.l0]
    rw [if_pos (by omega), if_pos (by omega), if_pos (by omega), eqSide_same (rd_T71 a (n : Int)), wrap_nat n (by omega)]
    simp only [Option.bind_some, if_true]
    exact eqSideS_l0 d k (n + 1) a (by omega) (by omega) hb
theorem eqSideS_same (k : Nat) (a : List S71) (hk : a.length < k) (hb : a.length ≤ 4611686018427387904) : laws_eqSideS.f k a a = some true := by
  unfold laws_eqSideS.f
  rw [if_pos rfl]
  exact eqSideS_l0 a.length k 0 a (by omega) hk hb
theorem eqState_same (k : Nat) (ps : List S25) (ss : List S71) (a c : Int) (hk : ps.length + ss.length < k) (hb : ps.length + ss.length ≤ 1048576) : laws_eqState.f k ps ss a c ps ss a c = some true := by
  unfold laws_eqState.f
  rw [eqPieceS_same k ps (by omega) (by omega), eqSideS_same k ss (by omega) (by omega)]
  simp only [Option.bind_some, if_true]

theorem toByteS_l0 : ∀ (d k n : Nat) (l out : List Int), n + d = l.length → d < k → out.length = l.length → l.length ≤ 4611686018427387904 → (∀ j, j < n → out[j]? = l[j]?) → laws_toByteS.l0 k l out (n : Int) = some l
  | 0, k, n, l, out, hn, hk, hl, hb, h => by
    obtain ⟨k, rfl⟩ : ∃ q, k = q + 1 := ⟨k - 1, by omega⟩
    simp only [laws_toByteS.l0]
    rw [if_neg (by omega), ext_upto out l hl (fun j hj => h j (by omega))]
  | d + 1, k, n, l, out, hn, hk, hl, hb, h => by
    obtain ⟨k, rfl⟩ : ∃ q, k = q + 1 := ⟨k - 1, by omega⟩
    simp only [laws_toByteS.l0]
    rw [if_pos (by omega), if_pos (by omega), if_pos (by omega), wrap_nat n (by omega), Int.toNat_natCast]
    refine toByteS_l0 d k (n + 1) l _ (by omega) (by omega) (by rw [List.length_set]; exact hl) hb (fun j hj => ?_)
    by_cases e : n = j
    · subst e
      rw [List.getElem?_set_self (by omega), rd_nat l n (by omega)]
    · rw [List.getElem?_set_ne e]
      exact h j (by omega)
theorem toByteS_f (k : Nat) (l : List Int) (hk : l.length < k) (hb : l.length ≤ 281474976710656) : laws_toByteS.f k l = some l := by
  unfold laws_toByteS.f
  rw [if_pos (by omega), Int.toNat_natCast, if_pos (by omega)]
  exact toByteS_l0 l.length k 0 l _ (by omega) hk (by simp) (by omega) (fun j hj => by omega)

theorem eqByteS_l0 : ∀ (d k n : Nat) (a b : List Int), n + d = a.length → d < k → a.length = b.length → a.length ≤ 4611686018427387904 → (∀ j, j < n → a[j]? = b[j]?) → laws_eqByteS.l0 k a b (n : Int) = some (decide (a = b))
  | 0, k, n, a, b, hn, hk, hl, hb, h => by
    obtain ⟨k, rfl⟩ : ∃ q, k = q + 1 := ⟨k - 1, by omega⟩
    simp only [laws_eqByteS.l0]
    rw [if_neg (by omega), ext_upto a b hl (fun j hj => h j (by omega))]
    simp
  | d + 1, k, n, a, b, hn, hk, hl, hb, h => by
    obtain ⟨k, rfl⟩ : ∃ q, k = q + 1 := ⟨k - 1, by omega⟩
    simp only [laws_eqByteS.l0]
    rw [if_pos (by omega), if_pos (by omega), if_pos (by omega)]
    by_cases e : rd a (n : Int) = rd b (n : Int)
    · rw [if_pos e, wrap_nat n (by omega)]
      refine eqByteS_l0 d k (n + 1) a b (by omega) (by omega) hl hb (fun j hj => ?_)
      by_cases ej : j = n
      · subst ej
        rw [rd_nat a j (by omega), rd_nat b j (by omega), e]
      · exact h j (by omega)
    · rw [if_neg e, decide_eq_false]
      intro hab
      exact e (by rw [hab])
theorem eqByteS_f (k : Nat) (a b : List Int) (hk : a.length < k) (hb : a.length ≤ 4611686018427387904) : laws_eqByteS.f k a b = some (decide (a = b)) := by
  unfold laws_eqByteS.f
  by_cases hl : (a.length : Int) = (b.length : Int)
  · rw [if_pos hl]
    exact eqByteS_l0 a.length k 0 a b (by omega) hk (by omega) hb (fun j hj => by omega)
  · rw [if_neg hl, decide_eq_false]
    intro hab
    exact hl (by rw [hab])
theorem eqByteS_same (k : Nat) (a : List Int) (hk : a.length < k) (hb : a.length ≤ 4611686018427387904) : laws_eqByteS.f k a a = some true := by rw [eqByteS_f k a a hk hb]; simp

def marksByte (n : Nat) : List Int := (List.range n).map fun (j : Nat) => (1 + (j : Int)) % 256
theorem marksByte_length (n : Nat) : (marksByte n).length = n := by simp [marksByte]
theorem marksByte_at (n j : Nat) (h : j < n) : (marksByte n)[j]? = some ((1 + (j : Int)) % 256) := by simp [marksByte, h]
theorem markByteS_l0 : ∀ (d k n : Nat) (x : List Int), n + d = x.length → d < k → x.length ≤ 4611686018427387904 → (∀ j, j < n → x[j]? = some ((1 + (j : Int)) % 256)) → laws_markByteS.l0 k x (1 + (n : Int)) (n : Int) = some (1 + (x.length : Int), marksByte x.length)
  | 0, k, n, x, hn, hk, hb, h => by
    obtain ⟨k, rfl⟩ : ∃ q, k = q + 1 := ⟨k - 1, by omega⟩
    simp only [laws_markByteS.l0]
    rw [if_neg (by omega), ← ext_upto x (marksByte x.length) (marksByte_length _).symm (fun j hj => by rw [h j (by omega), marksByte_at _ j hj])]
    congr 2
    omega
  | d + 1, k, n, x, hn, hk, hb, h => by
    obtain ⟨k, rfl⟩ : ∃ q, k = q + 1 := ⟨k - 1, by omega⟩
    simp only [laws_markByteS.l0]
    have hw : wrap64 (1 + (n : Int) + 1) = 1 + ((n + 1 : Nat) : Int) := by unfold wrap64; omega
    rw [if_pos (by omega), if_pos (by omega), wrap_nat n (by omega), hw, Int.toNat_natCast]
    have hl : (x.set n ((1 + (n : Int)) % 256)).length = x.length := List.length_set ..
    have := markByteS_l0 d k (n + 1) (x.set n ((1 + (n : Int)) % 256)) (by omega) (by omega) (by omega) (fun j hj => ?_)
    · rw [hl] at this
      exact this
    · by_cases e : n = j
      · subst e
        rw [List.getElem?_set_self (by omega)]
      · rw [List.getElem?_set_ne e]
        exact h j (by omega)
theorem markByteS_f (k : Nat) (x : List Int) (hk : x.length < k) (hb : x.length ≤ 4611686018427387904) : laws_markByteS.f k x 1 = some (1 + (x.length : Int), marksByte x.length) := by
  unfold laws_markByteS.f
  exact markByteS_l0 x.length k 0 x (by omega) hk hb (fun j hj => by omega)

theorem bind_of {α β : Type} {x : Option α} {v : α} {f : α → Option β} {r : Option β} (h : x = some v) (h2 : f v = r) : x.bind f = r := by rw [h]; exact h2
theorem ite_of {α : Type} {c : Prop} [Decidable c] {a b r : α} (hc : c) (h : a = r) : (if c then a else b) = r := by rw [if_pos hc]; exact h
theorem ite_no {α : Type} {c : Prop} [Decidable c] {a b r : α} (hc : ¬ c) (h : b = r) : (if c then a else b) = r := by rw [if_neg hc]; exact h

theorem FnExactGetState : laws_FnExactGetState.Pure := by
  intro b hm hz hw
  by_cases hb : (b.length : Int) > 1048576
  · exact ⟨0, by unfold laws_FnExactGetState.f; rw [if_pos hb]⟩
  obtain ⟨k, hk⟩ : ∃ k : Nat, k = 4000000 := ⟨_, rfl⟩
  refine ⟨k, ?_⟩
  have hB : Bytes b := bytes_of_wf hw
  obtain ⟨r, S, I, hr⟩ := getstate_both b hB (by omega) k k (by omega) (by omega)
  have hl : r.1.length ≤ 8 ∧ r.2.1.length ≤ 3 := by
    rcases hr with h | h
    · rw [h]
      exact ⟨by decide, by decide⟩
    · exact stok_len h.2
  clear hr
  obtain ⟨ps, ss, x, y, q⟩ := r
  have lp : ps.length ≤ 8 := hl.1
  have ls : ss.length ≤ 3 := hl.2
  have T := toByteS_f k b (by omega) (by omega)
  have B := eqByteS_same k b (by omega) (by omega)
  have M := markByteS_f k b (by omega) (by omega)
  have E := eqState_same k ps ss x y (by omega) (by omega)
  have K := markState_x k ps ss x y (by omega) (by omega)
  have H := heldState_x k ps.length ss.length x y (by omega) (by omega)
  unfold laws_FnExactGetState.f
  rw [if_neg hb]
  refine bind_of T ?_
  refine bind_of S ?_
  refine bind_of T ?_
  refine bind_of I ?_
  refine bind_of E ?_
  refine ite_of rfl ?_
  refine ite_no (by simp) ?_
  refine bind_of T ?_
  refine bind_of B ?_
  refine ite_of rfl ?_
  refine bind_of M ?_
  refine ite_no (by first | omega | (simp only; omega)) ?_
  refine bind_of E ?_
  refine ite_of rfl ?_
  refine bind_of K ?_
  refine bind_of H ?_
  refine ite_no (by first | omega | (simp only; omega)) ?_
  refine ite_of rfl ?_
  refine bind_of T ?_
  refine bind_of I ?_
  refine bind_of E ?_
  refine ite_of rfl ?_
  refine ite_no (by simp) ?_
  refine bind_of H ?_
  refine ite_no (by first | omega | (simp only; omega)) ?_
  exact ite_of rfl rfl

end Go.Proofs.Ytfkidiagmekleaa.Pure
