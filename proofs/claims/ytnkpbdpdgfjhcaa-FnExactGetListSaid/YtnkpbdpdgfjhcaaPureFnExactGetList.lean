/- For every slice of bytes b of at most 2^20 bytes and every offset the program's GetList and the reference's GetList return the same, in new memory, and b stays as it was (of a longer b the law says nothing: it answers true). -/
import Derived.Test.YtnkpbdpdgfjhcaaQFnExactGetListx3
namespace Go.Proofs.Ytnkpbdpdgfjhcaa.Pure
open Go.RowKit Go.Proofs.Ytnkpbdpdgfjhcaa.QFnExactGetList Go.Proofs.YtnkpbdpdgfjhcaaW.PrintWords Go.Proofs.YtnkpbdpdgfjhcaaW.PrintLast
theorem wrap_nat (n : Nat) (h : n ≤ 4611686018427387904) : wrap64 ((n : Int) + 1) = ((n + 1 : Nat) : Int) := by unfold wrap64; omega
theorem rd_nat (l : List Int) (n : Nat) (h : n < l.length) : l[n]? = some (rd l (n : Int)) := by
  unfold rd
  rw [Int.toNat_natCast, List.getD_eq_getElem?_getD, List.getElem?_eq_getElem h]
  rfl
theorem ext_upto {α : Type} (a b : List α) (hl : a.length = b.length) (h : ∀ j, j < a.length → a[j]? = b[j]?) : a = b := by
  apply List.ext_getElem?
  intro j
  by_cases hj : j < a.length
  · exact h j hj
  · rw [List.getElem?_eq_none (by omega), List.getElem?_eq_none (by omega)]

theorem toByteS_l0 : ∀ (d k n : Nat) (l out : List Int), n + d = l.length → d < k → out.length = l.length → l.length ≤ 4611686018427387904 → (∀ j, j < n → out[j]? = l[j]?) → laws_toByteS.l0 k l out (n : Int) = some l
  | 0, k, n, l, out, hn, hk, hl, hb, h => by
    obtain ⟨k, rfl⟩ : ∃ q, k = q + 1 := ⟨k - 1, by omega⟩
    simp only [laws_toByteS.l0]
    rw [if_neg (by omega), ext_upto out l hl (fun j hj => h j (by omega))]
  | d + 1, k, n, l, out, hn, hk, hl, hb, h => by
    obtain ⟨k, rfl⟩ : ∃ q, k = q + 1 := ⟨k - 1, by omega⟩
    simp only [laws_toByteS.l0]
    rw [if_pos (by omega), if_pos (by omega), if_pos (by omega), wrap_nat n (by omega), Int.toNat_natCast]
    refine toByteS_l0 d k (n + 1) l _ (by omega) (by omega) (by rw [List.length_set]; exact hl) hb (fun j hj => ?_)
    by_cases e : n = j
    · subst e
      rw [List.getElem?_set_self (by omega), rd_nat l n (by omega)]
    · rw [List.getElem?_set_ne e]
      exact h j (by omega)
theorem toByteS_f (k : Nat) (l : List Int) (hk : l.length < k) (hb : l.length ≤ 281474976710656) : laws_toByteS.f k l = some l := by
  unfold laws_toByteS.f
  rw [if_pos (by omega), Int.toNat_natCast, if_pos (by omega)]
  exact toByteS_l0 l.length k 0 l _ (by omega) hk (by simp) (by omega) (fun j hj => by omega)

theorem eqByteS_l0 : ∀ (d k n : Nat) (a b : List Int), n + d = a.length → d < k → a.length = b.length → a.length ≤ 4611686018427387904 → (∀ j, j < n → a[j]? = b[j]?) → laws_eqByteS.l0 k a b (n : Int) = some (decide (a = b))
  | 0, k, n, a, b, hn, hk, hl, hb, h => by
    obtain ⟨k, rfl⟩ : ∃ q, k = q + 1 := ⟨k - 1, by omega⟩
    simp only [laws_eqByteS.l0]
    rw [if_neg (by omega), ext_upto a b hl (fun j hj => h j (by omega))]
    simp
  | d + 1, k, n, a, b, hn, hk, hl, hb, h => by
    obtain ⟨k, rfl⟩ : ∃ q, k = q + 1 := ⟨k - 1, by omega⟩
    simp only [laws_eqByteS.l0]
    rw [if_pos (by omega), if_pos (by omega), if_pos (by omega)]
    by_cases e : rd a (n : Int) = rd b (n : Int)
    · rw [if_pos e, wrap_nat n (by omega)]
      refine eqByteS_l0 d k (n + 1) a b (by omega) (by omega) hl hb (fun j hj => ?_)
      by_cases ej : j = n
      · subst ej
        rw [rd_nat a j (by omega), rd_nat b j (by omega), e]
      · exact h j (by omega)
    · rw [if_neg e, decide_eq_false]
      intro hab
      exact e (by rw [hab])
theorem eqByteS_f (k : Nat) (a b : List Int) (hk : a.length < k) (hb : a.length ≤ 4611686018427387904) : laws_eqByteS.f k a b = some (decide (a = b)) := by
  unfold laws_eqByteS.f
  by_cases hl : (a.length : Int) = (b.length : Int)
  · rw [if_pos hl]
    exact eqByteS_l0 a.length k 0 a b (by omega) hk (by omega) hb (fun j hj => by omega)
  · rw [if_neg hl, decide_eq_false]
    intro hab
    exact hl (by rw [hab])
theorem eqByteS_same (k : Nat) (a : List Int) (hk : a.length < k) (hb : a.length ≤ 4611686018427387904) : laws_eqByteS.f k a a = some true := by rw [eqByteS_f k a a hk hb]; simp

def marksByte (n : Nat) : List Int := (List.range n).map fun (j : Nat) => (1 + (j : Int)) % 256
theorem marksByte_length (n : Nat) : (marksByte n).length = n := by simp [marksByte]
theorem marksByte_at (n j : Nat) (h : j < n) : (marksByte n)[j]? = some ((1 + (j : Int)) % 256) := by simp [marksByte, h]
theorem markByteS_l0 : ∀ (d k n : Nat) (x : List Int), n + d = x.length → d < k → x.length ≤ 4611686018427387904 → (∀ j, j < n → x[j]? = some ((1 + (j : Int)) % 256)) → laws_markByteS.l0 k x (1 + (n : Int)) (n : Int) = some (1 + (x.length : Int), marksByte x.length)
  | 0, k, n, x, hn, hk, hb, h => by
    obtain ⟨k, rfl⟩ : ∃ q, k = q + 1 := ⟨k - 1, by omega⟩
    simp only [laws_markByteS.l0]
    rw [if_neg (by omega), ← ext_upto x (marksByte x.length) (marksByte_length _).symm (fun j hj => by rw [h j (by omega), marksByte_at _ j hj])]
    congr 2
    omega
  | d + 1, k, n, x, hn, hk, hb, h => by
    obtain ⟨k, rfl⟩ : ∃ q, k = q + 1 := ⟨k - 1, by omega⟩
    simp only [laws_markByteS.l0]
    have hw : wrap64 (1 + (n : Int) + 1) = 1 + ((n + 1 : Nat) : Int) := by unfold wrap64; omega
    rw [if_pos (by omega), if_pos (by omega), wrap_nat n (by omega), hw, Int.toNat_natCast]
    have hl : (x.set n ((1 + (n : Int)) % 256)).length = x.length := List.length_set ..
    have := markByteS_l0 d k (n + 1) (x.set n ((1 + (n : Int)) % 256)) (by omega) (by omega) (by omega) (fun j hj => ?_)
    · rw [hl] at this
      exact this
    · by_cases e : n = j
      · subst e
        rw [List.getElem?_set_self (by omega)]
      · rw [List.getElem?_set_ne e]
        exact h j (by omega)
theorem markByteS_f (k : Nat) (x : List Int) (hk : x.length < k) (hb : x.length ≤ 4611686018427387904) : laws_markByteS.f k x 1 = some (1 + (x.length : Int), marksByte x.length) := by
  unfold laws_markByteS.f
  exact markByteS_l0 x.length k 0 x (by omega) hk hb (fun j hj => by omega)

theorem eqIntS_l0 : ∀ (d k n : Nat) (a b : List Int), n + d = a.length → d < k → a.length = b.length → a.length ≤ 4611686018427387904 → (∀ j, j < n → a[j]? = b[j]?) → laws_eqIntS.l0 k a b (n : Int) = some (decide (a = b))
  | 0, k, n, a, b, hn, hk, hl, hb, h => by
    obtain ⟨k, rfl⟩ : ∃ q, k = q + 1 := ⟨k - 1, by omega⟩
    simp only [laws_eqIntS.l0]
    rw [if_neg (by omega), ext_upto a b hl (fun j hj => h j (by omega))]
    simp
  | d + 1, k, n, a, b, hn, hk, hl, hb, h => by
    obtain ⟨k, rfl⟩ : ∃ q, k = q + 1 := ⟨k - 1, by omega⟩
    simp only [laws_eqIntS.l0]
    rw [if_pos (by omega), if_pos (by omega), if_pos (by omega)]
    by_cases e : rd a (n : Int) = rd b (n : Int)
    · rw [if_pos e, wrap_nat n (by omega)]
      refine eqIntS_l0 d k (n + 1) a b (by omega) (by omega) hl hb (fun j hj => ?_)
      by_cases ej : j = n
      · subst ej
        rw [rd_nat a j (by omega), rd_nat b j (by omega), e]
      · exact h j (by omega)
    · rw [if_neg e, decide_eq_false]
      intro hab
      exact e (by rw [hab])
theorem eqIntS_f (k : Nat) (a b : List Int) (hk : a.length < k) (hb : a.length ≤ 4611686018427387904) : laws_eqIntS.f k a b = some (decide (a = b)) := by
  unfold laws_eqIntS.f
  by_cases hl : (a.length : Int) = (b.length : Int)
  · rw [if_pos hl]
    exact eqIntS_l0 a.length k 0 a b (by omega) hk (by omega) hb (fun j hj => by omega)
  · rw [if_neg hl, decide_eq_false]
    intro hab
    exact hl (by rw [hab])
theorem eqIntS_same (k : Nat) (a : List Int) (hk : a.length < k) (hb : a.length ≤ 4611686018427387904) : laws_eqIntS.f k a a = some true := by rw [eqIntS_f k a a hk hb]; simp

def marksInt (n : Nat) : List Int := (List.range n).map fun (j : Nat) => (1 + (j : Int))
theorem marksInt_length (n : Nat) : (marksInt n).length = n := by simp [marksInt]
theorem marksInt_at (n j : Nat) (h : j < n) : (marksInt n)[j]? = some ((1 + (j : Int))) := by simp [marksInt, h]
theorem markIntS_l0 : ∀ (d k n : Nat) (x : List Int), n + d = x.length → d < k → x.length ≤ 4611686018427387904 → (∀ j, j < n → x[j]? = some ((1 + (j : Int)))) → laws_markIntS.l0 k x (1 + (n : Int)) (n : Int) = some (1 + (x.length : Int), marksInt x.length)
  | 0, k, n, x, hn, hk, hb, h => by
    obtain ⟨k, rfl⟩ : ∃ q, k = q + 1 := ⟨k - 1, by omega⟩
    simp only [laws_markIntS.l0]
    rw [if_neg (by omega), ← ext_upto x (marksInt x.length) (marksInt_length _).symm (fun j hj => by rw [h j (by omega), marksInt_at _ j hj])]
    congr 2
    omega
  | d + 1, k, n, x, hn, hk, hb, h => by
    obtain ⟨k, rfl⟩ : ∃ q, k = q + 1 := ⟨k - 1, by omega⟩
    simp only [laws_markIntS.l0]
    have hw : wrap64 (1 + (n : Int) + 1) = 1 + ((n + 1 : Nat) : Int) := by unfold wrap64; omega
    rw [if_pos (by omega), if_pos (by omega), wrap_nat n (by omega), hw, Int.toNat_natCast]
    have hl : (x.set n ((1 + (n : Int)))).length = x.length := List.length_set ..
    have := markIntS_l0 d k (n + 1) (x.set n ((1 + (n : Int)))) (by omega) (by omega) (by omega) (fun j hj => ?_)
    · rw [hl] at this
      exact this
    · by_cases e : n = j
      · subst e
        rw [List.getElem?_set_self (by omega)]
      · rw [List.getElem?_set_ne e]
        exact h j (by omega)
theorem markIntS_f (k : Nat) (x : List Int) (hk : x.length < k) (hb : x.length ≤ 4611686018427387904) : laws_markIntS.f k x 1 = some (1 + (x.length : Int), marksInt x.length) := by
  unfold laws_markIntS.f
  exact markIntS_l0 x.length k 0 x (by omega) hk hb (fun j hj => by omega)

theorem heldIntS_l0 : ∀ (d k n m : Nat), n + d = m → d < k → m ≤ 4611686018427387904 → laws_heldIntS.l0 k (marksInt m) (1 + (n : Int)) (n : Int) = some (1 + (m : Int))
  | 0, k, n, m, hn, hk, hb => by
    obtain ⟨k, rfl⟩ : ∃ q, k = q + 1 := ⟨k - 1, by omega⟩
    simp only [laws_heldIntS.l0]
    rw [if_neg (by rw [marksInt_length]; omega)]
    congr 2
    omega
  | d + 1, k, n, m, hn, hk, hb => by
    obtain ⟨k, rfl⟩ : ∃ q, k = q + 1 := ⟨k - 1, by omega⟩
    simp only [laws_heldIntS.l0]
    have hw : wrap64 (1 + (n : Int) + 1) = 1 + ((n + 1 : Nat) : Int) := by unfold wrap64; omega
    have hr : rd (marksInt m) (n : Int) = (1 + (n : Int)) := by
      have := rd_nat (marksInt m) n (by rw [marksInt_length]; omega)
      rw [marksInt_at m n (by omega)] at this
      exact (Option.some.inj this).symm
    rw [if_pos (by rw [marksInt_length]; omega), if_pos (by omega), if_pos hr, wrap_nat n (by omega), hw]
    exact heldIntS_l0 d k (n + 1) m (by omega) (by omega) hb
theorem heldIntS_f (k : Nat) (m : Nat) (hk : m < k) (hb : m ≤ 4611686018427387904) : laws_heldIntS.f k (marksInt m) 1 = some (1 + (m : Int)) := by
  unfold laws_heldIntS.f
  exact heldIntS_l0 m k 0 m (by omega) hk hb

theorem neg1 (n : Nat) : (1 + (n : Int) < 0) = False := eq_false (by omega)

def Bytes (l : List Int) : Prop := ∀ x ∈ l, 0 ≤ x ∧ x ≤ 255
theorem bytes_of_wf {l : List Int} (h : ∀ x ∈ l, (Lit.int .u8 x).wf = true) : Bytes l := by
  intro x hx
  have := h x hx
  simp [Lit.wf, IntKind.min, IntKind.max, IntKind.signed, IntKind.bits] at this
  omega
theorem Bytes.rd {l : List Int} (h : Bytes l) (i : Int) : 0 ≤ rd l i ∧ rd l i ≤ 255 := by
  unfold Go.Proofs.YtnkpbdpdgfjhcaaW.PrintWords.rd
  rw [List.getD_eq_getElem?_getD]
  by_cases hi : i.toNat < l.length
  · rw [List.getElem?_eq_getElem hi]
    exact h _ (List.getElem_mem hi)
  · rw [List.getElem?_eq_none (by omega)]
    exact ⟨by decide, by decide⟩
def val4 (l : List Int) (i : Int) : Int := rd l i * 16777216 + rd l (i + 1) * 65536 + rd l (i + 2) * 256 + rd l (i + 3)
def gn (l : List Int) (i : Int) : Int × Int × Bool := if i < 0 ∨ i > (l.length : Int) - 4 then (0, 0, false) else if val4 l i = 0 then (0, 0, false) else (val4 l i - 2147483648, i + 4, true)
theorem orJoin (i : Nat) (x y : Int) (m : Int) (hm : m = 2 ^ i) (hmb : m ≤ 16777216) (h0 : 0 ≤ x) (hx : x % m = 0) (h1 : x < 4611686018427387904) (g0 : 0 ≤ y) (g1 : y < m) : Go.bits .or .i64 x y = x + y := by
  have hy1 : y < 9223372036854775808 := by omega
  have hi : i ≤ 62 := by
    rcases Nat.lt_or_ge 62 i with h | h
    · have h2 : (2 : Nat) ^ 62 ≤ 2 ^ i := Nat.pow_le_pow_right (by decide) (by omega)
      have h3 : ((2 ^ 62 : Nat) : Int) ≤ ((2 ^ i : Nat) : Int) := Int.ofNat_le.2 h2
      rw [Int.natCast_pow] at h3
      have h4 : ((2 : Nat) : Int) = 2 := rfl
      rw [h4, Int.natCast_pow, h4, ← hm] at h3
      omega
    · exact h
  subst hm
  exact bits_join .i64 63 (by decide) (fun n h0 h1 => by rw [IntKind.wrap_i64]; omega) i x y h0 hx (by omega) g0 g1 (by omega)
theorem impl_getnum (k : Nat) (l : List Int) (i : Int) (hB : Bytes l) (hb : l.length ≤ 4611686018427387904) (hk : 1 ≤ k) : impl_GetNum.f k l i = some (gn l i) := by
  obtain ⟨k, rfl⟩ : ∃ q, k = q + 1 := ⟨k - 1, by omega⟩
  unfold impl_GetNum.f gn
  by_cases h0 : i < 0
  · rw [if_pos h0, if_pos (Or.inl h0)]
    simp only [impl_GetNum.j0, if_true]
  · rw [if_neg h0]
    have hw : wrap64 ((l.length : Int) - 4) = (l.length : Int) - 4 := by unfold wrap64; omega
    rw [hw]
    by_cases h1 : i > (l.length : Int) - 4
    · rw [if_pos (Or.inr h1)]
      simp only [impl_GetNum.j0]
      rw [if_pos (by simpa using h1)]
    · rw [if_neg (by omega)]
      have e1 : wrap64 (i + 1) = i + 1 := by unfold wrap64; omega
      have e2 : wrap64 (i + 2) = i + 2 := by unfold wrap64; omega
      have e3 : wrap64 (i + 3) = i + 3 := by unfold wrap64; omega
      have e4 : wrap64 (i + 4) = i + 4 := by unfold wrap64; omega
      simp only [impl_GetNum.j0]
      rw [if_neg (by simpa using h1), e1, e2, e3, e4, if_pos (by omega), if_pos (by omega), if_pos (by omega), if_pos (by omega), if_pos (by omega), if_pos (by omega), if_pos (by omega), if_pos (by omega)]
      have r0 := hB.rd i
      have r1 := hB.rd (i + 1)
      have r2 := hB.rd (i + 2)
      have r3 := hB.rd (i + 3)
      unfold val4
      generalize rd l i = b0 at *
      generalize rd l (i + 1) = b1 at *
      generalize rd l (i + 2) = b2 at *
      generalize rd l (i + 3) = b3 at *
      have w0 : wrap64 ((wrap64 b0) * 16777216) = b0 * 16777216 := by unfold wrap64; omega
      have w1 : wrap64 ((wrap64 b1) * 65536) = b1 * 65536 := by unfold wrap64; omega
      have w2 : wrap64 ((wrap64 b2) * 256) = b2 * 256 := by unfold wrap64; omega
      have w3 : wrap64 b3 = b3 := by unfold wrap64; omega
      rw [w0, w1, w2, w3, orJoin 24 (b0 * 16777216) (b1 * 65536) 16777216 (by decide) (by decide) (by omega) (by omega) (by omega) (by omega) (by omega), orJoin 16 (b0 * 16777216 + b1 * 65536) (b2 * 256) 65536 (by decide) (by decide) (by omega) (by omega) (by omega) (by omega) (by omega), orJoin 8 (b0 * 16777216 + b1 * 65536 + b2 * 256) b3 256 (by decide) (by decide) (by omega) (by omega) (by omega) (by omega) (by omega)]
      have e5 : wrap64 (b0 * 16777216 + b1 * 65536 + b2 * 256 + b3 - 2147483648) = b0 * 16777216 + b1 * 65536 + b2 * 256 + b3 - 2147483648 := by unfold wrap64; omega
      rw [e5]
      by_cases hz : b0 * 16777216 + b1 * 65536 + b2 * 256 + b3 = 0
      · rw [if_pos hz, if_pos hz]
      · rw [if_neg hz, if_neg hz]
theorem spec_getnum_step (k : Nat) (l : List Int) (i x j : Int) (hB : Bytes l) (hb : l.length ≤ 4611686018427387904) (h0 : 0 ≤ i) (h1 : i + 4 ≤ (l.length : Int)) (hj0 : 0 ≤ j) (hj : j < 4) (hx0 : 0 ≤ x) (hx : x ≤ 4294967296) :
    spec_GetNum.l0 (k + 1) l i x j = spec_GetNum.l0 k l i (x * 256 + rd l (i + j)) (j + 1) := by
  have r0 := hB.rd (i + j)
  have e1 : wrap64 (i + j) = i + j := by unfold wrap64; omega
  have e2 : wrap64 (j + 1) = j + 1 := by unfold wrap64; omega
  simp only [spec_GetNum.l0]
  rw [if_pos hj, e1, e2, if_pos (by omega), if_pos (by omega)]
  congr 1
  unfold wrap64
  omega
theorem spec_getnum (k : Nat) (l : List Int) (i : Int) (hB : Bytes l) (hb : l.length ≤ 4611686018427387904) (hk : 6 ≤ k) : spec_GetNum.f k l i = some (gn l i) := by
  obtain ⟨k, rfl⟩ : ∃ q, k = q + 6 := ⟨k - 6, by omega⟩
  unfold spec_GetNum.f gn
  by_cases h0 : i < 0
  · rw [if_pos h0, if_pos (Or.inl h0)]
    simp only [spec_GetNum.j0, if_true]
  · rw [if_neg h0]
    have hw : wrap64 ((l.length : Int) - 4) = (l.length : Int) - 4 := by unfold wrap64; omega
    rw [hw]
    by_cases h1 : i > (l.length : Int) - 4
    · rw [if_pos (Or.inr h1)]
      simp only [spec_GetNum.j0]
      rw [if_pos (by simpa using h1)]
    · rw [if_neg (by omega)]
      have r0 := hB.rd (i + 0)
      have r1 := hB.rd (i + (0 + 1))
      have r2 := hB.rd (i + (0 + 1 + 1))
      have r3 := hB.rd (i + (0 + 1 + 1 + 1))
      simp only [spec_GetNum.j0]
      rw [if_neg (by simpa using h1), spec_getnum_step (k + 4) l i 0 0 hB hb (by omega) (by omega) (by omega) (by omega) (by omega) (by omega),
        spec_getnum_step (k + 3) l i _ _ hB hb (by omega) (by omega) (by omega) (by omega) (by omega) (by omega),
        spec_getnum_step (k + 2) l i _ _ hB hb (by omega) (by omega) (by omega) (by omega) (by omega) (by omega),
        spec_getnum_step (k + 1) l i _ _ hB hb (by omega) (by omega) (by omega) (by omega) (by omega) (by omega)]
      simp only [spec_GetNum.l0]
      have hv : ((((0 : Int) * 256 + rd l (i + 0)) * 256 + rd l (i + (0 + 1))) * 256 + rd l (i + (0 + 1 + 1))) * 256 + rd l (i + (0 + 1 + 1 + 1)) = val4 l i := by
        unfold val4
        rw [show i + 0 = i from by omega, show i + (0 + 1) = i + 1 from by omega, show i + (0 + 1 + 1) = i + 2 from by omega, show i + (0 + 1 + 1 + 1) = i + 3 from by omega]
        omega
      rw [if_neg (by omega), hv]
      have hr : 0 ≤ val4 l i ∧ val4 l i ≤ 4294967295 := by rw [← hv]; omega
      by_cases hz : val4 l i = 0
      · rw [if_pos hz, if_pos hz]
      · rw [if_neg hz, if_neg hz]
        have e4 : wrap64 (i + 4) = i + 4 := by unfold wrap64; omega
        have e5 : wrap64 (val4 l i - 2147483648) = val4 l i - 2147483648 := by unfold wrap64; omega
        rw [e4, e5]

def glr (b : List Int) : Nat → Int → List Int → List Int × Int × Bool
  | 0, i, acc => (acc, i, true)
  | d + 1, i, acc => if (gn b i).2.2 = true then glr b d (gn b i).2.1 (acc ++ [(gn b i).1]) else ([], 0, false)
theorem glr_length (b : List Int) : ∀ (d : Nat) (i : Int) (acc : List Int), (glr b d i acc).1.length ≤ acc.length + d
  | 0, i, acc => by unfold glr; exact Nat.le_refl _
  | d + 1, i, acc => by
    unfold glr
    split
    · have := glr_length b d (gn b i).2.1 (acc ++ [(gn b i).1])
      rw [List.length_append, List.length_singleton] at this
      omega
    · simp
def glist (b : List Int) (i : Int) : List Int × Int × Bool := if i < 0 ∨ i ≥ (b.length : Int) then ([], 0, false) else glr b (rd b i).toNat (i + 1) []
theorem glist_length (b : List Int) (i : Int) (hB : Bytes b) : (glist b i).1.length ≤ 255 := by
  unfold glist
  split
  · simp
  · have := glr_length b (rd b i).toNat (i + 1) []
    have h1 := hB.rd i
    simp only [List.length_nil] at this
    omega
theorem spec_getlist_l0 (b : List Int) (hB : Bytes b) (hb : b.length ≤ 4611686018427387904) : ∀ (d k : Nat) (i : Int) (acc : List Int), d + 8 ≤ k → d ≤ 1000000 → acc.length + d < 17592186044416 → spec_GetList.l0 k b acc i (d : Int) = some (glr b d i acc)
  | 0, k, i, acc, hk, hd, ha => by
    obtain ⟨k, rfl⟩ : ∃ q, k = q + 1 := ⟨k - 1, by omega⟩
    simp only [spec_GetList.l0]
    rw [if_neg (by omega)]
    rfl
  | d + 1, k, i, acc, hk, hd, ha => by
    obtain ⟨k, rfl⟩ : ∃ q, k = q + 1 := ⟨k - 1, by omega⟩
    simp only [spec_GetList.l0]
    have hw : wrap64 (((d + 1 : Nat) : Int) - 1) = (d : Int) := by unfold wrap64; omega
    rw [if_pos (by omega), spec_getnum k b i hB hb (by omega), hw]
    simp only [Option.bind_some, glr]
    by_cases h : (gn b i).2.2 = true
    · rw [if_pos h, if_pos h, if_pos (by omega)]
      exact spec_getlist_l0 b hB hb d k _ _ (by omega) (by omega) (by rw [List.length_append, List.length_singleton]; omega)
    · rw [if_neg h, if_neg h]
theorem impl_getlist_l0 (b : List Int) (hB : Bytes b) (hb : b.length ≤ 4611686018427387904) : ∀ (d k n c : Nat) (i : Int) (acc : List Int), n + d = c → d + 8 ≤ k → c ≤ 1000000 → acc.length + d < 17592186044416 → impl_GetList.l0 k b acc i (c : Int) (n : Int) = some (glr b d i acc)
  | 0, k, n, c, i, acc, hn, hk, hd, ha => by
    obtain ⟨k, rfl⟩ : ∃ q, k = q + 1 := ⟨k - 1, by omega⟩
    simp only [impl_GetList.l0]
    rw [if_neg (by omega)]
    rfl
  | d + 1, k, n, c, i, acc, hn, hk, hd, ha => by
    obtain ⟨k, rfl⟩ : ∃ q, k = q + 1 := ⟨k - 1, by omega⟩
    simp only [impl_GetList.l0]
    rw [if_pos (by omega), impl_getnum k b i hB hb (by omega), wrap_nat n (by omega)]
    simp only [Option.bind_some, glr]
    by_cases h : (gn b i).2.2 = true
    · rw [if_pos h, if_pos h, if_pos (by omega)]
      exact impl_getlist_l0 b hB hb d k (n + 1) c _ _ (by omega) (by omega) (by omega) (by rw [List.length_append, List.length_singleton]; omega)
    · rw [if_neg h, if_neg h]
theorem spec_getlist (k : Nat) (b : List Int) (i : Int) (hB : Bytes b) (hb : b.length ≤ 4611686018427387) (hk : 300 ≤ k) : spec_GetList.f k b i = some (glist b i) := by
  obtain ⟨k, rfl⟩ : ∃ q, k = q + 1 := ⟨k - 1, by omega⟩
  have h1 := hB.rd i
  unfold spec_GetList.f glist
  simp only [Option.bind_some]
  by_cases h0 : i < 0
  · rw [if_pos h0, if_pos (Or.inl h0)]
    simp only [spec_GetList.j0, if_true]
  · rw [if_neg h0]
    by_cases h2 : i ≥ (b.length : Int)
    · rw [if_pos (Or.inr h2)]
      simp only [spec_GetList.j0]
      rw [if_pos (by simpa using h2)]
    · rw [if_neg (by omega)]
      simp only [spec_GetList.j0]
      have e1 : wrap64 (i + 1) = i + 1 := by unfold wrap64; omega
      have e2 : wrap64 (rd b i) = (((rd b i).toNat : Nat) : Int) := by unfold wrap64; omega
      rw [if_neg (by simpa using h2), if_pos (by omega), if_pos (by omega), e1, e2]
      exact spec_getlist_l0 b hB (by omega) _ k _ _ (by omega) (by omega) (by simp only [List.length_nil]; omega)
theorem impl_getlist (k : Nat) (b : List Int) (i : Int) (hB : Bytes b) (hb : b.length ≤ 4611686018427387) (hk : 300 ≤ k) : impl_GetList.f k b i = some (glist b i) := by
  obtain ⟨k, rfl⟩ : ∃ q, k = q + 1 := ⟨k - 1, by omega⟩
  have h1 := hB.rd i
  unfold impl_GetList.f glist
  by_cases h0 : i < 0
  · rw [if_pos h0, if_pos (Or.inl h0)]
    simp only [impl_GetList.j0, if_true]
  · rw [if_neg h0]
    by_cases h2 : i ≥ (b.length : Int)
    · rw [if_pos (Or.inr h2)]
      simp only [impl_GetList.j0]
      rw [if_pos (by simpa using h2)]
    · rw [if_neg (by omega)]
      simp only [impl_GetList.j0]
      have e1 : wrap64 (i + 1) = i + 1 := by unfold wrap64; omega
      have e2 : wrap64 (rd b i) = (((rd b i).toNat : Nat) : Int) := by unfold wrap64; omega
      rw [if_neg (by simpa using h2), if_pos (by omega), if_pos (by omega), e1, e2]
      exact impl_getlist_l0 b hB (by omega) _ k 0 _ _ _ (by omega) (by omega) (by omega) (by simp only [List.length_nil]; omega)

set_option maxHeartbeats 4000000 in
theorem FnExactGetList : laws_FnExactGetList.Pure := by
  intro b i _ _ hB _
  have hB := bytes_of_wf hB
  by_cases hb : (b.length : Int) > 1048576
  · exact ⟨0, by unfold laws_FnExactGetList.f; rw [if_pos hb]⟩
  have hg := glist_length b i hB
  have e1 : ∀ k, b.length + 400 ≤ k → spec_GetList.f k b i = some (glist b i) := fun k hk => spec_getlist k b i hB (by omega) (by omega)
  have e2 : ∀ k, b.length + 400 ≤ k → impl_GetList.f k b i = some (glist b i) := fun k hk => impl_getlist k b i hB (by omega) (by omega)
  generalize glist b i = g at *
  obtain ⟨gl, gi, gb⟩ := g
  simp only at hg
  refine ⟨b.length + 1000, ?_⟩
  unfold laws_FnExactGetList.f
  rw [if_neg hb, toByteS_f _ b (by omega) (by omega)]
  simp only [Option.bind_some]
  rw [e1 _ (by omega), e2 _ (by omega)]
  simp only [Option.bind_some]
  rw [eqIntS_same _ gl (by omega) (by omega)]
  simp only [Option.bind_some, if_true, bne_self_eq_false, laws_FnExactGetList.j0, Bool.false_eq_true, if_false]
  rw [toByteS_f _ b (by omega) (by omega)]
  simp only [Option.bind_some]
  rw [eqByteS_same _ b (by omega) (by omega)]
  simp only [Option.bind_some, if_true]
  rw [markByteS_f _ b (by omega) (by omega)]
  simp only [Option.bind_some]
  rw [if_neg (by omega), eqIntS_same _ gl (by omega) (by omega)]
  simp only [Option.bind_some, if_true, laws_FnExactGetList.j1, Bool.false_eq_true, if_false]
  rw [markIntS_f _ gl (by omega) (by omega)]
  simp only [Option.bind_some]
  rw [heldIntS_f _ _ (by omega) (by omega)]
  simp only [Option.bind_some]
  rw [if_neg (by omega), if_pos trivial, toByteS_f _ b (by omega) (by omega)]
  simp only [Option.bind_some]
  rw [e2 _ (by omega)]
  simp only [Option.bind_some]
  rw [eqIntS_same _ gl (by omega) (by omega)]
  simp only [Option.bind_some, if_true, bne_self_eq_false, laws_FnExactGetList.j2, Bool.false_eq_true, if_false]
  rw [heldIntS_f _ _ (by omega) (by omega)]
  simp only [Option.bind_some]
  rw [if_neg (by omega), if_pos trivial]

end Go.Proofs.Ytnkpbdpdgfjhcaa.Pure
