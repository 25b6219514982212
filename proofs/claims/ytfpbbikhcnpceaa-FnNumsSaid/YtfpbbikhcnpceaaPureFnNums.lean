/- Whatever bytes it is handed, the law FnNums answers true: a drawn amount is read back, within the bounds, from where the program wrote it behind drawn bytes, which stay, and what the program reads of drawn bytes is what the reference reads and is written just so (for more than 2^20 bytes the law says nothing: it answers true). -/
import Derived.Test.YtfpbbikhcnpceaaQFnNumsx3
namespace Go.Proofs.Ytfpbbikhcnpceaa.Pure
open Go.RowKit Go.Proofs.Ytfpbbikhcnpceaa.QFnNums Go.Proofs.YtfpbbikhcnpceaaW.PrintWords Go.Proofs.YtfpbbikhcnpceaaW.PrintLast
theorem wrap_nat (n : Nat) (h : n ≤ 4611686018427387904) : wrap64 ((n : Int) + 1) = ((n + 1 : Nat) : Int) := by unfold wrap64; omega
theorem rd_nat (l : List Int) (n : Nat) (h : n < l.length) : l[n]? = some (rd l (n : Int)) := by
  unfold rd
  rw [Int.toNat_natCast, List.getD_eq_getElem?_getD, List.getElem?_eq_getElem h]
  rfl
theorem ext_upto {α : Type} (a b : List α) (hl : a.length = b.length) (h : ∀ j, j < a.length → a[j]? = b[j]?) : a = b := by
  apply List.ext_getElem?
  intro j
  by_cases hj : j < a.length
  · exact h j hj
  · rw [List.getElem?_eq_none (by omega), List.getElem?_eq_none (by omega)]

theorem and_bound (x : Int) (m : Nat) (hm : m < 4611686018427387904) : 0 ≤ Go.bits .and .i64 x (m : Int) ∧ Go.bits .and .i64 x (m : Int) ≤ (m : Int) := by
  have h : ((BitVec.ofInt 64 x) &&& (BitVec.ofInt 64 (m : Int))).toNat ≤ m := by
    rw [BitVec.toNat_and, BitVec.ofInt_natCast, BitVec.toNat_ofNat, Nat.mod_eq_of_lt (by omega)]
    exact Nat.and_le_right
  show 0 ≤ IntKind.i64.wrap ((((BitVec.ofInt 64 x) &&& (BitVec.ofInt 64 (m : Int))).toNat : Nat) : Int) ∧ IntKind.i64.wrap ((((BitVec.ofInt 64 x) &&& (BitVec.ofInt 64 (m : Int))).toNat : Nat) : Int) ≤ (m : Int)
  generalize ((BitVec.ofInt 64 x) &&& (BitVec.ofInt 64 (m : Int))).toNat = q at *
  rw [IntKind.wrap_i64]
  omega
theorem and_byte (x : Int) : 0 ≤ Go.bits .and .i64 x 255 ∧ Go.bits .and .i64 x 255 ≤ 255 := and_bound x 255 (by decide)
/-- A place of the reader: within the bytes. -/
def At (b : List Int) (i : Int) : Prop := 0 ≤ i ∧ i ≤ (b.length : Int)
theorem draw_byte (b : List Int) (i h : Int) (hb : b.length ≤ 1048576) (hi : At b i) : ∃ v i' h', spec_l1Byte.f b i h = some (v, i', h') ∧ (0 ≤ v ∧ v ≤ 255) ∧ At b i' := by
  unfold spec_l1Byte.f
  unfold At at *
  by_cases h1 : i < (b.length : Int)
  · rw [if_pos h1, if_pos hi.1]
    exact ⟨_, _, _, rfl, and_byte _, by unfold wrap64; omega⟩
  · rw [if_neg h1]
    exact ⟨_, _, _, rfl, and_byte _, by omega⟩
theorem draw_below (b : List Int) (i h n : Int) (hb : b.length ≤ 1048576) (hi : At b i) (hn : n ≤ 65536) : ∃ v i' h', spec_l1Below.f b i h n = some (v, i', h') ∧ (0 ≤ v ∧ (0 < n → v < n) ∧ (n ≤ 0 → v = 0)) ∧ At b i' := by
  unfold spec_l1Below.f
  by_cases h0 : n ≤ 0
  · rw [if_pos h0]
    exact ⟨_, _, _, rfl, ⟨by omega, by omega, by omega⟩, hi⟩
  · rw [if_neg h0]
    by_cases h1 : n ≤ 256
    · rw [if_pos h1]
      obtain ⟨v, i', h', hv, hr, hi'⟩ := draw_byte b i h hb hi
      rw [hv]
      simp only [Option.bind_some]
      rw [if_neg (by omega), Int.tmod_eq_emod_of_nonneg hr.1]
      exact ⟨_, _, _, rfl, ⟨Int.emod_nonneg _ (by omega), fun _ => Int.emod_lt_of_pos _ (by omega), by omega⟩, hi'⟩
    · rw [if_neg h1]
      obtain ⟨v, i1, h1', hv, hr, hi1⟩ := draw_byte b i h hb hi
      rw [hv]
      simp only [Option.bind_some]
      obtain ⟨v2, i2, h2', hv2, hr2, hi2⟩ := draw_byte b i1 h1' hb hi1
      rw [hv2]
      simp only [Option.bind_some]
      obtain ⟨v3, i3, h3', hv3, hr3, hi3⟩ := draw_byte b i2 h2' hb hi2
      rw [hv3]
      simp only [Option.bind_some]
      have hp : 0 ≤ wrap64 ((wrap64 ((wrap64 (v * 65536)) + (wrap64 (v2 * 256)))) + v3) := by unfold wrap64; omega
      rw [if_neg (by omega), Int.tmod_eq_emod_of_nonneg hp]
      exact ⟨_, _, _, rfl, ⟨Int.emod_nonneg _ (by omega), fun _ => Int.emod_lt_of_pos _ (by omega), by omega⟩, hi3⟩
theorem draw_new_l0 : ∀ (d k : Nat) (b : List Int) (h i : Int), (b.length : Int) - i = (d : Int) → 0 ≤ i → d < k → b.length ≤ 1048576 → ∃ h', spec_l1New.l0 k b h i = some (b, 0, h')
  | 0, k, b, h, i, hd, hi, hk, hb => by
    obtain ⟨k, rfl⟩ : ∃ q, k = q + 1 := ⟨k - 1, by omega⟩
    simp only [spec_l1New.l0]
    rw [if_neg (by omega)]
    exact ⟨_, rfl⟩
  | d + 1, k, b, h, i, hd, hi, hk, hb => by
    obtain ⟨k, rfl⟩ : ∃ q, k = q + 1 := ⟨k - 1, by omega⟩
    simp only [spec_l1New.l0]
    rw [if_pos (by omega)]
    by_cases h4 : i < 4000
    · rw [if_pos h4, if_pos hi]
      have hw : wrap64 (i + 1) = i + 1 := by unfold wrap64; omega
      rw [hw]
      exact draw_new_l0 d k b _ (i + 1) (by omega) (by omega) (by omega) hb
    · rw [if_neg h4]
      exact ⟨_, rfl⟩
theorem draw_new (k : Nat) (b : List Int) (hk : b.length < k) (hb : b.length ≤ 1048576) : ∃ h', spec_l1New.f k b = some (b, 0, h') := by
  unfold spec_l1New.f
  exact draw_new_l0 b.length k b _ 0 (by omega) (by omega) hk hb
theorem at_zero (b : List Int) : At b 0 := ⟨by omega, by omega⟩

theorem draw_once (b : List Int) (i h n : Int) (hb : b.length ≤ 1048576) (hi : At b i) (hn : n ≤ 65536) : ∃ v i' h', spec_l1Once.f b i h n = some (v, i', h') ∧ At b i' := by
  obtain ⟨v, i', h', hv, hr, hi'⟩ := draw_below b i h n hb hi hn
  unfold spec_l1Once.f
  rw [hv]
  exact ⟨_, _, _, rfl, hi'⟩
theorem draw_int (b : List Int) (i h : Int) (l : List Int) (hb : b.length ≤ 1048576) (hi : At b i) (hl : 0 < l.length) (hl2 : l.length ≤ 65536) : ∃ v i' h', spec_l1Int.f b i h l = some (v, i', h') ∧ v ∈ l ∧ At b i' := by
  obtain ⟨v, i', h', hv, hr, hi'⟩ := draw_below b i h (l.length : Int) hb hi (by omega)
  have h2 := hr.2.1 (by omega)
  unfold spec_l1Int.f
  rw [hv]
  simp only [Option.bind_some]
  rw [if_pos hr.1, if_pos h2]
  refine ⟨_, _, _, rfl, ?_, hi'⟩
  have := rd_nat l v.toNat (by omega)
  rw [Int.toNat_of_nonneg hr.1] at this
  exact List.mem_of_getElem? this
theorem mem_i64 (l : List Int) (hl : l.all (fun v => decide (-9223372036854775808 ≤ v) && decide (v ≤ 9223372036854775807)) = true) (v : Int) (h : v ∈ l) : -9223372036854775808 ≤ v ∧ v ≤ 9223372036854775807 := by
  have := List.all_eq_true.1 hl v h
  simpa using this

theorem draw_odd (b : List Int) (i h : Int) (hb : b.length ≤ 1048576) (hi : At b i) : ∃ v i' h', spec_l1Odd.f b i h = some (v, i', h') ∧ (-9223372036854775808 ≤ v ∧ v ≤ 9223372036854775807) ∧ At b i' := by
  obtain ⟨v, i', h', hv, hm, hi'⟩ := draw_int b i h (hb := hb) (hi := hi) (l := [(-1), 0, 1, 2, 255, 256, 65535, 2147483647, 2147483648, 4294967295, 4294967296, (-2147483648), 9223372036854775807, (-9223372036854775808)]) (by decide) (by decide)
  unfold spec_l1Odd.f
  rw [hv]
  exact ⟨_, _, _, rfl, mem_i64 _ (by decide) v hm, hi'⟩
theorem draw_raw (b : List Int) (i h : Int) (hb : b.length ≤ 1048576) (hi : At b i) : ∃ v i' h', spec_l1Raw.f b i h = some (v, i', h') ∧ (-9223372036854775808 ≤ v ∧ v ≤ 9223372036854775807) ∧ At b i' := by
  obtain ⟨v, i1, h1, hv, hi1⟩ := draw_once b i h 2 hb hi (by decide)
  unfold spec_l1Raw.f
  rw [hv]
  simp only [Option.bind_some]
  cases v with
  | true =>
    obtain ⟨v2, i2, h2, hv2, hr2, hi2⟩ := draw_odd b i1 h1 hb hi1
    rw [if_pos rfl, hv2]
    exact ⟨_, _, _, rfl, hr2, hi2⟩
  | false =>
    obtain ⟨v2, i2, h2, hv2, hm, hi2⟩ := draw_int b i1 h1 (hb := hb) (hi := hi1) (l := [(-2147483648), (-2147483647), (-3), (-1), 0, 1, 3, 7, 2147483647, 2147483648]) (by decide) (by decide)
    rw [if_neg (by decide), hv2]
    exact ⟨_, _, _, rfl, mem_i64 _ (by decide) v2 hm, hi2⟩

def bnd (n : Int) : Int := if n > 2147483647 then 2147483647 else if n < -2147483647 then -2147483647 else n

theorem spec_bound (n : Int) : spec_Bound.f n = some (bnd n) := by
  unfold spec_Bound.f bnd
  by_cases h1 : n > 2147483647
  · rw [if_pos h1, if_pos h1]
  · rw [if_neg h1, if_neg h1]
    by_cases h2 : n < -2147483647
    · rw [if_pos h2, if_pos h2]
    · rw [if_neg h2, if_neg h2]

theorem impl_bound (n : Int) : impl_Bound.f n = some (bnd n) := by
  unfold impl_Bound.f bnd mx mn
  congr 1
  split <;> split <;> (try split) <;> omega


theorem bnd_range (n : Int) : -2147483647 ≤ bnd n ∧ bnd n ≤ 2147483647 := by
  unfold bnd
  split
  · omega
  · split <;> omega
def code (n : Int) : List Int := [(bnd n + 2147483648) / 16777216, (bnd n + 2147483648) / 65536 % 256, (bnd n + 2147483648) / 256 % 256, (bnd n + 2147483648) % 256]
theorem code_length (n : Int) : (code n).length = 4 := rfl
theorem and255 (x : Int) (h0 : 0 ≤ x) (h : x ≤ 4611686018427387904) : Go.bits .and .i64 x 255 = x % 256 :=
  bits_mask .i64 63 (by decide) (fun n h0 h1 => by rw [IntKind.wrap_i64]; omega) 8 (by decide) x h0 (by omega)
theorem impl_putnum (l : List Int) (n : Int) (hb : l.length < 140737488355000) : impl_PutNum.f l n = some (l ++ code n) := by
  have hr := bnd_range n
  have hw : wrap64 (bnd n + 2147483648) = bnd n + 2147483648 := by unfold wrap64; omega
  unfold impl_PutNum.f slices_Clone_byte_byte.f
  rw [impl_bound]
  simp only [Option.bind_some, List.length_nil, List.nil_append, List.length_cons]
  rw [if_pos (by omega)]
  simp only [Option.bind_some]
  rw [if_pos (by omega), hw]
  unfold code
  congr 4
  omega
theorem spec_putnum (l : List Int) (n : Int) (hb : l.length < 140737488355000) : spec_PutNum.f l n = some (l ++ code n) := by
  have hr := bnd_range n
  have hw : wrap64 (bnd n + 2147483648) = bnd n + 2147483648 := by unfold wrap64; omega
  unfold spec_PutNum.f
  rw [spec_bound]
  simp only [Option.bind_some, List.length_nil, List.nil_append, List.length_cons]
  rw [if_pos (by omega)]
  rw [if_pos (by omega), hw, and255 _ (by omega) (by omega), and255 _ (by omega) (by omega), and255 _ (by omega) (by omega), and255 _ (by omega) (by omega)]
  unfold code
  congr 3
  · omega
  · congr 1
    · omega
    · congr 1
      · omega
      · congr 1
        omega

def Bytes (l : List Int) : Prop := ∀ x ∈ l, 0 ≤ x ∧ x ≤ 255
theorem bytes_of_wf {l : List Int} (h : ∀ x ∈ l, (Lit.int .u8 x).wf = true) : Bytes l := by
  intro x hx
  have := h x hx
  simp [Lit.wf, IntKind.min, IntKind.max, IntKind.signed, IntKind.bits] at this
  omega
theorem Bytes.rd {l : List Int} (h : Bytes l) (i : Int) : 0 ≤ rd l i ∧ rd l i ≤ 255 := by
  unfold Go.Proofs.YtfpbbikhcnpceaaW.PrintWords.rd
  rw [List.getD_eq_getElem?_getD]
  by_cases hi : i.toNat < l.length
  · rw [List.getElem?_eq_getElem hi]
    exact h _ (List.getElem_mem hi)
  · rw [List.getElem?_eq_none (by omega)]
    exact ⟨by decide, by decide⟩
def val4 (l : List Int) (i : Int) : Int := rd l i * 16777216 + rd l (i + 1) * 65536 + rd l (i + 2) * 256 + rd l (i + 3)
def gn (l : List Int) (i : Int) : Int × Int × Bool := if i < 0 ∨ i > (l.length : Int) - 4 then (0, 0, false) else if val4 l i = 0 then (0, 0, false) else (val4 l i - 2147483648, i + 4, true)
theorem orJoin (i : Nat) (x y : Int) (m : Int) (hm : m = 2 ^ i) (hmb : m ≤ 16777216) (h0 : 0 ≤ x) (hx : x % m = 0) (h1 : x < 4611686018427387904) (g0 : 0 ≤ y) (g1 : y < m) : Go.bits .or .i64 x y = x + y := by
  have hy1 : y < 9223372036854775808 := by omega
  have hi : i ≤ 62 := by
    rcases Nat.lt_or_ge 62 i with h | h
    · have h2 : (2 : Nat) ^ 62 ≤ 2 ^ i := Nat.pow_le_pow_right (by decide) (by omega)
      have h3 : ((2 ^ 62 : Nat) : Int) ≤ ((2 ^ i : Nat) : Int) := Int.ofNat_le.2 h2
      rw [Int.natCast_pow] at h3
      have h4 : ((2 : Nat) : Int) = 2 := rfl
      rw [h4, Int.natCast_pow, h4, ← hm] at h3
      omega
    · exact h
  subst hm
  exact bits_join .i64 63 (by decide) (fun n h0 h1 => by rw [IntKind.wrap_i64]; omega) i x y h0 hx (by omega) g0 g1 (by omega)
theorem impl_getnum (k : Nat) (l : List Int) (i : Int) (hB : Bytes l) (hb : l.length ≤ 4611686018427387904) (hk : 1 ≤ k) : impl_GetNum.f k l i = some (gn l i) := by
  obtain ⟨k, rfl⟩ : ∃ q, k = q + 1 := ⟨k - 1, by omega⟩
  unfold impl_GetNum.f gn
  by_cases h0 : i < 0
  · rw [if_pos h0, if_pos (Or.inl h0)]
    simp only [impl_GetNum.j0, if_true]
  · rw [if_neg h0]
    have hw : wrap64 ((l.length : Int) - 4) = (l.length : Int) - 4 := by unfold wrap64; omega
    rw [hw]
    by_cases h1 : i > (l.length : Int) - 4
    · rw [if_pos (Or.inr h1)]
      simp only [impl_GetNum.j0]
      rw [if_pos (by simpa using h1)]
    · rw [if_neg (by omega)]
      have e1 : wrap64 (i + 1) = i + 1 := by unfold wrap64; omega
      have e2 : wrap64 (i + 2) = i + 2 := by unfold wrap64; omega
      have e3 : wrap64 (i + 3) = i + 3 := by unfold wrap64; omega
      have e4 : wrap64 (i + 4) = i + 4 := by unfold wrap64; omega
      simp only [impl_GetNum.j0]
      rw [if_neg (by simpa using h1), e1, e2, e3, e4, if_pos (by omega), if_pos (by omega), if_pos (by omega), if_pos (by omega), if_pos (by omega), if_pos (by omega), if_pos (by omega), if_pos (by omega)]
      have r0 := hB.rd i
      have r1 := hB.rd (i + 1)
      have r2 := hB.rd (i + 2)
      have r3 := hB.rd (i + 3)
      unfold val4
      generalize rd l i = b0 at *
      generalize rd l (i + 1) = b1 at *
      generalize rd l (i + 2) = b2 at *
      generalize rd l (i + 3) = b3 at *
      have w0 : wrap64 ((wrap64 b0) * 16777216) = b0 * 16777216 := by unfold wrap64; omega
      have w1 : wrap64 ((wrap64 b1) * 65536) = b1 * 65536 := by unfold wrap64; omega
      have w2 : wrap64 ((wrap64 b2) * 256) = b2 * 256 := by unfold wrap64; omega
      have w3 : wrap64 b3 = b3 := by unfold wrap64; omega
      rw [w0, w1, w2, w3, orJoin 24 (b0 * 16777216) (b1 * 65536) 16777216 (by decide) (by decide) (by omega) (by omega) (by omega) (by omega) (by omega), orJoin 16 (b0 * 16777216 + b1 * 65536) (b2 * 256) 65536 (by decide) (by decide) (by omega) (by omega) (by omega) (by omega) (by omega), orJoin 8 (b0 * 16777216 + b1 * 65536 + b2 * 256) b3 256 (by decide) (by decide) (by omega) (by omega) (by omega) (by omega) (by omega)]
      have e5 : wrap64 (b0 * 16777216 + b1 * 65536 + b2 * 256 + b3 - 2147483648) = b0 * 16777216 + b1 * 65536 + b2 * 256 + b3 - 2147483648 := by unfold wrap64; omega
      rw [e5]
      by_cases hz : b0 * 16777216 + b1 * 65536 + b2 * 256 + b3 = 0
      · rw [if_pos hz, if_pos hz]
      · rw [if_neg hz, if_neg hz]
theorem spec_getnum_step (k : Nat) (l : List Int) (i x j : Int) (hB : Bytes l) (hb : l.length ≤ 4611686018427387904) (h0 : 0 ≤ i) (h1 : i + 4 ≤ (l.length : Int)) (hj0 : 0 ≤ j) (hj : j < 4) (hx0 : 0 ≤ x) (hx : x ≤ 4294967296) :
    spec_GetNum.l0 (k + 1) l i x j = spec_GetNum.l0 k l i (x * 256 + rd l (i + j)) (j + 1) := by
  have r0 := hB.rd (i + j)
  have e1 : wrap64 (i + j) = i + j := by unfold wrap64; omega
  have e2 : wrap64 (j + 1) = j + 1 := by unfold wrap64; omega
  simp only [spec_GetNum.l0]
  rw [if_pos hj, e1, e2, if_pos (by omega), if_pos (by omega)]
  congr 1
  unfold wrap64
  omega
theorem spec_getnum (k : Nat) (l : List Int) (i : Int) (hB : Bytes l) (hb : l.length ≤ 4611686018427387904) (hk : 6 ≤ k) : spec_GetNum.f k l i = some (gn l i) := by
  obtain ⟨k, rfl⟩ : ∃ q, k = q + 6 := ⟨k - 6, by omega⟩
  unfold spec_GetNum.f gn
  by_cases h0 : i < 0
  · rw [if_pos h0, if_pos (Or.inl h0)]
    simp only [spec_GetNum.j0, if_true]
  · rw [if_neg h0]
    have hw : wrap64 ((l.length : Int) - 4) = (l.length : Int) - 4 := by unfold wrap64; omega
    rw [hw]
    by_cases h1 : i > (l.length : Int) - 4
    · rw [if_pos (Or.inr h1)]
      simp only [spec_GetNum.j0]
      rw [if_pos (by simpa using h1)]
    · rw [if_neg (by omega)]
      have r0 := hB.rd (i + 0)
      have r1 := hB.rd (i + (0 + 1))
      have r2 := hB.rd (i + (0 + 1 + 1))
      have r3 := hB.rd (i + (0 + 1 + 1 + 1))
      simp only [spec_GetNum.j0]
      rw [if_neg (by simpa using h1), spec_getnum_step (k + 4) l i 0 0 hB hb (by omega) (by omega) (by omega) (by omega) (by omega) (by omega),
        spec_getnum_step (k + 3) l i _ _ hB hb (by omega) (by omega) (by omega) (by omega) (by omega) (by omega),
        spec_getnum_step (k + 2) l i _ _ hB hb (by omega) (by omega) (by omega) (by omega) (by omega) (by omega),
        spec_getnum_step (k + 1) l i _ _ hB hb (by omega) (by omega) (by omega) (by omega) (by omega) (by omega)]
      simp only [spec_GetNum.l0]
      have hv : ((((0 : Int) * 256 + rd l (i + 0)) * 256 + rd l (i + (0 + 1))) * 256 + rd l (i + (0 + 1 + 1))) * 256 + rd l (i + (0 + 1 + 1 + 1)) = val4 l i := by
        unfold val4
        rw [show i + 0 = i from by omega, show i + (0 + 1) = i + 1 from by omega, show i + (0 + 1 + 1) = i + 2 from by omega, show i + (0 + 1 + 1 + 1) = i + 3 from by omega]
        omega
      rw [if_neg (by omega), hv]
      have hr : 0 ≤ val4 l i ∧ val4 l i ≤ 4294967295 := by rw [← hv]; omega
      by_cases hz : val4 l i = 0
      · rw [if_pos hz, if_pos hz]
      · rw [if_neg hz, if_neg hz]
        have e4 : wrap64 (i + 4) = i + 4 := by unfold wrap64; omega
        have e5 : wrap64 (val4 l i - 2147483648) = val4 l i - 2147483648 := by unfold wrap64; omega
        rw [e4, e5]

theorem code_bytes (x : Int) : Bytes (code x) := by
  have hr := bnd_range x
  intro y hy
  unfold code at hy
  simp only [List.mem_cons, List.not_mem_nil, or_false] at hy
  rcases hy with rfl | rfl | rfl | rfl <;> omega
theorem rd_right (p s : List Int) (j : Nat) : rd (p ++ s) ((p.length : Int) + (j : Int)) = rd s (j : Int) := by
  unfold rd
  rw [List.getD_eq_getElem?_getD, List.getD_eq_getElem?_getD, List.getElem?_append_right (by omega)]
  congr 2
  omega
theorem rd_right0 (p s : List Int) : rd (p ++ s) (p.length : Int) = rd s 0 := by
  have := rd_right p s 0
  rw [show ((p.length : Int) + ((0 : Nat) : Int)) = (p.length : Int) from by omega] at this
  exact this
theorem val4_code (p : List Int) (x : Int) (r : List Int) : val4 (p ++ (code x ++ r)) (p.length : Int) = bnd x + 2147483648 := by
  have hr := bnd_range x
  unfold val4
  rw [rd_right0, show (p.length : Int) + 1 = (p.length : Int) + ((1 : Nat) : Int) from rfl, show (p.length : Int) + 2 = (p.length : Int) + ((2 : Nat) : Int) from rfl, show (p.length : Int) + 3 = (p.length : Int) + ((3 : Nat) : Int) from rfl, rd_right, rd_right, rd_right]
  show (bnd x + 2147483648) / 16777216 * 16777216 + (bnd x + 2147483648) / 65536 % 256 * 65536 + (bnd x + 2147483648) / 256 % 256 * 256 + (bnd x + 2147483648) % 256 = bnd x + 2147483648
  omega
theorem gn_code (p : List Int) (x : Int) (r : List Int) : gn (p ++ (code x ++ r)) (p.length : Int) = (bnd x, (p.length : Int) + 4, true) := by
  have hr := bnd_range x
  unfold gn
  rw [if_neg, val4_code, if_neg (by omega)]
  · rw [Int.add_sub_cancel]
  · rw [List.length_append, List.length_append, code_length]; omega
theorem drop_cons (l : List Int) (n : Nat) (h : n < l.length) : l.drop n = rd l (n : Int) :: l.drop (n + 1) := by
  have h1 := rd_nat l n h
  rw [List.getElem?_eq_getElem h] at h1
  rw [List.drop_eq_getElem_cons h, Option.some.inj h1]
theorem drop4 (s : List Int) (i : Nat) (h : i + 4 ≤ s.length) : s.drop i = [rd s (i : Int), rd s ((i : Int) + 1), rd s ((i : Int) + 2), rd s ((i : Int) + 3)] ++ s.drop (i + 4) := by
  rw [drop_cons s i (by omega), drop_cons s (i + 1) (by omega), drop_cons s (i + 2) (by omega), drop_cons s (i + 3) (by omega)]
  rfl
/-- Where a number is read, it lies so. -/
theorem gn_inv (s : List Int) (i : Int) (hs : Bytes s) (hg : (gn s i).2.2 = true) : ∃ j : Nat, i = (j : Int) ∧ gn s i = (val4 s i - 2147483648, i + 4, true) ∧ i + 4 ≤ (s.length : Int) ∧ (s.take (i + 4).toNat).drop i.toNat = code (val4 s i - 2147483648) := by
  have hi : ¬ (i < 0 ∨ i > (s.length : Int) - 4) := by
    intro hc
    unfold gn at hg
    rw [if_pos hc] at hg
    cases hg
  have hz : ¬ val4 s i = 0 := by
    intro hc
    unfold gn at hg
    rw [if_neg hi, if_pos hc] at hg
    cases hg
  have hv : gn s i = (val4 s i - 2147483648, i + 4, true) := by
    unfold gn
    rw [if_neg hi, if_neg hz]
  obtain ⟨j, rfl⟩ : ∃ j : Nat, i = (j : Int) := ⟨i.toNat, by omega⟩
  have r0 := hs.rd (j : Int)
  have r1 := hs.rd ((j : Int) + 1)
  have r2 := hs.rd ((j : Int) + 2)
  have r3 := hs.rd ((j : Int) + 3)
  have hb : bnd (val4 s (j : Int) - 2147483648) = val4 s (j : Int) - 2147483648 := by
    unfold val4 at *
    unfold bnd
    rw [if_neg (by omega), if_neg (by omega)]
  have hc : code (val4 s (j : Int) - 2147483648) = [rd s (j : Int), rd s ((j : Int) + 1), rd s ((j : Int) + 2), rd s ((j : Int) + 3)] := by
    unfold code
    rw [hb, Int.sub_add_cancel]
    unfold val4
    congr 1
    · omega
    · congr 1
      · omega
      · congr 1
        · omega
        · congr 1
          omega
  refine ⟨j, rfl, hv, by omega, ?_⟩
  rw [hc, List.drop_take, Int.toNat_natCast, drop4 s j (by omega), show ((j : Int) + 4).toNat - j = 4 from by omega]
  rfl

theorem draw_bytes_l0 : ∀ (d k n : Nat) (c : Int) (b acc : List Int) (i h : Int), (n : Int) + (d : Int) = c → d < k → c ≤ 1000 → acc.length + d ≤ 1000 → Bytes acc → b.length ≤ 1048576 → At b i → ∃ l i' h', spec_l1Bytes.l0 k c acc (n : Int) b i h = some (l, i', h') ∧ l.length = acc.length + d ∧ Bytes l ∧ At b i'
  | 0, k, n, c, b, acc, i, h, hn, hk, hd, ha, hB, hb, hi => by
    obtain ⟨k, rfl⟩ : ∃ q, k = q + 1 := ⟨k - 1, by omega⟩
    simp only [spec_l1Bytes.l0]
    rw [if_neg (by omega)]
    exact ⟨_, _, _, rfl, rfl, hB, hi⟩
  | d + 1, k, n, c, b, acc, i, h, hn, hk, hd, ha, hB, hb, hi => by
    obtain ⟨k, rfl⟩ : ∃ q, k = q + 1 := ⟨k - 1, by omega⟩
    obtain ⟨v, i1, h1, hv, hr, hi1⟩ := draw_byte b i h hb hi
    simp only [spec_l1Bytes.l0]
    have hw : wrap64 ((n : Int) + 1) = ((n + 1 : Nat) : Int) := by unfold wrap64; omega
    rw [if_pos (by omega), hv]
    simp only [Option.bind_some]
    rw [if_pos (by omega), hw]
    obtain ⟨l, i2, h2, hl, hq, hB2, hi2⟩ := draw_bytes_l0 d k (n + 1) c b (acc ++ [v % 256]) i1 h1 (by omega) (by omega) (by omega) (by rw [List.length_append, List.length_singleton]; omega)
      (by
        intro x hx
        rcases List.mem_append.1 hx with hx | hx
        · exact hB x hx
        · rw [List.mem_singleton.1 hx]; omega) hb hi1
    refine ⟨l, i2, h2, hl, ?_, hB2, hi2⟩
    rw [hq, List.length_append, List.length_singleton]
    omega
theorem draw_bytes (k : Nat) (b : List Int) (i h c : Int) (hk : 1010 ≤ k) (hc : 0 ≤ c) (hc2 : c ≤ 1000) (hb : b.length ≤ 1048576) (hi : At b i) : ∃ l i' h', spec_l1Bytes.f k b i h c = some (l, i', h') ∧ l.length = c.toNat ∧ Bytes l ∧ At b i' := by
  unfold spec_l1Bytes.f
  obtain ⟨l, i2, h2, hl, hn, hB, hi2⟩ := draw_bytes_l0 c.toNat k 0 c b [] i h (by omega) (by omega) hc2 (by simp only [List.length_nil]; omega) (by intro x hx; cases hx) hb hi
  refine ⟨l, i2, h2, hl, ?_, hB, hi2⟩
  rw [hn, List.length_nil, Nat.zero_add]

theorem FnNums : laws_FnNums.Pure := by
  intro b _ _ _
  by_cases hb : (b.length : Int) > 1048576
  · refine ⟨0, ?_⟩
    unfold laws_FnNums.f laws_big.f
    simp only [Option.bind_some]
    rw [if_pos (by simpa using hb)]
  have hb' : b.length ≤ 1048576 := by omega
  obtain ⟨k, hk⟩ : ∃ k : Nat, k = b.length + 10000 := ⟨_, rfl⟩
  refine ⟨k, ?_⟩
  obtain ⟨h0, hnew⟩ := draw_new k b (by omega) hb'
  obtain ⟨u, n, hu, hul, huB⟩ : ∃ u n, spec_DrawPutNum.f k b = some (u, n) ∧ u.length ≤ 10 ∧ Bytes u := by
    obtain ⟨c, i2, h2, hc, hcr, hi2⟩ := draw_below b 0 h0 3 hb' (at_zero b) (by decide)
    have hc2 := hcr.2.1 (by decide)
    obtain ⟨y, i3, h3, hy, hyl, hyB, hi3⟩ := draw_bytes k b i2 h2 c (by omega) hcr.1 (by omega) hb' hi2
    obtain ⟨n, i4, h4, hn, _, hi4⟩ := draw_raw b i3 h3 hb' hi3
    unfold spec_DrawPutNum.f
    rw [hnew]
    simp only [Option.bind_some]
    rw [hc]
    simp only [Option.bind_some]
    rw [hy]
    simp only [Option.bind_some]
    rw [hn]
    exact ⟨y, n, rfl, by omega, hyB⟩
  obtain ⟨c, i, hc, hcB, hcl⟩ : ∃ c i, spec_DrawGetNum.f k b = some (c, i) ∧ Bytes c ∧ c.length ≤ 100 := by
    obtain ⟨o, i2, h2, ho, hi2⟩ := draw_once b 0 h0 4 hb' (at_zero b) (by decide)
    unfold spec_DrawGetNum.f
    rw [hnew]
    simp only [Option.bind_some]
    rw [ho]
    simp only [Option.bind_some]
    cases o with
    | true =>
      rw [if_pos rfl]
      obtain ⟨v, i3, h3, hv, hvr, hi3⟩ := draw_byte b i2 h2 hb' hi2
      obtain ⟨q, i4, h4, hq, hqr, hi4⟩ := draw_below b i3 h3 3 hb' hi3 (by decide)
      rw [hv]
      simp only [Option.bind_some]
      rw [hq]
      refine ⟨_, _, rfl, ?_, by simp⟩
      intro x hx
      simp only [List.mem_cons, List.not_mem_nil, or_false] at hx
      rcases hx with rfl | rfl | rfl | rfl | rfl <;> omega
    | false =>
      rw [if_neg (by decide)]
      obtain ⟨v, i3, h3, hv, hvr, hi3⟩ := draw_below b i2 h2 2 hb' hi2 (by decide)
      have hv2 := hvr.2.1 (by decide)
      obtain ⟨y, i4, h4, hy, hyl, hyB, hi4⟩ := draw_bytes k b i3 h3 v (by omega) hvr.1 (by omega) hb' hi3
      obtain ⟨m, i5, h5, hm, _, hi5⟩ := draw_raw b i4 h4 hb' hi4
      obtain ⟨o, i6, h6, ho, hom, hi6⟩ := draw_int b i5 h5 [0, 0, 1, 2, (-1), 9223372036854775807] hb' hi5 (by decide) (by decide)
      rw [hv]
      simp only [Option.bind_some]
      rw [hy]
      simp only [Option.bind_some]
      rw [hm]
      simp only [Option.bind_some]
      rw [spec_putnum y m (by omega)]
      simp only [Option.bind_some]
      rw [ho]
      refine ⟨_, _, rfl, ?_, by rw [List.length_append, code_length]; omega⟩
      intro x hx
      rcases List.mem_append.1 hx with hx | hx
      · exact hyB x hx
      · exact code_bytes m x hx
  have hg := gn_code u n []
  rw [List.append_nil] at hg
  have hp : (u ++ code n).length = u.length + 4 := by rw [List.length_append, code_length]
  have hpB : Bytes (u ++ code n) := by
    intro x hx
    rcases List.mem_append.1 hx with hx | hx
    · exact huB x hx
    · exact code_bytes n x hx
  have e1 : wrap64 ((u.length : Int) + 4) = (u.length : Int) + 4 := by unfold wrap64; omega
  unfold laws_FnNums.f laws_big.f
  simp only [Option.bind_some]
  rw [if_neg (by simpa using hb), hu]
  simp only [Option.bind_some]
  rw [impl_putnum u n (by omega)]
  simp only [Option.bind_some]
  rw [impl_getnum k (u ++ code n) (u.length : Int) hpB (by omega) (by omega), hg, hc]
  simp only [Option.bind_some]
  rw [impl_getnum k c i hcB (by omega) (by omega), spec_getnum k c i hcB (by omega) (by omega)]
  simp only [Option.bind_some, if_true]
  rw [impl_bound]
  simp only [Option.bind_some, if_true]
  rw [if_pos (by omega), e1, if_pos rfl, if_pos (by omega), if_pos (by omega), Int.toNat_natCast, List.take_left]
  simp only [laws_same.f, Option.bind_some, beq_self_eq_true, if_true]
  by_cases h : (gn c i).2.2 = true
  · rw [if_pos h]
    obtain ⟨j, hj, hv, h1, h2⟩ := gn_inv c i hcB h
    rw [hv]
    simp only
    rw [impl_putnum [] _ (by simp)]
    simp only [Option.bind_some, List.nil_append]
    rw [if_pos (by omega), if_pos (by omega), if_pos (by omega), h2]
    simp only [beq_self_eq_true]
  · rw [if_neg h]

end Go.Proofs.Ytfpbbikhcnpceaa.Pure
