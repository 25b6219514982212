/- Whatever bytes it is handed, the law FnLists answers true: a drawn list is read back from its encoding, within the bounds, what is read of drawn bytes is what the reference reads and is written just so, and the program writes and reads drawn lists as the reference does (for more than 2^20 bytes the law says nothing: it answers true). -/
import Derived.Test.YtfpbbikhcnpceaaQFnListsx5
namespace Go.Proofs.Ytfpbbikhcnpceaa.Pure
open Go.RowKit Go.Proofs.Ytfpbbikhcnpceaa.QFnLists Go.Proofs.YtfpbbikhcnpceaaW.PrintWords Go.Proofs.YtfpbbikhcnpceaaW.PrintLast
theorem wrap_nat (n : Nat) (h : n ≤ 4611686018427387904) : wrap64 ((n : Int) + 1) = ((n + 1 : Nat) : Int) := by unfold wrap64; omega
theorem rd_nat (l : List Int) (n : Nat) (h : n < l.length) : l[n]? = some (rd l (n : Int)) := by
  unfold rd
  rw [Int.toNat_natCast, List.getD_eq_getElem?_getD, List.getElem?_eq_getElem h]
  rfl
theorem ext_upto {α : Type} (a b : List α) (hl : a.length = b.length) (h : ∀ j, j < a.length → a[j]? = b[j]?) : a = b := by
  apply List.ext_getElem?
  intro j
  by_cases hj : j < a.length
  · exact h j hj
  · rw [List.getElem?_eq_none (by omega), List.getElem?_eq_none (by omega)]

theorem and_bound (x : Int) (m : Nat) (hm : m < 4611686018427387904) : 0 ≤ Go.bits .and .i64 x (m : Int) ∧ Go.bits .and .i64 x (m : Int) ≤ (m : Int) := by
  have h : ((BitVec.ofInt 64 x) &&& (BitVec.ofInt 64 (m : Int))).toNat ≤ m := by
    rw [BitVec.toNat_and, BitVec.ofInt_natCast, BitVec.toNat_ofNat, Nat.mod_eq_of_lt (by omega)]
    exact Nat.and_le_right
  show 0 ≤ IntKind.i64.wrap ((((BitVec.ofInt 64 x) &&& (BitVec.ofInt 64 (m : Int))).toNat : Nat) : Int) ∧ IntKind.i64.wrap ((((BitVec.ofInt 64 x) &&& (BitVec.ofInt 64 (m : Int))).toNat : Nat) : Int) ≤ (m : Int)
  generalize ((BitVec.ofInt 64 x) &&& (BitVec.ofInt 64 (m : Int))).toNat = q at *
  rw [IntKind.wrap_i64]
  omega
theorem and_byte (x : Int) : 0 ≤ Go.bits .and .i64 x 255 ∧ Go.bits .and .i64 x 255 ≤ 255 := and_bound x 255 (by decide)
/-- A place of the reader: within the bytes. -/
def At (b : List Int) (i : Int) : Prop := 0 ≤ i ∧ i ≤ (b.length : Int)
theorem draw_byte (b : List Int) (i h : Int) (hb : b.length ≤ 1048576) (hi : At b i) : ∃ v i' h', spec_l1Byte.f b i h = some (v, i', h') ∧ (0 ≤ v ∧ v ≤ 255) ∧ At b i' := by
  unfold spec_l1Byte.f
  unfold At at *
  by_cases h1 : i < (b.length : Int)
  · rw [if_pos h1, if_pos hi.1]
    exact ⟨_, _, _, rfl, and_byte _, by unfold wrap64; omega⟩
  · rw [if_neg h1]
    exact ⟨_, _, _, rfl, and_byte _, by omega⟩
theorem draw_below (b : List Int) (i h n : Int) (hb : b.length ≤ 1048576) (hi : At b i) (hn : n ≤ 65536) : ∃ v i' h', spec_l1Below.f b i h n = some (v, i', h') ∧ (0 ≤ v ∧ (0 < n → v < n) ∧ (n ≤ 0 → v = 0)) ∧ At b i' := by
  unfold spec_l1Below.f
  by_cases h0 : n ≤ 0
  · rw [if_pos h0]
    exact ⟨_, _, _, rfl, ⟨by omega, by omega, by omega⟩, hi⟩
  · rw [if_neg h0]
    by_cases h1 : n ≤ 256
    · rw [if_pos h1]
      obtain ⟨v, i', h', hv, hr, hi'⟩ := draw_byte b i h hb hi
      rw [hv]
      simp only [Option.bind_some]
      rw [if_neg (by omega), Int.tmod_eq_emod_of_nonneg hr.1]
      exact ⟨_, _, _, rfl, ⟨Int.emod_nonneg _ (by omega), fun _ => Int.emod_lt_of_pos _ (by omega), by omega⟩, hi'⟩
    · rw [if_neg h1]
      obtain ⟨v, i1, h1', hv, hr, hi1⟩ := draw_byte b i h hb hi
      rw [hv]
      simp only [Option.bind_some]
      obtain ⟨v2, i2, h2', hv2, hr2, hi2⟩ := draw_byte b i1 h1' hb hi1
      rw [hv2]
      simp only [Option.bind_some]
      obtain ⟨v3, i3, h3', hv3, hr3, hi3⟩ := draw_byte b i2 h2' hb hi2
      rw [hv3]
      simp only [Option.bind_some]
      have hp : 0 ≤ wrap64 ((wrap64 ((wrap64 (v * 65536)) + (wrap64 (v2 * 256)))) + v3) := by unfold wrap64; omega
      rw [if_neg (by omega), Int.tmod_eq_emod_of_nonneg hp]
      exact ⟨_, _, _, rfl, ⟨Int.emod_nonneg _ (by omega), fun _ => Int.emod_lt_of_pos _ (by omega), by omega⟩, hi3⟩
theorem draw_new_l0 : ∀ (d k : Nat) (b : List Int) (h i : Int), (b.length : Int) - i = (d : Int) → 0 ≤ i → d < k → b.length ≤ 1048576 → ∃ h', spec_l1New.l0 k b h i = some (b, 0, h')
  | 0, k, b, h, i, hd, hi, hk, hb => by
    obtain ⟨k, rfl⟩ : ∃ q, k = q + 1 := ⟨k - 1, by omega⟩
    simp only [spec_l1New.l0]
    rw [if_neg (by omega)]
    exact ⟨_, rfl⟩
  | d + 1, k, b, h, i, hd, hi, hk, hb => by
    obtain ⟨k, rfl⟩ : ∃ q, k = q + 1 := ⟨k - 1, by omega⟩
    simp only [spec_l1New.l0]
    rw [if_pos (by omega)]
    by_cases h4 : i < 4000
    · rw [if_pos h4, if_pos hi]
      have hw : wrap64 (i + 1) = i + 1 := by unfold wrap64; omega
      rw [hw]
      exact draw_new_l0 d k b _ (i + 1) (by omega) (by omega) (by omega) hb
    · rw [if_neg h4]
      exact ⟨_, rfl⟩
theorem draw_new (k : Nat) (b : List Int) (hk : b.length < k) (hb : b.length ≤ 1048576) : ∃ h', spec_l1New.f k b = some (b, 0, h') := by
  unfold spec_l1New.f
  exact draw_new_l0 b.length k b _ 0 (by omega) (by omega) hk hb
theorem at_zero (b : List Int) : At b 0 := ⟨by omega, by omega⟩

theorem draw_once (b : List Int) (i h n : Int) (hb : b.length ≤ 1048576) (hi : At b i) (hn : n ≤ 65536) : ∃ v i' h', spec_l1Once.f b i h n = some (v, i', h') ∧ At b i' := by
  obtain ⟨v, i', h', hv, hr, hi'⟩ := draw_below b i h n hb hi hn
  unfold spec_l1Once.f
  rw [hv]
  exact ⟨_, _, _, rfl, hi'⟩
theorem draw_int (b : List Int) (i h : Int) (l : List Int) (hb : b.length ≤ 1048576) (hi : At b i) (hl : 0 < l.length) (hl2 : l.length ≤ 65536) : ∃ v i' h', spec_l1Int.f b i h l = some (v, i', h') ∧ v ∈ l ∧ At b i' := by
  obtain ⟨v, i', h', hv, hr, hi'⟩ := draw_below b i h (l.length : Int) hb hi (by omega)
  have h2 := hr.2.1 (by omega)
  unfold spec_l1Int.f
  rw [hv]
  simp only [Option.bind_some]
  rw [if_pos hr.1, if_pos h2]
  refine ⟨_, _, _, rfl, ?_, hi'⟩
  have := rd_nat l v.toNat (by omega)
  rw [Int.toNat_of_nonneg hr.1] at this
  exact List.mem_of_getElem? this
theorem mem_i64 (l : List Int) (hl : l.all (fun v => decide (-9223372036854775808 ≤ v) && decide (v ≤ 9223372036854775807)) = true) (v : Int) (h : v ∈ l) : -9223372036854775808 ≤ v ∧ v ≤ 9223372036854775807 := by
  have := List.all_eq_true.1 hl v h
  simpa using this

theorem draw_odd (b : List Int) (i h : Int) (hb : b.length ≤ 1048576) (hi : At b i) : ∃ v i' h', spec_l1Odd.f b i h = some (v, i', h') ∧ (-9223372036854775808 ≤ v ∧ v ≤ 9223372036854775807) ∧ At b i' := by
  obtain ⟨v, i', h', hv, hm, hi'⟩ := draw_int b i h (hb := hb) (hi := hi) (l := [(-1), 0, 1, 2, 255, 256, 65535, 2147483647, 2147483648, 4294967295, 4294967296, (-2147483648), 9223372036854775807, (-9223372036854775808)]) (by decide) (by decide)
  unfold spec_l1Odd.f
  rw [hv]
  exact ⟨_, _, _, rfl, mem_i64 _ (by decide) v hm, hi'⟩
theorem draw_raw (b : List Int) (i h : Int) (hb : b.length ≤ 1048576) (hi : At b i) : ∃ v i' h', spec_l1Raw.f b i h = some (v, i', h') ∧ (-9223372036854775808 ≤ v ∧ v ≤ 9223372036854775807) ∧ At b i' := by
  obtain ⟨v, i1, h1, hv, hi1⟩ := draw_once b i h 2 hb hi (by decide)
  unfold spec_l1Raw.f
  rw [hv]
  simp only [Option.bind_some]
  cases v with
  | true =>
    obtain ⟨v2, i2, h2, hv2, hr2, hi2⟩ := draw_odd b i1 h1 hb hi1
    rw [if_pos rfl, hv2]
    exact ⟨_, _, _, rfl, hr2, hi2⟩
  | false =>
    obtain ⟨v2, i2, h2, hv2, hm, hi2⟩ := draw_int b i1 h1 (hb := hb) (hi := hi1) (l := [(-2147483648), (-2147483647), (-3), (-1), 0, 1, 3, 7, 2147483647, 2147483648]) (by decide) (by decide)
    rw [if_neg (by decide), hv2]
    exact ⟨_, _, _, rfl, mem_i64 _ (by decide) v2 hm, hi2⟩

theorem xor_byte (x y : Int) : 0 ≤ Go.bits .xor .u8 x y ∧ Go.bits .xor .u8 x y ≤ 255 := by
  show 0 ≤ IntKind.u8.wrap _ ∧ IntKind.u8.wrap _ ≤ 255
  rw [IntKind.wrap_u8]
  omega
theorem draw_list_l0 : ∀ (d k : Nat) (b acc : List Int) (i h : Int), d < k → d ≤ 1000 → acc.length + d ≤ 1000 → b.length ≤ 1048576 → At b i → ∃ l i' h', spec_l2List.l0 k acc (d : Int) b i h = some (l, i', h') ∧ l.length = acc.length + d ∧ At b i'
  | 0, k, b, acc, i, h, hk, hd, ha, hb, hi => by
    obtain ⟨k, rfl⟩ : ∃ q, k = q + 1 := ⟨k - 1, by omega⟩
    simp only [spec_l2List.l0]
    rw [if_neg (by omega)]
    exact ⟨_, _, _, rfl, rfl, hi⟩
  | d + 1, k, b, acc, i, h, hk, hd, ha, hb, hi => by
    obtain ⟨k, rfl⟩ : ∃ q, k = q + 1 := ⟨k - 1, by omega⟩
    obtain ⟨v, i1, h1, hv, hr, hi1⟩ := draw_raw b i h hb hi
    simp only [spec_l2List.l0]
    have hw : wrap64 (((d + 1 : Nat) : Int) - 1) = (d : Int) := by unfold wrap64; omega
    rw [if_pos (by omega), hv]
    simp only [Option.bind_some]
    rw [if_pos (by omega), hw]
    obtain ⟨l, i2, h2, hl, hn, hi2⟩ := draw_list_l0 d k b (acc ++ [v]) i1 h1 (by omega) (by omega) (by rw [List.length_append, List.length_singleton]; omega) hb hi1
    refine ⟨l, i2, h2, hl, ?_, hi2⟩
    rw [hn, List.length_append, List.length_singleton]
    omega
theorem draw_list (k : Nat) (b : List Int) (i h : Int) (hk : 10 ≤ k) (hb : b.length ≤ 1048576) (hi : At b i) : ∃ l i' h', spec_l2List.f k b i h = some (l, i', h') ∧ l.length ≤ 4 ∧ At b i' := by
  obtain ⟨v, i1, h1, hv, hr, hi1⟩ := draw_below b i h 5 hb hi (by decide)
  have h2 := hr.2.1 (by decide)
  obtain ⟨d, rfl⟩ : ∃ d : Nat, v = (d : Int) := ⟨v.toNat, by omega⟩
  unfold spec_l2List.f
  rw [hv]
  simp only [Option.bind_some]
  obtain ⟨l, i2, h2, hl, hn, hi2⟩ := draw_list_l0 d k b [] i1 h1 (by omega) (by omega) (by simp only [List.length_nil]; omega) hb hi1
  exact ⟨l, i2, h2, hl, by simp only [List.length_nil] at hn; omega, hi2⟩

theorem sameInts_l0 : ∀ (d k n : Nat) (a b : List Int), n + d = a.length → d < k → a.length = b.length → a.length ≤ 4611686018427387904 → (∀ j, j < n → a[j]? = b[j]?) → laws_sameInts.l0 k a b (n : Int) = some (decide (a = b))
  | 0, k, n, a, b, hn, hk, hl, hb, h => by
    obtain ⟨k, rfl⟩ : ∃ q, k = q + 1 := ⟨k - 1, by omega⟩
    simp only [laws_sameInts.l0]
    rw [if_neg (by omega), ext_upto a b hl (fun j hj => h j (by omega))]
    simp
  | d + 1, k, n, a, b, hn, hk, hl, hb, h => by
    obtain ⟨k, rfl⟩ : ∃ q, k = q + 1 := ⟨k - 1, by omega⟩
    simp only [laws_sameInts.l0]
    rw [if_pos (by omega), if_pos (by omega), if_pos (by omega)]
    by_cases e : rd a (n : Int) = rd b (n : Int)
    · rw [if_pos e, wrap_nat n (by omega)]
      refine sameInts_l0 d k (n + 1) a b (by omega) (by omega) hl hb (fun j hj => ?_)
      by_cases ej : j = n
      · subst ej
        rw [rd_nat a j (by omega), rd_nat b j (by omega), e]
      · exact h j (by omega)
    · rw [if_neg e, decide_eq_false]
      intro hab
      exact e (by rw [hab])
theorem sameInts_f (k : Nat) (a b : List Int) (hk : a.length < k) (hb : a.length ≤ 4611686018427387904) : laws_sameInts.f k a b = some (decide (a = b)) := by
  unfold laws_sameInts.f
  by_cases hl : (a.length : Int) = (b.length : Int)
  · rw [if_pos hl]
    exact sameInts_l0 a.length k 0 a b (by omega) hk (by omega) hb (fun j hj => by omega)
  · rw [if_neg hl, decide_eq_false]
    intro hab
    exact hl (by rw [hab])
theorem sameInts_same (k : Nat) (a : List Int) (hk : a.length < k) (hb : a.length ≤ 4611686018427387904) : laws_sameInts.f k a a = some true := by rw [sameInts_f k a a hk hb]; simp

def bnd (n : Int) : Int := if n > 2147483647 then 2147483647 else if n < -2147483647 then -2147483647 else n

theorem spec_bound (n : Int) : spec_Bound.f n = some (bnd n) := by
  unfold spec_Bound.f bnd
  by_cases h1 : n > 2147483647
  · rw [if_pos h1, if_pos h1]
  · rw [if_neg h1, if_neg h1]
    by_cases h2 : n < -2147483647
    · rw [if_pos h2, if_pos h2]
    · rw [if_neg h2, if_neg h2]

theorem impl_bound (n : Int) : impl_Bound.f n = some (bnd n) := by
  unfold impl_Bound.f bnd mx mn
  congr 1
  split <;> split <;> (try split) <;> omega


theorem bnd_range (n : Int) : -2147483647 ≤ bnd n ∧ bnd n ≤ 2147483647 := by
  unfold bnd
  split
  · omega
  · split <;> omega
def code (n : Int) : List Int := [(bnd n + 2147483648) / 16777216, (bnd n + 2147483648) / 65536 % 256, (bnd n + 2147483648) / 256 % 256, (bnd n + 2147483648) % 256]
theorem code_length (n : Int) : (code n).length = 4 := rfl
theorem and255 (x : Int) (h0 : 0 ≤ x) (h : x ≤ 4611686018427387904) : Go.bits .and .i64 x 255 = x % 256 :=
  bits_mask .i64 63 (by decide) (fun n h0 h1 => by rw [IntKind.wrap_i64]; omega) 8 (by decide) x h0 (by omega)
theorem impl_putnum (l : List Int) (n : Int) (hb : l.length < 140737488355000) : impl_PutNum.f l n = some (l ++ code n) := by
  have hr := bnd_range n
  have hw : wrap64 (bnd n + 2147483648) = bnd n + 2147483648 := by unfold wrap64; omega
  unfold impl_PutNum.f slices_Clone_byte_byte.f
  rw [impl_bound]
  simp only [Option.bind_some, List.length_nil, List.nil_append, List.length_cons]
  rw [if_pos (by omega)]
  simp only [Option.bind_some]
  rw [if_pos (by omega), hw]
  unfold code
  congr 4
  omega
theorem spec_putnum (l : List Int) (n : Int) (hb : l.length < 140737488355000) : spec_PutNum.f l n = some (l ++ code n) := by
  have hr := bnd_range n
  have hw : wrap64 (bnd n + 2147483648) = bnd n + 2147483648 := by unfold wrap64; omega
  unfold spec_PutNum.f
  rw [spec_bound]
  simp only [Option.bind_some, List.length_nil, List.nil_append, List.length_cons]
  rw [if_pos (by omega)]
  rw [if_pos (by omega), hw, and255 _ (by omega) (by omega), and255 _ (by omega) (by omega), and255 _ (by omega) (by omega), and255 _ (by omega) (by omega)]
  unfold code
  congr 3
  · omega
  · congr 1
    · omega
    · congr 1
      · omega
      · congr 1
        omega

def plist (b l : List Int) : List Int := if l.length > 255 then b else b ++ [(l.length : Int)] ++ l.flatMap code
theorem flat_length (l : List Int) : (l.flatMap code).length = 4 * l.length := by
  induction l with
  | nil => rfl
  | cons x l ih => rw [List.flatMap_cons, List.length_append, code_length, ih, List.length_cons]; omega
theorem plist_length (b l : List Int) : (plist b l).length ≤ b.length + 1021 := by
  unfold plist
  split
  · omega
  · rw [List.length_append, List.length_append, flat_length, List.length_singleton]; omega
theorem drop_cons (l : List Int) (n : Nat) (h : n < l.length) : l.drop n = rd l (n : Int) :: l.drop (n + 1) := by
  have h1 := rd_nat l n h
  rw [List.getElem?_eq_getElem h] at h1
  rw [List.drop_eq_getElem_cons h, Option.some.inj h1]
theorem impl_putlist_l0 : ∀ (d k n : Nat) (out l : List Int), n + d = l.length → d < k → l.length ≤ 255 → out.length + 4 * d < 140737488300000 → impl_PutList.l0 k out l (l.length : Int) (n : Int) = some (out ++ (l.drop n).flatMap code)
  | 0, k, n, out, l, hn, hk, hl, hb => by
    obtain ⟨k, rfl⟩ : ∃ q, k = q + 1 := ⟨k - 1, by omega⟩
    simp only [impl_PutList.l0]
    rw [if_neg (by omega), List.drop_eq_nil_of_le (by omega)]
    simp
  | d + 1, k, n, out, l, hn, hk, hl, hb => by
    obtain ⟨k, rfl⟩ : ∃ q, k = q + 1 := ⟨k - 1, by omega⟩
    simp only [impl_PutList.l0]
    rw [if_pos (by omega), if_pos (by omega), if_pos (by omega), impl_putnum _ _ (by omega), wrap_nat n (by omega)]
    simp only [Option.bind_some]
    rw [impl_putlist_l0 d k (n + 1) _ l (by omega) (by omega) hl (by rw [List.length_append, code_length]; omega), drop_cons l n (by omega), List.flatMap_cons, List.append_assoc]
theorem impl_putlist (k : Nat) (b l : List Int) (hk : l.length < k) (hb : b.length < 140737488200000) : impl_PutList.f k b l = some (plist b l) := by
  unfold impl_PutList.f slices_Clone_byte_byte.f plist
  simp only [Option.bind_some, List.length_nil, List.nil_append]
  rw [if_pos (by omega)]
  simp only [Option.bind_some]
  by_cases h : l.length > 255
  · rw [if_pos (by omega), if_pos h]
  · rw [if_neg (by omega), if_neg h, if_pos (by omega), show ((l.length : Int)) % 256 = (l.length : Int) from by omega]
    exact impl_putlist_l0 l.length k 0 _ l (by omega) hk (by omega) (by rw [List.length_append, List.length_singleton]; omega)
theorem spec_putlist_l0 : ∀ (d k n : Nat) (out l : List Int), n + d = l.length → d < k → l.length ≤ 255 → out.length + 4 * d < 140737488300000 → spec_PutList.l0 k l out (n : Int) = some (out ++ (l.drop n).flatMap code)
  | 0, k, n, out, l, hn, hk, hl, hb => by
    obtain ⟨k, rfl⟩ : ∃ q, k = q + 1 := ⟨k - 1, by omega⟩
    simp only [spec_PutList.l0]
    rw [if_neg (by omega), List.drop_eq_nil_of_le (by omega)]
    simp
  | d + 1, k, n, out, l, hn, hk, hl, hb => by
    obtain ⟨k, rfl⟩ : ∃ q, k = q + 1 := ⟨k - 1, by omega⟩
    simp only [spec_PutList.l0]
    rw [if_pos (by omega), if_pos (by omega), spec_putnum _ _ (by omega), wrap_nat n (by omega)]
    simp only [Option.bind_some]
    rw [spec_putlist_l0 d k (n + 1) _ l (by omega) (by omega) hl (by rw [List.length_append, code_length]; omega), drop_cons l n (by omega), List.flatMap_cons, List.append_assoc]
theorem spec_putlist (k : Nat) (b l : List Int) (hk : l.length < k) (hb : b.length < 140737488200000) : spec_PutList.f k b l = some (plist b l) := by
  unfold spec_PutList.f plist
  simp only [Option.bind_some, List.length_nil, List.nil_append]
  rw [if_pos (by omega)]
  by_cases h : l.length > 255
  · rw [if_pos (by omega), if_pos h]
  · rw [if_neg (by omega), if_neg h, if_pos (by omega), show ((l.length : Int)) % 256 = (l.length : Int) from by omega]
    exact spec_putlist_l0 l.length k 0 _ l (by omega) hk (by omega) (by rw [List.length_append, List.length_singleton]; omega)

def Bytes (l : List Int) : Prop := ∀ x ∈ l, 0 ≤ x ∧ x ≤ 255
theorem bytes_of_wf {l : List Int} (h : ∀ x ∈ l, (Lit.int .u8 x).wf = true) : Bytes l := by
  intro x hx
  have := h x hx
  simp [Lit.wf, IntKind.min, IntKind.max, IntKind.signed, IntKind.bits] at this
  omega
theorem Bytes.rd {l : List Int} (h : Bytes l) (i : Int) : 0 ≤ rd l i ∧ rd l i ≤ 255 := by
  unfold Go.Proofs.YtfpbbikhcnpceaaW.PrintWords.rd
  rw [List.getD_eq_getElem?_getD]
  by_cases hi : i.toNat < l.length
  · rw [List.getElem?_eq_getElem hi]
    exact h _ (List.getElem_mem hi)
  · rw [List.getElem?_eq_none (by omega)]
    exact ⟨by decide, by decide⟩
def val4 (l : List Int) (i : Int) : Int := rd l i * 16777216 + rd l (i + 1) * 65536 + rd l (i + 2) * 256 + rd l (i + 3)
def gn (l : List Int) (i : Int) : Int × Int × Bool := if i < 0 ∨ i > (l.length : Int) - 4 then (0, 0, false) else if val4 l i = 0 then (0, 0, false) else (val4 l i - 2147483648, i + 4, true)
theorem orJoin (i : Nat) (x y : Int) (m : Int) (hm : m = 2 ^ i) (hmb : m ≤ 16777216) (h0 : 0 ≤ x) (hx : x % m = 0) (h1 : x < 4611686018427387904) (g0 : 0 ≤ y) (g1 : y < m) : Go.bits .or .i64 x y = x + y := by
  have hy1 : y < 9223372036854775808 := by omega
  have hi : i ≤ 62 := by
    rcases Nat.lt_or_ge 62 i with h | h
    · have h2 : (2 : Nat) ^ 62 ≤ 2 ^ i := Nat.pow_le_pow_right (by decide) (by omega)
      have h3 : ((2 ^ 62 : Nat) : Int) ≤ ((2 ^ i : Nat) : Int) := Int.ofNat_le.2 h2
      rw [Int.natCast_pow] at h3
      have h4 : ((2 : Nat) : Int) = 2 := rfl
      rw [h4, Int.natCast_pow, h4, ← hm] at h3
      omega
    · exact h
  subst hm
  exact bits_join .i64 63 (by decide) (fun n h0 h1 => by rw [IntKind.wrap_i64]; omega) i x y h0 hx (by omega) g0 g1 (by omega)
theorem impl_getnum (k : Nat) (l : List Int) (i : Int) (hB : Bytes l) (hb : l.length ≤ 4611686018427387904) (hk : 1 ≤ k) : impl_GetNum.f k l i = some (gn l i) := by
  obtain ⟨k, rfl⟩ : ∃ q, k = q + 1 := ⟨k - 1, by omega⟩
  unfold impl_GetNum.f gn
  by_cases h0 : i < 0
  · rw [if_pos h0, if_pos (Or.inl h0)]
    simp only [impl_GetNum.j0, if_true]
  · rw [if_neg h0]
    have hw : wrap64 ((l.length : Int) - 4) = (l.length : Int) - 4 := by unfold wrap64; omega
    rw [hw]
    by_cases h1 : i > (l.length : Int) - 4
    · rw [if_pos (Or.inr h1)]
      simp only [impl_GetNum.j0]
      rw [if_pos (by simpa using h1)]
    · rw [if_neg (by omega)]
      have e1 : wrap64 (i + 1) = i + 1 := by unfold wrap64; omega
      have e2 : wrap64 (i + 2) = i + 2 := by unfold wrap64; omega
      have e3 : wrap64 (i + 3) = i + 3 := by unfold wrap64; omega
      have e4 : wrap64 (i + 4) = i + 4 := by unfold wrap64; omega
      simp only [impl_GetNum.j0]
      rw [if_neg (by simpa using h1), e1, e2, e3, e4, if_pos (by omega), if_pos (by omega), if_pos (by omega), if_pos (by omega), if_pos (by omega), if_pos (by omega), if_pos (by omega), if_pos (by omega)]
      have r0 := hB.rd i
      have r1 := hB.rd (i + 1)
      have r2 := hB.rd (i + 2)
      have r3 := hB.rd (i + 3)
      unfold val4
      generalize rd l i = b0 at *
      generalize rd l (i + 1) = b1 at *
      generalize rd l (i + 2) = b2 at *
      generalize rd l (i + 3) = b3 at *
      have w0 : wrap64 ((wrap64 b0) * 16777216) = b0 * 16777216 := by unfold wrap64; omega
      have w1 : wrap64 ((wrap64 b1) * 65536) = b1 * 65536 := by unfold wrap64; omega
      have w2 : wrap64 ((wrap64 b2) * 256) = b2 * 256 := by unfold wrap64; omega
      have w3 : wrap64 b3 = b3 := by unfold wrap64; omega
      rw [w0, w1, w2, w3, orJoin 24 (b0 * 16777216) (b1 * 65536) 16777216 (by decide) (by decide) (by omega) (by omega) (by omega) (by omega) (by omega), orJoin 16 (b0 * 16777216 + b1 * 65536) (b2 * 256) 65536 (by decide) (by decide) (by omega) (by omega) (by omega) (by omega) (by omega), orJoin 8 (b0 * 16777216 + b1 * 65536 + b2 * 256) b3 256 (by decide) (by decide) (by omega) (by omega) (by omega) (by omega) (by omega)]
      have e5 : wrap64 (b0 * 16777216 + b1 * 65536 + b2 * 256 + b3 - 2147483648) = b0 * 16777216 + b1 * 65536 + b2 * 256 + b3 - 2147483648 := by unfold wrap64; omega
      rw [e5]
      by_cases hz : b0 * 16777216 + b1 * 65536 + b2 * 256 + b3 = 0
      · rw [if_pos hz, if_pos hz]
      · rw [if_neg hz, if_neg hz]
theorem spec_getnum_step (k : Nat) (l : List Int) (i x j : Int) (hB : Bytes l) (hb : l.length ≤ 4611686018427387904) (h0 : 0 ≤ i) (h1 : i + 4 ≤ (l.length : Int)) (hj0 : 0 ≤ j) (hj : j < 4) (hx0 : 0 ≤ x) (hx : x ≤ 4294967296) :
    spec_GetNum.l0 (k + 1) l i x j = spec_GetNum.l0 k l i (x * 256 + rd l (i + j)) (j + 1) := by
  have r0 := hB.rd (i + j)
  have e1 : wrap64 (i + j) = i + j := by unfold wrap64; omega
  have e2 : wrap64 (j + 1) = j + 1 := by unfold wrap64; omega
  simp only [spec_GetNum.l0]
  rw [if_pos hj, e1, e2, if_pos (by omega), if_pos (by omega)]
  congr 1
  unfold wrap64
  omega
theorem spec_getnum (k : Nat) (l : List Int) (i : Int) (hB : Bytes l) (hb : l.length ≤ 4611686018427387904) (hk : 6 ≤ k) : spec_GetNum.f k l i = some (gn l i) := by
  obtain ⟨k, rfl⟩ : ∃ q, k = q + 6 := ⟨k - 6, by omega⟩
  unfold spec_GetNum.f gn
  by_cases h0 : i < 0
  · rw [if_pos h0, if_pos (Or.inl h0)]
    simp only [spec_GetNum.j0, if_true]
  · rw [if_neg h0]
    have hw : wrap64 ((l.length : Int) - 4) = (l.length : Int) - 4 := by unfold wrap64; omega
    rw [hw]
    by_cases h1 : i > (l.length : Int) - 4
    · rw [if_pos (Or.inr h1)]
      simp only [spec_GetNum.j0]
      rw [if_pos (by simpa using h1)]
    · rw [if_neg (by omega)]
      have r0 := hB.rd (i + 0)
      have r1 := hB.rd (i + (0 + 1))
      have r2 := hB.rd (i + (0 + 1 + 1))
      have r3 := hB.rd (i + (0 + 1 + 1 + 1))
      simp only [spec_GetNum.j0]
      rw [if_neg (by simpa using h1), spec_getnum_step (k + 4) l i 0 0 hB hb (by omega) (by omega) (by omega) (by omega) (by omega) (by omega),
        spec_getnum_step (k + 3) l i _ _ hB hb (by omega) (by omega) (by omega) (by omega) (by omega) (by omega),
        spec_getnum_step (k + 2) l i _ _ hB hb (by omega) (by omega) (by omega) (by omega) (by omega) (by omega),
        spec_getnum_step (k + 1) l i _ _ hB hb (by omega) (by omega) (by omega) (by omega) (by omega) (by omega)]
      simp only [spec_GetNum.l0]
      have hv : ((((0 : Int) * 256 + rd l (i + 0)) * 256 + rd l (i + (0 + 1))) * 256 + rd l (i + (0 + 1 + 1))) * 256 + rd l (i + (0 + 1 + 1 + 1)) = val4 l i := by
        unfold val4
        rw [show i + 0 = i from by omega, show i + (0 + 1) = i + 1 from by omega, show i + (0 + 1 + 1) = i + 2 from by omega, show i + (0 + 1 + 1 + 1) = i + 3 from by omega]
        omega
      rw [if_neg (by omega), hv]
      have hr : 0 ≤ val4 l i ∧ val4 l i ≤ 4294967295 := by rw [← hv]; omega
      by_cases hz : val4 l i = 0
      · rw [if_pos hz, if_pos hz]
      · rw [if_neg hz, if_neg hz]
        have e4 : wrap64 (i + 4) = i + 4 := by unfold wrap64; omega
        have e5 : wrap64 (val4 l i - 2147483648) = val4 l i - 2147483648 := by unfold wrap64; omega
        rw [e4, e5]

def glr (b : List Int) : Nat → Int → List Int → List Int × Int × Bool
  | 0, i, acc => (acc, i, true)
  | d + 1, i, acc => if (gn b i).2.2 = true then glr b d (gn b i).2.1 (acc ++ [(gn b i).1]) else ([], 0, false)
theorem glr_length (b : List Int) : ∀ (d : Nat) (i : Int) (acc : List Int), (glr b d i acc).1.length ≤ acc.length + d
  | 0, i, acc => by unfold glr; exact Nat.le_refl _
  | d + 1, i, acc => by
    unfold glr
    split
    · have := glr_length b d (gn b i).2.1 (acc ++ [(gn b i).1])
      rw [List.length_append, List.length_singleton] at this
      omega
    · simp
def glist (b : List Int) (i : Int) : List Int × Int × Bool := if i < 0 ∨ i ≥ (b.length : Int) then ([], 0, false) else glr b (rd b i).toNat (i + 1) []
theorem glist_length (b : List Int) (i : Int) (hB : Bytes b) : (glist b i).1.length ≤ 255 := by
  unfold glist
  split
  · simp
  · have := glr_length b (rd b i).toNat (i + 1) []
    have h1 := hB.rd i
    simp only [List.length_nil] at this
    omega
theorem spec_getlist_l0 (b : List Int) (hB : Bytes b) (hb : b.length ≤ 4611686018427387904) : ∀ (d k : Nat) (i : Int) (acc : List Int), d + 8 ≤ k → d ≤ 1000000 → acc.length + d < 17592186044416 → spec_GetList.l0 k b acc i (d : Int) = some (glr b d i acc)
  | 0, k, i, acc, hk, hd, ha => by
    obtain ⟨k, rfl⟩ : ∃ q, k = q + 1 := ⟨k - 1, by omega⟩
    simp only [spec_GetList.l0]
    rw [if_neg (by omega)]
    rfl
  | d + 1, k, i, acc, hk, hd, ha => by
    obtain ⟨k, rfl⟩ : ∃ q, k = q + 1 := ⟨k - 1, by omega⟩
    simp only [spec_GetList.l0]
    have hw : wrap64 (((d + 1 : Nat) : Int) - 1) = (d : Int) := by unfold wrap64; omega
    rw [if_pos (by omega), spec_getnum k b i hB hb (by omega), hw]
    simp only [Option.bind_some, glr]
    by_cases h : (gn b i).2.2 = true
    · rw [if_pos h, if_pos h, if_pos (by omega)]
      exact spec_getlist_l0 b hB hb d k _ _ (by omega) (by omega) (by rw [List.length_append, List.length_singleton]; omega)
    · rw [if_neg h, if_neg h]
theorem impl_getlist_l0 (b : List Int) (hB : Bytes b) (hb : b.length ≤ 4611686018427387904) : ∀ (d k n c : Nat) (i : Int) (acc : List Int), n + d = c → d + 8 ≤ k → c ≤ 1000000 → acc.length + d < 17592186044416 → impl_GetList.l0 k b acc i (c : Int) (n : Int) = some (glr b d i acc)
  | 0, k, n, c, i, acc, hn, hk, hd, ha => by
    obtain ⟨k, rfl⟩ : ∃ q, k = q + 1 := ⟨k - 1, by omega⟩
    simp only [impl_GetList.l0]
    rw [if_neg (by omega)]
    rfl
  | d + 1, k, n, c, i, acc, hn, hk, hd, ha => by
    obtain ⟨k, rfl⟩ : ∃ q, k = q + 1 := ⟨k - 1, by omega⟩
    simp only [impl_GetList.l0]
    rw [if_pos (by omega), impl_getnum k b i hB hb (by omega), wrap_nat n (by omega)]
    simp only [Option.bind_some, glr]
    by_cases h : (gn b i).2.2 = true
    · rw [if_pos h, if_pos h, if_pos (by omega)]
      exact impl_getlist_l0 b hB hb d k (n + 1) c _ _ (by omega) (by omega) (by omega) (by rw [List.length_append, List.length_singleton]; omega)
    · rw [if_neg h, if_neg h]
theorem spec_getlist (k : Nat) (b : List Int) (i : Int) (hB : Bytes b) (hb : b.length ≤ 4611686018427387) (hk : 300 ≤ k) : spec_GetList.f k b i = some (glist b i) := by
  obtain ⟨k, rfl⟩ : ∃ q, k = q + 1 := ⟨k - 1, by omega⟩
  have h1 := hB.rd i
  unfold spec_GetList.f glist
  simp only [Option.bind_some]
  by_cases h0 : i < 0
  · rw [if_pos h0, if_pos (Or.inl h0)]
    simp only [spec_GetList.j0, if_true]
  · rw [if_neg h0]
    by_cases h2 : i ≥ (b.length : Int)
    · rw [if_pos (Or.inr h2)]
      simp only [spec_GetList.j0]
      rw [if_pos (by simpa using h2)]
    · rw [if_neg (by omega)]
      simp only [spec_GetList.j0]
      have e1 : wrap64 (i + 1) = i + 1 := by unfold wrap64; omega
      have e2 : wrap64 (rd b i) = (((rd b i).toNat : Nat) : Int) := by unfold wrap64; omega
      rw [if_neg (by simpa using h2), if_pos (by omega), if_pos (by omega), e1, e2]
      exact spec_getlist_l0 b hB (by omega) _ k _ _ (by omega) (by omega) (by simp only [List.length_nil]; omega)
theorem impl_getlist (k : Nat) (b : List Int) (i : Int) (hB : Bytes b) (hb : b.length ≤ 4611686018427387) (hk : 300 ≤ k) : impl_GetList.f k b i = some (glist b i) := by
  obtain ⟨k, rfl⟩ : ∃ q, k = q + 1 := ⟨k - 1, by omega⟩
  have h1 := hB.rd i
  unfold impl_GetList.f glist
  by_cases h0 : i < 0
  · rw [if_pos h0, if_pos (Or.inl h0)]
    simp only [impl_GetList.j0, if_true]
  · rw [if_neg h0]
    by_cases h2 : i ≥ (b.length : Int)
    · rw [if_pos (Or.inr h2)]
      simp only [impl_GetList.j0]
      rw [if_pos (by simpa using h2)]
    · rw [if_neg (by omega)]
      simp only [impl_GetList.j0]
      have e1 : wrap64 (i + 1) = i + 1 := by unfold wrap64; omega
      have e2 : wrap64 (rd b i) = (((rd b i).toNat : Nat) : Int) := by unfold wrap64; omega
      rw [if_neg (by simpa using h2), if_pos (by omega), if_pos (by omega), e1, e2]
      exact impl_getlist_l0 b hB (by omega) _ k 0 _ _ _ (by omega) (by omega) (by omega) (by simp only [List.length_nil]; omega)

def upk (b : List Int) : List Int × Bool := if (glist b 0).2.2 = true then (if (glist b 0).2.1 = (b.length : Int) then ((glist b 0).1, true) else ([], false)) else ([], false)
theorem upk_length (b : List Int) (hB : Bytes b) : (upk b).1.length ≤ 255 := by
  have := glist_length b 0 hB
  unfold upk
  split
  · split
    · exact this
    · simp
  · simp
theorem spec_unpacked (k : Nat) (b : List Int) (hB : Bytes b) (hb : b.length ≤ 4611686018427387) (hk : 300 ≤ k) : spec_Unpacked.f k b = some (upk b) := by
  unfold spec_Unpacked.f upk
  rw [spec_getlist k b 0 hB hb hk]
  simp only [Option.bind_some]
  split
  · split <;> rfl
  · rfl
theorem impl_unpacked (k : Nat) (b : List Int) (hB : Bytes b) (hb : b.length ≤ 4611686018427387) (hk : 300 ≤ k) : impl_Unpacked.f k b = some (upk b) := by
  unfold impl_Unpacked.f upk
  rw [impl_getlist k b 0 hB hb hk]
  simp only [Option.bind_some]
  split
  · split <;> rfl
  · rfl

theorem draw_bytes_l0 : ∀ (d k n : Nat) (c : Int) (b acc : List Int) (i h : Int), (n : Int) + (d : Int) = c → d < k → c ≤ 1000 → acc.length + d ≤ 1000 → Bytes acc → b.length ≤ 1048576 → At b i → ∃ l i' h', spec_l1Bytes.l0 k c acc (n : Int) b i h = some (l, i', h') ∧ l.length = acc.length + d ∧ Bytes l ∧ At b i'
  | 0, k, n, c, b, acc, i, h, hn, hk, hd, ha, hB, hb, hi => by
    obtain ⟨k, rfl⟩ : ∃ q, k = q + 1 := ⟨k - 1, by omega⟩
    simp only [spec_l1Bytes.l0]
    rw [if_neg (by omega)]
    exact ⟨_, _, _, rfl, rfl, hB, hi⟩
  | d + 1, k, n, c, b, acc, i, h, hn, hk, hd, ha, hB, hb, hi => by
    obtain ⟨k, rfl⟩ : ∃ q, k = q + 1 := ⟨k - 1, by omega⟩
    obtain ⟨v, i1, h1, hv, hr, hi1⟩ := draw_byte b i h hb hi
    simp only [spec_l1Bytes.l0]
    have hw : wrap64 ((n : Int) + 1) = ((n + 1 : Nat) : Int) := by unfold wrap64; omega
    rw [if_pos (by omega), hv]
    simp only [Option.bind_some]
    rw [if_pos (by omega), hw]
    obtain ⟨l, i2, h2, hl, hq, hB2, hi2⟩ := draw_bytes_l0 d k (n + 1) c b (acc ++ [v % 256]) i1 h1 (by omega) (by omega) (by omega) (by rw [List.length_append, List.length_singleton]; omega)
      (by
        intro x hx
        rcases List.mem_append.1 hx with hx | hx
        · exact hB x hx
        · rw [List.mem_singleton.1 hx]; omega) hb hi1
    refine ⟨l, i2, h2, hl, ?_, hB2, hi2⟩
    rw [hq, List.length_append, List.length_singleton]
    omega
theorem draw_bytes (k : Nat) (b : List Int) (i h c : Int) (hk : 1010 ≤ k) (hc : 0 ≤ c) (hc2 : c ≤ 1000) (hb : b.length ≤ 1048576) (hi : At b i) : ∃ l i' h', spec_l1Bytes.f k b i h c = some (l, i', h') ∧ l.length = c.toNat ∧ Bytes l ∧ At b i' := by
  unfold spec_l1Bytes.f
  obtain ⟨l, i2, h2, hl, hn, hB, hi2⟩ := draw_bytes_l0 c.toNat k 0 c b [] i h (by omega) (by omega) hc2 (by simp only [List.length_nil]; omega) (by intro x hx; cases hx) hb hi
  refine ⟨l, i2, h2, hl, ?_, hB, hi2⟩
  rw [hn, List.length_nil, Nat.zero_add]

theorem draw_bend (b : List Int) (i h : Int) (s : List Int) (hs : Bytes s) (hl : s.length ≤ 60000) (hb : b.length ≤ 1048576) (hi : At b i) : ∃ t i' h', spec_l1Bend.f b i h s = some (t, i', h') ∧ Bytes t ∧ t.length ≤ s.length + 1 ∧ At b i' := by
  obtain ⟨v, i1, h1, hv, hr, hi1⟩ := draw_below b i h 8 hb hi (by decide)
  unfold spec_l1Bend.f
  simp only [Option.bind_some, List.length_nil, List.nil_append]
  rw [if_pos (by omega), hv]
  simp only [Option.bind_some]
  by_cases hv0 : v = 0
  · rw [if_pos hv0]
    by_cases hp : (s.length : Int) > 0
    · rw [if_pos hp]
      obtain ⟨q, i2, h2, hq, hqr, hi2⟩ := draw_below b i1 h1 (s.length : Int) hb hi1 (by omega)
      have hq2 := hqr.2.1 (by omega)
      rw [hq]
      simp only [Option.bind_some]
      rw [if_pos hqr.1, if_pos hq2]
      obtain ⟨u, i3, h3, hu, hur, hi3⟩ := draw_below b i2 h2 255 hb hi2 (by decide)
      rw [hu]
      simp only [Option.bind_some]
      refine ⟨_, _, _, rfl, ?_, by rw [List.length_set]; omega, hi3⟩
      intro x hx
      rcases List.mem_or_eq_of_mem_set hx with hx | hx
      · exact hs x hx
      · rw [hx]; exact xor_byte _ _
    · rw [if_neg hp]
      exact ⟨_, _, _, rfl, hs, by omega, hi1⟩
  · rw [if_neg hv0]
    by_cases hv1 : v = 1
    · rw [if_pos hv1]
      by_cases hp : (s.length : Int) > 0
      · rw [if_pos hp]
        obtain ⟨q, i2, h2, hq, hqr, hi2⟩ := draw_below b i1 h1 (s.length : Int) hb hi1 (by omega)
        have hq2 := hqr.2.1 (by omega)
        rw [hq]
        simp only [Option.bind_some]
        rw [if_pos hqr.1, if_pos (by omega)]
        exact ⟨_, _, _, rfl, fun x hx => hs x (List.mem_of_mem_take hx), by rw [List.length_take]; omega, hi2⟩
      · rw [if_neg hp]
        exact ⟨_, _, _, rfl, hs, by omega, hi1⟩
    · rw [if_neg hv1]
      by_cases hv2 : v = 2
      · rw [if_pos hv2]
        obtain ⟨u, i2, h2, hu, hur, hi2⟩ := draw_byte b i1 h1 hb hi1
        rw [hu]
        simp only [Option.bind_some]
        rw [if_pos (by omega)]
        refine ⟨_, _, _, rfl, ?_, by rw [List.length_append, List.length_singleton]; omega, hi2⟩
        intro x hx
        rcases List.mem_append.1 hx with hx | hx
        · exact hs x hx
        · rw [List.mem_singleton.1 hx]; omega
      · rw [if_neg hv2]
        exact ⟨_, _, _, rfl, hs, by omega, hi1⟩

/-! ### What is written is read back, and what is read was written so -/
theorem rd_right (p s : List Int) (j : Nat) : rd (p ++ s) ((p.length : Int) + (j : Int)) = rd s (j : Int) := by
  unfold rd
  rw [List.getD_eq_getElem?_getD, List.getD_eq_getElem?_getD, List.getElem?_append_right (by omega)]
  congr 2
  omega
theorem rd_right0 (p s : List Int) : rd (p ++ s) (p.length : Int) = rd s 0 := by
  have := rd_right p s 0
  rw [show ((p.length : Int) + ((0 : Nat) : Int)) = (p.length : Int) from by omega] at this
  exact this
theorem gn_code (p : List Int) (x : Int) (r : List Int) : gn (p ++ (code x ++ r)) (p.length : Int) = (bnd x, (p.length : Int) + 4, true) := by
  have hr := bnd_range x
  have hv : val4 (p ++ (code x ++ r)) (p.length : Int) = bnd x + 2147483648 := by
    unfold val4
    rw [rd_right0, show (p.length : Int) + 1 = (p.length : Int) + ((1 : Nat) : Int) from rfl, show (p.length : Int) + 2 = (p.length : Int) + ((2 : Nat) : Int) from rfl, show (p.length : Int) + 3 = (p.length : Int) + ((3 : Nat) : Int) from rfl, rd_right, rd_right, rd_right]
    show (bnd x + 2147483648) / 16777216 * 16777216 + (bnd x + 2147483648) / 65536 % 256 * 65536 + (bnd x + 2147483648) / 256 % 256 * 256 + (bnd x + 2147483648) % 256 = bnd x + 2147483648
    omega
  unfold gn
  rw [if_neg, hv, if_neg (by omega)]
  · rw [Int.add_sub_cancel]
  · rw [List.length_append, List.length_append, code_length]; omega
theorem glr_flat : ∀ (l p acc : List Int), glr (p ++ l.flatMap code) l.length (p.length : Int) acc = (acc ++ l.map bnd, (p.length : Int) + 4 * (l.length : Int), true)
  | [], p, acc => by simp [glr]
  | x :: l, p, acc => by
    have h := gn_code p x (l.flatMap code)
    have ih := glr_flat l (p ++ code x) (acc ++ [bnd x])
    rw [List.append_assoc] at ih
    rw [List.flatMap_cons, List.length_cons]
    unfold glr
    rw [h]
    simp only [if_true]
    rw [show ((p.length : Int) + 4) = ((p ++ code x).length : Int) from by rw [List.length_append, code_length]; omega, ih]
    simp only [List.map_cons, List.append_assoc, List.cons_append, List.nil_append, List.length_append, code_length]
    congr 2
    omega
theorem code_bytes (x : Int) : Bytes (code x) := by
  have hr := bnd_range x
  intro y hy
  unfold code at hy
  simp only [List.mem_cons, List.not_mem_nil, or_false] at hy
  rcases hy with rfl | rfl | rfl | rfl <;> omega
theorem flat_bytes (l : List Int) : Bytes (l.flatMap code) := by
  intro y hy
  obtain ⟨x, _, h⟩ := List.mem_flatMap.1 hy
  exact code_bytes x y h
theorem plist_bytes (b l : List Int) (hb : Bytes b) : Bytes (plist b l) := by
  unfold plist
  split
  · exact hb
  · intro y hy
    rcases List.mem_append.1 hy with hy | hy
    · rcases List.mem_append.1 hy with hy | hy
      · exact hb y hy
      · rw [List.mem_singleton.1 hy]; omega
    · exact flat_bytes l y hy
theorem upk_plist (l : List Int) (h : l.length ≤ 255) : upk (plist [] l) = (l.map bnd, true) := by
  have hp : plist [] l = [(l.length : Int)] ++ l.flatMap code := by unfold plist; rw [if_neg (by omega), List.nil_append]
  have hg : glist (plist [] l) 0 = (l.map bnd, ((plist [] l).length : Int), true) := by
    rw [hp]
    unfold glist
    rw [if_neg (by simp)]
    have := glr_flat l [(l.length : Int)] []
    rw [show rd ([(l.length : Int)] ++ l.flatMap code) 0 = (l.length : Int) from rfl, Int.toNat_natCast, show (0 : Int) + 1 = (([(l.length : Int)] : List Int).length : Int) from rfl, this, List.nil_append]
    rw [List.length_append, flat_length]
    congr 2
  unfold upk
  rw [hg]
  simp
theorem drop4 (s : List Int) (i : Nat) (h : i + 4 ≤ s.length) : s.drop i = [rd s (i : Int), rd s ((i : Int) + 1), rd s ((i : Int) + 2), rd s ((i : Int) + 3)] ++ s.drop (i + 4) := by
  rw [drop_cons s i (by omega), drop_cons s (i + 1) (by omega), drop_cons s (i + 2) (by omega), drop_cons s (i + 3) (by omega)]
  rfl
theorem glr_inv (s : List Int) (hs : Bytes s) : ∀ (d i : Nat) (acc xs : List Int) (e : Int), glr s d (i : Int) acc = (xs, e, true) → ∃ ys : List Int, xs = acc ++ ys ∧ ys.length = d ∧ e = (i : Int) + 4 * (d : Int) ∧ (s.drop i).take (4 * d) = ys.flatMap code ∧ ∀ y ∈ ys, bnd y = y
  | 0, i, acc, xs, e, h => by
    unfold glr at h
    cases h
    exact ⟨[], by simp, rfl, by omega, by simp, by intro y hy; cases hy⟩
  | d + 1, i, acc, xs, e, h => by
    unfold glr at h
    by_cases hg : (gn s (i : Int)).2.2 = true
    · rw [if_pos hg] at h
      have hi : ¬ ((i : Int) < 0 ∨ (i : Int) > (s.length : Int) - 4) := by
        intro hc
        unfold gn at hg
        rw [if_pos hc] at hg
        cases hg
      have hz : ¬ val4 s (i : Int) = 0 := by
        intro hc
        unfold gn at hg
        rw [if_neg hi, if_pos hc] at hg
        cases hg
      have hv : gn s (i : Int) = (val4 s (i : Int) - 2147483648, (i : Int) + 4, true) := by
        unfold gn
        rw [if_neg hi, if_neg hz]
      rw [hv] at h
      simp only at h
      obtain ⟨ys, h1, h2, h3, h4, h5⟩ := glr_inv s hs d (i + 4) _ xs e (by rw [← h]; rfl)
      have r0 := hs.rd (i : Int)
      have r1 := hs.rd ((i : Int) + 1)
      have r2 := hs.rd ((i : Int) + 2)
      have r3 := hs.rd ((i : Int) + 3)
      have hb : bnd (val4 s (i : Int) - 2147483648) = val4 s (i : Int) - 2147483648 := by
        unfold val4 at *
        unfold bnd
        rw [if_neg (by omega), if_neg (by omega)]
      have hc : code (val4 s (i : Int) - 2147483648) = [rd s (i : Int), rd s ((i : Int) + 1), rd s ((i : Int) + 2), rd s ((i : Int) + 3)] := by
        unfold code
        rw [hb, Int.sub_add_cancel]
        unfold val4
        congr 1
        · omega
        · congr 1
          · omega
          · congr 1
            · omega
            · congr 1
              omega
      refine ⟨(val4 s (i : Int) - 2147483648) :: ys, ?_, by rw [List.length_cons, h2], by omega, ?_, ?_⟩
      · rw [h1, List.append_assoc]; rfl
      · rw [drop4 s i (by omega), List.flatMap_cons, hc, show 4 * (d + 1) = 4 * d + 1 + 1 + 1 + 1 from by omega]
        simp only [List.cons_append, List.nil_append, List.take_succ_cons, h4]
      · intro y hy
        rcases List.mem_cons.1 hy with rfl | hy
        · exact hb
        · exact h5 y hy
    · rw [if_neg hg] at h
      cases h
/-- What the reader tells of all the bytes is written just so. -/
theorem plist_upk (s : List Int) (hs : Bytes s) (h : (upk s).2 = true) : plist [] (upk s).1 = s := by
  unfold upk at h
  by_cases h1 : (glist s 0).2.2 = true
  · rw [if_pos h1] at h
    by_cases h2 : (glist s 0).2.1 = (s.length : Int)
    · have hu : (upk s).1 = (glist s 0).1 := by unfold upk; rw [if_pos h1, if_pos h2]
      rw [hu]
      by_cases h0 : (0 : Int) < 0 ∨ (0 : Int) ≥ (s.length : Int)
      · unfold glist at h1
        rw [if_pos h0] at h1
        cases h1
      have hg : glist s 0 = glr s (rd s 0).toNat (((0 + 1 : Nat)) : Int) [] := by unfold glist; rw [if_neg h0]; rfl
      rw [hg] at h1 h2 ⊢
      obtain ⟨ys, e1, e2, e3, e4, e5⟩ := glr_inv s hs (rd s 0).toNat (0 + 1) [] _ _ (show glr s (rd s 0).toNat (((0 + 1 : Nat)) : Int) [] = ((glr s (rd s 0).toNat (((0 + 1 : Nat)) : Int) []).1, (glr s (rd s 0).toNat (((0 + 1 : Nat)) : Int) []).2.1, true) from by rw [← h1])
      have hr := hs.rd 0
      rw [e1, List.nil_append]
      rw [h2] at e3
      unfold plist
      rw [if_neg (by omega), List.nil_append, ← e4, List.take_of_length_le (by rw [List.length_drop]; omega)]
      have hd := drop_cons s 0 (by omega)
      rw [List.drop_zero] at hd
      rw [e2, show (((rd s 0).toNat : Nat) : Int) = rd s ((0 : Nat) : Int) from by rw [show ((0 : Nat) : Int) = 0 from rfl]; omega]
      exact hd.symm
    · rw [if_neg h2] at h; cases h
  · rw [if_neg h1] at h; cases h

theorem draw_putlist_l0 : ∀ (d k : Nat) (x acc b : List Int) (i h : Int), acc.length + d = 256 → d < k → b.length ≤ 1048576 → At b i → ∃ r, spec_DrawPutList.l0 k x acc b i h = some (x, r) ∧ r.length ≤ 256
  | 0, k, x, acc, b, i, h, hd, hk, hb, hi => by
    obtain ⟨k, rfl⟩ : ∃ q, k = q + 1 := ⟨k - 1, by omega⟩
    obtain ⟨v, i1, h1, hv, hm, hi1⟩ := draw_int b i h [255, 256] hb hi (by decide) (by decide)
    simp only [spec_DrawPutList.l0]
    rw [hv]
    simp only [Option.bind_some]
    have : v = 255 ∨ v = 256 := by simpa using hm
    rw [if_neg (by omega)]
    exact ⟨_, rfl, by omega⟩
  | d + 1, k, x, acc, b, i, h, hd, hk, hb, hi => by
    obtain ⟨k, rfl⟩ : ∃ q, k = q + 1 := ⟨k - 1, by omega⟩
    obtain ⟨v, i1, h1, hv, hm, hi1⟩ := draw_int b i h [255, 256] hb hi (by decide) (by decide)
    simp only [spec_DrawPutList.l0]
    rw [hv]
    simp only [Option.bind_some]
    have : v = 255 ∨ v = 256 := by simpa using hm
    by_cases hc : (acc.length : Int) < v
    · rw [if_pos hc, if_pos (by omega)]
      exact draw_putlist_l0 d k x (acc ++ [1]) b i1 h1 (by rw [List.length_append, List.length_singleton]; omega) (by omega) hb hi1
    · rw [if_neg hc]
      exact ⟨_, rfl, by omega⟩
theorem law_l0 (p : List Int) : ∀ (d k n : Nat) (l : List Int), n + d = l.length → d < k → l.length ≤ 1000000 → p.length = 1 + 4 * l.length → laws_FnLists.l0 k l p (l.map bnd) (n : Int) = some true
  | 0, k, n, l, hn, hk, hl, hp => by
    obtain ⟨k, rfl⟩ : ∃ q, k = q + 1 := ⟨k - 1, by omega⟩
    simp only [laws_FnLists.l0]
    have e1 : wrap64 (1 + (wrap64 (4 * (l.length : Int)))) = (p.length : Int) := by rw [hp]; unfold wrap64; omega
    rw [if_neg (by omega), e1]
    simp
  | d + 1, k, n, l, hn, hk, hl, hp => by
    obtain ⟨k, rfl⟩ : ∃ q, k = q + 1 := ⟨k - 1, by omega⟩
    simp only [laws_FnLists.l0]
    rw [if_pos (by omega), if_pos (by omega), if_pos (by rw [List.length_map]; omega), impl_bound]
    simp only [Option.bind_some]
    have e : rd (l.map bnd) (n : Int) = bnd (rd l (n : Int)) := by
      have h1 := rd_nat (l.map bnd) n (by rw [List.length_map]; omega)
      have h2 := rd_nat l n (by omega)
      rw [List.getElem?_map, h2] at h1
      exact (Option.some.inj h1).symm
    rw [if_pos e, wrap_nat n (by omega)]
    exact law_l0 p d k (n + 1) l (by omega) (by omega) hl hp
theorem FnLists : laws_FnLists.Pure := by
  intro b _ _ _
  by_cases hb : (b.length : Int) > 1048576
  · refine ⟨0, ?_⟩
    unfold laws_FnLists.f laws_big.f
    simp only [Option.bind_some]
    rw [if_pos (by simpa using hb)]
  have hb' : b.length ≤ 1048576 := by omega
  generalize hk : b.length + 10000 = k
  refine ⟨k, ?_⟩
  obtain ⟨h0, hnew⟩ := draw_new k b (by omega) hb'
  obtain ⟨l, i1, h1, hl, hll, hi1⟩ := draw_list k b 0 h0 (by omega) hb' (at_zero b)
  have hA : spec_DrawPacked.f k b = some l := by
    unfold spec_DrawPacked.f
    rw [hnew]
    simp only [Option.bind_some, hl]
  have hnilB : Bytes [] := by intro x hx; cases hx
  have hpB : ∀ l, Bytes (plist [] l) := fun l => plist_bytes [] l hnilB
  have hpl : ∀ l, (plist [] l).length ≤ 1021 := fun l => by have := plist_length [] l; simpa using this
  have iP : ∀ l : List Int, l.length ≤ 256 → impl_Packed.f k l = some (plist [] l) := by
    intro l h
    unfold impl_Packed.f
    rw [impl_putlist k [] l (by omega) (by simp)]
    rfl
  have sP : ∀ l : List Int, l.length ≤ 256 → spec_Packed.f k l = some (plist [] l) := by
    intro l h
    unfold spec_Packed.f
    rw [spec_putlist k [] l (by omega) (by simp)]
    rfl
  obtain ⟨s, hs, hsB, hsl⟩ : ∃ s, spec_DrawUnpacked.f k b = some s ∧ Bytes s ∧ s.length ≤ 2000 := by
    obtain ⟨s, i2, h2, hs, hsB, hsl, hi2⟩ := draw_bend b i1 h1 (plist [] l) (hpB l) (by have := hpl l; omega) hb' hi1
    refine ⟨s, ?_, hsB, by have := hpl l; omega⟩
    unfold spec_DrawUnpacked.f
    rw [hnew]
    simp only [Option.bind_some]
    rw [hl]
    simp only [Option.bind_some]
    rw [sP l (by omega)]
    simp only [Option.bind_some]
    rw [hs]
    rfl
  obtain ⟨g, j, hg, hgB, hgl⟩ : ∃ g j, spec_DrawGetList.f k b = some (g, j) ∧ Bytes g ∧ g.length ≤ 100000 := by
    obtain ⟨c, i2, h2, hc, hcr, hi2⟩ := draw_below b 0 h0 2 hb' (at_zero b) (by decide)
    obtain ⟨y, i3, h3, hy, hyl, hyB, hi3⟩ := draw_bytes k b i2 h2 c (by omega) hcr.1 (by have := hcr.2.1 (by decide); omega) hb' hi2
    obtain ⟨z, i4, h4, hz, hzl, hi4⟩ := draw_list k b i3 h3 (by omega) hb' hi3
    have hc2 := hcr.2.1 (by decide)
    have hpz := plist_length y z
    obtain ⟨t, i5, h5, ht, htB, htl, hi5⟩ := draw_bend b i4 h4 (plist y z) (plist_bytes y z hyB) (by omega) hb' hi4
    obtain ⟨o, i6, h6, ho, hom, hi6⟩ := draw_int b i5 h5 [0, 0, 0, 1, (-3)] hb' hi5 (by decide) (by decide)
    refine ⟨t, wrap64 ((y.length : Int) + o), ?_, htB, by omega⟩
    unfold spec_DrawGetList.f
    rw [hnew]
    simp only [Option.bind_some]
    rw [hc]
    simp only [Option.bind_some]
    rw [hy]
    simp only [Option.bind_some]
    rw [hz]
    simp only [Option.bind_some]
    rw [spec_putlist k y z (by omega) (by omega)]
    simp only [Option.bind_some]
    rw [ht]
    simp only [Option.bind_some]
    rw [ho]
    rfl
  obtain ⟨u, v, hu, hul, hvl⟩ : ∃ u v, spec_DrawPutList.f k b = some (u, v) ∧ u.length ≤ 10 ∧ v.length ≤ 256 := by
    obtain ⟨c, i2, h2, hc, hcr, hi2⟩ := draw_below b 0 h0 3 hb' (at_zero b) (by decide)
    have hc2 := hcr.2.1 (by decide)
    obtain ⟨y, i3, h3, hy, hyl, hyB, hi3⟩ := draw_bytes k b i2 h2 c (by omega) hcr.1 (by omega) hb' hi2
    obtain ⟨z, i4, h4, hz, hzl, hi4⟩ := draw_list k b i3 h3 (by omega) hb' hi3
    obtain ⟨o, i5, h5, ho, hi5⟩ := draw_once b i4 h4 20 hb' hi4 (by decide)
    unfold spec_DrawPutList.f
    rw [hnew]
    simp only [Option.bind_some]
    rw [hc]
    simp only [Option.bind_some]
    rw [hy]
    simp only [Option.bind_some]
    rw [hz]
    simp only [Option.bind_some]
    rw [ho]
    simp only [Option.bind_some]
    cases o with
    | true =>
      rw [if_pos rfl]
      obtain ⟨r, hr, hrl⟩ := draw_putlist_l0 (256 - z.length) k y z b i5 h5 (by omega) (by omega) hb' hi5
      exact ⟨y, r, hr, by omega, hrl⟩
    | false =>
      rw [if_neg (by decide)]
      exact ⟨y, z, rfl, by omega, by omega⟩
  have hU := upk_plist l (by omega)
  have tail : laws_FnLists.j0 k l (plist [] l) (l.map bnd) ((((l.map bnd).length : Nat) : Int) != (l.length : Int)) = some true := by
    obtain ⟨k, rfl⟩ : ∃ q, k = q + 1 := ⟨k - 1, by omega⟩
    simp only [laws_FnLists.j0]
    rw [List.length_map, bne_self_eq_false, if_neg (by decide)]
    refine law_l0 (plist [] l) l.length k 0 l (by omega) (by omega) (by omega) ?_
    unfold plist
    rw [if_neg (by omega), List.length_append, flat_length]
    simp
  have ht2 : (if (glist g j).2.1 = (glist g j).2.1 then (if ((glist g j).2.2 != (glist g j).2.2) = true then (laws_FnLists.j0 k l (plist [] l) (l.map bnd) true) else (laws_FnLists.j0 k l (plist [] l) (l.map bnd) ((((l.map bnd).length : Nat) : Int) != (l.length : Int)))) else (laws_FnLists.j0 k l (plist [] l) (l.map bnd) true)) = some true := by
    rw [if_pos rfl, bne_self_eq_false, if_neg (by decide)]
    exact tail
  have hgl2 := glist_length g j hgB
  have hsl2 := upk_length s hsB
  unfold laws_FnLists.f laws_big.f
  simp only [Option.bind_some]
  rw [if_neg (by simpa using hb), hA]
  simp only [Option.bind_some]
  rw [iP l (by omega)]
  simp only [Option.bind_some]
  rw [impl_unpacked k (plist [] l) (hpB l) (by have := hpl l; omega) (by omega), hU, hs]
  simp only [Option.bind_some]
  rw [impl_unpacked k s hsB (by omega) (by omega), spec_unpacked k s hsB (by omega) (by omega)]
  simp only [Option.bind_some]
  rw [hg]
  simp only [Option.bind_some]
  rw [impl_getlist k g j hgB (by omega) (by omega), spec_getlist k g j hgB (by omega) (by omega)]
  simp only [Option.bind_some]
  rw [hu]
  simp only [Option.bind_some, bne_self_eq_false, Bool.false_eq_true, if_false]
  rw [sameInts_same k _ (by omega) (by omega), sameInts_same k _ (by omega) (by omega), impl_putlist k u v (by omega) (by omega), spec_putlist k u v (by omega) (by omega)]
  simp only [Option.bind_some, if_true, laws_same.f, beq_self_eq_true, tail]
  by_cases h : (upk s).2 = true
  · rw [if_pos h, iP _ (by omega)]
    simp only [Option.bind_some]
    rw [plist_upk s hsB h]
    simp only [beq_self_eq_true, if_true]
  · rw [if_neg h]

end Go.Proofs.Ytfpbbikhcnpceaa.Pure
