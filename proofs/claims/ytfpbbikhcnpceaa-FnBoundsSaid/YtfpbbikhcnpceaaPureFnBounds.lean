/- Whatever bytes it is handed, the law FnBounds answers true: the program's sums, differences, doublings, halvings and limits of the drawn numbers are the reference's and keep their bounds (for more than 2^20 bytes the law says nothing: it answers true). -/
import Derived.Test.YtfpbbikhcnpceaaQFnBoundsx2
namespace Go.Proofs.Ytfpbbikhcnpceaa.Pure
open Go.RowKit Go.Proofs.Ytfpbbikhcnpceaa.QFnBounds Go.Proofs.YtfpbbikhcnpceaaW.PrintWords Go.Proofs.YtfpbbikhcnpceaaW.PrintLast
def bnd (n : Int) : Int := if n > 2147483647 then 2147483647 else if n < -2147483647 then -2147483647 else n

theorem spec_bound (n : Int) : spec_Bound.f n = some (bnd n) := by
  unfold spec_Bound.f bnd
  by_cases h1 : n > 2147483647
  · rw [if_pos h1, if_pos h1]
  · rw [if_neg h1, if_neg h1]
    by_cases h2 : n < -2147483647
    · rw [if_pos h2, if_pos h2]
    · rw [if_neg h2, if_neg h2]

theorem impl_bound (n : Int) : impl_Bound.f n = some (bnd n) := by
  unfold impl_Bound.f bnd mx mn
  congr 1
  split <;> split <;> (try split) <;> omega


theorem impl_upto (a b : Int) : impl_Upto.f a b = spec_Upto.f a b := by
  unfold impl_Upto.f spec_Upto.f mx mn
  by_cases h1 : b < a
  · rw [if_pos h1]
    by_cases h2 : b < 0
    · rw [if_pos h2, if_neg (by omega)]; simp [h1]
    · rw [if_neg h2]; congr 1; simp [h1]; omega
  · rw [if_neg h1]
    by_cases h2 : a < 0
    · rw [if_pos h2, if_neg (by omega)]; simp [h1]
    · rw [if_neg h2]; congr 1; simp [h1]; omega
theorem spec_upto_some (a b : Int) : ∃ r, spec_Upto.f a b = some r := by
  unfold spec_Upto.f
  split <;> split <;> exact ⟨_, rfl⟩

theorem wrap_nat (n : Nat) (h : n ≤ 4611686018427387904) : wrap64 ((n : Int) + 1) = ((n + 1 : Nat) : Int) := by unfold wrap64; omega
theorem rd_nat (l : List Int) (n : Nat) (h : n < l.length) : l[n]? = some (rd l (n : Int)) := by
  unfold rd
  rw [Int.toNat_natCast, List.getD_eq_getElem?_getD, List.getElem?_eq_getElem h]
  rfl
theorem ext_upto {α : Type} (a b : List α) (hl : a.length = b.length) (h : ∀ j, j < a.length → a[j]? = b[j]?) : a = b := by
  apply List.ext_getElem?
  intro j
  by_cases hj : j < a.length
  · exact h j hj
  · rw [List.getElem?_eq_none (by omega), List.getElem?_eq_none (by omega)]

theorem and_bound (x : Int) (m : Nat) (hm : m < 4611686018427387904) : 0 ≤ Go.bits .and .i64 x (m : Int) ∧ Go.bits .and .i64 x (m : Int) ≤ (m : Int) := by
  have h : ((BitVec.ofInt 64 x) &&& (BitVec.ofInt 64 (m : Int))).toNat ≤ m := by
    rw [BitVec.toNat_and, BitVec.ofInt_natCast, BitVec.toNat_ofNat, Nat.mod_eq_of_lt (by omega)]
    exact Nat.and_le_right
  show 0 ≤ IntKind.i64.wrap ((((BitVec.ofInt 64 x) &&& (BitVec.ofInt 64 (m : Int))).toNat : Nat) : Int) ∧ IntKind.i64.wrap ((((BitVec.ofInt 64 x) &&& (BitVec.ofInt 64 (m : Int))).toNat : Nat) : Int) ≤ (m : Int)
  generalize ((BitVec.ofInt 64 x) &&& (BitVec.ofInt 64 (m : Int))).toNat = q at *
  rw [IntKind.wrap_i64]
  omega
theorem and_byte (x : Int) : 0 ≤ Go.bits .and .i64 x 255 ∧ Go.bits .and .i64 x 255 ≤ 255 := and_bound x 255 (by decide)
/-- A place of the reader: within the bytes. -/
def At (b : List Int) (i : Int) : Prop := 0 ≤ i ∧ i ≤ (b.length : Int)
theorem draw_byte (b : List Int) (i h : Int) (hb : b.length ≤ 1048576) (hi : At b i) : ∃ v i' h', spec_l1Byte.f b i h = some (v, i', h') ∧ (0 ≤ v ∧ v ≤ 255) ∧ At b i' := by
  unfold spec_l1Byte.f
  unfold At at *
  by_cases h1 : i < (b.length : Int)
  · rw [if_pos h1, if_pos hi.1]
    exact ⟨_, _, _, rfl, and_byte _, by unfold wrap64; omega⟩
  · rw [if_neg h1]
    exact ⟨_, _, _, rfl, and_byte _, by omega⟩
theorem draw_below (b : List Int) (i h n : Int) (hb : b.length ≤ 1048576) (hi : At b i) (hn : n ≤ 65536) : ∃ v i' h', spec_l1Below.f b i h n = some (v, i', h') ∧ (0 ≤ v ∧ (0 < n → v < n) ∧ (n ≤ 0 → v = 0)) ∧ At b i' := by
  unfold spec_l1Below.f
  by_cases h0 : n ≤ 0
  · rw [if_pos h0]
    exact ⟨_, _, _, rfl, ⟨by omega, by omega, by omega⟩, hi⟩
  · rw [if_neg h0]
    by_cases h1 : n ≤ 256
    · rw [if_pos h1]
      obtain ⟨v, i', h', hv, hr, hi'⟩ := draw_byte b i h hb hi
      rw [hv]
      simp only [Option.bind_some]
      rw [if_neg (by omega), Int.tmod_eq_emod_of_nonneg hr.1]
      exact ⟨_, _, _, rfl, ⟨Int.emod_nonneg _ (by omega), fun _ => Int.emod_lt_of_pos _ (by omega), by omega⟩, hi'⟩
    · rw [if_neg h1]
      obtain ⟨v, i1, h1', hv, hr, hi1⟩ := draw_byte b i h hb hi
      rw [hv]
      simp only [Option.bind_some]
      obtain ⟨v2, i2, h2', hv2, hr2, hi2⟩ := draw_byte b i1 h1' hb hi1
      rw [hv2]
      simp only [Option.bind_some]
      obtain ⟨v3, i3, h3', hv3, hr3, hi3⟩ := draw_byte b i2 h2' hb hi2
      rw [hv3]
      simp only [Option.bind_some]
      have hp : 0 ≤ wrap64 ((wrap64 ((wrap64 (v * 65536)) + (wrap64 (v2 * 256)))) + v3) := by unfold wrap64; omega
      rw [if_neg (by omega), Int.tmod_eq_emod_of_nonneg hp]
      exact ⟨_, _, _, rfl, ⟨Int.emod_nonneg _ (by omega), fun _ => Int.emod_lt_of_pos _ (by omega), by omega⟩, hi3⟩
theorem draw_new_l0 : ∀ (d k : Nat) (b : List Int) (h i : Int), (b.length : Int) - i = (d : Int) → 0 ≤ i → d < k → b.length ≤ 1048576 → ∃ h', spec_l1New.l0 k b h i = some (b, 0, h')
  | 0, k, b, h, i, hd, hi, hk, hb => by
    obtain ⟨k, rfl⟩ : ∃ q, k = q + 1 := ⟨k - 1, by omega⟩
    simp only [spec_l1New.l0]
    rw [if_neg (by omega)]
    exact ⟨_, rfl⟩
  | d + 1, k, b, h, i, hd, hi, hk, hb => by
    obtain ⟨k, rfl⟩ : ∃ q, k = q + 1 := ⟨k - 1, by omega⟩
    simp only [spec_l1New.l0]
    rw [if_pos (by omega)]
    by_cases h4 : i < 4000
    · rw [if_pos h4, if_pos hi]
      have hw : wrap64 (i + 1) = i + 1 := by unfold wrap64; omega
      rw [hw]
      exact draw_new_l0 d k b _ (i + 1) (by omega) (by omega) (by omega) hb
    · rw [if_neg h4]
      exact ⟨_, rfl⟩
theorem draw_new (k : Nat) (b : List Int) (hk : b.length < k) (hb : b.length ≤ 1048576) : ∃ h', spec_l1New.f k b = some (b, 0, h') := by
  unfold spec_l1New.f
  exact draw_new_l0 b.length k b _ 0 (by omega) (by omega) hk hb
theorem at_zero (b : List Int) : At b 0 := ⟨by omega, by omega⟩

theorem draw_once (b : List Int) (i h n : Int) (hb : b.length ≤ 1048576) (hi : At b i) (hn : n ≤ 65536) : ∃ v i' h', spec_l1Once.f b i h n = some (v, i', h') ∧ At b i' := by
  obtain ⟨v, i', h', hv, hr, hi'⟩ := draw_below b i h n hb hi hn
  unfold spec_l1Once.f
  rw [hv]
  exact ⟨_, _, _, rfl, hi'⟩
theorem draw_int (b : List Int) (i h : Int) (l : List Int) (hb : b.length ≤ 1048576) (hi : At b i) (hl : 0 < l.length) (hl2 : l.length ≤ 65536) : ∃ v i' h', spec_l1Int.f b i h l = some (v, i', h') ∧ v ∈ l ∧ At b i' := by
  obtain ⟨v, i', h', hv, hr, hi'⟩ := draw_below b i h (l.length : Int) hb hi (by omega)
  have h2 := hr.2.1 (by omega)
  unfold spec_l1Int.f
  rw [hv]
  simp only [Option.bind_some]
  rw [if_pos hr.1, if_pos h2]
  refine ⟨_, _, _, rfl, ?_, hi'⟩
  have := rd_nat l v.toNat (by omega)
  rw [Int.toNat_of_nonneg hr.1] at this
  exact List.mem_of_getElem? this
theorem mem_i64 (l : List Int) (hl : l.all (fun v => decide (-9223372036854775808 ≤ v) && decide (v ≤ 9223372036854775807)) = true) (v : Int) (h : v ∈ l) : -9223372036854775808 ≤ v ∧ v ≤ 9223372036854775807 := by
  have := List.all_eq_true.1 hl v h
  simpa using this

theorem draw_odd (b : List Int) (i h : Int) (hb : b.length ≤ 1048576) (hi : At b i) : ∃ v i' h', spec_l1Odd.f b i h = some (v, i', h') ∧ (-9223372036854775808 ≤ v ∧ v ≤ 9223372036854775807) ∧ At b i' := by
  obtain ⟨v, i', h', hv, hm, hi'⟩ := draw_int b i h (hb := hb) (hi := hi) (l := [(-1), 0, 1, 2, 255, 256, 65535, 2147483647, 2147483648, 4294967295, 4294967296, (-2147483648), 9223372036854775807, (-9223372036854775808)]) (by decide) (by decide)
  unfold spec_l1Odd.f
  rw [hv]
  exact ⟨_, _, _, rfl, mem_i64 _ (by decide) v hm, hi'⟩
theorem draw_raw (b : List Int) (i h : Int) (hb : b.length ≤ 1048576) (hi : At b i) : ∃ v i' h', spec_l1Raw.f b i h = some (v, i', h') ∧ (-9223372036854775808 ≤ v ∧ v ≤ 9223372036854775807) ∧ At b i' := by
  obtain ⟨v, i1, h1, hv, hi1⟩ := draw_once b i h 2 hb hi (by decide)
  unfold spec_l1Raw.f
  rw [hv]
  simp only [Option.bind_some]
  cases v with
  | true =>
    obtain ⟨v2, i2, h2, hv2, hr2, hi2⟩ := draw_odd b i1 h1 hb hi1
    rw [if_pos rfl, hv2]
    exact ⟨_, _, _, rfl, hr2, hi2⟩
  | false =>
    obtain ⟨v2, i2, h2, hv2, hm, hi2⟩ := draw_int b i1 h1 (hb := hb) (hi := hi1) (l := [(-2147483648), (-2147483647), (-3), (-1), 0, 1, 3, 7, 2147483647, 2147483648]) (by decide) (by decide)
    rw [if_neg (by decide), hv2]
    exact ⟨_, _, _, rfl, mem_i64 _ (by decide) v2 hm, hi2⟩

theorem bnd_range (n : Int) : -2147483647 ≤ bnd n ∧ bnd n ≤ 2147483647 := by
  unfold bnd
  split
  · omega
  · split <;> omega
theorem bnd_in (n : Int) (h : -2147483647 ≤ n ∧ n ≤ 2147483647) : bnd n = n := by
  unfold bnd
  rw [if_neg (by omega), if_neg (by omega)]
theorem bnd_cases (n : Int) : (bnd n = 2147483647 ∧ 2147483647 ≤ n) ∨ (bnd n = -2147483647 ∧ n ≤ -2147483647) ∨ (bnd n = n ∧ -2147483647 ≤ n ∧ n ≤ 2147483647) := by
  unfold bnd
  by_cases h1 : n > 2147483647
  · rw [if_pos h1]; omega
  · rw [if_neg h1]
    by_cases h2 : n < -2147483647
    · rw [if_pos h2]; omega
    · rw [if_neg h2]; omega
theorem wrap_small (n : Int) (h : -9223372036854775808 ≤ n ∧ n ≤ 9223372036854775807) : wrap64 n = n := by unfold wrap64; omega
theorem upto_val (a b : Int) : ∃ r, spec_Upto.f a b = some r ∧ 0 ≤ r ∧ (0 ≤ a → 0 ≤ b → r ≤ a ∧ r ≤ b) := by
  unfold spec_Upto.f
  by_cases h1 : b < a
  · rw [if_pos h1]
    by_cases h2 : b < 0
    · rw [if_pos h2]; exact ⟨_, rfl, by omega, by omega⟩
    · rw [if_neg h2]; exact ⟨_, rfl, by omega, by omega⟩
  · rw [if_neg h1]
    by_cases h2 : a < 0
    · rw [if_pos h2]; exact ⟨_, rfl, by omega, by omega⟩
    · rw [if_neg h2]; exact ⟨_, rfl, by omega, by omega⟩
def half (n : Int) : Int := wrap64 (Int.tdiv (bnd n) 2)
theorem half_eq (n : Int) : (0 ≤ bnd n → half n = bnd n / 2) ∧ (bnd n < 0 → half n = -((-bnd n) / 2)) := by
  have hr := bnd_range n
  unfold half
  constructor
  · intro h
    rw [Int.tdiv_eq_ediv_of_nonneg h]; unfold wrap64; omega
  · intro h
    have := Int.neg_tdiv (-bnd n) 2
    rw [Int.neg_neg] at this
    rw [this, Int.tdiv_eq_ediv_of_nonneg (by omega)]; unfold wrap64; omega
theorem FnBounds : laws_FnBounds.Pure := by
  intro b _ _ _
  by_cases hb : (b.length : Int) > 1048576
  · refine ⟨0, ?_⟩
    unfold laws_FnBounds.f laws_big.f
    simp only [Option.bind_some]
    rw [if_pos (by simpa using hb)]
  have hb' : b.length ≤ 1048576 := by omega
  refine ⟨b.length + 2, ?_⟩
  obtain ⟨h0, hnew⟩ := draw_new (b.length + 2) b (by omega) hb'
  obtain ⟨n, i1, h1, hn, hnr, hi1⟩ := draw_raw b 0 h0 hb' (at_zero b)
  obtain ⟨m, i2, h2, hm, hmr, _⟩ := draw_raw b i1 h1 hb' hi1
  obtain ⟨u, hu, hu0, hu1⟩ := upto_val n m
  unfold laws_FnBounds.f laws_big.f
  simp only [Option.bind_some]
  rw [if_neg (by simpa using hb)]
  have hcomm : bnd (wrap64 (bnd n + bnd m)) = bnd (wrap64 (bnd m + bnd n)) := by rw [Int.add_comm]
  simp only [spec_DrawPlus.f, spec_DrawHalf.f, spec_DrawUpto.f, hnew, hn, hm, Option.bind_some, impl_Plus.f, impl_Less.f, impl_Half.f, impl_Twice.f, spec_Plus.f, spec_Less.f, spec_Twice.f, impl_upto, hu, impl_bound, spec_bound, hcomm, if_true]
  have rn := bnd_range n
  have rm := bnd_range m
  have hh := half_eq n
  rw [show wrap64 (Int.tdiv (bnd n) 2) = half n from rfl]
  have rh : -2147483647 ≤ half n ∧ half n ≤ 2147483647 := by
    rcases Int.lt_or_le (bnd n) 0 with h | h
    · rw [hh.2 h]; omega
    · rw [hh.1 h]; omega
  have ht : bnd (wrap64 (2 * bnd (half n))) = 2 * half n := by
    rw [bnd_in _ rh, wrap_small _ (by omega)]
    apply bnd_in
    rcases Int.lt_or_le (bnd n) 0 with h | h
    · rw [hh.2 h]; omega
    · rw [hh.1 h]; omega
  have hd : bnd n - 2 * half n ≤ 1 ∧ 2 * half n - bnd n ≤ 1 := by
    rcases Int.lt_or_le (bnd n) 0 with h | h
    · rw [hh.2 h]; omega
    · rw [hh.1 h]; omega
  rw [ht, wrap_small (bnd n - 2 * half n) (by omega), wrap_small (2 * half n - bnd n) (by omega)]
  have rp := bnd_range (wrap64 (bnd m + bnd n))
  rw [if_pos (by omega), if_pos (by omega), bnd_in _ rp, if_pos rfl, if_pos hd.1, if_pos hd.2]
  have tail : (if u ≥ 0 then (if n < 0 then (some true) else (if m < 0 then (some true) else (if u ≤ n then (some (decide (u ≤ m))) else (some false)))) else (some false)) = some true := by
    rw [if_pos hu0]
    by_cases g1 : n < 0
    · rw [if_pos g1]
    · rw [if_neg g1]
      by_cases g2 : m < 0
      · rw [if_pos g2]
      · have := hu1 (by omega) (by omega)
        rw [if_neg g2, if_pos this.1, decide_eq_true this.2]
  rw [tail]
  have wq : wrap64 (bnd n - bnd m) = bnd n - bnd m := wrap_small _ (by omega)
  rw [wq]
  by_cases q1 : bnd (bnd n - bnd m) = 2147483647
  · rw [if_pos q1]
  · rw [if_neg q1]
    by_cases q2 : bnd (bnd n - bnd m) = -2147483647
    · rw [if_pos q2]
    · rw [if_neg q2, bnd_in (bnd (bnd n - bnd m)) (bnd_range _)]
      have q3 : bnd (bnd n - bnd m) = bnd n - bnd m := by
        rcases bnd_cases (bnd n - bnd m) with h | h | h <;> omega
      rw [q3, wrap_small _ (by omega), show bnd n - bnd m + bnd m = bnd n from by omega, bnd_in _ rn, if_pos rfl]

end Go.Proofs.Ytfpbbikhcnpceaa.Pure
