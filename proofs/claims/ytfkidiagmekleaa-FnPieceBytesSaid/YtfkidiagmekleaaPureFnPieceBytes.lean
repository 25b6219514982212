/- Whatever bytes it is handed, the law FnPieceBytes answers true: a drawn valid piece is read back from where the program wrote it behind drawn bytes, which stay, an invalid one is not written; what the program reads of drawn bytes is read by the reference, too, is valid and is written just so, and where nothing is read the empty piece is handed back (for more than 2^20 bytes the law says nothing: it answers true). -/
import Derived.Test.YtfkidiagmekleaaHFnPieceBytes
namespace Go.Proofs.Ytfkidiagmekleaa.Pure
open Go.RowKit Go.Proofs.Ytfkidiagmekleaa.QAll Go.Proofs.YtfkidiagmekleaaW.PrintWords Go.Proofs.YtfkidiagmekleaaW.PrintLast
theorem wrap_nat (n : Nat) (h : n ≤ 4611686018427387904) : wrap64 ((n : Int) + 1) = ((n + 1 : Nat) : Int) := by unfold wrap64; omega
theorem rd_nat (l : List Int) (n : Nat) (h : n < l.length) : l[n]? = some (rd l (n : Int)) := by
  unfold rd
  rw [Int.toNat_natCast, List.getD_eq_getElem?_getD, List.getElem?_eq_getElem h]
  rfl
theorem ext_upto {α : Type} (a b : List α) (hl : a.length = b.length) (h : ∀ j, j < a.length → a[j]? = b[j]?) : a = b := by
  apply List.ext_getElem?
  intro j
  by_cases hj : j < a.length
  · exact h j hj
  · rw [List.getElem?_eq_none (by omega), List.getElem?_eq_none (by omega)]

theorem and_bound (x : Int) (m : Nat) (hm : m < 4611686018427387904) : 0 ≤ Go.bits .and .i64 x (m : Int) ∧ Go.bits .and .i64 x (m : Int) ≤ (m : Int) := by
  have h : ((BitVec.ofInt 64 x) &&& (BitVec.ofInt 64 (m : Int))).toNat ≤ m := by
    rw [BitVec.toNat_and, BitVec.ofInt_natCast, BitVec.toNat_ofNat, Nat.mod_eq_of_lt (by omega)]
    exact Nat.and_le_right
  show 0 ≤ IntKind.i64.wrap ((((BitVec.ofInt 64 x) &&& (BitVec.ofInt 64 (m : Int))).toNat : Nat) : Int) ∧ IntKind.i64.wrap ((((BitVec.ofInt 64 x) &&& (BitVec.ofInt 64 (m : Int))).toNat : Nat) : Int) ≤ (m : Int)
  generalize ((BitVec.ofInt 64 x) &&& (BitVec.ofInt 64 (m : Int))).toNat = q at *
  rw [IntKind.wrap_i64]
  omega
theorem and_byte (x : Int) : 0 ≤ Go.bits .and .i64 x 255 ∧ Go.bits .and .i64 x 255 ≤ 255 := and_bound x 255 (by decide)
/-- A place of the reader: within the bytes. -/
def At (b : List Int) (i : Int) : Prop := 0 ≤ i ∧ i ≤ (b.length : Int)
theorem draw_byte (b : List Int) (i h : Int) (hb : b.length ≤ 1048576) (hi : At b i) : ∃ v i' h', spec_l1Byte.f b i h = some (v, i', h') ∧ (0 ≤ v ∧ v ≤ 255) ∧ At b i' := by
  unfold spec_l1Byte.f
  unfold At at *
  by_cases h1 : i < (b.length : Int)
  · rw [if_pos h1, if_pos hi.1]
    exact ⟨_, _, _, rfl, and_byte _, by unfold wrap64; omega⟩
  · rw [if_neg h1]
    exact ⟨_, _, _, rfl, and_byte _, by omega⟩
theorem draw_below (b : List Int) (i h n : Int) (hb : b.length ≤ 1048576) (hi : At b i) (hn : n ≤ 65536) : ∃ v i' h', spec_l1Below.f b i h n = some (v, i', h') ∧ (0 ≤ v ∧ (0 < n → v < n) ∧ (n ≤ 0 → v = 0)) ∧ At b i' := by
  unfold spec_l1Below.f
  by_cases h0 : n ≤ 0
  · rw [if_pos h0]
    exact ⟨_, _, _, rfl, ⟨by omega, by omega, by omega⟩, hi⟩
  · rw [if_neg h0]
    by_cases h1 : n ≤ 256
    · rw [if_pos h1]
      obtain ⟨v, i', h', hv, hr, hi'⟩ := draw_byte b i h hb hi
      rw [hv]
      simp only [Option.bind_some]
      rw [if_neg (by omega), Int.tmod_eq_emod_of_nonneg hr.1]
      exact ⟨_, _, _, rfl, ⟨Int.emod_nonneg _ (by omega), fun _ => Int.emod_lt_of_pos _ (by omega), by omega⟩, hi'⟩
    · rw [if_neg h1]
      obtain ⟨v, i1, h1', hv, hr, hi1⟩ := draw_byte b i h hb hi
      rw [hv]
      simp only [Option.bind_some]
      obtain ⟨v2, i2, h2', hv2, hr2, hi2⟩ := draw_byte b i1 h1' hb hi1
      rw [hv2]
      simp only [Option.bind_some]
      obtain ⟨v3, i3, h3', hv3, hr3, hi3⟩ := draw_byte b i2 h2' hb hi2
      rw [hv3]
      simp only [Option.bind_some]
      have hp : 0 ≤ wrap64 ((wrap64 ((wrap64 (v * 65536)) + (wrap64 (v2 * 256)))) + v3) := by unfold wrap64; omega
      rw [if_neg (by omega), Int.tmod_eq_emod_of_nonneg hp]
      exact ⟨_, _, _, rfl, ⟨Int.emod_nonneg _ (by omega), fun _ => Int.emod_lt_of_pos _ (by omega), by omega⟩, hi3⟩
theorem draw_new_l0 : ∀ (d k : Nat) (b : List Int) (h i : Int), (b.length : Int) - i = (d : Int) → 0 ≤ i → d < k → b.length ≤ 1048576 → ∃ h', spec_l1New.l0 k b h i = some (b, 0, h')
  | 0, k, b, h, i, hd, hi, hk, hb => by
    obtain ⟨k, rfl⟩ : ∃ q, k = q + 1 := ⟨k - 1, by omega⟩
    simp only [spec_l1New.l0]
    rw [if_neg (by omega)]
    exact ⟨_, rfl⟩
  | d + 1, k, b, h, i, hd, hi, hk, hb => by
    obtain ⟨k, rfl⟩ : ∃ q, k = q + 1 := ⟨k - 1, by omega⟩
    simp only [spec_l1New.l0]
    rw [if_pos (by omega)]
    by_cases h4 : i < 4000
    · rw [if_pos h4, if_pos hi]
      have hw : wrap64 (i + 1) = i + 1 := by unfold wrap64; omega
      rw [hw]
      exact draw_new_l0 d k b _ (i + 1) (by omega) (by omega) (by omega) hb
    · rw [if_neg h4]
      exact ⟨_, rfl⟩
theorem draw_new (k : Nat) (b : List Int) (hk : b.length < k) (hb : b.length ≤ 1048576) : ∃ h', spec_l1New.f k b = some (b, 0, h') := by
  unfold spec_l1New.f
  exact draw_new_l0 b.length k b _ 0 (by omega) (by omega) hk hb
theorem at_zero (b : List Int) : At b 0 := ⟨by omega, by omega⟩

theorem draw_once (b : List Int) (i h n : Int) (hb : b.length ≤ 1048576) (hi : At b i) (hn : n ≤ 65536) : ∃ v i' h', spec_l1Once.f b i h n = some (v, i', h') ∧ At b i' := by
  obtain ⟨v, i', h', hv, hr, hi'⟩ := draw_below b i h n hb hi hn
  unfold spec_l1Once.f
  rw [hv]
  exact ⟨_, _, _, rfl, hi'⟩
theorem draw_int (b : List Int) (i h : Int) (l : List Int) (hb : b.length ≤ 1048576) (hi : At b i) (hl : 0 < l.length) (hl2 : l.length ≤ 65536) : ∃ v i' h', spec_l1Int.f b i h l = some (v, i', h') ∧ v ∈ l ∧ At b i' := by
  obtain ⟨v, i', h', hv, hr, hi'⟩ := draw_below b i h (l.length : Int) hb hi (by omega)
  have h2 := hr.2.1 (by omega)
  unfold spec_l1Int.f
  rw [hv]
  simp only [Option.bind_some]
  rw [if_pos hr.1, if_pos h2]
  refine ⟨_, _, _, rfl, ?_, hi'⟩
  have := rd_nat l v.toNat (by omega)
  rw [Int.toNat_of_nonneg hr.1] at this
  exact List.mem_of_getElem? this
theorem mem_i64 (l : List Int) (hl : l.all (fun v => decide (-9223372036854775808 ≤ v) && decide (v ≤ 9223372036854775807)) = true) (v : Int) (h : v ∈ l) : -9223372036854775808 ≤ v ∧ v ≤ 9223372036854775807 := by
  have := List.all_eq_true.1 hl v h
  simpa using this

theorem draw_odd (b : List Int) (i h : Int) (hb : b.length ≤ 1048576) (hi : At b i) : ∃ v i' h', spec_l1Odd.f b i h = some (v, i', h') ∧ (-9223372036854775808 ≤ v ∧ v ≤ 9223372036854775807) ∧ At b i' := by
  obtain ⟨v, i', h', hv, hm, hi'⟩ := draw_int b i h (hb := hb) (hi := hi) (l := [(-1), 0, 1, 2, 255, 256, 65535, 2147483647, 2147483648, 4294967295, 4294967296, (-2147483648), 9223372036854775807, (-9223372036854775808)]) (by decide) (by decide)
  unfold spec_l1Odd.f
  rw [hv]
  exact ⟨_, _, _, rfl, mem_i64 _ (by decide) v hm, hi'⟩
theorem draw_raw (b : List Int) (i h : Int) (hb : b.length ≤ 1048576) (hi : At b i) : ∃ v i' h', spec_l1Raw.f b i h = some (v, i', h') ∧ (-9223372036854775808 ≤ v ∧ v ≤ 9223372036854775807) ∧ At b i' := by
  obtain ⟨v, i1, h1, hv, hi1⟩ := draw_once b i h 2 hb hi (by decide)
  unfold spec_l1Raw.f
  rw [hv]
  simp only [Option.bind_some]
  cases v with
  | true =>
    obtain ⟨v2, i2, h2, hv2, hr2, hi2⟩ := draw_odd b i1 h1 hb hi1
    rw [if_pos rfl, hv2]
    exact ⟨_, _, _, rfl, hr2, hi2⟩
  | false =>
    obtain ⟨v2, i2, h2, hv2, hm, hi2⟩ := draw_int b i1 h1 (hb := hb) (hi := hi1) (l := [(-2147483648), (-2147483647), (-3), (-1), 0, 1, 3, 7, 2147483647, 2147483648]) (by decide) (by decide)
    rw [if_neg (by decide), hv2]
    exact ⟨_, _, _, rfl, mem_i64 _ (by decide) v2 hm, hi2⟩

theorem gbind {α β : Type} {x : Option α} {f : α → Option β} {Q : β → Prop} {R : α → Prop} (h : ∃ v, x = some v ∧ R v) (h2 : ∀ v, R v → ∃ p, f v = some p ∧ Q p) : ∃ p, x.bind f = some p ∧ Q p := by
  obtain ⟨v, rfl, hv⟩ := h
  exact h2 v hv
theorem gite {α : Type} {c : Prop} [Decidable c] {a b : Option α} {Q : α → Prop} (h1 : c → ∃ p, a = some p ∧ Q p) (h2 : ¬ c → ∃ p, b = some p ∧ Q p) : ∃ p, (if c then a else b) = some p ∧ Q p := by
  by_cases h : c
  · rw [if_pos h]; exact h1 h
  · rw [if_neg h]; exact h2 h
theorem dbelow (b : List Int) (i h n : Int) (hb : b.length ≤ 1048576) (hi : At b i) (hn : n ≤ 65536) : ∃ v, spec_l1Below.f b i h n = some v ∧ At b v.2.1 := by
  obtain ⟨v, i', h', e, _, hi'⟩ := draw_below b i h n hb hi hn
  exact ⟨_, e, hi'⟩
theorem dint (b : List Int) (i h : Int) (l : List Int) (hb : b.length ≤ 1048576) (hi : At b i) (hl : 0 < l.length) (hl2 : l.length ≤ 65536) : ∃ v, spec_l1Int.f b i h l = some v ∧ At b v.2.1 := by
  obtain ⟨v, i', h', e, _, hi'⟩ := draw_int b i h l hb hi hl hl2
  exact ⟨_, e, hi'⟩
theorem donce (b : List Int) (i h n : Int) (hb : b.length ≤ 1048576) (hi : At b i) (hn : n ≤ 65536) : ∃ v, spec_l1Once.f b i h n = some v ∧ At b v.2.1 := by
  obtain ⟨v, i', h', e, hi'⟩ := draw_once b i h n hb hi hn
  exact ⟨_, e, hi'⟩
theorem draw_raw_ex (b : List Int) (i h : Int) (hb : b.length ≤ 1048576) (hi : At b i) : ∃ v, spec_l1Raw.f b i h = some v ∧ At b v.2.1 := by
  obtain ⟨v, i', h', e, _, hi'⟩ := draw_raw b i h hb hi
  exact ⟨_, e, hi'⟩
theorem l4_j1 (k : Nat) (b : List Int) (i h : Int) (hb : b.length ≤ 1048576) (hi : At b i) (hk : 0 < k) (x0 x1 x2 x3 x4 x5 x6 x7 x8 x9 x10 : Int) (x11 x12 : Bool) : ∃ p, spec_l4Draw.j1 k b i h x0 x1 x2 x3 x4 x5 x6 x7 x8 x9 x10 x11 x12 = some p ∧ At b p.2.2.2.2.2.2.2.2.2.2.2.2.2.1 := by
  obtain ⟨k, rfl⟩ : ∃ q, k = q + 1 := ⟨k - 1, by omega⟩
  simp only [spec_l4Draw.j1]
  refine gbind (dint b _ _ _ hb hi (by decide) (by decide)) (fun v hv => ?_)
  refine gbind (dint b _ _ _ hb hv (by decide) (by decide)) (fun v hv => ?_)
  refine gbind (dint b _ _ _ hb hv (by decide) (by decide)) (fun v hv => ?_)
  refine gbind (donce b _ _ _ hb hv (by decide)) (fun v hv => ?_)
  exact ⟨_, rfl, hv⟩
theorem l4_l0 (b : List Int) (hb : b.length ≤ 1048576) : ∀ (d k n : Nat) (i h : Int) (x0 x1 x2 x3 x4 x5 x6 x7 x8 x9 x10 : Int) (x11 x12 : Bool), n + d = 6 → d + 1 < k → At b i → ∃ p, spec_l4Draw.l0 k [1, 2, 4, 8, 16, 32] 6 (n : Int) b i h x0 x1 x2 x3 x4 x5 x6 x7 x8 x9 x10 x11 x12 = some p ∧ At b p.2.2.2.2.2.2.2.2.2.2.2.2.2.1
  | 0, k, n, i, h, x0, x1, x2, x3, x4, x5, x6, x7, x8, x9, x10, x11, x12, hn, hk, hi => by
    obtain ⟨k, rfl⟩ : ∃ q, k = q + 1 := ⟨k - 1, by omega⟩
    simp only [spec_l4Draw.l0]
    refine gite (fun hc => by omega) (fun _ => ?_)
    refine gite (fun _ => ?_) (fun _ => ⟨_, rfl, hi⟩)
    refine gbind (donce b _ _ _ hb hi (by decide)) (fun v hv => ?_)
    refine gite (fun _ => ?_) (fun _ => ?_)
    · exact l4_j1 k b _ _ hb hv (by omega) _ _ _ _ _ _ _ _ _ _ _ _ _
    · exact l4_j1 k b _ _ hb hv (by omega) _ _ _ _ _ _ _ _ _ _ _ _ _
  | d + 1, k, n, i, h, x0, x1, x2, x3, x4, x5, x6, x7, x8, x9, x10, x11, x12, hn, hk, hi => by
    obtain ⟨k, rfl⟩ : ∃ q, k = q + 1 := ⟨k - 1, by omega⟩
    have hl : (([1, 2, 4, 8, 16, 32] : List Int).length : Int) = 6 := rfl
    simp only [spec_l4Draw.l0]
    refine gite (fun _ => ?_) (fun hc => by omega)
    refine gite (fun _ => ?_) (fun hc => by omega)
    refine gite (fun _ => ?_) (fun hc => by rw [hl] at hc; omega)
    rw [wrap_nat n (by omega)]
    refine gbind (donce b _ _ _ hb hi (by decide)) (fun v hv => ?_)
    refine gite (fun _ => ?_) (fun _ => ?_)
    · exact l4_l0 b hb d k (n + 1) _ _ _ _ _ _ _ _ _ _ _ _ _ _ _ (by omega) (by omega) hv
    · exact l4_l0 b hb d k (n + 1) _ _ _ _ _ _ _ _ _ _ _ _ _ _ _ (by omega) (by omega) hv
theorem draw_piece (k : Nat) (b : List Int) (i h id : Int) (hb : b.length ≤ 1048576) (hi : At b i) (hk : 8 < k) : ∃ p, spec_l4Draw.f k b i h id = some p ∧ At b p.2.2.2.2.2.2.2.2.2.2.2.2.2.1 := by
  unfold spec_l4Draw.f
  refine gbind (dbelow b _ _ _ hb hi (by decide)) (fun v hv => ?_)
  refine gbind (dint b _ _ _ hb hv (by decide) (by decide)) (fun v hv => ?_)
  refine gbind (dbelow b _ _ _ hb hv (by decide)) (fun v hv => ?_)
  refine gbind (dbelow b _ _ _ hb hv (by decide)) (fun v hv => ?_)
  refine gbind (dbelow b _ _ _ hb hv (by decide)) (fun v hv => ?_)
  exact l4_l0 b hb 6 k 0 _ _ _ _ _ _ _ _ _ _ _ _ _ _ _ (by omega) (by omega) hv
theorem draw_any (k : Nat) (b : List Int) (i h : Int) (hb : b.length ≤ 1048576) (hi : At b i) (hk : 8 < k) : ∃ p, spec_l4Any.f k b i h = some p ∧ At b p.2.2.2.2.2.2.2.2.2.2.2.2.2.1 := by
  unfold spec_l4Any.f
  refine gbind (dbelow b _ _ _ hb hi (by decide)) (fun v hv => ?_)
  refine gbind (draw_piece k b _ _ _ hb hv hk) (fun v hv => ?_)
  refine gbind (dbelow b _ _ _ hb hv (by decide)) (fun v hv => ?_)
  iterate 12
    refine gite (fun _ => ?_) (fun _ => ?_)
    · first
        | exact gbind (dint b _ _ _ hb (by assumption) (by decide) (by decide)) (fun v hv => ⟨_, rfl, hv⟩)
        | exact gbind (draw_raw_ex b _ _ hb (by assumption)) (fun v hv => ⟨_, rfl, hv⟩)
        | exact ⟨_, rfl, by assumption⟩
  exact ⟨_, rfl, by assumption⟩

theorem dnew (k : Nat) (b : List Int) (hk : b.length < k) (hb : b.length ≤ 1048576) : ∃ v, spec_l1New.f k b = some v ∧ (v.1 = b ∧ At b v.2.1) := by
  obtain ⟨h, e⟩ := draw_new k b hk hb
  exact ⟨_, e, rfl, at_zero b⟩
theorem dbelow2 (b : List Int) (i h n : Int) (hb : b.length ≤ 1048576) (hi : At b i) (hn : n ≤ 65536) (h0 : 0 < n) : ∃ v, spec_l1Below.f b i h n = some v ∧ ((0 ≤ v.1 ∧ v.1 < n) ∧ At b v.2.1) := by
  obtain ⟨v, i', h', e, hr, hi'⟩ := draw_below b i h n hb hi hn
  exact ⟨_, e, ⟨hr.1, hr.2.1 h0⟩, hi'⟩

theorem bind_of {α β : Type} {x : Option α} {v : α} {f : α → Option β} {r : Option β} (h : x = some v) (h2 : f v = r) : x.bind f = r := by rw [h]; exact h2
theorem ite_of {α : Type} {c : Prop} [Decidable c] {a b r : α} (hc : c) (h : a = r) : (if c then a else b) = r := by rw [if_pos hc]; exact h
theorem ite_no {α : Type} {c : Prop} [Decidable c] {a b r : α} (hc : ¬ c) (h : b = r) : (if c then a else b) = r := by rw [if_neg hc]; exact h

def bnd (n : Int) : Int := if n > 2147483647 then 2147483647 else if n < -2147483647 then -2147483647 else n

theorem spec_bound (n : Int) : spec_Bound.f n = some (bnd n) := by
  unfold spec_Bound.f bnd
  by_cases h1 : n > 2147483647
  · rw [if_pos h1, if_pos h1]
  · rw [if_neg h1, if_neg h1]
    by_cases h2 : n < -2147483647
    · rw [if_pos h2, if_pos h2]
    · rw [if_neg h2, if_neg h2]

theorem impl_bound (n : Int) : impl_Bound.f n = some (bnd n) := by
  unfold impl_Bound.f bnd mx mn
  congr 1
  split <;> split <;> (try split) <;> omega


theorem bnd_range (n : Int) : -2147483647 ≤ bnd n ∧ bnd n ≤ 2147483647 := by
  unfold bnd
  split
  · omega
  · split <;> omega
def code (n : Int) : List Int := [(bnd n + 2147483648) / 16777216, (bnd n + 2147483648) / 65536 % 256, (bnd n + 2147483648) / 256 % 256, (bnd n + 2147483648) % 256]
theorem code_length (n : Int) : (code n).length = 4 := rfl
theorem and255 (x : Int) (h0 : 0 ≤ x) (h : x ≤ 4611686018427387904) : Go.bits .and .i64 x 255 = x % 256 :=
  bits_mask .i64 63 (by decide) (fun n h0 h1 => by rw [IntKind.wrap_i64]; omega) 8 (by decide) x h0 (by omega)
theorem impl_putnum (l : List Int) (n : Int) (hb : l.length < 140737488355000) : impl_PutNum.f l n = some (l ++ code n) := by
  have hr := bnd_range n
  have hw : wrap64 (bnd n + 2147483648) = bnd n + 2147483648 := by unfold wrap64; omega
  unfold impl_PutNum.f slices_Clone_byte_byte.f
  rw [impl_bound]
  simp only [Option.bind_some, List.length_nil, List.nil_append, List.length_cons]
  rw [if_pos (by omega)]
  simp only [Option.bind_some]
  rw [if_pos (by omega), hw]
  unfold code
  congr 4
  omega
theorem spec_putnum (l : List Int) (n : Int) (hb : l.length < 140737488355000) : spec_PutNum.f l n = some (l ++ code n) := by
  have hr := bnd_range n
  have hw : wrap64 (bnd n + 2147483648) = bnd n + 2147483648 := by unfold wrap64; omega
  unfold spec_PutNum.f
  rw [spec_bound]
  simp only [Option.bind_some, List.length_nil, List.nil_append, List.length_cons]
  rw [if_pos (by omega)]
  rw [if_pos (by omega), hw, and255 _ (by omega) (by omega), and255 _ (by omega) (by omega), and255 _ (by omega) (by omega), and255 _ (by omega) (by omega)]
  unfold code
  congr 3
  · omega
  · congr 1
    · omega
    · congr 1
      · omega
      · congr 1
        omega

theorem flat_length (l : List Int) : (l.flatMap code).length = 4 * l.length := by
  induction l with
  | nil => rfl
  | cons x l ih => rw [List.flatMap_cons, List.length_append, code_length, ih, List.length_cons]; omega
theorem drop_cons (l : List Int) (n : Nat) (h : n < l.length) : l.drop n = rd l (n : Int) :: l.drop (n + 1) := by
  have h1 := rd_nat l n h
  rw [List.getElem?_eq_getElem h] at h1
  rw [List.drop_eq_getElem_cons h, Option.some.inj h1]

def inr (a lo hi : Int) : Bool := decide (lo ≤ a ∧ a ≤ hi)
theorem inr_if (a lo hi : Int) : (if a ≥ lo then (some (decide (a ≤ hi))) else (some false)) = some (inr a lo hi) := by
  unfold inr
  by_cases h : a ≥ lo
  · rw [if_pos h]; congr 1; simp [show lo ≤ a from h]
  · rw [if_neg h]; congr 1; simp; omega
theorem spec_in (a lo hi : Int) : spec_l1In.f a lo hi = some (inr a lo hi) := inr_if a lo hi

theorem impl_from_in (a lo hi : Int) : impl_from.f a lo hi = some (inr a lo hi) := inr_if a lo hi

def pok (a0 a1 a2 a3 a4 a5 a6 a7 a8 a9 a10 : Int) (a11 a12 : Bool) : Bool :=
  inr a0 1 99 && (inr a1 0 2 && (inr a2 0 2 && (inr a3 1 4 && (inr a4 0 9999 && (inr a5 0 999 && (inr a6 0 999 && (inr a7 0 63 && (inr a8 0 2147483647 && (inr a9 0 2147483647 && (inr a10 0 2147483647 && (decide (a3 = 2) || (decide (a2 = a1) && (decide (a8 = 0) && (decide (a9 = 0) && (decide (a10 = 0) && (!a11 && !a12))))))))))))))))
theorem spec_pieceok (k : Nat) (a0 a1 a2 a3 a4 a5 a6 a7 a8 a9 a10 : Int) (a11 a12 : Bool) (hk : 1 ≤ k) : spec_PieceOk.f k a0 a1 a2 a3 a4 a5 a6 a7 a8 a9 a10 a11 a12 = some (pok a0 a1 a2 a3 a4 a5 a6 a7 a8 a9 a10 a11 a12) := by
  obtain ⟨k, rfl⟩ : ∃ q, k = q + 1 := ⟨k - 1, by omega⟩
  have hj : spec_PieceOk.j0 (k + 1) true a0 a1 a2 a3 a4 a5 a6 a7 a8 a9 a10 a11 a12 = some false := by simp only [spec_PieceOk.j0, if_true]
  unfold spec_PieceOk.f pok
  simp only [spec_in, Option.bind_some, hj]
  cases inr a0 1 99
  · simp only [Bool.false_eq_true, if_false, Bool.false_and]
  cases inr a1 0 2
  · simp only [Bool.false_eq_true, if_false, if_true, Bool.false_and, Bool.true_and]
  cases inr a2 0 2
  · simp only [Bool.false_eq_true, if_false, if_true, Bool.false_and, Bool.true_and]
  cases inr a3 1 4
  · simp only [Bool.false_eq_true, if_false, if_true, Bool.false_and, Bool.true_and]
  cases inr a4 0 9999
  · simp only [Bool.false_eq_true, if_false, if_true, Bool.false_and, Bool.true_and]
  cases inr a5 0 999
  · simp only [Bool.false_eq_true, if_false, if_true, Bool.false_and, Bool.true_and]
  cases inr a6 0 999
  · simp only [Bool.false_eq_true, if_false, if_true, Bool.false_and, Bool.true_and]
  cases inr a7 0 63
  · simp only [if_true, Bool.false_and, Bool.true_and, Bool.not_false, hj]
  simp only [spec_PieceOk.j0, spec_in, Option.bind_some, if_true, Bool.true_and, Bool.not_true, Bool.false_eq_true, if_false]
  cases inr a8 0 2147483647
  · simp only [Bool.false_eq_true, if_false, Bool.false_and]
  cases inr a9 0 2147483647
  · simp only [Bool.false_eq_true, if_false, if_true, Bool.false_and, Bool.true_and]
  cases inr a10 0 2147483647
  · simp only [Bool.false_eq_true, if_false, if_true, Bool.false_and, Bool.true_and]
  simp only [if_true, Bool.true_and]
  by_cases h3 : a3 = 2
  · simp [h3]
  by_cases h2 : a2 = a1
  · by_cases h8 : a8 = 0
    · by_cases h9 : a9 = 0
      · by_cases h10 : a10 = 0
        · cases a11 <;> simp [h3, h2, h8, h9, h10]
        · simp [h3, h2, h8, h9, h10]
      · simp [h3, h2, h8, h9]
    · simp [h3, h2, h8]
  · simp [h3, h2]
theorem impl_pieceok (k : Nat) (a0 a1 a2 a3 a4 a5 a6 a7 a8 a9 a10 : Int) (a11 a12 : Bool) (hk : 1 ≤ k) : impl_PieceOk.f k a0 a1 a2 a3 a4 a5 a6 a7 a8 a9 a10 a11 a12 = some (pok a0 a1 a2 a3 a4 a5 a6 a7 a8 a9 a10 a11 a12) := by
  obtain ⟨k, rfl⟩ : ∃ q, k = q + 1 := ⟨k - 1, by omega⟩
  have hj : impl_PieceOk.j0 (k + 1) true a0 a1 a2 a3 a4 a5 a6 a7 a8 a9 a10 a11 a12 = some false := by simp only [impl_PieceOk.j0, if_true]
  unfold impl_PieceOk.f pok
  simp only [impl_isId.f, impl_isPlayer.f, impl_isZone.f, impl_isTime.f, impl_isTraits.f, impl_from_in, Option.bind_some, hj]
  cases inr a0 1 99
  · simp only [Bool.false_eq_true, if_false, Bool.false_and]
  cases inr a1 0 2
  · simp only [Bool.false_eq_true, if_false, if_true, Bool.false_and, Bool.true_and]
  cases inr a2 0 2
  · simp only [Bool.false_eq_true, if_false, if_true, Bool.false_and, Bool.true_and]
  cases inr a3 1 4
  · simp only [Bool.false_eq_true, if_false, if_true, Bool.false_and, Bool.true_and]
  cases inr a4 0 9999
  · simp only [Bool.false_eq_true, if_false, if_true, Bool.false_and, Bool.true_and]
  cases inr a5 0 999
  · simp only [Bool.false_eq_true, if_false, if_true, Bool.false_and, Bool.true_and]
  cases inr a6 0 999
  · simp only [Bool.false_eq_true, if_false, if_true, Bool.false_and, Bool.true_and]
  cases inr a7 0 63
  · simp only [if_true, Bool.false_and, Bool.true_and, Bool.not_false, hj]
  simp only [impl_PieceOk.j0, impl_isAmount.f, impl_from_in, Option.bind_some, if_true, Bool.true_and, Bool.not_true, Bool.false_eq_true, if_false]
  by_cases h3 : a3 = 2
  · rw [if_pos h3]
    cases inr a8 0 2147483647 <;> cases inr a9 0 2147483647 <;> simp [h3]
  rw [if_neg h3]
  by_cases h2 : a2 = a1
  · by_cases h8 : a8 = 0
    · by_cases h9 : a9 = 0
      · by_cases h10 : a10 = 0
        · subst h8 h9 h10
          cases a11 <;> simp [h3, h2, inr]
        · simp [h3, h2, h8, h9, h10]
      · simp [h3, h2, h8, h9]
    · simp [h3, h2, h8]
  · simp [h3, h2]

def bit (b : Bool) : Int := if b = true then 1 else 0
def nums (a0 a1 a2 a3 a4 a5 a6 a7 a8 a9 a10 : Int) (a11 a12 : Bool) : List Int := [a0, a1, a2, a3, a4, a5, a6, a7, a8, a9, a10, bit a11, bit a12]
def pput (b : List Int) (a0 a1 a2 a3 a4 a5 a6 a7 a8 a9 a10 : Int) (a11 a12 : Bool) : List Int :=
  if pok a0 a1 a2 a3 a4 a5 a6 a7 a8 a9 a10 a11 a12 = true then b ++ (nums a0 a1 a2 a3 a4 a5 a6 a7 a8 a9 a10 a11 a12).flatMap code else b
theorem pput_length (b : List Int) (a0 a1 a2 a3 a4 a5 a6 a7 a8 a9 a10 : Int) (a11 a12 : Bool) : (pput b a0 a1 a2 a3 a4 a5 a6 a7 a8 a9 a10 a11 a12).length ≤ b.length + 52 := by
  unfold pput
  split
  · rw [List.length_append, flat_length]; unfold nums; simp
  · omega
theorem impl_putpiece_l0 : ∀ (d k n : Nat) (out l : List Int), n + d = l.length → d < k → l.length ≤ 255 → out.length + 4 * d < 140737488300000 → impl_PutPiece.l0 k out l (l.length : Int) (n : Int) = some (out ++ (l.drop n).flatMap code)
  | 0, k, n, out, l, hn, hk, hl, hb => by
    obtain ⟨k, rfl⟩ : ∃ q, k = q + 1 := ⟨k - 1, by omega⟩
    simp only [impl_PutPiece.l0]
    rw [if_neg (by omega), List.drop_eq_nil_of_le (by omega)]
    simp
  | d + 1, k, n, out, l, hn, hk, hl, hb => by
    obtain ⟨k, rfl⟩ : ∃ q, k = q + 1 := ⟨k - 1, by omega⟩
    simp only [impl_PutPiece.l0]
    rw [if_pos (by omega), if_pos (by omega), if_pos (by omega), impl_putnum _ _ (by omega), wrap_nat n (by omega)]
    simp only [Option.bind_some]
    rw [impl_putpiece_l0 d k (n + 1) _ l (by omega) (by omega) hl (by rw [List.length_append, code_length]; omega), drop_cons l n (by omega), List.flatMap_cons, List.append_assoc]
theorem spec_putpiece_l0 : ∀ (d k n : Nat) (out l : List Int), n + d = l.length → d < k → l.length ≤ 255 → out.length + 4 * d < 140737488300000 → spec_PutPiece.l0 k out l (n : Int) = some (out ++ (l.drop n).flatMap code)
  | 0, k, n, out, l, hn, hk, hl, hb => by
    obtain ⟨k, rfl⟩ : ∃ q, k = q + 1 := ⟨k - 1, by omega⟩
    simp only [spec_PutPiece.l0]
    rw [if_neg (by omega), List.drop_eq_nil_of_le (by omega)]
    simp
  | d + 1, k, n, out, l, hn, hk, hl, hb => by
    obtain ⟨k, rfl⟩ : ∃ q, k = q + 1 := ⟨k - 1, by omega⟩
    simp only [spec_PutPiece.l0]
    rw [if_pos (by omega), if_pos (by omega), spec_putnum _ _ (by omega), wrap_nat n (by omega)]
    simp only [Option.bind_some]
    rw [spec_putpiece_l0 d k (n + 1) _ l (by omega) (by omega) hl (by rw [List.length_append, code_length]; omega), drop_cons l n (by omega), List.flatMap_cons, List.append_assoc]
theorem impl_bit_f (b : Bool) : impl_bit.f b = some (bit b) := by cases b <;> rfl
theorem spec_bit_f (b : Bool) : spec_l4Bit.f b = some (bit b) := by cases b <;> rfl
theorem impl_putpiece (k : Nat) (b : List Int) (a0 a1 a2 a3 a4 a5 a6 a7 a8 a9 a10 : Int) (a11 a12 : Bool) (hk : 14 ≤ k) (hb : b.length < 140737488200000) : impl_PutPiece.f k b a0 a1 a2 a3 a4 a5 a6 a7 a8 a9 a10 a11 a12 = some (pput b a0 a1 a2 a3 a4 a5 a6 a7 a8 a9 a10 a11 a12) := by
  unfold impl_PutPiece.f slices_Clone_byte_byte.f pput
  simp only [Option.bind_some, List.length_nil, List.nil_append]
  rw [if_pos (by omega)]
  simp only [Option.bind_some]
  rw [impl_pieceok k _ _ _ _ _ _ _ _ _ _ _ _ _ (by omega)]
  simp only [Option.bind_some, impl_bit_f]
  split
  · exact impl_putpiece_l0 13 k 0 b (nums a0 a1 a2 a3 a4 a5 a6 a7 a8 a9 a10 a11 a12) rfl (by omega) (by unfold nums; simp) (by omega)
  · rfl
theorem spec_putpiece (k : Nat) (b : List Int) (a0 a1 a2 a3 a4 a5 a6 a7 a8 a9 a10 : Int) (a11 a12 : Bool) (hk : 14 ≤ k) (hb : b.length < 140737488200000) : spec_PutPiece.f k b a0 a1 a2 a3 a4 a5 a6 a7 a8 a9 a10 a11 a12 = some (pput b a0 a1 a2 a3 a4 a5 a6 a7 a8 a9 a10 a11 a12) := by
  unfold spec_PutPiece.f pput
  simp only [Option.bind_some, List.length_nil, List.nil_append]
  rw [if_pos (by omega)]
  rw [spec_pieceok k _ _ _ _ _ _ _ _ _ _ _ _ _ (by omega)]
  simp only [Option.bind_some, spec_bit_f]
  split
  · exact spec_putpiece_l0 13 k 0 b (nums a0 a1 a2 a3 a4 a5 a6 a7 a8 a9 a10 a11 a12) rfl (by omega) (by unfold nums; simp) (by omega)
  · rfl

def Bytes (l : List Int) : Prop := ∀ x ∈ l, 0 ≤ x ∧ x ≤ 255
theorem bytes_of_wf {l : List Int} (h : ∀ x ∈ l, (Lit.int .u8 x).wf = true) : Bytes l := by
  intro x hx
  have := h x hx
  simp [Lit.wf, IntKind.min, IntKind.max, IntKind.signed, IntKind.bits] at this
  omega
theorem Bytes.rd {l : List Int} (h : Bytes l) (i : Int) : 0 ≤ rd l i ∧ rd l i ≤ 255 := by
  unfold Go.Proofs.YtfkidiagmekleaaW.PrintWords.rd
  rw [List.getD_eq_getElem?_getD]
  by_cases hi : i.toNat < l.length
  · rw [List.getElem?_eq_getElem hi]
    exact h _ (List.getElem_mem hi)
  · rw [List.getElem?_eq_none (by omega)]
    exact ⟨by decide, by decide⟩
def val4 (l : List Int) (i : Int) : Int := rd l i * 16777216 + rd l (i + 1) * 65536 + rd l (i + 2) * 256 + rd l (i + 3)
def gn (l : List Int) (i : Int) : Int × Int × Bool := if i < 0 ∨ i > (l.length : Int) - 4 then (0, 0, false) else if val4 l i = 0 then (0, 0, false) else (val4 l i - 2147483648, i + 4, true)
theorem orJoin (i : Nat) (x y : Int) (m : Int) (hm : m = 2 ^ i) (hmb : m ≤ 16777216) (h0 : 0 ≤ x) (hx : x % m = 0) (h1 : x < 4611686018427387904) (g0 : 0 ≤ y) (g1 : y < m) : Go.bits .or .i64 x y = x + y := by
  have hy1 : y < 9223372036854775808 := by omega
  have hi : i ≤ 62 := by
    rcases Nat.lt_or_ge 62 i with h | h
    · have h2 : (2 : Nat) ^ 62 ≤ 2 ^ i := Nat.pow_le_pow_right (by decide) (by omega)
      have h3 : ((2 ^ 62 : Nat) : Int) ≤ ((2 ^ i : Nat) : Int) := Int.ofNat_le.2 h2
      rw [Int.natCast_pow] at h3
      have h4 : ((2 : Nat) : Int) = 2 := rfl
      rw [h4, Int.natCast_pow, h4, ← hm] at h3
      omega
    · exact h
  subst hm
  exact bits_join .i64 63 (by decide) (fun n h0 h1 => by rw [IntKind.wrap_i64]; omega) i x y h0 hx (by omega) g0 g1 (by omega)
theorem impl_getnum (k : Nat) (l : List Int) (i : Int) (hB : Bytes l) (hb : l.length ≤ 4611686018427387904) (hk : 1 ≤ k) : impl_GetNum.f k l i = some (gn l i) := by
  obtain ⟨k, rfl⟩ : ∃ q, k = q + 1 := ⟨k - 1, by omega⟩
  unfold impl_GetNum.f gn
  by_cases h0 : i < 0
  · rw [if_pos h0, if_pos (Or.inl h0)]
    simp only [impl_GetNum.j0, if_true]
  · rw [if_neg h0]
    have hw : wrap64 ((l.length : Int) - 4) = (l.length : Int) - 4 := by unfold wrap64; omega
    rw [hw]
    by_cases h1 : i > (l.length : Int) - 4
    · rw [if_pos (Or.inr h1)]
      simp only [impl_GetNum.j0]
      rw [if_pos (by simpa using h1)]
    · rw [if_neg (by omega)]
      have e1 : wrap64 (i + 1) = i + 1 := by unfold wrap64; omega
      have e2 : wrap64 (i + 2) = i + 2 := by unfold wrap64; omega
      have e3 : wrap64 (i + 3) = i + 3 := by unfold wrap64; omega
      have e4 : wrap64 (i + 4) = i + 4 := by unfold wrap64; omega
      simp only [impl_GetNum.j0]
      rw [if_neg (by simpa using h1), e1, e2, e3, e4, if_pos (by omega), if_pos (by omega), if_pos (by omega), if_pos (by omega), if_pos (by omega), if_pos (by omega), if_pos (by omega), if_pos (by omega)]
      have r0 := hB.rd i
      have r1 := hB.rd (i + 1)
      have r2 := hB.rd (i + 2)
      have r3 := hB.rd (i + 3)
      unfold val4
      generalize rd l i = b0 at *
      generalize rd l (i + 1) = b1 at *
      generalize rd l (i + 2) = b2 at *
      generalize rd l (i + 3) = b3 at *
      have w0 : wrap64 ((wrap64 b0) * 16777216) = b0 * 16777216 := by unfold wrap64; omega
      have w1 : wrap64 ((wrap64 b1) * 65536) = b1 * 65536 := by unfold wrap64; omega
      have w2 : wrap64 ((wrap64 b2) * 256) = b2 * 256 := by unfold wrap64; omega
      have w3 : wrap64 b3 = b3 := by unfold wrap64; omega
      rw [w0, w1, w2, w3, orJoin 24 (b0 * 16777216) (b1 * 65536) 16777216 (by decide) (by decide) (by omega) (by omega) (by omega) (by omega) (by omega), orJoin 16 (b0 * 16777216 + b1 * 65536) (b2 * 256) 65536 (by decide) (by decide) (by omega) (by omega) (by omega) (by omega) (by omega), orJoin 8 (b0 * 16777216 + b1 * 65536 + b2 * 256) b3 256 (by decide) (by decide) (by omega) (by omega) (by omega) (by omega) (by omega)]
      have e5 : wrap64 (b0 * 16777216 + b1 * 65536 + b2 * 256 + b3 - 2147483648) = b0 * 16777216 + b1 * 65536 + b2 * 256 + b3 - 2147483648 := by unfold wrap64; omega
      rw [e5]
      by_cases hz : b0 * 16777216 + b1 * 65536 + b2 * 256 + b3 = 0
      · rw [if_pos hz, if_pos hz]
      · rw [if_neg hz, if_neg hz]
theorem spec_getnum_step (k : Nat) (l : List Int) (i x j : Int) (hB : Bytes l) (hb : l.length ≤ 4611686018427387904) (h0 : 0 ≤ i) (h1 : i + 4 ≤ (l.length : Int)) (hj0 : 0 ≤ j) (hj : j < 4) (hx0 : 0 ≤ x) (hx : x ≤ 4294967296) :
    spec_GetNum.l0 (k + 1) l i x j = spec_GetNum.l0 k l i (x * 256 + rd l (i + j)) (j + 1) := by
  have r0 := hB.rd (i + j)
  have e1 : wrap64 (i + j) = i + j := by unfold wrap64; omega
  have e2 : wrap64 (j + 1) = j + 1 := by unfold wrap64; omega
  simp only [spec_GetNum.l0]
  rw [if_pos hj, e1, e2, if_pos (by omega), if_pos (by omega)]
  congr 1
  unfold wrap64
  omega
theorem spec_getnum (k : Nat) (l : List Int) (i : Int) (hB : Bytes l) (hb : l.length ≤ 4611686018427387904) (hk : 6 ≤ k) : spec_GetNum.f k l i = some (gn l i) := by
  obtain ⟨k, rfl⟩ : ∃ q, k = q + 6 := ⟨k - 6, by omega⟩
  unfold spec_GetNum.f gn
  by_cases h0 : i < 0
  · rw [if_pos h0, if_pos (Or.inl h0)]
    simp only [spec_GetNum.j0, if_true]
  · rw [if_neg h0]
    have hw : wrap64 ((l.length : Int) - 4) = (l.length : Int) - 4 := by unfold wrap64; omega
    rw [hw]
    by_cases h1 : i > (l.length : Int) - 4
    · rw [if_pos (Or.inr h1)]
      simp only [spec_GetNum.j0]
      rw [if_pos (by simpa using h1)]
    · rw [if_neg (by omega)]
      have r0 := hB.rd (i + 0)
      have r1 := hB.rd (i + (0 + 1))
      have r2 := hB.rd (i + (0 + 1 + 1))
      have r3 := hB.rd (i + (0 + 1 + 1 + 1))
      simp only [spec_GetNum.j0]
      rw [if_neg (by simpa using h1), spec_getnum_step (k + 4) l i 0 0 hB hb (by omega) (by omega) (by omega) (by omega) (by omega) (by omega),
        spec_getnum_step (k + 3) l i _ _ hB hb (by omega) (by omega) (by omega) (by omega) (by omega) (by omega),
        spec_getnum_step (k + 2) l i _ _ hB hb (by omega) (by omega) (by omega) (by omega) (by omega) (by omega),
        spec_getnum_step (k + 1) l i _ _ hB hb (by omega) (by omega) (by omega) (by omega) (by omega) (by omega)]
      simp only [spec_GetNum.l0]
      have hv : ((((0 : Int) * 256 + rd l (i + 0)) * 256 + rd l (i + (0 + 1))) * 256 + rd l (i + (0 + 1 + 1))) * 256 + rd l (i + (0 + 1 + 1 + 1)) = val4 l i := by
        unfold val4
        rw [show i + 0 = i from by omega, show i + (0 + 1) = i + 1 from by omega, show i + (0 + 1 + 1) = i + 2 from by omega, show i + (0 + 1 + 1 + 1) = i + 3 from by omega]
        omega
      rw [if_neg (by omega), hv]
      have hr : 0 ≤ val4 l i ∧ val4 l i ≤ 4294967295 := by rw [← hv]; omega
      by_cases hz : val4 l i = 0
      · rw [if_pos hz, if_pos hz]
      · rw [if_neg hz, if_neg hz]
        have e4 : wrap64 (i + 4) = i + 4 := by unfold wrap64; omega
        have e5 : wrap64 (val4 l i - 2147483648) = val4 l i - 2147483648 := by unfold wrap64; omega
        rw [e4, e5]

def glr (b : List Int) : Nat → Int → List Int → List Int × Int × Bool
  | 0, i, acc => (acc, i, true)
  | d + 1, i, acc => if (gn b i).2.2 = true then glr b d (gn b i).2.1 (acc ++ [(gn b i).1]) else ([], 0, false)
theorem glr_length (b : List Int) : ∀ (d : Nat) (i : Int) (acc : List Int), (glr b d i acc).1.length ≤ acc.length + d
  | 0, i, acc => by unfold glr; exact Nat.le_refl _
  | d + 1, i, acc => by
    unfold glr
    split
    · have := glr_length b d (gn b i).2.1 (acc ++ [(gn b i).1])
      rw [List.length_append, List.length_singleton] at this
      omega
    · simp

abbrev PieceR := Int × Int × Int × Int × Int × Int × Int × Int × Int × Int × Int × Bool × Bool × Int × Bool
def noPiece : PieceR := (0, 0, 0, 0, 0, 0, 0, 0, 0, 0, 0, false, false, 0, false)
def gpj (x : List Int) (i : Int) (bad : Bool) : PieceR := if bad = true then noPiece else if pok (rd x 0) (rd x 1) (rd x 2) (rd x 3) (rd x 4) (rd x 5) (rd x 6) (rd x 7) (rd x 8) (rd x 9) (rd x 10) ((rd x 11) == 1) ((rd x 12) == 1) = true then (rd x 0, rd x 1, rd x 2, rd x 3, rd x 4, rd x 5, rd x 6, rd x 7, rd x 8, rd x 9, rd x 10, ((rd x 11) == 1), ((rd x 12) == 1), i, true) else noPiece
def gpn (q : List Int × Int × Bool) : PieceR := if q.2.2 = true then (if inr (rd q.1 11) 0 1 = true then gpj q.1 q.2.1 (!inr (rd q.1 12) 0 1) else noPiece) else noPiece
/-- The piece that the bytes b tell at the place i. -/
def gpc (b : List Int) (i : Int) : PieceR := gpn (glr b 13 i [])
theorem glr_true (b : List Int) : ∀ (d : Nat) (i : Int) (acc : List Int), (glr b d i acc).2.2 = true → (glr b d i acc).1.length = acc.length + d
  | 0, i, acc, _ => rfl
  | d + 1, i, acc, h => by
    unfold glr at h ⊢
    by_cases hg : (gn b i).2.2 = true
    · rw [if_pos hg] at h ⊢
      rw [glr_true b d _ _ h, List.length_append, List.length_singleton]
      omega
    · rw [if_neg hg] at h
      cases h
theorem spec_nums_l0 (b : List Int) (hB : Bytes b) (hb : b.length ≤ 4611686018427387904) : ∀ (d k n : Nat) (i : Int) (acc : List Int), n + d = 13 → d + 8 ≤ k → acc.length + d < 1000 → ∃ q, spec_l4Nums.l0 k b 13 acc i (n : Int) = some q ∧ q.2.2 = (glr b d i acc).2.2 ∧ ((glr b d i acc).2.2 = true → q = glr b d i acc)
  | 0, k, n, i, acc, hn, hk, ha => by
    obtain ⟨k, rfl⟩ : ∃ q, k = q + 1 := ⟨k - 1, by omega⟩
    simp only [spec_l4Nums.l0]
    rw [if_neg (by omega)]
    exact ⟨_, rfl, rfl, fun _ => rfl⟩
  | d + 1, k, n, i, acc, hn, hk, ha => by
    obtain ⟨k, rfl⟩ : ∃ q, k = q + 1 := ⟨k - 1, by omega⟩
    simp only [spec_l4Nums.l0]
    rw [if_pos (by omega), spec_getnum k b i hB hb (by omega), wrap_nat n (by omega)]
    simp only [Option.bind_some, glr]
    by_cases h : (gn b i).2.2 = true
    · rw [if_pos h, if_pos h, if_pos (by omega)]
      exact spec_nums_l0 b hB hb d k (n + 1) _ _ (by omega) (by omega) (by rw [List.length_append, List.length_singleton]; omega)
    · rw [if_neg h, if_neg h]
      exact ⟨_, rfl, rfl, fun h => by cases h⟩
theorem impl_nums_l0 (b : List Int) (hB : Bytes b) (hb : b.length ≤ 4611686018427387904) : ∀ (d k n : Nat) (i : Int) (acc : List Int), n + d = 13 → d + 8 ≤ k → acc.length + d < 1000 → impl_getNums.l0 k b i acc 13 (n : Int) = some (glr b d i acc)
  | 0, k, n, i, acc, hn, hk, ha => by
    obtain ⟨k, rfl⟩ : ∃ q, k = q + 1 := ⟨k - 1, by omega⟩
    simp only [impl_getNums.l0]
    rw [if_neg (by omega)]
    rfl
  | d + 1, k, n, i, acc, hn, hk, ha => by
    obtain ⟨k, rfl⟩ : ∃ q, k = q + 1 := ⟨k - 1, by omega⟩
    simp only [impl_getNums.l0]
    rw [if_pos (by omega), impl_getnum k b i hB hb (by omega), wrap_nat n (by omega)]
    simp only [Option.bind_some, glr]
    by_cases h : (gn b i).2.2 = true
    · rw [if_pos h, if_pos h, if_pos (by omega)]
      exact impl_nums_l0 b hB hb d k (n + 1) _ _ (by omega) (by omega) (by rw [List.length_append, List.length_singleton]; omega)
    · rw [if_neg h, if_neg h]
theorem spec_gpj (k : Nat) (x : List Int) (i : Int) (bad : Bool) (hk : 3 ≤ k) (hx : bad = false → x.length = 13) : spec_GetPiece.j0 k x i bad = some (gpj x i bad) := by
  obtain ⟨k, rfl⟩ : ∃ q, k = q + 1 := ⟨k - 1, by omega⟩
  unfold gpj
  simp only [spec_GetPiece.j0]
  cases bad with
  | true => rfl
  | false =>
    have hl := hx rfl
    simp only [Bool.false_eq_true, if_false]
    rw [if_pos (by omega), if_pos (by omega), if_pos (by omega), if_pos (by omega), if_pos (by omega), if_pos (by omega), if_pos (by omega), if_pos (by omega), if_pos (by omega), if_pos (by omega), if_pos (by omega), if_pos (by omega), if_pos (by omega), spec_pieceok k _ _ _ _ _ _ _ _ _ _ _ _ _ (by omega)]
    simp only [Option.bind_some]
    split <;> rfl
theorem impl_gpj (k : Nat) (x : List Int) (i : Int) (bad : Bool) (hk : 3 ≤ k) (hx : bad = false → x.length = 13) : impl_GetPiece.j0 k x i bad = some (gpj x i bad) := by
  obtain ⟨k, rfl⟩ : ∃ q, k = q + 1 := ⟨k - 1, by omega⟩
  unfold gpj
  simp only [impl_GetPiece.j0]
  cases bad with
  | true => rfl
  | false =>
    have hl := hx rfl
    simp only [Bool.false_eq_true, if_false]
    rw [if_pos (by omega), if_pos (by omega), if_pos (by omega), if_pos (by omega), if_pos (by omega), if_pos (by omega), if_pos (by omega), if_pos (by omega), if_pos (by omega), if_pos (by omega), if_pos (by omega), if_pos (by omega), if_pos (by omega), impl_pieceok k _ _ _ _ _ _ _ _ _ _ _ _ _ (by omega)]
    simp only [Option.bind_some]
    split <;> rfl
theorem spec_getpiece (k : Nat) (b : List Int) (i : Int) (hB : Bytes b) (hb : b.length ≤ 4611686018427387904) (hk : 30 ≤ k) : spec_GetPiece.f k b i = some (gpc b i) := by
  obtain ⟨q, h1, h2, h3⟩ := spec_nums_l0 b hB hb 13 k 0 i [] rfl (by omega) (by simp)
  have hf : spec_l4Nums.f k b i 13 = some q := h1
  have hz : ∀ x j, gpj x j true = noPiece := fun _ _ => rfl
  unfold spec_GetPiece.f gpc gpn
  rw [hf]
  simp only [Option.bind_some]
  by_cases hq : (glr b 13 i []).2.2 = true
  · have hl := glr_true b 13 i [] hq
    simp only [List.length_nil, Nat.zero_add] at hl
    rw [h3 hq]
    rw [if_pos hq, if_pos hq, if_pos (by omega), spec_in]
    simp only [Option.bind_some]
    by_cases h11 : inr (rd (glr b 13 i []).1 11) 0 1 = true
    · rw [if_pos h11, if_pos h11, if_pos (by omega), spec_in]
      simp only [Option.bind_some]
      exact spec_gpj k _ _ _ (by omega) (fun _ => hl)
    · rw [if_neg h11, if_neg h11, spec_gpj k _ _ _ (by omega) (fun h => by cases h), hz]
  · rw [if_neg (by rw [h2]; exact hq), if_neg hq, spec_gpj k _ _ _ (by omega) (fun h => by cases h), hz]
theorem impl_getpiece (k : Nat) (b : List Int) (i : Int) (hB : Bytes b) (hb : b.length ≤ 4611686018427387904) (hk : 30 ≤ k) : impl_GetPiece.f k b i = some (gpc b i) := by
  have h1 := impl_nums_l0 b hB hb 13 k 0 i [] rfl (by omega) (by simp)
  have hf : impl_getNums.f k b i 13 = some (glr b 13 i []) := h1
  have hz : ∀ x j, gpj x j true = noPiece := fun _ _ => rfl
  unfold impl_GetPiece.f gpc gpn
  rw [hf]
  simp only [Option.bind_some]
  by_cases hq : (glr b 13 i []).2.2 = true
  · have hl := glr_true b 13 i [] hq
    simp only [List.length_nil, Nat.zero_add] at hl
    rw [if_pos hq, if_pos hq, if_pos (by omega), impl_from_in]
    simp only [Option.bind_some]
    by_cases h11 : inr (rd (glr b 13 i []).1 11) 0 1 = true
    · rw [if_pos h11, if_pos h11, if_pos (by omega), impl_from_in]
      simp only [Option.bind_some]
      exact impl_gpj k _ _ _ (by omega) (fun _ => hl)
    · rw [if_neg h11, if_neg h11, impl_gpj k _ _ _ (by omega) (fun h => by cases h), hz]
  · rw [if_neg hq, if_neg hq, impl_gpj k _ _ _ (by omega) (fun h => by cases h), hz]

/-! ### What is written is read back, and what is read was written so -/
theorem rd_right (p s : List Int) (j : Nat) : rd (p ++ s) ((p.length : Int) + (j : Int)) = rd s (j : Int) := by
  unfold rd
  rw [List.getD_eq_getElem?_getD, List.getD_eq_getElem?_getD, List.getElem?_append_right (by omega)]
  congr 2
  omega
theorem rd_right0 (p s : List Int) : rd (p ++ s) (p.length : Int) = rd s 0 := by
  have := rd_right p s 0
  rw [show ((p.length : Int) + ((0 : Nat) : Int)) = (p.length : Int) from by omega] at this
  exact this
theorem gn_code (p : List Int) (x : Int) (r : List Int) : gn (p ++ (code x ++ r)) (p.length : Int) = (bnd x, (p.length : Int) + 4, true) := by
  have hr := bnd_range x
  have hv : val4 (p ++ (code x ++ r)) (p.length : Int) = bnd x + 2147483648 := by
    unfold val4
    rw [rd_right0, show (p.length : Int) + 1 = (p.length : Int) + ((1 : Nat) : Int) from rfl, show (p.length : Int) + 2 = (p.length : Int) + ((2 : Nat) : Int) from rfl, show (p.length : Int) + 3 = (p.length : Int) + ((3 : Nat) : Int) from rfl, rd_right, rd_right, rd_right]
    show (bnd x + 2147483648) / 16777216 * 16777216 + (bnd x + 2147483648) / 65536 % 256 * 65536 + (bnd x + 2147483648) / 256 % 256 * 256 + (bnd x + 2147483648) % 256 = bnd x + 2147483648
    omega
  unfold gn
  rw [if_neg, hv, if_neg (by omega)]
  · rw [Int.add_sub_cancel]
  · rw [List.length_append, List.length_append, code_length]; omega
theorem glr_flat : ∀ (l p acc : List Int), glr (p ++ l.flatMap code) l.length (p.length : Int) acc = (acc ++ l.map bnd, (p.length : Int) + 4 * (l.length : Int), true)
  | [], p, acc => by simp [glr]
  | x :: l, p, acc => by
    have h := gn_code p x (l.flatMap code)
    have ih := glr_flat l (p ++ code x) (acc ++ [bnd x])
    rw [List.append_assoc] at ih
    rw [List.flatMap_cons, List.length_cons]
    unfold glr
    rw [h]
    simp only [if_true]
    rw [show ((p.length : Int) + 4) = ((p ++ code x).length : Int) from by rw [List.length_append, code_length]; omega, ih]
    simp only [List.map_cons, List.append_assoc, List.cons_append, List.nil_append, List.length_append, code_length]
    congr 2
    omega
theorem code_bytes (x : Int) : Bytes (code x) := by
  have hr := bnd_range x
  intro y hy
  unfold code at hy
  simp only [List.mem_cons, List.not_mem_nil, or_false] at hy
  rcases hy with rfl | rfl | rfl | rfl <;> omega
theorem flat_bytes (l : List Int) : Bytes (l.flatMap code) := by
  intro y hy
  obtain ⟨x, _, h⟩ := List.mem_flatMap.1 hy
  exact code_bytes x y h
theorem drop4 (s : List Int) (i : Nat) (h : i + 4 ≤ s.length) : s.drop i = [rd s (i : Int), rd s ((i : Int) + 1), rd s ((i : Int) + 2), rd s ((i : Int) + 3)] ++ s.drop (i + 4) := by
  rw [drop_cons s i (by omega), drop_cons s (i + 1) (by omega), drop_cons s (i + 2) (by omega), drop_cons s (i + 3) (by omega)]
  rfl
theorem glr_inv (s : List Int) (hs : Bytes s) : ∀ (d i : Nat) (acc xs : List Int) (e : Int), glr s d (i : Int) acc = (xs, e, true) → ∃ ys : List Int, xs = acc ++ ys ∧ ys.length = d ∧ e = (i : Int) + 4 * (d : Int) ∧ (s.drop i).take (4 * d) = ys.flatMap code ∧ ∀ y ∈ ys, bnd y = y
  | 0, i, acc, xs, e, h => by
    unfold glr at h
    cases h
    exact ⟨[], by simp, rfl, by omega, by simp, by intro y hy; cases hy⟩
  | d + 1, i, acc, xs, e, h => by
    unfold glr at h
    by_cases hg : (gn s (i : Int)).2.2 = true
    · rw [if_pos hg] at h
      have hi : ¬ ((i : Int) < 0 ∨ (i : Int) > (s.length : Int) - 4) := by
        intro hc
        unfold gn at hg
        rw [if_pos hc] at hg
        cases hg
      have hz : ¬ val4 s (i : Int) = 0 := by
        intro hc
        unfold gn at hg
        rw [if_neg hi, if_pos hc] at hg
        cases hg
      have hv : gn s (i : Int) = (val4 s (i : Int) - 2147483648, (i : Int) + 4, true) := by
        unfold gn
        rw [if_neg hi, if_neg hz]
      rw [hv] at h
      simp only at h
      obtain ⟨ys, h1, h2, h3, h4, h5⟩ := glr_inv s hs d (i + 4) _ xs e (by rw [← h]; rfl)
      have r0 := hs.rd (i : Int)
      have r1 := hs.rd ((i : Int) + 1)
      have r2 := hs.rd ((i : Int) + 2)
      have r3 := hs.rd ((i : Int) + 3)
      have hb : bnd (val4 s (i : Int) - 2147483648) = val4 s (i : Int) - 2147483648 := by
        unfold val4 at *
        unfold bnd
        rw [if_neg (by omega), if_neg (by omega)]
      have hc : code (val4 s (i : Int) - 2147483648) = [rd s (i : Int), rd s ((i : Int) + 1), rd s ((i : Int) + 2), rd s ((i : Int) + 3)] := by
        unfold code
        rw [hb, Int.sub_add_cancel]
        unfold val4
        congr 1
        · omega
        · congr 1
          · omega
          · congr 1
            · omega
            · congr 1
              omega
      refine ⟨(val4 s (i : Int) - 2147483648) :: ys, ?_, by rw [List.length_cons, h2], by omega, ?_, ?_⟩
      · rw [h1, List.append_assoc]; rfl
      · rw [drop4 s i (by omega), List.flatMap_cons, hc, show 4 * (d + 1) = 4 * d + 1 + 1 + 1 + 1 from by omega]
        simp only [List.cons_append, List.nil_append, List.take_succ_cons, h4]
      · intro y hy
        rcases List.mem_cons.1 hy with rfl | hy
        · exact hb
        · exact h5 y hy
    · rw [if_neg hg] at h
      cases h
/-- What the reader tells of all the bytes is written just so. -/

theorem draw_bytes_l0 : ∀ (d k n : Nat) (c : Int) (b acc : List Int) (i h : Int), (n : Int) + (d : Int) = c → d < k → c ≤ 1000 → acc.length + d ≤ 1000 → Bytes acc → b.length ≤ 1048576 → At b i → ∃ l i' h', spec_l1Bytes.l0 k c acc (n : Int) b i h = some (l, i', h') ∧ l.length = acc.length + d ∧ Bytes l ∧ At b i'
  | 0, k, n, c, b, acc, i, h, hn, hk, hd, ha, hB, hb, hi => by
    obtain ⟨k, rfl⟩ : ∃ q, k = q + 1 := ⟨k - 1, by omega⟩
    simp only [spec_l1Bytes.l0]
    rw [if_neg (by omega)]
    exact ⟨_, _, _, rfl, rfl, hB, hi⟩
  | d + 1, k, n, c, b, acc, i, h, hn, hk, hd, ha, hB, hb, hi => by
    obtain ⟨k, rfl⟩ : ∃ q, k = q + 1 := ⟨k - 1, by omega⟩
    obtain ⟨v, i1, h1, hv, hr, hi1⟩ := draw_byte b i h hb hi
    simp only [spec_l1Bytes.l0]
    have hw : wrap64 ((n : Int) + 1) = ((n + 1 : Nat) : Int) := by unfold wrap64; omega
    rw [if_pos (by omega), hv]
    simp only [Option.bind_some]
    rw [if_pos (by omega), hw]
    obtain ⟨l, i2, h2, hl, hq, hB2, hi2⟩ := draw_bytes_l0 d k (n + 1) c b (acc ++ [v % 256]) i1 h1 (by omega) (by omega) (by omega) (by rw [List.length_append, List.length_singleton]; omega)
      (by
        intro x hx
        rcases List.mem_append.1 hx with hx | hx
        · exact hB x hx
        · rw [List.mem_singleton.1 hx]; omega) hb hi1
    refine ⟨l, i2, h2, hl, ?_, hB2, hi2⟩
    rw [hq, List.length_append, List.length_singleton]
    omega
theorem draw_bytes (k : Nat) (b : List Int) (i h c : Int) (hk : 1010 ≤ k) (hc : 0 ≤ c) (hc2 : c ≤ 1000) (hb : b.length ≤ 1048576) (hi : At b i) : ∃ l i' h', spec_l1Bytes.f k b i h c = some (l, i', h') ∧ l.length = c.toNat ∧ Bytes l ∧ At b i' := by
  unfold spec_l1Bytes.f
  obtain ⟨l, i2, h2, hl, hn, hB, hi2⟩ := draw_bytes_l0 c.toNat k 0 c b [] i h (by omega) (by omega) hc2 (by simp only [List.length_nil]; omega) (by intro x hx; cases hx) hb hi
  refine ⟨l, i2, h2, hl, ?_, hB, hi2⟩
  rw [hn, List.length_nil, Nat.zero_add]

theorem xor_byte (x y : Int) : 0 ≤ Go.bits .xor .u8 x y ∧ Go.bits .xor .u8 x y ≤ 255 := by
  show 0 ≤ IntKind.u8.wrap _ ∧ IntKind.u8.wrap _ ≤ 255
  rw [IntKind.wrap_u8]
  omega

theorem draw_bend (b : List Int) (i h : Int) (s : List Int) (hs : Bytes s) (hl : s.length ≤ 60000) (hb : b.length ≤ 1048576) (hi : At b i) : ∃ t i' h', spec_l1Bend.f b i h s = some (t, i', h') ∧ Bytes t ∧ t.length ≤ s.length + 1 ∧ At b i' := by
  obtain ⟨v, i1, h1, hv, hr, hi1⟩ := draw_below b i h 8 hb hi (by decide)
  unfold spec_l1Bend.f
  simp only [Option.bind_some, List.length_nil, List.nil_append]
  rw [if_pos (by omega), hv]
  simp only [Option.bind_some]
  by_cases hv0 : v = 0
  · rw [if_pos hv0]
    by_cases hp : (s.length : Int) > 0
    · rw [if_pos hp]
      obtain ⟨q, i2, h2, hq, hqr, hi2⟩ := draw_below b i1 h1 (s.length : Int) hb hi1 (by omega)
      have hq2 := hqr.2.1 (by omega)
      rw [hq]
      simp only [Option.bind_some]
      rw [if_pos hqr.1, if_pos hq2]
      obtain ⟨u, i3, h3, hu, hur, hi3⟩ := draw_below b i2 h2 255 hb hi2 (by decide)
      rw [hu]
      simp only [Option.bind_some]
      refine ⟨_, _, _, rfl, ?_, by rw [List.length_set]; omega, hi3⟩
      intro x hx
      rcases List.mem_or_eq_of_mem_set hx with hx | hx
      · exact hs x hx
      · rw [hx]; exact xor_byte _ _
    · rw [if_neg hp]
      exact ⟨_, _, _, rfl, hs, by omega, hi1⟩
  · rw [if_neg hv0]
    by_cases hv1 : v = 1
    · rw [if_pos hv1]
      by_cases hp : (s.length : Int) > 0
      · rw [if_pos hp]
        obtain ⟨q, i2, h2, hq, hqr, hi2⟩ := draw_below b i1 h1 (s.length : Int) hb hi1 (by omega)
        have hq2 := hqr.2.1 (by omega)
        rw [hq]
        simp only [Option.bind_some]
        rw [if_pos hqr.1, if_pos (by omega)]
        exact ⟨_, _, _, rfl, fun x hx => hs x (List.mem_of_mem_take hx), by rw [List.length_take]; omega, hi2⟩
      · rw [if_neg hp]
        exact ⟨_, _, _, rfl, hs, by omega, hi1⟩
    · rw [if_neg hv1]
      by_cases hv2 : v = 2
      · rw [if_pos hv2]
        obtain ⟨u, i2, h2, hu, hur, hi2⟩ := draw_byte b i1 h1 hb hi1
        rw [hu]
        simp only [Option.bind_some]
        rw [if_pos (by omega)]
        refine ⟨_, _, _, rfl, ?_, by rw [List.length_append, List.length_singleton]; omega, hi2⟩
        intro x hx
        rcases List.mem_append.1 hx with hx | hx
        · exact hs x hx
        · rw [List.mem_singleton.1 hx]; omega
      · rw [if_neg hv2]
        exact ⟨_, _, _, rfl, hs, by omega, hi1⟩

theorem same_refl (l : List Int) : laws_same.f l l = some true := congrArg some (beq_self_eq_true _)
theorem pput_bytes (b : List Int) (a0 a1 a2 a3 a4 a5 a6 a7 a8 a9 a10 : Int) (a11 a12 : Bool) (h : Bytes b) : Bytes (pput b a0 a1 a2 a3 a4 a5 a6 a7 a8 a9 a10 a11 a12) := by
  unfold pput
  split
  · intro x hx
    rcases List.mem_append.1 hx with h1 | h1
    · exact h x h1
    · exact flat_bytes _ x h1
  · exact h
theorem dbytes (k : Nat) (b : List Int) (i h c : Int) (hk : 1010 ≤ k) (hc : 0 ≤ c ∧ c < 2) (hb : b.length ≤ 1048576) (hi : At b i) : ∃ v, spec_l1Bytes.f k b i h c = some v ∧ ((Bytes v.1 ∧ v.1.length ≤ 2) ∧ At b v.2.1) := by
  obtain ⟨l, i', h', e, hl, hB, hi'⟩ := draw_bytes k b i h c hk hc.1 (by omega) hb hi
  exact ⟨_, e, ⟨hB, by show l.length ≤ 2; omega⟩, hi'⟩
theorem dbend (b : List Int) (i h : Int) (s : List Int) (hs : Bytes s) (hl : s.length ≤ 60) (hb : b.length ≤ 1048576) (hi : At b i) : ∃ v, spec_l1Bend.f b i h s = some v ∧ ((Bytes v.1 ∧ v.1.length ≤ 61) ∧ At b v.2.1) := by
  obtain ⟨t, i', h', e, hB, hl', hi'⟩ := draw_bend b i h s hs (by omega) hb hi
  exact ⟨_, e, ⟨hB, by show t.length ≤ 61; omega⟩, hi'⟩
theorem d_put (k : Nat) (b : List Int) (hk : b.length + 2000 < k) (hb : b.length ≤ 1048576) : ∃ p, spec_DrawPutPiece.f k b = some p ∧ (Bytes p.1 ∧ p.1.length ≤ 2) := by
  unfold spec_DrawPutPiece.f
  refine gbind (dnew k b (by omega) hb) (fun v hv => ?_)
  obtain ⟨e, hv⟩ := hv
  rw [e]
  refine gbind (dbelow2 b _ _ _ hb hv (by decide) (by decide)) (fun v hv => ?_)
  refine gbind (dbytes k b _ _ _ (by omega) hv.1 hb hv.2) (fun x hx => ?_)
  refine gbind (draw_any k b _ _ hb hx.2 (by omega)) (fun v hv => ?_)
  exact ⟨_, rfl, hx.1⟩
theorem d_get (k : Nat) (b : List Int) (hk : b.length + 2000 < k) (hb : b.length ≤ 1048576) : ∃ p, spec_DrawGetPiece.f k b = some p ∧ (Bytes p.1 ∧ p.1.length ≤ 61) := by
  unfold spec_DrawGetPiece.f
  refine gbind (dnew k b (by omega) hb) (fun v hv => ?_)
  obtain ⟨e, hv⟩ := hv
  rw [e]
  refine gbind (dbelow2 b _ _ _ hb hv (by decide) (by decide)) (fun v hv => ?_)
  refine gbind (dbytes k b _ _ _ (by omega) hv.1 hb hv.2) (fun x hx => ?_)
  refine gbind (draw_piece k b _ _ _ hb hx.2 (by omega)) (fun p hp => ?_)
  have hl := pput_length x.1 p.1 p.2.1 p.2.2.1 p.2.2.2.1 p.2.2.2.2.1 p.2.2.2.2.2.1 p.2.2.2.2.2.2.1 p.2.2.2.2.2.2.2.1 p.2.2.2.2.2.2.2.2.1 p.2.2.2.2.2.2.2.2.2.1 p.2.2.2.2.2.2.2.2.2.2.1 p.2.2.2.2.2.2.2.2.2.2.2.1 p.2.2.2.2.2.2.2.2.2.2.2.2.1
  have hl2 := hx.1.2
  refine gbind (R := fun t => Bytes t ∧ t.length ≤ 60) ⟨_, spec_putpiece k x.1 _ _ _ _ _ _ _ _ _ _ _ _ _ (by omega) (by omega), pput_bytes _ _ _ _ _ _ _ _ _ _ _ _ _ _ hx.1.1, by omega⟩ (fun t ht => ?_)
  refine gbind (dbend b _ _ _ ht.1 ht.2 hb hp) (fun w hw => ?_)
  refine gbind (dint b _ _ _ hb hw.2 (by decide) (by decide)) (fun v hv => ?_)
  exact ⟨_, rfl, hw.1⟩
theorem inr_iff (a lo hi : Int) : inr a lo hi = true ↔ lo ≤ a ∧ a ≤ hi := by unfold inr; exact decide_eq_true_iff
theorem bnd_self (n lo hi : Int) (h : inr n lo hi = true) (h1 : -2147483647 ≤ lo) (h2 : hi ≤ 2147483647) : bnd n = n := by
  have := (inr_iff _ _ _).1 h
  unfold bnd
  rw [if_neg (by omega), if_neg (by omega)]
theorem bnd_bit (b : Bool) : bnd (bit b) = bit b := by cases b <;> rfl
theorem bit_eq (b : Bool) : (bit b == 1) = b := by cases b <;> rfl
theorem bit_in (b : Bool) : inr (bit b) 0 1 = true := by cases b <;> rfl
theorem gpc_put (u : List Int) (a0 a1 a2 a3 a4 a5 a6 a7 a8 a9 a10 : Int) (a11 a12 : Bool) (h : pok a0 a1 a2 a3 a4 a5 a6 a7 a8 a9 a10 a11 a12 = true) : gpc (pput u a0 a1 a2 a3 a4 a5 a6 a7 a8 a9 a10 a11 a12) (u.length : Int) = (a0, a1, a2, a3, a4, a5, a6, a7, a8, a9, a10, a11, a12, ((pput u a0 a1 a2 a3 a4 a5 a6 a7 a8 a9 a10 a11 a12).length : Int), true) := by
  have hg := h
  unfold pok at hg
  simp only [Bool.and_eq_true] at hg
  obtain ⟨g0, g1, g2, g3, g4, g5, g6, g7, g8, g9, g10, _⟩ := hg
  have hp : pput u a0 a1 a2 a3 a4 a5 a6 a7 a8 a9 a10 a11 a12 = u ++ (nums a0 a1 a2 a3 a4 a5 a6 a7 a8 a9 a10 a11 a12).flatMap code := by unfold pput; rw [if_pos h]
  have hn : (nums a0 a1 a2 a3 a4 a5 a6 a7 a8 a9 a10 a11 a12).length = 13 := rfl
  have hm : (nums a0 a1 a2 a3 a4 a5 a6 a7 a8 a9 a10 a11 a12).map bnd = nums a0 a1 a2 a3 a4 a5 a6 a7 a8 a9 a10 a11 a12 := by
    unfold nums
    simp only [List.map_cons, List.map_nil, bnd_self _ _ _ g0 (by decide) (by decide), bnd_self _ _ _ g1 (by decide) (by decide), bnd_self _ _ _ g2 (by decide) (by decide), bnd_self _ _ _ g3 (by decide) (by decide), bnd_self _ _ _ g4 (by decide) (by decide), bnd_self _ _ _ g5 (by decide) (by decide), bnd_self _ _ _ g6 (by decide) (by decide), bnd_self _ _ _ g7 (by decide) (by decide), bnd_self _ _ _ g8 (by decide) (by decide), bnd_self _ _ _ g9 (by decide) (by decide), bnd_self _ _ _ g10 (by decide) (by decide), bnd_bit]
  have hf := glr_flat (nums a0 a1 a2 a3 a4 a5 a6 a7 a8 a9 a10 a11 a12) u []
  rw [hm, hn, List.nil_append] at hf
  have hl : (pput u a0 a1 a2 a3 a4 a5 a6 a7 a8 a9 a10 a11 a12).length = u.length + 52 := by rw [hp, List.length_append, flat_length, hn]
  unfold gpc
  rw [hl, hp, hf]
  unfold gpn
  have e11 : rd (nums a0 a1 a2 a3 a4 a5 a6 a7 a8 a9 a10 a11 a12) 11 = bit a11 := rfl
  have e12 : rd (nums a0 a1 a2 a3 a4 a5 a6 a7 a8 a9 a10 a11 a12) 12 = bit a12 := rfl
  rw [if_pos rfl]
  show (if inr (rd (nums a0 a1 a2 a3 a4 a5 a6 a7 a8 a9 a10 a11 a12) 11) 0 1 = true then gpj (nums a0 a1 a2 a3 a4 a5 a6 a7 a8 a9 a10 a11 a12) ((u.length : Int) + 4 * ((13 : Nat) : Int)) (!inr (rd (nums a0 a1 a2 a3 a4 a5 a6 a7 a8 a9 a10 a11 a12) 12) 0 1) else noPiece) = _
  rw [e11, e12, bit_in, bit_in, if_pos rfl]
  unfold gpj
  rw [if_neg (by decide), e11, e12, bit_eq, bit_eq]
  rw [if_pos (show pok (rd (nums a0 a1 a2 a3 a4 a5 a6 a7 a8 a9 a10 a11 a12) 0) (rd (nums a0 a1 a2 a3 a4 a5 a6 a7 a8 a9 a10 a11 a12) 1) (rd (nums a0 a1 a2 a3 a4 a5 a6 a7 a8 a9 a10 a11 a12) 2) (rd (nums a0 a1 a2 a3 a4 a5 a6 a7 a8 a9 a10 a11 a12) 3) (rd (nums a0 a1 a2 a3 a4 a5 a6 a7 a8 a9 a10 a11 a12) 4) (rd (nums a0 a1 a2 a3 a4 a5 a6 a7 a8 a9 a10 a11 a12) 5) (rd (nums a0 a1 a2 a3 a4 a5 a6 a7 a8 a9 a10 a11 a12) 6) (rd (nums a0 a1 a2 a3 a4 a5 a6 a7 a8 a9 a10 a11 a12) 7) (rd (nums a0 a1 a2 a3 a4 a5 a6 a7 a8 a9 a10 a11 a12) 8) (rd (nums a0 a1 a2 a3 a4 a5 a6 a7 a8 a9 a10 a11 a12) 9) (rd (nums a0 a1 a2 a3 a4 a5 a6 a7 a8 a9 a10 a11 a12) 10) a11 a12 = true from h)]
  show (a0, a1, a2, a3, a4, a5, a6, a7, a8, a9, a10, a11, a12, ((u.length : Int) + 4 * ((13 : Nat) : Int)), true) = _
  congr
theorem glr_neg (d : Nat) (b : List Int) (i : Int) (acc : List Int) (h : i < 0) : glr b (d + 1) i acc = ([], 0, false) := by
  have : gn b i = (0, 0, false) := by unfold gn; rw [if_pos (Or.inl h)]
  unfold glr
  rw [this, if_neg (by decide)]
theorem list13 (l : List Int) (h : l.length = 13) : l = [rd l 0, rd l 1, rd l 2, rd l 3, rd l 4, rd l 5, rd l 6, rd l 7, rd l 8, rd l 9, rd l 10, rd l 11, rd l 12] := by
  match l, h with
  | [x0, x1, x2, x3, x4, x5, x6, x7, x8, x9, x10, x11, x12], _ => rfl
theorem bit_of (n : Int) (h : inr n 0 1 = true) : bit (n == 1) = n := by
  have := (inr_iff _ _ _).1 h
  have : n = 0 ∨ n = 1 := by omega
  rcases this with rfl | rfl <;> rfl
theorem gpc_inv (d : List Int) (hB : Bytes d) (i : Int) (y : PieceR) (hy : gpc d i = y) : (y.2.2.2.2.2.2.2.2.2.2.2.2.2.2 = false ∧ y = noPiece) ∨ (y.2.2.2.2.2.2.2.2.2.2.2.2.2.2 = true ∧ pok y.1 y.2.1 y.2.2.1 y.2.2.2.1 y.2.2.2.2.1 y.2.2.2.2.2.1 y.2.2.2.2.2.2.1 y.2.2.2.2.2.2.2.1 y.2.2.2.2.2.2.2.2.1 y.2.2.2.2.2.2.2.2.2.1 y.2.2.2.2.2.2.2.2.2.2.1 y.2.2.2.2.2.2.2.2.2.2.2.1 y.2.2.2.2.2.2.2.2.2.2.2.2.1 = true ∧ 0 ≤ i ∧ i ≤ y.2.2.2.2.2.2.2.2.2.2.2.2.2.1 ∧ y.2.2.2.2.2.2.2.2.2.2.2.2.2.1 ≤ (d.length : Int) ∧ pput [] y.1 y.2.1 y.2.2.1 y.2.2.2.1 y.2.2.2.2.1 y.2.2.2.2.2.1 y.2.2.2.2.2.2.1 y.2.2.2.2.2.2.2.1 y.2.2.2.2.2.2.2.2.1 y.2.2.2.2.2.2.2.2.2.1 y.2.2.2.2.2.2.2.2.2.2.1 y.2.2.2.2.2.2.2.2.2.2.2.1 y.2.2.2.2.2.2.2.2.2.2.2.2.1 = (d.take y.2.2.2.2.2.2.2.2.2.2.2.2.2.1.toNat).drop i.toNat) := by
  subst hy
  unfold gpc gpn
  by_cases h1 : (glr d 13 i []).2.2 = true
  · rw [if_pos h1]
    by_cases h2 : inr (rd (glr d 13 i []).1 11) 0 1 = true
    · rw [if_pos h2]
      unfold gpj
      by_cases h3 : inr (rd (glr d 13 i []).1 12) 0 1 = true
      · rw [if_neg (by rw [h3]; decide)]
        split
        · rename_i h4
          refine .inr ⟨rfl, h4, ?_⟩
          have h0 : 0 ≤ i := by
            rcases Int.lt_or_le i 0 with h | h
            · rw [glr_neg 12 d i [] h] at h1
              cases h1
            · exact h
          obtain ⟨n, rfl⟩ : ∃ n : Nat, i = (n : Int) := ⟨i.toNat, by omega⟩
          obtain ⟨ys, e1, e2, e3, e4, e5⟩ := glr_inv d hB 13 n [] (glr d 13 (n : Int) []).1 (glr d 13 (n : Int) []).2.1 (by rw [← h1])
          rw [List.nil_append] at e1
          have hlen := congrArg List.length e4
          rw [flat_length, e2, List.length_take, List.length_drop] at hlen
          have hnums : nums (rd ys 0) (rd ys 1) (rd ys 2) (rd ys 3) (rd ys 4) (rd ys 5) (rd ys 6) (rd ys 7) (rd ys 8) (rd ys 9) (rd ys 10) (rd ys 11 == 1) (rd ys 12 == 1) = ys := by
            rw [e1] at h2 h3
            unfold nums
            rw [bit_of _ h2, bit_of _ h3]
            exact (list13 ys e2).symm
          refine ⟨by omega, by show (n : Int) ≤ (glr d 13 (n : Int) []).2.1; rw [e3]; omega, by show (glr d 13 (n : Int) []).2.1 ≤ (d.length : Int); rw [e3]; omega, ?_⟩
          show pput [] _ _ _ _ _ _ _ _ _ _ _ _ _ = (d.take (glr d 13 (n : Int) []).2.1.toNat).drop (n : Int).toNat
          unfold pput
          rw [if_pos h4, List.nil_append]
          show (nums (rd (glr d 13 (n : Int) []).1 0) (rd (glr d 13 (n : Int) []).1 1) (rd (glr d 13 (n : Int) []).1 2) (rd (glr d 13 (n : Int) []).1 3) (rd (glr d 13 (n : Int) []).1 4) (rd (glr d 13 (n : Int) []).1 5) (rd (glr d 13 (n : Int) []).1 6) (rd (glr d 13 (n : Int) []).1 7) (rd (glr d 13 (n : Int) []).1 8) (rd (glr d 13 (n : Int) []).1 9) (rd (glr d 13 (n : Int) []).1 10) (rd (glr d 13 (n : Int) []).1 11 == 1) (rd (glr d 13 (n : Int) []).1 12 == 1)).flatMap code = _
          rw [e1, hnums, ← e4, e3, Int.toNat_natCast, show ((n : Int) + 4 * ((13 : Nat) : Int)).toNat = n + 52 by omega, List.drop_take]
          congr 1
          omega
        · exact .inl ⟨rfl, rfl⟩
      · rw [if_pos (by simpa using h3)]
        exact .inl ⟨rfl, rfl⟩
    · rw [if_neg h2]
      exact .inl ⟨rfl, rfl⟩
  · rw [if_neg h1]
    exact .inl ⟨rfl, rfl⟩
theorem FnPieceBytes : laws_FnPieceBytes.Pure := by
  intro b _ _ _
  by_cases hb : (b.length : Int) > 1048576
  · exact ⟨0, bind_of (show laws_big.f b = some true from congrArg some (decide_eq_true hb)) (ite_of rfl rfl)⟩
  have hb' : b.length ≤ 1048576 := by omega
  obtain ⟨k, hk⟩ : ∃ k : Nat, k = b.length + 3000 := ⟨_, rfl⟩
  refine ⟨k, ?_⟩
  obtain ⟨p, hp, hu, hul⟩ := d_put k b (by omega) hb'
  obtain ⟨q, hq, hd, hdl⟩ := d_get k b (by omega) hb'
  obtain ⟨u, a0, a1, a2, a3, a4, a5, a6, a7, a8, a9, a10, a11, a12⟩ := p
  have hu' : Bytes u := hu
  have hul' : u.length ≤ 2 := hul
  have hl := pput_length u a0 a1 a2 a3 a4 a5 a6 a7 a8 a9 a10 a11 a12
  have hB := pput_bytes u a0 a1 a2 a3 a4 a5 a6 a7 a8 a9 a10 a11 a12 hu'
  unfold laws_FnPieceBytes.f
  refine bind_of (show laws_big.f b = some false from congrArg some (decide_eq_false hb)) ?_
  refine ite_no (by decide) ?_
  refine bind_of hp ?_
  refine bind_of (impl_putpiece k u a0 a1 a2 a3 a4 a5 a6 a7 a8 a9 a10 a11 a12 (by omega) (by omega)) ?_
  obtain ⟨g, hg⟩ : ∃ g, g = gpc (pput u a0 a1 a2 a3 a4 a5 a6 a7 a8 a9 a10 a11 a12) (u.length : Int) := ⟨_, rfl⟩
  refine bind_of ((impl_getpiece k (pput u a0 a1 a2 a3 a4 a5 a6 a7 a8 a9 a10 a11 a12) (u.length : Int) hB (by omega) (by omega)).trans (congrArg some hg.symm)) ?_
  refine bind_of hq ?_
  obtain ⟨y, hy⟩ : ∃ y, y = gpc q.1 q.2 := ⟨_, rfl⟩
  refine bind_of ((impl_getpiece k q.1 q.2 hd (by omega) (by omega)).trans (congrArg some hy.symm)) ?_
  refine bind_of ((spec_getpiece k q.1 q.2 hd (by omega) (by omega)).trans (congrArg some hy.symm)) ?_
  refine ite_no (by simp) ?_
  have hinv := gpc_inv q.1 hd q.2 y hy.symm
  by_cases ho : pok a0 a1 a2 a3 a4 a5 a6 a7 a8 a9 a10 a11 a12 = true
  · have hg2 := hg.trans (gpc_put u a0 a1 a2 a3 a4 a5 a6 a7 a8 a9 a10 a11 a12 ho)
    clear hg
    subst hg2
    have hpp : pput u a0 a1 a2 a3 a4 a5 a6 a7 a8 a9 a10 a11 a12 = u ++ (nums a0 a1 a2 a3 a4 a5 a6 a7 a8 a9 a10 a11 a12).flatMap code := by unfold pput; rw [if_pos ho]
    have htk : (pput u a0 a1 a2 a3 a4 a5 a6 a7 a8 a9 a10 a11 a12).take u.length = u := by rw [hpp, List.take_left']; rfl
    have hle : u.length ≤ (pput u a0 a1 a2 a3 a4 a5 a6 a7 a8 a9 a10 a11 a12).length := by rw [hpp, List.length_append]; omega
    generalize pput u a0 a1 a2 a3 a4 a5 a6 a7 a8 a9 a10 a11 a12 = w at hl hB hpp htk hle
    have e1 : ∀ h : (u.length : Int).toNat = u.length, w.take ((u.length : Int) : Int).toNat = u := fun h => by rw [h]; exact htk
    rcases hinv with ⟨i1, i2⟩ | ⟨i1, i2, i3, i4, i5, i6⟩
    · refine ite_no (by rw [i1]; decide) ?_
      refine ite_no (by rw [i2]; decide) ?_
      refine bind_of (impl_pieceok k _ _ _ _ _ _ _ _ _ _ _ _ _ (by omega)) ?_
      refine ite_of ho ?_
      refine ite_of rfl ?_
      refine ite_of (by simp) ?_
      refine ite_of rfl ?_
      refine ite_of (by show (0 : Int) ≤ (u.length : Int); omega) ?_
      refine ite_of (by show (u.length : Int) ≤ (w.length : Int); omega) ?_
      refine bind_of (show laws_same.f (w.take ((u.length : Int) : Int).toNat) u = some true by rw [e1 (Int.toNat_natCast _)]; exact same_refl u) ?_
      rfl
    · refine ite_of i1 ?_
      refine bind_of (impl_pieceok k _ _ _ _ _ _ _ _ _ _ _ _ _ (by omega)) ?_
      refine ite_of i2 ?_
      refine bind_of (impl_putpiece k [] _ _ _ _ _ _ _ _ _ _ _ _ _ (by omega) (by simp)) ?_
      refine ite_of i3 ?_
      refine ite_of i4 ?_
      refine ite_of i5 ?_
      refine bind_of (show laws_same.f _ _ = some true by rw [i6]; exact same_refl _) ?_
      refine ite_of rfl ?_
      refine bind_of (impl_pieceok k _ _ _ _ _ _ _ _ _ _ _ _ _ (by omega)) ?_
      refine ite_of ho ?_
      refine ite_of rfl ?_
      refine ite_of (by simp) ?_
      refine ite_of rfl ?_
      refine ite_of (by show (0 : Int) ≤ (u.length : Int); omega) ?_
      refine ite_of (by show (u.length : Int) ≤ (w.length : Int); omega) ?_
      refine bind_of (show laws_same.f (w.take ((u.length : Int) : Int).toNat) u = some true by rw [e1 (Int.toNat_natCast _)]; exact same_refl u) ?_
      rfl
  · have hpp : pput u a0 a1 a2 a3 a4 a5 a6 a7 a8 a9 a10 a11 a12 = u := by unfold pput; rw [if_neg ho]
    rw [hpp]
    rcases hinv with ⟨i1, i2⟩ | ⟨i1, i2, i3, i4, i5, i6⟩
    · refine ite_no (by rw [i1]; decide) ?_
      refine ite_no (by rw [i2]; decide) ?_
      refine bind_of (impl_pieceok k _ _ _ _ _ _ _ _ _ _ _ _ _ (by omega)) ?_
      refine ite_no ho ?_
      exact bind_of (same_refl u) rfl
    · refine ite_of i1 ?_
      refine bind_of (impl_pieceok k _ _ _ _ _ _ _ _ _ _ _ _ _ (by omega)) ?_
      refine ite_of i2 ?_
      refine bind_of (impl_putpiece k [] _ _ _ _ _ _ _ _ _ _ _ _ _ (by omega) (by simp)) ?_
      refine ite_of i3 ?_
      refine ite_of i4 ?_
      refine ite_of i5 ?_
      refine bind_of (show laws_same.f _ _ = some true by rw [i6]; exact same_refl _) ?_
      refine ite_of rfl ?_
      refine bind_of (impl_pieceok k _ _ _ _ _ _ _ _ _ _ _ _ _ (by omega)) ?_
      refine ite_no ho ?_
      exact bind_of (same_refl u) rfl

end Go.Proofs.Ytfkidiagmekleaa.Pure
