/- The reader of draws by what is known of its answers: whatever it draws is there, within its bounds (the code drawn from has at most 2^20 bytes). -/
import Derived.Test.YtfkidiagmekleaaHBase
import Derived.Test.YtfkidiagmekleaaHOk
import Derived.Test.YtfkidiagmekleaaRL1
import Derived.Test.YtfkidiagmekleaaRL4d
import Derived.Test.YtfkidiagmekleaaRRaw
namespace Go.Proofs.Ytfkidiagmekleaa.QAll
open Go.RowKit Go.Proofs.YtfkidiagmekleaaW.PrintWords Go.Proofs.YtfkidiagmekleaaW.PrintLast Go.Proofs.YtfkidiagmekleaaW.PrintMore
set_option linter.unusedVariables false
set_option linter.unusedSimpArgs false
theorem wrap_nat (n : Nat) (h : n ≤ 4611686018427387904) : wrap64 ((n : Int) + 1) = ((n + 1 : Nat) : Int) := by unfold wrap64; omega
theorem rd_nat (l : List Int) (n : Nat) (h : n < l.length) : l[n]? = some (rd l (n : Int)) := by
  unfold rd
  rw [Int.toNat_natCast, List.getD_eq_getElem?_getD, List.getElem?_eq_getElem h]
  rfl
theorem ext_upto {α : Type} (a b : List α) (hl : a.length = b.length) (h : ∀ j, j < a.length → a[j]? = b[j]?) : a = b := by
  apply List.ext_getElem?
  intro j
  by_cases hj : j < a.length
  · exact h j hj
  · rw [List.getElem?_eq_none (by omega), List.getElem?_eq_none (by omega)]

theorem and_bound (x : Int) (m : Nat) (hm : m < 4611686018427387904) : 0 ≤ Go.bits .and .i64 x (m : Int) ∧ Go.bits .and .i64 x (m : Int) ≤ (m : Int) := by
  have h : ((BitVec.ofInt 64 x) &&& (BitVec.ofInt 64 (m : Int))).toNat ≤ m := by
    rw [BitVec.toNat_and, BitVec.ofInt_natCast, BitVec.toNat_ofNat, Nat.mod_eq_of_lt (by omega)]
    exact Nat.and_le_right
  show 0 ≤ IntKind.i64.wrap ((((BitVec.ofInt 64 x) &&& (BitVec.ofInt 64 (m : Int))).toNat : Nat) : Int) ∧ IntKind.i64.wrap ((((BitVec.ofInt 64 x) &&& (BitVec.ofInt 64 (m : Int))).toNat : Nat) : Int) ≤ (m : Int)
  generalize ((BitVec.ofInt 64 x) &&& (BitVec.ofInt 64 (m : Int))).toNat = q at *
  rw [IntKind.wrap_i64]
  omega
theorem and_byte (x : Int) : 0 ≤ Go.bits .and .i64 x 255 ∧ Go.bits .and .i64 x 255 ≤ 255 := and_bound x 255 (by decide)
/-- A place of the reader: within the bytes. -/
def At (b : List Int) (i : Int) : Prop := 0 ≤ i ∧ i ≤ (b.length : Int)
theorem draw_byte (b : List Int) (i h : Int) (hb : b.length ≤ 1048576) (hi : At b i) : ∃ v i' h', spec_l1Byte.f b i h = some (v, i', h') ∧ (0 ≤ v ∧ v ≤ 255) ∧ At b i' := by
  unfold spec_l1Byte.f
  unfold At at *
  by_cases h1 : i < (b.length : Int)
  · rw [if_pos h1, if_pos hi.1]
    exact ⟨_, _, _, rfl, and_byte _, by unfold wrap64; omega⟩
  · rw [if_neg h1]
    exact ⟨_, _, _, rfl, and_byte _, by omega⟩
theorem draw_below (b : List Int) (i h n : Int) (hb : b.length ≤ 1048576) (hi : At b i) (hn : n ≤ 65536) : ∃ v i' h', spec_l1Below.f b i h n = some (v, i', h') ∧ (0 ≤ v ∧ (0 < n → v < n) ∧ (n ≤ 0 → v = 0)) ∧ At b i' := by
  unfold spec_l1Below.f
  by_cases h0 : n ≤ 0
  · rw [if_pos h0]
    exact ⟨_, _, _, rfl, ⟨by omega, by omega, by omega⟩, hi⟩
  · rw [if_neg h0]
    by_cases h1 : n ≤ 256
    · rw [if_pos h1]
      obtain ⟨v, i', h', hv, hr, hi'⟩ := draw_byte b i h hb hi
      rw [hv]
      simp only [Option.bind_some]
      rw [if_neg (by omega), Int.tmod_eq_emod_of_nonneg hr.1]
      exact ⟨_, _, _, rfl, ⟨Int.emod_nonneg _ (by omega), fun _ => Int.emod_lt_of_pos _ (by omega), by omega⟩, hi'⟩
    · rw [if_neg h1]
      obtain ⟨v, i1, h1', hv, hr, hi1⟩ := draw_byte b i h hb hi
      rw [hv]
      simp only [Option.bind_some]
      obtain ⟨v2, i2, h2', hv2, hr2, hi2⟩ := draw_byte b i1 h1' hb hi1
      rw [hv2]
      simp only [Option.bind_some]
      obtain ⟨v3, i3, h3', hv3, hr3, hi3⟩ := draw_byte b i2 h2' hb hi2
      rw [hv3]
      simp only [Option.bind_some]
      have hp : 0 ≤ wrap64 ((wrap64 ((wrap64 (v * 65536)) + (wrap64 (v2 * 256)))) + v3) := by unfold wrap64; omega
      rw [if_neg (by omega), Int.tmod_eq_emod_of_nonneg hp]
      exact ⟨_, _, _, rfl, ⟨Int.emod_nonneg _ (by omega), fun _ => Int.emod_lt_of_pos _ (by omega), by omega⟩, hi3⟩
theorem draw_new_l0 : ∀ (d k : Nat) (b : List Int) (h i : Int), (b.length : Int) - i = (d : Int) → 0 ≤ i → d < k → b.length ≤ 1048576 → ∃ h', spec_l1New.l0 k b h i = some (b, 0, h')
  | 0, k, b, h, i, hd, hi, hk, hb => by
    obtain ⟨k, rfl⟩ : ∃ q, k = q + 1 := ⟨k - 1, by omega⟩
    simp only [spec_l1New.l0]
    rw [if_neg (by omega)]
    exact ⟨_, rfl⟩
  | d + 1, k, b, h, i, hd, hi, hk, hb => by
    obtain ⟨k, rfl⟩ : ∃ q, k = q + 1 := ⟨k - 1, by omega⟩
    simp only [spec_l1New.l0]
    rw [if_pos (by omega)]
    by_cases h4 : i < 4000
    · rw [if_pos h4, if_pos hi]
      have hw : wrap64 (i + 1) = i + 1 := by unfold wrap64; omega
      rw [hw]
      exact draw_new_l0 d k b _ (i + 1) (by omega) (by omega) (by omega) hb
    · rw [if_neg h4]
      exact ⟨_, rfl⟩
theorem draw_new (k : Nat) (b : List Int) (hk : b.length < k) (hb : b.length ≤ 1048576) : ∃ h', spec_l1New.f k b = some (b, 0, h') := by
  unfold spec_l1New.f
  exact draw_new_l0 b.length k b _ 0 (by omega) (by omega) hk hb
theorem at_zero (b : List Int) : At b 0 := ⟨by omega, by omega⟩

theorem draw_once (b : List Int) (i h n : Int) (hb : b.length ≤ 1048576) (hi : At b i) (hn : n ≤ 65536) : ∃ v i' h', spec_l1Once.f b i h n = some (v, i', h') ∧ At b i' := by
  obtain ⟨v, i', h', hv, hr, hi'⟩ := draw_below b i h n hb hi hn
  unfold spec_l1Once.f
  rw [hv]
  exact ⟨_, _, _, rfl, hi'⟩
theorem draw_int (b : List Int) (i h : Int) (l : List Int) (hb : b.length ≤ 1048576) (hi : At b i) (hl : 0 < l.length) (hl2 : l.length ≤ 65536) : ∃ v i' h', spec_l1Int.f b i h l = some (v, i', h') ∧ v ∈ l ∧ At b i' := by
  obtain ⟨v, i', h', hv, hr, hi'⟩ := draw_below b i h (l.length : Int) hb hi (by omega)
  have h2 := hr.2.1 (by omega)
  unfold spec_l1Int.f
  rw [hv]
  simp only [Option.bind_some]
  rw [if_pos hr.1, if_pos h2]
  refine ⟨_, _, _, rfl, ?_, hi'⟩
  have := rd_nat l v.toNat (by omega)
  rw [Int.toNat_of_nonneg hr.1] at this
  exact List.mem_of_getElem? this
theorem mem_i64 (l : List Int) (hl : l.all (fun v => decide (-9223372036854775808 ≤ v) && decide (v ≤ 9223372036854775807)) = true) (v : Int) (h : v ∈ l) : -9223372036854775808 ≤ v ∧ v ≤ 9223372036854775807 := by
  have := List.all_eq_true.1 hl v h
  simpa using this

theorem draw_odd (b : List Int) (i h : Int) (hb : b.length ≤ 1048576) (hi : At b i) : ∃ v i' h', spec_l1Odd.f b i h = some (v, i', h') ∧ (-9223372036854775808 ≤ v ∧ v ≤ 9223372036854775807) ∧ At b i' := by
  obtain ⟨v, i', h', hv, hm, hi'⟩ := draw_int b i h (hb := hb) (hi := hi) (l := [(-1), 0, 1, 2, 255, 256, 65535, 2147483647, 2147483648, 4294967295, 4294967296, (-2147483648), 9223372036854775807, (-9223372036854775808)]) (by decide) (by decide)
  unfold spec_l1Odd.f
  rw [hv]
  exact ⟨_, _, _, rfl, mem_i64 _ (by decide) v hm, hi'⟩
theorem draw_raw (b : List Int) (i h : Int) (hb : b.length ≤ 1048576) (hi : At b i) : ∃ v i' h', spec_l1Raw.f b i h = some (v, i', h') ∧ (-9223372036854775808 ≤ v ∧ v ≤ 9223372036854775807) ∧ At b i' := by
  obtain ⟨v, i1, h1, hv, hi1⟩ := draw_once b i h 2 hb hi (by decide)
  unfold spec_l1Raw.f
  rw [hv]
  simp only [Option.bind_some]
  cases v with
  | true =>
    obtain ⟨v2, i2, h2, hv2, hr2, hi2⟩ := draw_odd b i1 h1 hb hi1
    rw [if_pos rfl, hv2]
    exact ⟨_, _, _, rfl, hr2, hi2⟩
  | false =>
    obtain ⟨v2, i2, h2, hv2, hm, hi2⟩ := draw_int b i1 h1 (hb := hb) (hi := hi1) (l := [(-2147483648), (-2147483647), (-3), (-1), 0, 1, 3, 7, 2147483647, 2147483648]) (by decide) (by decide)
    rw [if_neg (by decide), hv2]
    exact ⟨_, _, _, rfl, mem_i64 _ (by decide) v2 hm, hi2⟩

theorem gbind {α β : Type} {x : Option α} {f : α → Option β} {Q : β → Prop} {R : α → Prop} (h : ∃ v, x = some v ∧ R v) (h2 : ∀ v, R v → ∃ p, f v = some p ∧ Q p) : ∃ p, x.bind f = some p ∧ Q p := by
  obtain ⟨v, rfl, hv⟩ := h
  exact h2 v hv
theorem gite {α : Type} {c : Prop} [Decidable c] {a b : Option α} {Q : α → Prop} (h1 : c → ∃ p, a = some p ∧ Q p) (h2 : ¬ c → ∃ p, b = some p ∧ Q p) : ∃ p, (if c then a else b) = some p ∧ Q p := by
  by_cases h : c
  · rw [if_pos h]; exact h1 h
  · rw [if_neg h]; exact h2 h
theorem dbelow (b : List Int) (i h n : Int) (hb : b.length ≤ 1048576) (hi : At b i) (hn : n ≤ 65536) : ∃ v, spec_l1Below.f b i h n = some v ∧ At b v.2.1 := by
  obtain ⟨v, i', h', e, _, hi'⟩ := draw_below b i h n hb hi hn
  exact ⟨_, e, hi'⟩
theorem dint (b : List Int) (i h : Int) (l : List Int) (hb : b.length ≤ 1048576) (hi : At b i) (hl : 0 < l.length) (hl2 : l.length ≤ 65536) : ∃ v, spec_l1Int.f b i h l = some v ∧ At b v.2.1 := by
  obtain ⟨v, i', h', e, _, hi'⟩ := draw_int b i h l hb hi hl hl2
  exact ⟨_, e, hi'⟩
theorem donce (b : List Int) (i h n : Int) (hb : b.length ≤ 1048576) (hi : At b i) (hn : n ≤ 65536) : ∃ v, spec_l1Once.f b i h n = some v ∧ At b v.2.1 := by
  obtain ⟨v, i', h', e, hi'⟩ := draw_once b i h n hb hi hn
  exact ⟨_, e, hi'⟩
theorem draw_raw_ex (b : List Int) (i h : Int) (hb : b.length ≤ 1048576) (hi : At b i) : ∃ v, spec_l1Raw.f b i h = some v ∧ At b v.2.1 := by
  obtain ⟨v, i', h', e, _, hi'⟩ := draw_raw b i h hb hi
  exact ⟨_, e, hi'⟩
theorem l4_j1 (k : Nat) (b : List Int) (i h : Int) (hb : b.length ≤ 1048576) (hi : At b i) (hk : 0 < k) (x0 x1 x2 x3 x4 x5 x6 x7 x8 x9 x10 : Int) (x11 x12 : Bool) : ∃ p, spec_l4Draw.j1 k b i h x0 x1 x2 x3 x4 x5 x6 x7 x8 x9 x10 x11 x12 = some p ∧ At b p.2.2.2.2.2.2.2.2.2.2.2.2.2.1 := by
  obtain ⟨k, rfl⟩ : ∃ q, k = q + 1 := ⟨k - 1, by omega⟩
  simp only [spec_l4Draw.j1]
  refine gbind (dint b _ _ _ hb hi (by decide) (by decide)) (fun v hv => ?_)
  refine gbind (dint b _ _ _ hb hv (by decide) (by decide)) (fun v hv => ?_)
  refine gbind (dint b _ _ _ hb hv (by decide) (by decide)) (fun v hv => ?_)
  refine gbind (donce b _ _ _ hb hv (by decide)) (fun v hv => ?_)
  exact ⟨_, rfl, hv⟩
theorem l4_l0 (b : List Int) (hb : b.length ≤ 1048576) : ∀ (d k n : Nat) (i h : Int) (x0 x1 x2 x3 x4 x5 x6 x7 x8 x9 x10 : Int) (x11 x12 : Bool), n + d = 6 → d + 1 < k → At b i → ∃ p, spec_l4Draw.l0 k [1, 2, 4, 8, 16, 32] 6 (n : Int) b i h x0 x1 x2 x3 x4 x5 x6 x7 x8 x9 x10 x11 x12 = some p ∧ At b p.2.2.2.2.2.2.2.2.2.2.2.2.2.1
  | 0, k, n, i, h, x0, x1, x2, x3, x4, x5, x6, x7, x8, x9, x10, x11, x12, hn, hk, hi => by
    obtain ⟨k, rfl⟩ : ∃ q, k = q + 1 := ⟨k - 1, by omega⟩
    simp only [spec_l4Draw.l0]
    refine gite (fun hc => by omega) (fun _ => ?_)
    refine gite (fun _ => ?_) (fun _ => ⟨_, rfl, hi⟩)
    refine gbind (donce b _ _ _ hb hi (by decide)) (fun v hv => ?_)
    refine gite (fun _ => ?_) (fun _ => ?_)
    · exact l4_j1 k b _ _ hb hv (by omega) _ _ _ _ _ _ _ _ _ _ _ _ _
    · exact l4_j1 k b _ _ hb hv (by omega) _ _ _ _ _ _ _ _ _ _ _ _ _
  | d + 1, k, n, i, h, x0, x1, x2, x3, x4, x5, x6, x7, x8, x9, x10, x11, x12, hn, hk, hi => by
    obtain ⟨k, rfl⟩ : ∃ q, k = q + 1 := ⟨k - 1, by omega⟩
    have hl : (([1, 2, 4, 8, 16, 32] : List Int).length : Int) = 6 := rfl
    simp only [spec_l4Draw.l0]
    refine gite (fun _ => ?_) (fun hc => by omega)
    refine gite (fun _ => ?_) (fun hc => by omega)
    refine gite (fun _ => ?_) (fun hc => by rw [hl] at hc; omega)
    rw [wrap_nat n (by omega)]
    refine gbind (donce b _ _ _ hb hi (by decide)) (fun v hv => ?_)
    refine gite (fun _ => ?_) (fun _ => ?_)
    · exact l4_l0 b hb d k (n + 1) _ _ _ _ _ _ _ _ _ _ _ _ _ _ _ (by omega) (by omega) hv
    · exact l4_l0 b hb d k (n + 1) _ _ _ _ _ _ _ _ _ _ _ _ _ _ _ (by omega) (by omega) hv
theorem draw_piece (k : Nat) (b : List Int) (i h id : Int) (hb : b.length ≤ 1048576) (hi : At b i) (hk : 8 < k) : ∃ p, spec_l4Draw.f k b i h id = some p ∧ At b p.2.2.2.2.2.2.2.2.2.2.2.2.2.1 := by
  unfold spec_l4Draw.f
  refine gbind (dbelow b _ _ _ hb hi (by decide)) (fun v hv => ?_)
  refine gbind (dint b _ _ _ hb hv (by decide) (by decide)) (fun v hv => ?_)
  refine gbind (dbelow b _ _ _ hb hv (by decide)) (fun v hv => ?_)
  refine gbind (dbelow b _ _ _ hb hv (by decide)) (fun v hv => ?_)
  refine gbind (dbelow b _ _ _ hb hv (by decide)) (fun v hv => ?_)
  exact l4_l0 b hb 6 k 0 _ _ _ _ _ _ _ _ _ _ _ _ _ _ _ (by omega) (by omega) hv
theorem dnew (k : Nat) (b : List Int) (hk : b.length < k) (hb : b.length ≤ 1048576) : ∃ v, spec_l1New.f k b = some v ∧ (v.1 = b ∧ At b v.2.1) := by
  obtain ⟨h, e⟩ := draw_new k b hk hb
  exact ⟨_, e, rfl, at_zero b⟩
theorem dbelow2 (b : List Int) (i h n : Int) (hb : b.length ≤ 1048576) (hi : At b i) (hn : n ≤ 65536) (h0 : 0 < n) : ∃ v, spec_l1Below.f b i h n = some v ∧ ((0 ≤ v.1 ∧ v.1 < n) ∧ At b v.2.1) := by
  obtain ⟨v, i', h', e, hr, hi'⟩ := draw_below b i h n hb hi hn
  exact ⟨_, e, ⟨hr.1, hr.2.1 h0⟩, hi'⟩

theorem dintm (b : List Int) (i h : Int) (l : List Int) (hb : b.length ≤ 1048576) (hi : At b i) (hl : 0 < l.length) (hl2 : l.length ≤ 65536) : ∃ v, spec_l1Int.f b i h l = some v ∧ (v.1 ∈ l ∧ At b v.2.1) := by
  obtain ⟨v, i', h', e, hm, hi'⟩ := draw_int b i h l hb hi hl hl2
  exact ⟨_, e, hm, hi'⟩
/-- A piece as it is drawn. -/
def DrawOk (id : Int) (x : S25) : Prop := x.f0 = id ∧ (0 ≤ x.f1 ∧ x.f1 ≤ 1) ∧ (0 ≤ x.f2 ∧ x.f2 ≤ 1) ∧ (1 ≤ x.f3 ∧ x.f3 ≤ 3) ∧ (0 ≤ x.f4 ∧ x.f4 ≤ 2) ∧ (0 ≤ x.f5 ∧ x.f5 ≤ 4) ∧ (1 ≤ x.f6 ∧ x.f6 ≤ 5) ∧ (0 ≤ x.f7 ∧ x.f7 ≤ 63) ∧ (0 ≤ x.f8 ∧ x.f8 ≤ 2) ∧ (0 ≤ x.f9 ∧ x.f9 ≤ 1) ∧ (0 ≤ x.f10 ∧ x.f10 ≤ 1) ∧ (x.f3 = 2 ∨ (x.f2 = x.f1 ∧ x.f8 = 0 ∧ x.f9 = 0 ∧ x.f10 = 0 ∧ x.f11 = false ∧ x.f12 = false))
theorem l4v_j1 (k : Nat) (b : List Int) (i h : Int) (hb : b.length ≤ 1048576) (hi : At b i) (hk : 0 < k) (x0 x1 x2 x3 x4 x5 x6 x7 : Int) (h1 : 0 ≤ x1 ∧ x1 ≤ 1) (h2 : 0 ≤ x2 ∧ x2 ≤ 1) (h3 : x3 = 2) (h4 : 0 ≤ x4 ∧ x4 ≤ 2) (h5 : 0 ≤ x5 ∧ x5 ≤ 4) (h6 : 1 ≤ x6 ∧ x6 ≤ 5) (h7 : 0 ≤ x7 ∧ x7 ≤ 63) (x8 x9 x10 : Int) (x11 x12 : Bool) :
    ∃ p, spec_l4Draw.j1 k b i h x0 x1 x2 x3 x4 x5 x6 x7 x8 x9 x10 x11 x12 = some p ∧ (At b p.2.2.2.2.2.2.2.2.2.2.2.2.2.1 ∧ DrawOk x0 ⟨p.1, p.2.1, p.2.2.1, p.2.2.2.1, p.2.2.2.2.1, p.2.2.2.2.2.1, p.2.2.2.2.2.2.1, p.2.2.2.2.2.2.2.1, p.2.2.2.2.2.2.2.2.1, p.2.2.2.2.2.2.2.2.2.1, p.2.2.2.2.2.2.2.2.2.2.1, p.2.2.2.2.2.2.2.2.2.2.2.1, p.2.2.2.2.2.2.2.2.2.2.2.2.1⟩) := by
  obtain ⟨k, rfl⟩ : ∃ q, k = q + 1 := ⟨k - 1, by omega⟩
  simp only [spec_l4Draw.j1]
  refine gbind (dintm b _ _ _ hb hi (by decide) (by decide)) (fun v hv => ?_)
  refine gbind (dintm b _ _ _ hb hv.2 (by decide) (by decide)) (fun u hu => ?_)
  refine gbind (dintm b _ _ _ hb hu.2 (by decide) (by decide)) (fun t ht => ?_)
  refine gbind (donce b _ _ _ hb ht.2 (by decide)) (fun q hq => ?_)
  have h33 : 1 ≤ x3 ∧ x3 ≤ 3 := by omega
  refine ⟨_, rfl, hq, rfl, h1, h2, h33, h4, h5, h6, h7, ?_, ?_, ?_, .inl h3⟩
  · have := hv.1; simp only [List.mem_cons, List.not_mem_nil, or_false] at this; show 0 ≤ v.1 ∧ v.1 ≤ 2; omega
  · have := hu.1; simp only [List.mem_cons, List.not_mem_nil, or_false] at this; show 0 ≤ u.1 ∧ u.1 ≤ 1; omega
  · have := ht.1; simp only [List.mem_cons, List.not_mem_nil, or_false] at this; show 0 ≤ t.1 ∧ t.1 ≤ 1; omega
theorem pow_at (n : Nat) (h : n < 6) : rd [1, 2, 4, 8, 16, 32] (n : Int) = 2 ^ n := by
  match n, h with
  | 0, _ => rfl
  | 1, _ => rfl
  | 2, _ => rfl
  | 3, _ => rfl
  | 4, _ => rfl
  | 5, _ => rfl
theorem l4v_l0 (b : List Int) (hb : b.length ≤ 1048576) (x0 x1 x3 x4 x5 x6 : Int) (h1 : 0 ≤ x1 ∧ x1 ≤ 1) (h3 : 1 ≤ x3 ∧ x3 ≤ 3) (h4 : 0 ≤ x4 ∧ x4 ≤ 2) (h5 : 0 ≤ x5 ∧ x5 ≤ 4) (h6 : 1 ≤ x6 ∧ x6 ≤ 5) : ∀ (d k n : Nat) (i h : Int) (x7 : Int), n + d = 6 → d + 1 < k → At b i → 0 ≤ x7 → x7 < 2 ^ n →
    ∃ p, spec_l4Draw.l0 k [1, 2, 4, 8, 16, 32] 6 (n : Int) b i h x0 x1 x1 x3 x4 x5 x6 x7 0 0 0 false false = some p ∧ (At b p.2.2.2.2.2.2.2.2.2.2.2.2.2.1 ∧ DrawOk x0 ⟨p.1, p.2.1, p.2.2.1, p.2.2.2.1, p.2.2.2.2.1, p.2.2.2.2.2.1, p.2.2.2.2.2.2.1, p.2.2.2.2.2.2.2.1, p.2.2.2.2.2.2.2.2.1, p.2.2.2.2.2.2.2.2.2.1, p.2.2.2.2.2.2.2.2.2.2.1, p.2.2.2.2.2.2.2.2.2.2.2.1, p.2.2.2.2.2.2.2.2.2.2.2.2.1⟩)
  | 0, k, n, i, h, x7, hn, hk, hi, h7, h8 => by
    obtain ⟨k, rfl⟩ : ∃ q, k = q + 1 := ⟨k - 1, by omega⟩
    obtain rfl : n = 6 := by omega
    have h9 : x7 ≤ 63 := by
      have : (2 : Int) ^ 6 = 64 := by decide
      omega
    simp only [spec_l4Draw.l0]
    refine gite (fun hc => by omega) (fun _ => ?_)
    refine gite (fun hz => ?_) (fun hz => ⟨_, rfl, hi, rfl, h1, h1, h3, h4, h5, h6, ⟨h7, h9⟩, ⟨Int.le_refl 0, show (0 : Int) ≤ 2 by decide⟩, ⟨Int.le_refl 0, show (0 : Int) ≤ 1 by decide⟩, ⟨Int.le_refl 0, show (0 : Int) ≤ 1 by decide⟩, .inr ⟨rfl, rfl, rfl, rfl, rfl, rfl⟩⟩)
    refine gbind (donce b _ _ _ hb hi (by decide)) (fun v hv => ?_)
    have hw : wrap64 (1 - x1) = 1 - x1 := by unfold wrap64; omega
    refine gite (fun _ => ?_) (fun _ => ?_)
    · rw [hw]
      exact l4v_j1 k b _ _ hb hv (by omega) _ _ _ _ _ _ _ _ h1 (by omega) hz h4 h5 h6 ⟨h7, h9⟩ _ _ _ _ _
    · exact l4v_j1 k b _ _ hb hv (by omega) _ _ _ _ _ _ _ _ h1 h1 hz h4 h5 h6 ⟨h7, h9⟩ _ _ _ _ _
  | d + 1, k, n, i, h, x7, hn, hk, hi, h7, h8 => by
    obtain ⟨k, rfl⟩ : ∃ q, k = q + 1 := ⟨k - 1, by omega⟩
    have hl : (([1, 2, 4, 8, 16, 32] : List Int).length : Int) = 6 := rfl
    have hp : (2 : Int) ^ (n + 1) = 2 ^ n + 2 ^ n := by rw [Int.pow_succ]; omega
    have hq : (2 : Int) ^ n ≤ 32 := by
      match n, (show n < 6 by omega) with
      | 0, _ => decide
      | 1, _ => decide
      | 2, _ => decide
      | 3, _ => decide
      | 4, _ => decide
      | 5, _ => decide
    simp only [spec_l4Draw.l0]
    refine gite (fun _ => ?_) (fun hc => by omega)
    refine gite (fun _ => ?_) (fun hc => by omega)
    refine gite (fun _ => ?_) (fun hc => by rw [hl] at hc; omega)
    rw [wrap_nat n (by omega), pow_at n (by omega)]
    have hw : wrap64 (x7 + 2 ^ n) = x7 + 2 ^ n := by unfold wrap64; omega
    refine gbind (donce b _ _ _ hb hi (by decide)) (fun v hv => ?_)
    refine gite (fun _ => ?_) (fun _ => ?_)
    · rw [hw]
      exact l4v_l0 b hb x0 x1 x3 x4 x5 x6 h1 h3 h4 h5 h6 d k (n + 1) _ _ _ (by omega) (by omega) hv (by omega) (by omega)
    · exact l4v_l0 b hb x0 x1 x3 x4 x5 x6 h1 h3 h4 h5 h6 d k (n + 1) _ _ _ (by omega) (by omega) hv h7 (by omega)
theorem l4v (k : Nat) (b : List Int) (i h id : Int) (hb : b.length ≤ 1048576) (hi : At b i) (hk : 8 < k) : ∃ p, spec_l4Draw.f k b i h id = some p ∧ (At b p.2.2.2.2.2.2.2.2.2.2.2.2.2.1 ∧ DrawOk id ⟨p.1, p.2.1, p.2.2.1, p.2.2.2.1, p.2.2.2.2.1, p.2.2.2.2.2.1, p.2.2.2.2.2.2.1, p.2.2.2.2.2.2.2.1, p.2.2.2.2.2.2.2.2.1, p.2.2.2.2.2.2.2.2.2.1, p.2.2.2.2.2.2.2.2.2.2.1, p.2.2.2.2.2.2.2.2.2.2.2.1, p.2.2.2.2.2.2.2.2.2.2.2.2.1⟩) := by
  unfold spec_l4Draw.f
  refine gbind (dbelow2 b _ _ _ hb hi (by decide) (by decide)) (fun v hv => ?_)
  refine gbind (dintm b _ _ _ hb hv.2 (by decide) (by decide)) (fun u hu => ?_)
  refine gbind (dbelow2 b _ _ _ hb hu.2 (by decide) (by decide)) (fun t ht => ?_)
  refine gbind (dbelow2 b _ _ _ hb ht.2 (by decide) (by decide)) (fun q hq => ?_)
  refine gbind (dbelow2 b _ _ _ hb hq.2 (by decide) (by decide)) (fun r hr => ?_)
  have hz : 1 ≤ u.1 ∧ u.1 ≤ 3 := by have := hu.1; simp only [List.mem_cons, List.not_mem_nil, or_false] at this; omega
  have hw : wrap64 (1 + r.1) = 1 + r.1 := by have := hr.1; unfold wrap64; omega
  rw [hw]
  have h1 := hv.1; have h2 := ht.1; have h3 := hq.1; have h4 := hr.1
  exact l4v_l0 b hb id v.1 u.1 t.1 q.1 (1 + r.1) (by omega) hz (by omega) (by omega) (by omega) 6 k 0 _ _ 0 (by omega) (by omega) hr.2 (by omega) (by decide)
/-- The reader at block g over the bytes b, seen from the world w0 where it was made. -/
def Cur (w0 w : World) (g : Nat) (b : List Int) : Prop := b.length ≤ 1048576 ∧ Below w0.heap.size w0 w ∧ ∃ i h, IsS120 w0 w g b i h ∧ At b i
theorem Cur.lt {w0 w : World} {g : Nat} {b : List Int} (h : Cur w0 w g b) : g < w.heap.size := by obtain ⟨_, _, _, _, hI, _⟩ := h; exact hI.lt
theorem Cur.ge {w0 w : World} {g : Nat} {b : List Int} (h : Cur w0 w g b) : w0.heap.size ≤ g := by obtain ⟨_, _, _, _, hI, _⟩ := h; exact hI.ge
theorem Cur.size {w0 w : World} {g : Nat} {b : List Int} (h : Cur w0 w g b) : w0.heap.size ≤ w.heap.size := h.2.1.size
theorem Cur.below {w0 w w1 : World} {g : Nat} {b : List Int} (h : Cur w0 w g b) (hb : Below w.heap.size w w1) : Cur w0 w1 g b := by
  obtain ⟨h1, h2, i, q, hI, hA⟩ := h
  exact ⟨h1, below_then h2 h2.size hb, i, q, hI.below hb, hA⟩
theorem Cur.grown {w0 w w1 : World} {g : Nat} {b : List Int} (h : Cur w0 w g b) {row : Option Nat} (hg : w.grownBy w1 row) (hr : ∀ k, row = some k → w0.heap.size ≤ k ∧ k ≠ g) : Cur w0 w1 g b := by
  obtain ⟨h1, h2, i, q, hI, hA⟩ := h
  exact ⟨h1, pw_below_grown h2 row h2.size hg (fun k hk => (hr k hk).1), i, q, hI.grown hg (fun e => (hr g e.symm).2 rfl), hA⟩
theorem Cur.blk {w0 w : World} {g : Nat} {b : List Int} (h : Cur w0 w g b) : ∃ cs, w.heap[g]? = some (.cells cs 120 (0, 0)) := by
  obtain ⟨_, _, _, _, ⟨_, _, hh, _⟩, _⟩ := h
  exact ⟨_, hh⟩
/-- What a call on the reader leaves: the reader, and all else as it was. -/
def Drew (w0 w w' : World) (g : Nat) (b : List Int) : Prop := Cur w0 w' g b ∧ w.grownBy w' (some g)
theorem drew_of {w0 w w' : World} {g : Nat} {b : List Int} {i h : Int} (hC : Cur w0 w g b) (hI : IsS120 w0 w' g b i h) (hA : At b i) (hB : Below w0.heap.size w0 w') (hK : KeepBut w w' g none) : Drew w0 w w' g b :=
  ⟨⟨hC.1, hB, i, h, hI, hA⟩, hB.os.trans hC.2.1.os.symm, hB.tape.trans hC.2.1.tape.symm, hB.output.trans hC.2.1.output.symm, hK.1, fun k hk hne => hK.2 k hk (fun e => hne (by rw [e])) (by simp)⟩
theorem below_ex (n : Int) (h0 : 0 < n) (h1 : n ≤ 65536) (w0 w : World) (g : Nat) (b : List Int) (hC : Cur w0 w g b) : Calls Try.prog 74 #[.pointer (some ⟨g, 0, none⟩), .int .i64 n] w fun e w' => ∃ v : Int, e = .returned (.int .i64 v) ∧ (0 ≤ v ∧ v < n) ∧ Drew w0 w w' g b := by
  obtain ⟨hb, hB, i, h, hI, hA⟩ := hC
  obtain ⟨v, e, hv, hA'⟩ := dbelow2 b i h n hb hA h1 h0
  exact (spec_l1Below.calls g b i h n v.1 v.2.1 v.2.2 w0 w hI hB e).mono fun e w' ⟨he, hi, hb', hk⟩ => ⟨v.1, he, hv, drew_of ⟨hb, hB, i, h, hI, hA⟩ hi hA' hb' hk⟩
theorem once_ex (n : Int) (h1 : n ≤ 65536) (w0 w : World) (g : Nat) (b : List Int) (hC : Cur w0 w g b) : Calls Try.prog 76 #[.pointer (some ⟨g, 0, none⟩), .int .i64 n] w fun e w' => ∃ v : Bool, e = .returned (.bool v) ∧ Drew w0 w w' g b := by
  obtain ⟨hb, hB, i, h, hI, hA⟩ := hC
  obtain ⟨v, e, hA'⟩ := donce b i h n hb hA h1
  exact (spec_l1Once.calls g b i h n v.1 v.2.1 v.2.2 w0 w hI hB e).mono fun e w' ⟨he, hi, hb', hk⟩ => ⟨v.1, he, drew_of ⟨hb, hB, i, h, hI, hA⟩ hi hA' hb' hk⟩
theorem int_ex (l : List Int) (hl : 0 < l.length) (hl2 : l.length ≤ 65536) (A : Option Addr) (c : Nat) (w0 w : World) (g : Nat) (b : List Int) (hC : Cur w0 w g b) (hr : Kd.C (Kd.int .i64) w A l.length l) (hc : l.length ≤ c) (hf : ∀ ad, A = some ad → 0 < l.length → ad.block ≠ g) :
    Calls Try.prog 73 #[.pointer (some ⟨g, 0, none⟩), .slice A l.length c] w fun e w' => ∃ v : Int, e = .returned (.int .i64 v) ∧ v ∈ l ∧ Drew w0 w w' g b := by
  obtain ⟨hb, hB, i, h, hI, hA⟩ := hC
  obtain ⟨v, e, hv, hA'⟩ := dintm b i h l hb hA hl hl2
  exact (spec_l1Int.calls g b i h A c l v.1 v.2.1 v.2.2 w0 w hI hB hr hc hf e).mono fun e w' ⟨he, hi, hb', hk⟩ => ⟨v.1, he, hv, drew_of ⟨hb, hB, i, h, hI, hA⟩ hi hA' hb' hk⟩
theorem raw_ex (w0 w : World) (g : Nat) (b : List Int) (hC : Cur w0 w g b) : Calls Try.prog 126 #[.pointer (some ⟨g, 0, none⟩)] w fun e w' => ∃ v : Int, e = .returned (.int .i64 v) ∧ Drew w0 w w' g b := by
  obtain ⟨hb, hB, i, h, hI, hA⟩ := hC
  obtain ⟨v, e, hA'⟩ := draw_raw_ex b i h hb hA
  exact (spec_l1Raw.calls g b i h v.1 v.2.1 v.2.2 w0 w hI hB e).mono fun e w' ⟨he, hi, hb', hk⟩ => ⟨v.1, he, drew_of ⟨hb, hB, i, h, hI, hA⟩ hi hA' hb' hk⟩
theorem l4Draw_ex (id : Int) (w0 w : World) (g : Nat) (b : List Int) (hC : Cur w0 w g b) : Calls Try.prog 75 #[.pointer (some ⟨g, 0, none⟩), .int .i64 id] w fun e w' => ∃ y : S25, e = .returned (.agg #[.int .i64 y.f0, .int .i64 y.f1, .int .i64 y.f2, .int .i64 y.f3, .int .i64 y.f4, .int .i64 y.f5, .int .i64 y.f6, .int .i64 y.f7, .int .i64 y.f8, .int .i64 y.f9, .int .i64 y.f10, .bool y.f11, .bool y.f12]) ∧ DrawOk id y ∧ Drew w0 w w' g b := by
  obtain ⟨hb, hB, i, h, hI, hA⟩ := hC
  obtain ⟨p, e, hA', hv⟩ := l4v 9 b i h id hb hA (by omega)
  exact (spec_l4Draw.calls 9 g b i h id p.1 p.2.1 p.2.2.1 p.2.2.2.1 p.2.2.2.2.1 p.2.2.2.2.2.1 p.2.2.2.2.2.2.1 p.2.2.2.2.2.2.2.1 p.2.2.2.2.2.2.2.2.1 p.2.2.2.2.2.2.2.2.2.1 p.2.2.2.2.2.2.2.2.2.2.1 p.2.2.2.2.2.2.2.2.2.2.2.1 p.2.2.2.2.2.2.2.2.2.2.2.2.1 p.2.2.2.2.2.2.2.2.2.2.2.2.2.1 p.2.2.2.2.2.2.2.2.2.2.2.2.2.2 w0 w hI hB e).mono fun e w' ⟨he, hi, hb', hk⟩ => ⟨⟨p.1, p.2.1, p.2.2.1, p.2.2.2.1, p.2.2.2.2.1, p.2.2.2.2.2.1, p.2.2.2.2.2.2.1, p.2.2.2.2.2.2.2.1, p.2.2.2.2.2.2.2.2.1, p.2.2.2.2.2.2.2.2.2.1, p.2.2.2.2.2.2.2.2.2.2.1, p.2.2.2.2.2.2.2.2.2.2.2.1, p.2.2.2.2.2.2.2.2.2.2.2.2.1⟩, he, hv, drew_of ⟨hb, hB, i, h, hI, hA⟩ hi hA' hb' hk⟩
theorem new_ex (A : Option Addr) (c : Nat) (b : List Int) (w0 w : World) (hB : Below w0.heap.size w0 w) (hr : Kd.C (Kd.int .u8) w0 A b.length b) (hc : b.length ≤ c) (hb : b.length ≤ 1048576) : Calls Try.prog 71 #[.slice A b.length c] w fun e w' => ∃ g : Nat, e = .returned (.pointer (some ⟨g, 0, none⟩)) ∧ Cur w0 w' g b ∧ Below w.heap.size w w' := by
  obtain ⟨v, e, hv, hA⟩ := dnew (b.length + 1) b (by omega) hb
  obtain ⟨v1, v2, v3⟩ := v
  simp only at hv hA
  subst hv
  exact (spec_l1New.calls (v1.length + 1) A c v1 v1 v2 v3 w0 w hB hr hc e).mono fun e w' ⟨g, he, hi, hb', hbb⟩ => ⟨g, he, ⟨hb, hb', v2, v3, hi, hA⟩, hbb⟩
end Go.Proofs.Ytfkidiagmekleaa.QAll
