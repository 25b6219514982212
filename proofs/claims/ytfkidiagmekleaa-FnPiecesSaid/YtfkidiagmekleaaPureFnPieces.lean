/- Whatever bytes it is handed, the law FnPieces answers true: of drawn pieces the program and the reference say the same of validity, traits, strength and toughness, two pieces are the same just when all their fields are, and a piece that moves is as it was printed, moves so again, and stays valid where the zone is (for more than 2^20 bytes the law says nothing: it answers true). -/
import Derived.Test.YtfkidiagmekleaaHFnPieces
namespace Go.Proofs.Ytfkidiagmekleaa.Pure
open Go.RowKit Go.Proofs.Ytfkidiagmekleaa.QAll Go.Proofs.YtfkidiagmekleaaW.PrintWords Go.Proofs.YtfkidiagmekleaaW.PrintLast
theorem wrap_nat (n : Nat) (h : n ≤ 4611686018427387904) : wrap64 ((n : Int) + 1) = ((n + 1 : Nat) : Int) := by unfold wrap64; omega
theorem rd_nat (l : List Int) (n : Nat) (h : n < l.length) : l[n]? = some (rd l (n : Int)) := by
  unfold rd
  rw [Int.toNat_natCast, List.getD_eq_getElem?_getD, List.getElem?_eq_getElem h]
  rfl
theorem ext_upto {α : Type} (a b : List α) (hl : a.length = b.length) (h : ∀ j, j < a.length → a[j]? = b[j]?) : a = b := by
  apply List.ext_getElem?
  intro j
  by_cases hj : j < a.length
  · exact h j hj
  · rw [List.getElem?_eq_none (by omega), List.getElem?_eq_none (by omega)]

theorem and_bound (x : Int) (m : Nat) (hm : m < 4611686018427387904) : 0 ≤ Go.bits .and .i64 x (m : Int) ∧ Go.bits .and .i64 x (m : Int) ≤ (m : Int) := by
  have h : ((BitVec.ofInt 64 x) &&& (BitVec.ofInt 64 (m : Int))).toNat ≤ m := by
    rw [BitVec.toNat_and, BitVec.ofInt_natCast, BitVec.toNat_ofNat, Nat.mod_eq_of_lt (by omega)]
    exact Nat.and_le_right
  show 0 ≤ IntKind.i64.wrap ((((BitVec.ofInt 64 x) &&& (BitVec.ofInt 64 (m : Int))).toNat : Nat) : Int) ∧ IntKind.i64.wrap ((((BitVec.ofInt 64 x) &&& (BitVec.ofInt 64 (m : Int))).toNat : Nat) : Int) ≤ (m : Int)
  generalize ((BitVec.ofInt 64 x) &&& (BitVec.ofInt 64 (m : Int))).toNat = q at *
  rw [IntKind.wrap_i64]
  omega
theorem and_byte (x : Int) : 0 ≤ Go.bits .and .i64 x 255 ∧ Go.bits .and .i64 x 255 ≤ 255 := and_bound x 255 (by decide)
/-- A place of the reader: within the bytes. -/
def At (b : List Int) (i : Int) : Prop := 0 ≤ i ∧ i ≤ (b.length : Int)
theorem draw_byte (b : List Int) (i h : Int) (hb : b.length ≤ 1048576) (hi : At b i) : ∃ v i' h', spec_l1Byte.f b i h = some (v, i', h') ∧ (0 ≤ v ∧ v ≤ 255) ∧ At b i' := by
  unfold spec_l1Byte.f
  unfold At at *
  by_cases h1 : i < (b.length : Int)
  · rw [if_pos h1, if_pos hi.1]
    exact ⟨_, _, _, rfl, and_byte _, by unfold wrap64; omega⟩
  · rw [if_neg h1]
    exact ⟨_, _, _, rfl, and_byte _, by omega⟩
theorem draw_below (b : List Int) (i h n : Int) (hb : b.length ≤ 1048576) (hi : At b i) (hn : n ≤ 65536) : ∃ v i' h', spec_l1Below.f b i h n = some (v, i', h') ∧ (0 ≤ v ∧ (0 < n → v < n) ∧ (n ≤ 0 → v = 0)) ∧ At b i' := by
  unfold spec_l1Below.f
  by_cases h0 : n ≤ 0
  · rw [if_pos h0]
    exact ⟨_, _, _, rfl, ⟨by omega, by omega, by omega⟩, hi⟩
  · rw [if_neg h0]
    by_cases h1 : n ≤ 256
    · rw [if_pos h1]
      obtain ⟨v, i', h', hv, hr, hi'⟩ := draw_byte b i h hb hi
      rw [hv]
      simp only [Option.bind_some]
      rw [if_neg (by omega), Int.tmod_eq_emod_of_nonneg hr.1]
      exact ⟨_, _, _, rfl, ⟨Int.emod_nonneg _ (by omega), fun _ => Int.emod_lt_of_pos _ (by omega), by omega⟩, hi'⟩
    · rw [if_neg h1]
      obtain ⟨v, i1, h1', hv, hr, hi1⟩ := draw_byte b i h hb hi
      rw [hv]
      simp only [Option.bind_some]
      obtain ⟨v2, i2, h2', hv2, hr2, hi2⟩ := draw_byte b i1 h1' hb hi1
      rw [hv2]
      simp only [Option.bind_some]
      obtain ⟨v3, i3, h3', hv3, hr3, hi3⟩ := draw_byte b i2 h2' hb hi2
      rw [hv3]
      simp only [Option.bind_some]
      have hp : 0 ≤ wrap64 ((wrap64 ((wrap64 (v * 65536)) + (wrap64 (v2 * 256)))) + v3) := by unfold wrap64; omega
      rw [if_neg (by omega), Int.tmod_eq_emod_of_nonneg hp]
      exact ⟨_, _, _, rfl, ⟨Int.emod_nonneg _ (by omega), fun _ => Int.emod_lt_of_pos _ (by omega), by omega⟩, hi3⟩
theorem draw_new_l0 : ∀ (d k : Nat) (b : List Int) (h i : Int), (b.length : Int) - i = (d : Int) → 0 ≤ i → d < k → b.length ≤ 1048576 → ∃ h', spec_l1New.l0 k b h i = some (b, 0, h')
  | 0, k, b, h, i, hd, hi, hk, hb => by
    obtain ⟨k, rfl⟩ : ∃ q, k = q + 1 := ⟨k - 1, by omega⟩
    simp only [spec_l1New.l0]
    rw [if_neg (by omega)]
    exact ⟨_, rfl⟩
  | d + 1, k, b, h, i, hd, hi, hk, hb => by
    obtain ⟨k, rfl⟩ : ∃ q, k = q + 1 := ⟨k - 1, by omega⟩
    simp only [spec_l1New.l0]
    rw [if_pos (by omega)]
    by_cases h4 : i < 4000
    · rw [if_pos h4, if_pos hi]
      have hw : wrap64 (i + 1) = i + 1 := by unfold wrap64; omega
      rw [hw]
      exact draw_new_l0 d k b _ (i + 1) (by omega) (by omega) (by omega) hb
    · rw [if_neg h4]
      exact ⟨_, rfl⟩
theorem draw_new (k : Nat) (b : List Int) (hk : b.length < k) (hb : b.length ≤ 1048576) : ∃ h', spec_l1New.f k b = some (b, 0, h') := by
  unfold spec_l1New.f
  exact draw_new_l0 b.length k b _ 0 (by omega) (by omega) hk hb
theorem at_zero (b : List Int) : At b 0 := ⟨by omega, by omega⟩

theorem draw_once (b : List Int) (i h n : Int) (hb : b.length ≤ 1048576) (hi : At b i) (hn : n ≤ 65536) : ∃ v i' h', spec_l1Once.f b i h n = some (v, i', h') ∧ At b i' := by
  obtain ⟨v, i', h', hv, hr, hi'⟩ := draw_below b i h n hb hi hn
  unfold spec_l1Once.f
  rw [hv]
  exact ⟨_, _, _, rfl, hi'⟩
theorem draw_int (b : List Int) (i h : Int) (l : List Int) (hb : b.length ≤ 1048576) (hi : At b i) (hl : 0 < l.length) (hl2 : l.length ≤ 65536) : ∃ v i' h', spec_l1Int.f b i h l = some (v, i', h') ∧ v ∈ l ∧ At b i' := by
  obtain ⟨v, i', h', hv, hr, hi'⟩ := draw_below b i h (l.length : Int) hb hi (by omega)
  have h2 := hr.2.1 (by omega)
  unfold spec_l1Int.f
  rw [hv]
  simp only [Option.bind_some]
  rw [if_pos hr.1, if_pos h2]
  refine ⟨_, _, _, rfl, ?_, hi'⟩
  have := rd_nat l v.toNat (by omega)
  rw [Int.toNat_of_nonneg hr.1] at this
  exact List.mem_of_getElem? this
theorem mem_i64 (l : List Int) (hl : l.all (fun v => decide (-9223372036854775808 ≤ v) && decide (v ≤ 9223372036854775807)) = true) (v : Int) (h : v ∈ l) : -9223372036854775808 ≤ v ∧ v ≤ 9223372036854775807 := by
  have := List.all_eq_true.1 hl v h
  simpa using this

theorem draw_odd (b : List Int) (i h : Int) (hb : b.length ≤ 1048576) (hi : At b i) : ∃ v i' h', spec_l1Odd.f b i h = some (v, i', h') ∧ (-9223372036854775808 ≤ v ∧ v ≤ 9223372036854775807) ∧ At b i' := by
  obtain ⟨v, i', h', hv, hm, hi'⟩ := draw_int b i h (hb := hb) (hi := hi) (l := [(-1), 0, 1, 2, 255, 256, 65535, 2147483647, 2147483648, 4294967295, 4294967296, (-2147483648), 9223372036854775807, (-9223372036854775808)]) (by decide) (by decide)
  unfold spec_l1Odd.f
  rw [hv]
  exact ⟨_, _, _, rfl, mem_i64 _ (by decide) v hm, hi'⟩
theorem draw_raw (b : List Int) (i h : Int) (hb : b.length ≤ 1048576) (hi : At b i) : ∃ v i' h', spec_l1Raw.f b i h = some (v, i', h') ∧ (-9223372036854775808 ≤ v ∧ v ≤ 9223372036854775807) ∧ At b i' := by
  obtain ⟨v, i1, h1, hv, hi1⟩ := draw_once b i h 2 hb hi (by decide)
  unfold spec_l1Raw.f
  rw [hv]
  simp only [Option.bind_some]
  cases v with
  | true =>
    obtain ⟨v2, i2, h2, hv2, hr2, hi2⟩ := draw_odd b i1 h1 hb hi1
    rw [if_pos rfl, hv2]
    exact ⟨_, _, _, rfl, hr2, hi2⟩
  | false =>
    obtain ⟨v2, i2, h2, hv2, hm, hi2⟩ := draw_int b i1 h1 (hb := hb) (hi := hi1) (l := [(-2147483648), (-2147483647), (-3), (-1), 0, 1, 3, 7, 2147483647, 2147483648]) (by decide) (by decide)
    rw [if_neg (by decide), hv2]
    exact ⟨_, _, _, rfl, mem_i64 _ (by decide) v2 hm, hi2⟩

theorem gbind {α β : Type} {x : Option α} {f : α → Option β} {Q : β → Prop} {R : α → Prop} (h : ∃ v, x = some v ∧ R v) (h2 : ∀ v, R v → ∃ p, f v = some p ∧ Q p) : ∃ p, x.bind f = some p ∧ Q p := by
  obtain ⟨v, rfl, hv⟩ := h
  exact h2 v hv
theorem gite {α : Type} {c : Prop} [Decidable c] {a b : Option α} {Q : α → Prop} (h1 : c → ∃ p, a = some p ∧ Q p) (h2 : ¬ c → ∃ p, b = some p ∧ Q p) : ∃ p, (if c then a else b) = some p ∧ Q p := by
  by_cases h : c
  · rw [if_pos h]; exact h1 h
  · rw [if_neg h]; exact h2 h
theorem dbelow (b : List Int) (i h n : Int) (hb : b.length ≤ 1048576) (hi : At b i) (hn : n ≤ 65536) : ∃ v, spec_l1Below.f b i h n = some v ∧ At b v.2.1 := by
  obtain ⟨v, i', h', e, _, hi'⟩ := draw_below b i h n hb hi hn
  exact ⟨_, e, hi'⟩
theorem dint (b : List Int) (i h : Int) (l : List Int) (hb : b.length ≤ 1048576) (hi : At b i) (hl : 0 < l.length) (hl2 : l.length ≤ 65536) : ∃ v, spec_l1Int.f b i h l = some v ∧ At b v.2.1 := by
  obtain ⟨v, i', h', e, _, hi'⟩ := draw_int b i h l hb hi hl hl2
  exact ⟨_, e, hi'⟩
theorem donce (b : List Int) (i h n : Int) (hb : b.length ≤ 1048576) (hi : At b i) (hn : n ≤ 65536) : ∃ v, spec_l1Once.f b i h n = some v ∧ At b v.2.1 := by
  obtain ⟨v, i', h', e, hi'⟩ := draw_once b i h n hb hi hn
  exact ⟨_, e, hi'⟩
theorem draw_raw_ex (b : List Int) (i h : Int) (hb : b.length ≤ 1048576) (hi : At b i) : ∃ v, spec_l1Raw.f b i h = some v ∧ At b v.2.1 := by
  obtain ⟨v, i', h', e, _, hi'⟩ := draw_raw b i h hb hi
  exact ⟨_, e, hi'⟩
theorem l4_j1 (k : Nat) (b : List Int) (i h : Int) (hb : b.length ≤ 1048576) (hi : At b i) (hk : 0 < k) (x0 x1 x2 x3 x4 x5 x6 x7 x8 x9 x10 : Int) (x11 x12 : Bool) : ∃ p, spec_l4Draw.j1 k b i h x0 x1 x2 x3 x4 x5 x6 x7 x8 x9 x10 x11 x12 = some p ∧ At b p.2.2.2.2.2.2.2.2.2.2.2.2.2.1 := by
  obtain ⟨k, rfl⟩ : ∃ q, k = q + 1 := ⟨k - 1, by omega⟩
  simp only [spec_l4Draw.j1]
  refine gbind (dint b _ _ _ hb hi (by decide) (by decide)) (fun v hv => ?_)
  refine gbind (dint b _ _ _ hb hv (by decide) (by decide)) (fun v hv => ?_)
  refine gbind (dint b _ _ _ hb hv (by decide) (by decide)) (fun v hv => ?_)
  refine gbind (donce b _ _ _ hb hv (by decide)) (fun v hv => ?_)
  exact ⟨_, rfl, hv⟩
theorem l4_l0 (b : List Int) (hb : b.length ≤ 1048576) : ∀ (d k n : Nat) (i h : Int) (x0 x1 x2 x3 x4 x5 x6 x7 x8 x9 x10 : Int) (x11 x12 : Bool), n + d = 6 → d + 1 < k → At b i → ∃ p, spec_l4Draw.l0 k [1, 2, 4, 8, 16, 32] 6 (n : Int) b i h x0 x1 x2 x3 x4 x5 x6 x7 x8 x9 x10 x11 x12 = some p ∧ At b p.2.2.2.2.2.2.2.2.2.2.2.2.2.1
  | 0, k, n, i, h, x0, x1, x2, x3, x4, x5, x6, x7, x8, x9, x10, x11, x12, hn, hk, hi => by
    obtain ⟨k, rfl⟩ : ∃ q, k = q + 1 := ⟨k - 1, by omega⟩
    simp only [spec_l4Draw.l0]
    refine gite (fun hc => by omega) (fun _ => ?_)
    refine gite (fun _ => ?_) (fun _ => ⟨_, rfl, hi⟩)
    refine gbind (donce b _ _ _ hb hi (by decide)) (fun v hv => ?_)
    refine gite (fun _ => ?_) (fun _ => ?_)
    · exact l4_j1 k b _ _ hb hv (by omega) _ _ _ _ _ _ _ _ _ _ _ _ _
    · exact l4_j1 k b _ _ hb hv (by omega) _ _ _ _ _ _ _ _ _ _ _ _ _
  | d + 1, k, n, i, h, x0, x1, x2, x3, x4, x5, x6, x7, x8, x9, x10, x11, x12, hn, hk, hi => by
    obtain ⟨k, rfl⟩ : ∃ q, k = q + 1 := ⟨k - 1, by omega⟩
    have hl : (([1, 2, 4, 8, 16, 32] : List Int).length : Int) = 6 := rfl
    simp only [spec_l4Draw.l0]
    refine gite (fun _ => ?_) (fun hc => by omega)
    refine gite (fun _ => ?_) (fun hc => by omega)
    refine gite (fun _ => ?_) (fun hc => by rw [hl] at hc; omega)
    rw [wrap_nat n (by omega)]
    refine gbind (donce b _ _ _ hb hi (by decide)) (fun v hv => ?_)
    refine gite (fun _ => ?_) (fun _ => ?_)
    · exact l4_l0 b hb d k (n + 1) _ _ _ _ _ _ _ _ _ _ _ _ _ _ _ (by omega) (by omega) hv
    · exact l4_l0 b hb d k (n + 1) _ _ _ _ _ _ _ _ _ _ _ _ _ _ _ (by omega) (by omega) hv
theorem draw_piece (k : Nat) (b : List Int) (i h id : Int) (hb : b.length ≤ 1048576) (hi : At b i) (hk : 8 < k) : ∃ p, spec_l4Draw.f k b i h id = some p ∧ At b p.2.2.2.2.2.2.2.2.2.2.2.2.2.1 := by
  unfold spec_l4Draw.f
  refine gbind (dbelow b _ _ _ hb hi (by decide)) (fun v hv => ?_)
  refine gbind (dint b _ _ _ hb hv (by decide) (by decide)) (fun v hv => ?_)
  refine gbind (dbelow b _ _ _ hb hv (by decide)) (fun v hv => ?_)
  refine gbind (dbelow b _ _ _ hb hv (by decide)) (fun v hv => ?_)
  refine gbind (dbelow b _ _ _ hb hv (by decide)) (fun v hv => ?_)
  exact l4_l0 b hb 6 k 0 _ _ _ _ _ _ _ _ _ _ _ _ _ _ _ (by omega) (by omega) hv
theorem draw_any (k : Nat) (b : List Int) (i h : Int) (hb : b.length ≤ 1048576) (hi : At b i) (hk : 8 < k) : ∃ p, spec_l4Any.f k b i h = some p ∧ At b p.2.2.2.2.2.2.2.2.2.2.2.2.2.1 := by
  unfold spec_l4Any.f
  refine gbind (dbelow b _ _ _ hb hi (by decide)) (fun v hv => ?_)
  refine gbind (draw_piece k b _ _ _ hb hv hk) (fun v hv => ?_)
  refine gbind (dbelow b _ _ _ hb hv (by decide)) (fun v hv => ?_)
  iterate 12
    refine gite (fun _ => ?_) (fun _ => ?_)
    · first
        | exact gbind (dint b _ _ _ hb (by assumption) (by decide) (by decide)) (fun v hv => ⟨_, rfl, hv⟩)
        | exact gbind (draw_raw_ex b _ _ hb (by assumption)) (fun v hv => ⟨_, rfl, hv⟩)
        | exact ⟨_, rfl, by assumption⟩
  exact ⟨_, rfl, by assumption⟩

theorem bind_of {α β : Type} {x : Option α} {v : α} {f : α → Option β} {r : Option β} (h : x = some v) (h2 : f v = r) : x.bind f = r := by rw [h]; exact h2
theorem ite_of {α : Type} {c : Prop} [Decidable c] {a b r : α} (hc : c) (h : a = r) : (if c then a else b) = r := by rw [if_pos hc]; exact h
theorem ite_no {α : Type} {c : Prop} [Decidable c] {a b r : α} (hc : ¬ c) (h : b = r) : (if c then a else b) = r := by rw [if_neg hc]; exact h

def inr (a lo hi : Int) : Bool := decide (lo ≤ a ∧ a ≤ hi)
theorem inr_if (a lo hi : Int) : (if a ≥ lo then (some (decide (a ≤ hi))) else (some false)) = some (inr a lo hi) := by
  unfold inr
  by_cases h : a ≥ lo
  · rw [if_pos h]; congr 1; simp [show lo ≤ a from h]
  · rw [if_neg h]; congr 1; simp; omega
theorem spec_in (a lo hi : Int) : spec_l1In.f a lo hi = some (inr a lo hi) := inr_if a lo hi

theorem impl_from_in (a lo hi : Int) : impl_from.f a lo hi = some (inr a lo hi) := inr_if a lo hi

def pok (a0 a1 a2 a3 a4 a5 a6 a7 a8 a9 a10 : Int) (a11 a12 : Bool) : Bool :=
  inr a0 1 99 && (inr a1 0 2 && (inr a2 0 2 && (inr a3 1 4 && (inr a4 0 9999 && (inr a5 0 999 && (inr a6 0 999 && (inr a7 0 63 && (inr a8 0 2147483647 && (inr a9 0 2147483647 && (inr a10 0 2147483647 && (decide (a3 = 2) || (decide (a2 = a1) && (decide (a8 = 0) && (decide (a9 = 0) && (decide (a10 = 0) && (!a11 && !a12))))))))))))))))
theorem spec_pieceok (k : Nat) (a0 a1 a2 a3 a4 a5 a6 a7 a8 a9 a10 : Int) (a11 a12 : Bool) (hk : 1 ≤ k) : spec_PieceOk.f k a0 a1 a2 a3 a4 a5 a6 a7 a8 a9 a10 a11 a12 = some (pok a0 a1 a2 a3 a4 a5 a6 a7 a8 a9 a10 a11 a12) := by
  obtain ⟨k, rfl⟩ : ∃ q, k = q + 1 := ⟨k - 1, by omega⟩
  have hj : spec_PieceOk.j0 (k + 1) true a0 a1 a2 a3 a4 a5 a6 a7 a8 a9 a10 a11 a12 = some false := by simp only [spec_PieceOk.j0, if_true]
  unfold spec_PieceOk.f pok
  simp only [spec_in, Option.bind_some, hj]
  cases inr a0 1 99
  · simp only [Bool.false_eq_true, if_false, Bool.false_and]
  cases inr a1 0 2
  · simp only [Bool.false_eq_true, if_false, if_true, Bool.false_and, Bool.true_and]
  cases inr a2 0 2
  · simp only [Bool.false_eq_true, if_false, if_true, Bool.false_and, Bool.true_and]
  cases inr a3 1 4
  · simp only [Bool.false_eq_true, if_false, if_true, Bool.false_and, Bool.true_and]
  cases inr a4 0 9999
  · simp only [Bool.false_eq_true, if_false, if_true, Bool.false_and, Bool.true_and]
  cases inr a5 0 999
  · simp only [Bool.false_eq_true, if_false, if_true, Bool.false_and, Bool.true_and]
  cases inr a6 0 999
  · simp only [Bool.false_eq_true, if_false, if_true, Bool.false_and, Bool.true_and]
  cases inr a7 0 63
  · simp only [if_true, Bool.false_and, Bool.true_and, Bool.not_false, hj]
  simp only [spec_PieceOk.j0, spec_in, Option.bind_some, if_true, Bool.true_and, Bool.not_true, Bool.false_eq_true, if_false]
  cases inr a8 0 2147483647
  · simp only [Bool.false_eq_true, if_false, Bool.false_and]
  cases inr a9 0 2147483647
  · simp only [Bool.false_eq_true, if_false, if_true, Bool.false_and, Bool.true_and]
  cases inr a10 0 2147483647
  · simp only [Bool.false_eq_true, if_false, if_true, Bool.false_and, Bool.true_and]
  simp only [if_true, Bool.true_and]
  by_cases h3 : a3 = 2
  · simp [h3]
  by_cases h2 : a2 = a1
  · by_cases h8 : a8 = 0
    · by_cases h9 : a9 = 0
      · by_cases h10 : a10 = 0
        · cases a11 <;> simp [h3, h2, h8, h9, h10]
        · simp [h3, h2, h8, h9, h10]
      · simp [h3, h2, h8, h9]
    · simp [h3, h2, h8]
  · simp [h3, h2]
theorem impl_pieceok (k : Nat) (a0 a1 a2 a3 a4 a5 a6 a7 a8 a9 a10 : Int) (a11 a12 : Bool) (hk : 1 ≤ k) : impl_PieceOk.f k a0 a1 a2 a3 a4 a5 a6 a7 a8 a9 a10 a11 a12 = some (pok a0 a1 a2 a3 a4 a5 a6 a7 a8 a9 a10 a11 a12) := by
  obtain ⟨k, rfl⟩ : ∃ q, k = q + 1 := ⟨k - 1, by omega⟩
  have hj : impl_PieceOk.j0 (k + 1) true a0 a1 a2 a3 a4 a5 a6 a7 a8 a9 a10 a11 a12 = some false := by simp only [impl_PieceOk.j0, if_true]
  unfold impl_PieceOk.f pok
  simp only [impl_isId.f, impl_isPlayer.f, impl_isZone.f, impl_isTime.f, impl_isTraits.f, impl_from_in, Option.bind_some, hj]
  cases inr a0 1 99
  · simp only [Bool.false_eq_true, if_false, Bool.false_and]
  cases inr a1 0 2
  · simp only [Bool.false_eq_true, if_false, if_true, Bool.false_and, Bool.true_and]
  cases inr a2 0 2
  · simp only [Bool.false_eq_true, if_false, if_true, Bool.false_and, Bool.true_and]
  cases inr a3 1 4
  · simp only [Bool.false_eq_true, if_false, if_true, Bool.false_and, Bool.true_and]
  cases inr a4 0 9999
  · simp only [Bool.false_eq_true, if_false, if_true, Bool.false_and, Bool.true_and]
  cases inr a5 0 999
  · simp only [Bool.false_eq_true, if_false, if_true, Bool.false_and, Bool.true_and]
  cases inr a6 0 999
  · simp only [Bool.false_eq_true, if_false, if_true, Bool.false_and, Bool.true_and]
  cases inr a7 0 63
  · simp only [if_true, Bool.false_and, Bool.true_and, Bool.not_false, hj]
  simp only [impl_PieceOk.j0, impl_isAmount.f, impl_from_in, Option.bind_some, if_true, Bool.true_and, Bool.not_true, Bool.false_eq_true, if_false]
  by_cases h3 : a3 = 2
  · rw [if_pos h3]
    cases inr a8 0 2147483647 <;> cases inr a9 0 2147483647 <;> simp [h3]
  rw [if_neg h3]
  by_cases h2 : a2 = a1
  · by_cases h8 : a8 = 0
    · by_cases h9 : a9 = 0
      · by_cases h10 : a10 = 0
        · subst h8 h9 h10
          cases a11 <;> simp [h3, h2, inr]
        · simp [h3, h2, h8, h9, h10]
      · simp [h3, h2, h8, h9]
    · simp [h3, h2, h8]
  · simp [h3, h2]

def bnd (n : Int) : Int := if n > 2147483647 then 2147483647 else if n < -2147483647 then -2147483647 else n

theorem spec_bound (n : Int) : spec_Bound.f n = some (bnd n) := by
  unfold spec_Bound.f bnd
  by_cases h1 : n > 2147483647
  · rw [if_pos h1, if_pos h1]
  · rw [if_neg h1, if_neg h1]
    by_cases h2 : n < -2147483647
    · rw [if_pos h2, if_pos h2]
    · rw [if_neg h2, if_neg h2]

theorem impl_bound (n : Int) : impl_Bound.f n = some (bnd n) := by
  unfold impl_Bound.f bnd mx mn
  congr 1
  split <;> split <;> (try split) <;> omega


theorem dnew (k : Nat) (b : List Int) (hk : b.length < k) (hb : b.length ≤ 1048576) : ∃ v, spec_l1New.f k b = some v ∧ (v.1 = b ∧ At b v.2.1) := by
  obtain ⟨h, e⟩ := draw_new k b hk hb
  exact ⟨_, e, rfl, at_zero b⟩
theorem dbelow2 (b : List Int) (i h n : Int) (hb : b.length ≤ 1048576) (hi : At b i) (hn : n ≤ 65536) (h0 : 0 < n) : ∃ v, spec_l1Below.f b i h n = some v ∧ ((0 ≤ v.1 ∧ v.1 < n) ∧ At b v.2.1) := by
  obtain ⟨v, i', h', e, hr, hi'⟩ := draw_below b i h n hb hi hn
  exact ⟨_, e, ⟨hr.1, hr.2.1 h0⟩, hi'⟩

theorem d_ok (k : Nat) (b : List Int) (hk : b.length + 10 < k) (hb : b.length ≤ 1048576) : ∃ p, spec_DrawPieceOk.f k b = some p ∧ True := by
  unfold spec_DrawPieceOk.f
  refine gbind (dnew k b (by omega) hb) (fun v hv => ?_)
  obtain ⟨e, hv⟩ := hv
  rw [e]
  refine gbind (draw_any k b _ _ hb hv (by omega)) (fun v hv => ?_)
  exact ⟨_, rfl, trivial⟩
theorem d_trait (k : Nat) (b : List Int) (hk : b.length + 10 < k) (hb : b.length ≤ 1048576) : ∃ p, spec_DrawHasTrait.f k b = some p ∧ True := by
  unfold spec_DrawHasTrait.f
  refine gbind (dnew k b (by omega) hb) (fun v hv => ?_)
  obtain ⟨e, hv⟩ := hv
  rw [e]
  refine gbind (draw_any k b _ _ hb hv (by omega)) (fun v hv => ?_)
  refine gbind (dint b _ _ _ hb hv (by decide) (by decide)) (fun v hv => ?_)
  exact ⟨_, rfl, trivial⟩
theorem d_moved (k : Nat) (b : List Int) (hk : b.length + 10 < k) (hb : b.length ≤ 1048576) : ∃ p, spec_DrawMoved.f k b = some p ∧ (0 ≤ p.2.2.2.2.2.2.2.2.2.2.2.2.2.2 ∧ p.2.2.2.2.2.2.2.2.2.2.2.2.2.2 < 4) := by
  unfold spec_DrawMoved.f
  refine gbind (dnew k b (by omega) hb) (fun v hv => ?_)
  obtain ⟨e, hv⟩ := hv
  rw [e]
  refine gbind (draw_any k b _ _ hb hv (by omega)) (fun v hv => ?_)
  refine gbind (dbelow b _ _ _ hb hv (by decide)) (fun v hv => ?_)
  refine gbind (dbelow2 b _ _ _ hb hv (by decide) (by decide)) (fun v hv => ?_)
  exact ⟨_, rfl, hv.1⟩
theorem d_same (k : Nat) (b : List Int) (hk : b.length + 10 < k) (hb : b.length ≤ 1048576) : ∃ p, spec_DrawSamePiece.f k b = some p ∧ True := by
  unfold spec_DrawSamePiece.f
  refine gbind (dnew k b (by omega) hb) (fun v hv => ?_)
  obtain ⟨e, hv⟩ := hv
  rw [e]
  refine gbind (draw_piece k b _ _ _ hb hv (by omega)) (fun v hv => ?_)
  refine gbind (donce b _ _ _ hb hv (by decide)) (fun v hv => ?_)
  refine gite (fun _ => ⟨_, rfl, trivial⟩) (fun _ => ?_)
  refine gbind (draw_piece k b _ _ _ hb hv (by omega)) (fun v hv => ?_)
  exact ⟨_, rfl, trivial⟩
theorem trait_both (a0 a1 a2 a3 a4 a5 a6 a7 a8 a9 a10 : Int) (a11 a12 : Bool) (t : Int) : ∃ v, impl_HasTrait.f a0 a1 a2 a3 a4 a5 a6 a7 a8 a9 a10 a11 a12 t = some v ∧ spec_HasTrait.f a0 a1 a2 a3 a4 a5 a6 a7 a8 a9 a10 a11 a12 t = some v := by
  unfold impl_HasTrait.f spec_HasTrait.f
  by_cases h1 : t = 1
  · rw [if_pos h1]; exact ⟨_, rfl, rfl⟩
  rw [if_neg h1]
  by_cases h2 : t = 2
  · rw [if_pos h2]; exact ⟨_, rfl, rfl⟩
  rw [if_neg h2]
  by_cases h3 : t = 4
  · rw [if_pos h3]; exact ⟨_, rfl, rfl⟩
  rw [if_neg h3]
  by_cases h4 : t = 8
  · rw [if_pos h4]; exact ⟨_, rfl, rfl⟩
  rw [if_neg h4]
  by_cases h5 : t = 16
  · rw [if_pos h5]; exact ⟨_, rfl, rfl⟩
  rw [if_neg h5]
  by_cases h6 : t = 32
  · rw [if_pos h6]; exact ⟨_, rfl, rfl⟩
  rw [if_neg h6]
  exact ⟨_, rfl, rfl⟩
theorem power_both (a0 a1 a2 a3 a4 a5 a6 a7 a8 a9 a10 : Int) (a11 a12 : Bool) : ∃ v, impl_PowerOf.f a0 a1 a2 a3 a4 a5 a6 a7 a8 a9 a10 a11 a12 = some v ∧ spec_PowerOf.f a0 a1 a2 a3 a4 a5 a6 a7 a8 a9 a10 a11 a12 = some v := by
  refine ⟨bnd (wrap64 (bnd (bnd (wrap64 (bnd a5 + bnd a8))) - bnd a9)), ?_, ?_⟩ <;> simp [impl_PowerOf.f, spec_PowerOf.f, impl_Plus.f, impl_Less.f, spec_Plus.f, spec_Less.f, impl_bound, spec_bound]
theorem tough_both (a0 a1 a2 a3 a4 a5 a6 a7 a8 a9 a10 : Int) (a11 a12 : Bool) : ∃ v, impl_ToughOf.f a0 a1 a2 a3 a4 a5 a6 a7 a8 a9 a10 a11 a12 = some v ∧ spec_ToughOf.f a0 a1 a2 a3 a4 a5 a6 a7 a8 a9 a10 a11 a12 = some v := by
  refine ⟨bnd (wrap64 (bnd (bnd (wrap64 (bnd a6 + bnd a8))) - bnd a9)), ?_, ?_⟩ <;> simp [impl_ToughOf.f, spec_ToughOf.f, impl_Plus.f, impl_Less.f, spec_Plus.f, spec_Less.f, impl_bound, spec_bound]
theorem bnd_in2 (n : Int) : -2147483647 ≤ bnd n ∧ bnd n ≤ 2147483647 := by
  unfold bnd
  split
  · omega
  · split <;> omega
theorem bnd_id (n : Int) (h : -2147483647 ≤ n ∧ n ≤ 2147483647) : bnd n = n := by
  unfold bnd
  rw [if_neg (by omega), if_neg (by omega)]
theorem wrap_id (n : Int) (h : -9223372036854775808 ≤ n ∧ n ≤ 9223372036854775807) : wrap64 n = n := by unfold wrap64; omega
theorem power0 (a0 a1 a2 a3 a4 a5 a6 a7 a10 : Int) (a11 a12 : Bool) : impl_PowerOf.f a0 a1 a2 a3 a4 a5 a6 a7 0 0 a10 a11 a12 = some (bnd a5) := by
  have h := bnd_in2 a5
  have h0 : bnd 0 = 0 := rfl
  have e : bnd (wrap64 (bnd (bnd (wrap64 (bnd a5 + bnd 0))) - bnd 0)) = bnd a5 := by
    rw [h0, Int.add_zero, wrap_id (bnd a5) (by omega), bnd_id (bnd a5) h, bnd_id (bnd a5) h, Int.sub_zero, wrap_id (bnd a5) (by omega), bnd_id (bnd a5) h]
  simp [impl_PowerOf.f, impl_Plus.f, impl_Less.f, impl_bound, e]
theorem pok_moved (a0 a1 a2 a3 a4 a5 a6 a7 a8 a9 a10 : Int) (a11 a12 : Bool) (z s : Int) (h : pok a0 a1 a2 a3 a4 a5 a6 a7 a8 a9 a10 a11 a12 = true) (hz : 1 ≤ z ∧ z ≤ 4) (hs : 0 ≤ s ∧ s < 4) : pok a0 a1 a1 z s a5 a6 a7 0 0 0 false false = true := by
  unfold pok inr at h ⊢
  simp only [Bool.and_eq_true, decide_eq_true_eq] at h
  obtain ⟨g0, g1, g2, g3, g4, g5, g6, g7, _⟩ := h
  have hs2 : 0 ≤ s ∧ s ≤ 9999 := by omega
  simp [g0, g1, g5, g6, g7, hz, hs2]
theorem FnPieces : laws_FnPieces.Pure := by
  intro b _ _ _
  by_cases hb : (b.length : Int) > 1048576
  · exact ⟨0, bind_of (show laws_big.f b = some true from congrArg some (decide_eq_true hb)) (ite_of rfl rfl)⟩
  have hb' : b.length ≤ 1048576 := by omega
  obtain ⟨k, hk⟩ : ∃ k : Nat, k = b.length + 100 := ⟨_, rfl⟩
  refine ⟨k, ?_⟩
  obtain ⟨p, hp, _⟩ := d_ok k b (by omega) hb'
  obtain ⟨q, hq, _⟩ := d_trait k b (by omega) hb'
  obtain ⟨r, hr, hs⟩ := d_moved k b (by omega) hb'
  obtain ⟨s, hsm, _⟩ := d_same k b (by omega) hb'
  unfold laws_FnPieces.f
  refine bind_of (show laws_big.f b = some false from congrArg some (decide_eq_false hb)) ?_
  refine ite_no (by decide) ?_
  refine bind_of hp ?_
  refine bind_of hq ?_
  refine bind_of hr ?_
  obtain ⟨r0, r1, r2, r3, r4, r5, r6, r7, r8, r9, r10, r11, r12, z, t⟩ := r
  refine bind_of (show impl_Moved.f r0 r1 r2 r3 r4 r5 r6 r7 r8 r9 r10 r11 r12 z t = some (r0, r1, r1, z, t, r5, r6, r7, 0, 0, 0, false, false) from rfl) ?_
  refine bind_of hsm ?_
  refine bind_of (impl_pieceok k _ _ _ _ _ _ _ _ _ _ _ _ _ (by omega)) ?_
  refine bind_of (spec_pieceok k _ _ _ _ _ _ _ _ _ _ _ _ _ (by omega)) ?_
  refine ite_no (by simp) ?_
  obtain ⟨v, e1, e2⟩ := trait_both q.1 q.2.1 q.2.2.1 q.2.2.2.1 q.2.2.2.2.1 q.2.2.2.2.2.1 q.2.2.2.2.2.2.1 q.2.2.2.2.2.2.2.1 q.2.2.2.2.2.2.2.2.1 q.2.2.2.2.2.2.2.2.2.1 q.2.2.2.2.2.2.2.2.2.2.1 q.2.2.2.2.2.2.2.2.2.2.2.1 q.2.2.2.2.2.2.2.2.2.2.2.2.1 q.2.2.2.2.2.2.2.2.2.2.2.2.2
  refine bind_of e1 ?_
  refine bind_of e2 ?_
  refine ite_no (by simp) ?_
  obtain ⟨v, e1, e2⟩ := power_both p.1 p.2.1 p.2.2.1 p.2.2.2.1 p.2.2.2.2.1 p.2.2.2.2.2.1 p.2.2.2.2.2.2.1 p.2.2.2.2.2.2.2.1 p.2.2.2.2.2.2.2.2.1 p.2.2.2.2.2.2.2.2.2.1 p.2.2.2.2.2.2.2.2.2.2.1 p.2.2.2.2.2.2.2.2.2.2.2.1 p.2.2.2.2.2.2.2.2.2.2.2.2
  refine bind_of e1 ?_
  refine bind_of e2 ?_
  refine ite_of rfl ?_
  obtain ⟨v, e1, e2⟩ := tough_both p.1 p.2.1 p.2.2.1 p.2.2.2.1 p.2.2.2.2.1 p.2.2.2.2.2.1 p.2.2.2.2.2.2.1 p.2.2.2.2.2.2.2.1 p.2.2.2.2.2.2.2.2.1 p.2.2.2.2.2.2.2.2.2.1 p.2.2.2.2.2.2.2.2.2.2.1 p.2.2.2.2.2.2.2.2.2.2.2.1 p.2.2.2.2.2.2.2.2.2.2.2.2
  refine bind_of e1 ?_
  refine bind_of e2 ?_
  refine ite_of rfl ?_
  refine bind_of (show spec_Moved.f r0 r1 r2 r3 r4 r5 r6 r7 r8 r9 r10 r11 r12 z t = some (r0, r1, r1, z, t, r5, r6, r7, 0, 0, 0, false, false) from rfl) ?_
  refine ite_no (by simp) ?_
  refine bind_of (show impl_SamePiece.f _ _ _ _ _ _ _ _ _ _ _ _ _ _ _ _ _ _ _ _ _ _ _ _ _ _ = _ from rfl) ?_
  refine ite_no (by simp) ?_
  refine bind_of (power0 r0 r1 r1 z t r5 r6 r7 0 false false) ?_
  refine bind_of (impl_bound r5) ?_
  refine ite_of rfl ?_
  refine ite_of rfl ?_
  refine bind_of (show impl_Moved.f r0 r1 r1 z t r5 r6 r7 0 0 0 false false z t = some (r0, r1, r1, z, t, r5, r6, r7, 0, 0, 0, false, false) from rfl) ?_
  refine ite_of (by simp) ?_
  refine bind_of (impl_pieceok k r0 r1 r2 r3 r4 r5 r6 r7 r8 r9 r10 r11 r12 (by omega)) ?_
  by_cases ho : pok r0 r1 r2 r3 r4 r5 r6 r7 r8 r9 r10 r11 r12 = true
  · refine ite_of ho ?_
    by_cases z1 : z < 1
    · exact ite_of z1 rfl
    refine ite_no z1 ?_
    by_cases z2 : z > 4
    · exact ite_of z2 rfl
    refine ite_no z2 ?_
    refine bind_of (impl_pieceok k r0 r1 r1 z t r5 r6 r7 0 0 0 false false (by omega)) ?_
    exact congrArg some (pok_moved r0 r1 r2 r3 r4 r5 r6 r7 r8 r9 r10 r11 r12 z t ho ⟨by omega, by omega⟩ hs)
  · exact ite_no ho rfl

end Go.Proofs.Ytfkidiagmekleaa.Pure
