/- Whatever bytes it is handed, the law FnDigits answers true: the program writes a drawn number as the reference does, it reads back what it wrote exactly where the number keeps the bounds, and what it reads of a drawn text is what the reference reads, written back the same (for more than 2^20 bytes the law says nothing: it answers true). -/
import Derived.Test.YtfpbbikhcnpceaaQFnDigitsx4
namespace Go.Proofs.Ytfpbbikhcnpceaa.Pure
open Go.RowKit Go.Proofs.Ytfpbbikhcnpceaa.QFnDigits Go.Proofs.YtfpbbikhcnpceaaW.PrintWords Go.Proofs.YtfpbbikhcnpceaaW.PrintLast
def bnd (n : Int) : Int := if n > 2147483647 then 2147483647 else if n < -2147483647 then -2147483647 else n

theorem impl_bound (n : Int) : impl_Bound.f n = some (bnd n) := by
  unfold impl_Bound.f bnd mx mn
  congr 1
  split <;> split <;> (try split) <;> omega

def inr (a lo hi : Int) : Bool := decide (lo ≤ a ∧ a ≤ hi)
theorem inr_if (a lo hi : Int) : (if a ≥ lo then (some (decide (a ≤ hi))) else (some false)) = some (inr a lo hi) := by
  unfold inr
  by_cases h : a ≥ lo
  · rw [if_pos h]; congr 1; simp [show lo ≤ a from h]
  · rw [if_neg h]; congr 1; simp; omega
theorem spec_in (a lo hi : Int) : spec_l1In.f a lo hi = some (inr a lo hi) := inr_if a lo hi

def one (d : Nat) : ByteArray := ⟨#[UInt8.ofNat (48 + d)]⟩
theorem one_size (d : Nat) : (one d).size = 1 := rfl
theorem enc_one (d : Nat) (h : d < 10) : Utf8.encode (48 + (d : Int)) = one d := by
  have : d = 0 ∨ d = 1 ∨ d = 2 ∨ d = 3 ∨ d = 4 ∨ d = 5 ∨ d = 6 ∨ d = 7 ∨ d = 8 ∨ d = 9 := by omega
  rcases this with rfl | rfl | rfl | rfl | rfl | rfl | rfl | rfl | rfl | rfl <;> rfl
theorem str_one (d : Nat) (h : d < 10) : strOfNums [48 + (d : Int)] = one d := by
  have : d = 0 ∨ d = 1 ∨ d = 2 ∨ d = 3 ∨ d = 4 ∨ d = 5 ∨ d = 6 ∨ d = 7 ∨ d = 8 ∨ d = 9 := by omega
  rcases this with rfl | rfl | rfl | rfl | rfl | rfl | rfl | rfl | rfl | rfl <;> rfl
def dgs (n : Nat) : ByteArray := if n < 10 then one n else dgs (n / 10) ++ one (n % 10)
termination_by n
decreasing_by omega
theorem dgs_lt (n : Nat) (h : n < 10) : dgs n = one n := by rw [dgs, if_pos h]
theorem dgs_ge (n : Nat) (h : ¬ n < 10) : dgs n = dgs (n / 10) ++ one (n % 10) := by rw [dgs, if_neg h]
theorem dgs_size : ∀ (k n : Nat), n < 10 ^ (k + 1) → (dgs n).size ≤ k + 1
  | 0, n, h => by rw [dgs_lt n (by simpa using h), one_size]; omega
  | k + 1, n, h => by
    by_cases h1 : n < 10
    · rw [dgs_lt n h1, one_size]; omega
    · rw [dgs_ge n h1, ByteArray.size_append, one_size]
      have : n / 10 < 10 ^ (k + 1) := by
        rw [Nat.pow_succ] at h
        generalize 10 ^ (k + 1) = p at *
        omega
      have := dgs_size k (n / 10) this
      omega
theorem dgs_size20 (n : Nat) (h : n < 100000000000000000000) : (dgs n).size ≤ 20 := dgs_size 19 n (Nat.lt_of_lt_of_le h (by decide))
theorem tmod_pos (x : Int) (h : 0 ≤ x) : Int.tmod x 10 = x % 10 := Int.tmod_eq_emod_of_nonneg h
theorem tmod_neg (x : Int) (h : x < 0) : Int.tmod x 10 = -((-x) % 10) := by
  have := Int.neg_tmod (-x) 10
  rw [Int.neg_neg] at this
  rw [this, Int.tmod_eq_emod_of_nonneg (by omega)]
theorem tdiv_pos (x : Int) (h : 0 ≤ x) : Int.tdiv x 10 = x / 10 := Int.tdiv_eq_ediv_of_nonneg h
theorem tdiv_neg (x : Int) (h : x < 0) : Int.tdiv x 10 = -((-x) / 10) := by
  have := Int.neg_tdiv (-x) 10
  rw [Int.neg_neg] at this
  rw [this, Int.tdiv_eq_ediv_of_nonneg (by omega)]
def minus : ByteArray := ⟨#[45]⟩
def txt (n : Int) : ByteArray := if n < 0 then minus ++ dgs n.natAbs else dgs n.natAbs

theorem impl_text : ∀ (m : Nat) (n : Int), n.natAbs = m → m ≤ 9223372036854775808 → ∀ k, 2 * m + 6 ≤ k → impl_NumText.f k n = some (txt n) := by
  intro m
  induction m using Nat.strongRecOn with
  | _ m ih =>
  have pos : ∀ (n : Int), n.natAbs ≤ m → n.natAbs ≤ 9 → 0 ≤ n → ∀ k, 2 ≤ k → impl_NumText.f k n = some (dgs n.natAbs) := by
    intro n _ h9 h0 k hk
    obtain ⟨k, rfl⟩ : ∃ q, k = q + 2 := ⟨k - 2, by omega⟩
    simp only [impl_NumText.f]
    rw [if_neg (by omega)]
    simp only [impl_NumText.j0]
    rw [if_neg (by simp), if_neg (by omega), if_pos (by omega), dgs_lt _ (by omega), ← enc_one _ (by omega)]
    congr 2
    unfold wrap64 wrap32
    omega
  intro n hn hm k hk
  obtain ⟨k, rfl⟩ : ∃ q, k = q + 2 := ⟨k - 2, by omega⟩
  by_cases hneg : n < 0
  · have ht : txt n = minus ++ dgs m := by rw [txt, if_pos hneg, hn]
    rw [ht]
    simp only [impl_NumText.f]
    rw [if_pos hneg]
    by_cases h10 : n > -10
    · simp only [impl_NumText.j0]
      rw [if_pos (by simpa using h10)]
      have hw : wrap64 (-n) = (m : Int) := by unfold wrap64; omega
      rw [hw, pos (m : Int) (by omega) (by omega) (by omega) k (by omega)]
      simp only [Option.bind_some, Int.natAbs_natCast]
      rw [if_pos (by have := dgs_size20 m (by omega); omega)]
      rfl
    · simp only [impl_NumText.j0]
      rw [if_neg (by simpa using h10), if_pos hneg]
      have hw : wrap64 (Int.tdiv n 10) = -((m / 10 : Nat) : Int) := by rw [tdiv_neg n hneg]; unfold wrap64; omega
      have hw2 : wrap64 (-(Int.tmod n 10)) = ((m % 10 : Nat) : Int) := by rw [tmod_neg n hneg]; unfold wrap64; omega
      rw [hw, hw2, ih (m / 10) (by omega) (-((m / 10 : Nat) : Int)) (by omega) (by omega) k (by omega), pos ((m % 10 : Nat) : Int) (by omega) (by omega) (by omega) k (by omega)]
      simp only [Option.bind_some, Int.natAbs_natCast]
      have hq : txt (-((m / 10 : Nat) : Int)) = minus ++ dgs (m / 10) := by rw [txt, if_pos (by omega)]; congr 2; omega
      have hd := dgs_ge m (by omega)
      have hs := dgs_size20 m (by omega)
      rw [hq, dgs_lt (m % 10) (by omega)]
      have hs2 : (minus ++ dgs (m / 10)).size + (one (m % 10)).size = 1 + (dgs m).size := by
        rw [hd, ByteArray.size_append, ByteArray.size_append]; rw [show minus.size = 1 from rfl]; omega
      rw [if_pos (by rw [hs2]; omega), hd, ByteArray.append_assoc]
  · have ht : txt n = dgs m := by rw [txt, if_neg hneg, hn]
    rw [ht]
    by_cases h10 : n < 10
    · rw [pos n (by omega) (by omega) (by omega) (k + 2) (by omega), hn]
    · simp only [impl_NumText.f]
      rw [if_neg hneg]
      simp only [impl_NumText.j0]
      rw [if_neg (by simp), if_neg hneg, if_neg h10]
      have hw : wrap64 (Int.tdiv n 10) = ((m / 10 : Nat) : Int) := by rw [tdiv_pos n (by omega)]; unfold wrap64; omega
      have hw2 : wrap32 (wrap64 (48 + (Int.tmod n 10))) = 48 + ((m % 10 : Nat) : Int) := by rw [tmod_pos n (by omega)]; unfold wrap64 wrap32; omega
      rw [hw, hw2, enc_one _ (by omega), ih (m / 10) (by omega) ((m / 10 : Nat) : Int) (by omega) (by omega) k (by omega)]
      simp only [Option.bind_some]
      have hq : txt ((m / 10 : Nat) : Int) = dgs (m / 10) := by rw [txt, if_neg (by omega)]; congr 1
      have hd := dgs_ge m (by omega)
      have hs := dgs_size20 m (by omega)
      rw [hq]
      rw [if_pos (by rw [← ByteArray.size_append, ← hd]; omega), hd]
theorem impl_text_at (n : Int) (h : -9223372036854775808 ≤ n ∧ n ≤ 9223372036854775807) (k : Nat) (hk : 2 * n.natAbs + 6 ≤ k) : impl_NumText.f k n = some (txt n) := impl_text n.natAbs n rfl (by omega) k hk

theorem spec_loop (x0 : Int) : ∀ (m : Nat) (x : Int) (s : ByteArray) (k : Nat), x.natAbs = m → m ≠ 0 → m ≤ 9223372036854775808 → (dgs m).size + s.size ≤ 1000 → m + 2 ≤ k →
    spec_NumText.l0 k x0 s x = some (if x0 < 0 then minus ++ (dgs m ++ s) else dgs m ++ s) := by
  have fin : ∀ (s : ByteArray) (k : Nat), s.size ≤ 1000 → 1 ≤ k → spec_NumText.l0 k x0 s 0 = some (if x0 < 0 then minus ++ s else s) := by
    intro s k hs hk
    obtain ⟨k, rfl⟩ : ∃ q, k = q + 1 := ⟨k - 1, by omega⟩
    simp only [spec_NumText.l0]
    rw [if_pos trivial]
    by_cases h : x0 < 0
    · rw [if_pos h, if_pos h, if_pos (by omega)]; rfl
    · rw [if_neg h, if_neg h]
  intro m
  induction m using Nat.strongRecOn with
  | _ m ih =>
  intro x s k hx hm hb hs hk
  obtain ⟨k, rfl⟩ : ∃ q, k = q + 1 := ⟨k - 1, by omega⟩
  have step : ∀ (y : Int), y = wrap64 (Int.tdiv x 10) → spec_NumText.l0 k x0 (one (m % 10) ++ s) y = some (if x0 < 0 then minus ++ (dgs m ++ s) else dgs m ++ s) := by
    intro y hy
    have hya : y.natAbs = m / 10 := by
      rw [hy]
      by_cases hneg : x < 0
      · rw [tdiv_neg x hneg]; unfold wrap64; omega
      · rw [tdiv_pos x (by omega)]; unfold wrap64; omega
    by_cases h10 : m < 10
    · have : y = 0 := by omega
      subst this
      rw [fin _ _ (by rw [ByteArray.size_append, one_size]; rw [dgs_lt m h10, one_size] at hs; omega) (by omega), dgs_lt m h10, Nat.mod_eq_of_lt h10]
    · have hd := dgs_ge m h10
      rw [ih (m / 10) (by omega) y _ k hya (by omega) (by omega) (by rw [hd, ByteArray.size_append] at hs; rw [ByteArray.size_append]; omega) (by omega), hd, ByteArray.append_assoc]
  simp only [spec_NumText.l0]
  rw [if_neg (by omega)]
  have h1 : 1 ≤ (dgs m).size := by
    by_cases h10 : m < 10
    · rw [dgs_lt m h10, one_size]; omega
    · rw [dgs_ge m h10, ByteArray.size_append, one_size]; omega
  have hd9 : m % 10 < 10 := Nat.mod_lt _ (by omega)
  by_cases hneg : Int.tmod x 10 < 0
  · have hx0 : x < 0 := by
      by_cases h : x < 0
      · exact h
      · rw [tmod_pos x (by omega)] at hneg; omega
    rw [if_pos hneg]
    simp only [Option.bind_some]
    have hw : (wrap64 (48 + (wrap64 (-(Int.tmod x 10))))) % 256 = 48 + ((m % 10 : Nat) : Int) := by rw [tmod_neg x hx0]; unfold wrap64; omega
    rw [hw, str_one _ hd9, if_pos (by rw [one_size]; omega)]
    exact step _ rfl
  · rw [if_neg hneg]
    simp only [Option.bind_some]
    have hw : (wrap64 (48 + (Int.tmod x 10))) % 256 = 48 + ((m % 10 : Nat) : Int) := by
      by_cases h : x < 0
      · rw [tmod_neg x h] at hneg ⊢; unfold wrap64; omega
      · rw [tmod_pos x (by omega)]; unfold wrap64; omega
    rw [hw, str_one _ hd9, if_pos (by rw [one_size]; omega)]
    exact step _ rfl
theorem spec_text_at (n : Int) (h : -9223372036854775808 ≤ n ∧ n ≤ 9223372036854775807) (k : Nat) (hk : n.natAbs + 2 ≤ k) : spec_NumText.f k n = some (txt n) := by
  unfold spec_NumText.f
  by_cases h0 : n = 0
  · rw [if_pos h0, h0]; unfold txt; rw [if_neg (by omega), dgs_lt _ (by omega)]; rfl
  · rw [if_neg h0, spec_loop n n.natAbs n _ k rfl (by omega) (by omega) (by have := dgs_size20 n.natAbs (by omega); show _ + 0 ≤ _; omega) hk]
    unfold txt
    congr 1
    simp only [show (dgs n.natAbs ++ (⟨#[]⟩ : ByteArray)) = dgs n.natAbs from ByteArray.append_empty]

theorem tl (s : ByteArray) : s.toList = s.data.toList := ByteArray.toList_eq s
theorem ba_ext {a b : ByteArray} (h : a.data.toList = b.data.toList) : a = b := ByteArray.ext (Array.toList_inj.1 h)
theorem bt_list (s : ByteArray) (j : Nat) (h : j < s.size) : ∃ c : UInt8, s.data.toList[j]? = some c ∧ bt s (j : Int) = (c.toNat : Int) := by
  refine ⟨s[j], ?_, ?_⟩
  · have : j < s.data.toList.length := by rw [Array.length_toList]; exact h
    rw [List.getElem?_eq_getElem this]
    rfl
  · unfold bt
    rw [dif_pos (by simpa using h)]
    rfl
/-- The first n bytes are digits. -/
def AllDig (t : ByteArray) (n : Nat) : Prop := ∀ j, j < n → 48 ≤ bt t (j : Int) ∧ bt t (j : Int) ≤ 57
def val (t : ByteArray) : Nat → Nat
  | 0 => 0
  | n + 1 => 10 * val t n + (bt t (n : Int) - 48).toNat
theorem val_lt (t : ByteArray) : ∀ n, AllDig t n → val t n < 10 ^ n
  | 0, _ => by simp [val]
  | n + 1, h => by
    have h1 := val_lt t n (fun j hj => h j (by omega))
    have h2 := h n (by omega)
    rw [Nat.pow_succ]
    unfold val
    omega
theorem val_le (t : ByteArray) (n : Nat) (h : AllDig t n) (hn : n ≤ 10) : val t n < 10000000000 := by
  have h1 := val_lt t n h
  have h2 : (10 : Nat) ^ n ≤ 10 ^ 10 := Nat.pow_le_pow_right (by decide) hn
  exact Nat.lt_of_lt_of_le h1 (Nat.le_trans h2 (by decide))
/-- One step of both readers. -/
theorem val_step (t : ByteArray) (n : Nat) (h : AllDig t (n + 1)) (hn : n < 10) : wrap64 ((wrap64 (10 * ((val t n : Nat) : Int))) + (((bt t (n : Int)) - 48) % 256)) = ((val t (n + 1) : Nat) : Int) := by
  have h1 := val_le t n (fun j hj => h j (by omega)) (by omega)
  have h2 := h n (by omega)
  show _ = ((10 * val t n + (bt t (n : Int) - 48).toNat : Nat) : Int)
  unfold wrap64
  omega
theorem AllDig.succ {t : ByteArray} {n : Nat} (h : AllDig t n) (h1 : 48 ≤ bt t (n : Int)) (h2 : bt t (n : Int) ≤ 57) : AllDig t (n + 1) := by
  intro j hj
  by_cases e : j = n
  · subst e; exact ⟨h1, h2⟩
  · exact h j (by omega)
theorem wrap_nat2 (n : Nat) (h : n ≤ 1000) : wrap64 ((n : Int) + 1) = ((n + 1 : Nat) : Int) := by unfold wrap64; omega
/-- What the reference tells of the digits t of s. -/
def specEnd (s t : ByteArray) : Int × Bool := if val t t.size > 2147483647 then (0, false) else if t.toList = s.toList then ((val t t.size : Int), true) else (-(val t t.size : Int), true)
theorem spec_parse_l0 (s t : ByteArray) (ht : t.size ≤ 10) : ∀ (d k n : Nat), n + d = t.size → d < k → AllDig t n → spec_ParseNum.l0 k s t ((val t n : Nat) : Int) (n : Int) = some (0, false) ∧ ¬ AllDig t t.size ∨ spec_ParseNum.l0 k s t ((val t n : Nat) : Int) (n : Int) = some (specEnd s t) ∧ AllDig t t.size
  | 0, k, n, hn, hk, h => by
    obtain ⟨k, rfl⟩ : ∃ q, k = q + 1 := ⟨k - 1, by omega⟩
    have e : n = t.size := by omega
    subst e
    have hv := val_le t t.size h ht
    refine .inr ⟨?_, h⟩
    simp only [spec_ParseNum.l0]
    rw [if_neg (by omega)]
    unfold specEnd
    by_cases h1 : val t t.size > 2147483647
    · rw [if_pos (by omega), if_pos h1]
    · rw [if_neg (by omega), if_neg h1]
      have hw : wrap64 (-((val t t.size : Nat) : Int)) = -((val t t.size : Nat) : Int) := by unfold wrap64; omega
      rw [hw]
      by_cases h2 : t.toList = s.toList
      · rw [if_pos h2, if_pos h2]
      · rw [if_neg h2, if_neg h2]
  | d + 1, k, n, hn, hk, h => by
    obtain ⟨k, rfl⟩ : ∃ q, k = q + 1 := ⟨k - 1, by omega⟩
    have hr := bt_range t (n : Int)
    simp only [spec_ParseNum.l0]
    rw [if_pos (by omega), if_pos (by omega), show wrap64 (bt t (n : Int)) = bt t (n : Int) from by unfold wrap64; omega, spec_in]
    simp only [Option.bind_some]
    by_cases hd : 48 ≤ bt t (n : Int) ∧ bt t (n : Int) ≤ 57
    · rw [if_pos (by unfold inr; exact decide_eq_true hd), val_step t n (h.succ hd.1 hd.2) (by omega), wrap_nat2 n (by omega)]
      exact spec_parse_l0 s t ht d k (n + 1) (by omega) (by omega) (h.succ hd.1 hd.2)
    · rw [if_neg (by unfold inr; rw [decide_eq_false hd]; decide)]
      exact .inl ⟨rfl, fun ha => hd (ha n (by omega))⟩
def implEnd (s t : ByteArray) : Int × Bool :=
  let m : Int := if (t.size : Int) < (s.size : Int) then -((val t t.size : Nat) : Int) else ((val t t.size : Nat) : Int)
  if bnd m = m then (if (txt m).toList = s.toList then (m, true) else (0, false)) else (0, false)
theorem impl_parse_tail (s : ByteArray) (m : Int) (hm : -10000000000 ≤ m ∧ m ≤ 10000000000) (k : Nat) (hk : 20000000100 ≤ k) : ((impl_Bound.f m).bind fun t106 => (if t106 = m then ((impl_NumText.f k m).bind fun t107 => (if t107.toList = s.toList then (some (m, true)) else (some (0, false)))) else (some (0, false)))) = some (if bnd m = m then (if (txt m).toList = s.toList then (m, true) else (0, false)) else (0, false)) := by
  rw [impl_bound]
  simp only [Option.bind_some]
  by_cases h : bnd m = m
  · rw [if_pos h, if_pos h, impl_text_at m (by omega) k (by omega)]
    simp only [Option.bind_some]
    by_cases h2 : (txt m).toList = s.toList
    · rw [if_pos h2, if_pos h2]
    · rw [if_neg h2, if_neg h2]
  · rw [if_neg h, if_neg h]
theorem impl_parse_l0 (s t : ByteArray) (ht : t.size ≤ 10) : ∀ (d k n : Nat), n + d = t.size → d + 20000000200 < k → AllDig t n → impl_ParseNum.l0 k s t ((val t n : Nat) : Int) (t.size : Int) (n : Int) = some (0, false) ∧ ¬ AllDig t t.size ∨ impl_ParseNum.l0 k s t ((val t n : Nat) : Int) (t.size : Int) (n : Int) = some (implEnd s t) ∧ AllDig t t.size
  | 0, k, n, hn, hk, h => by
    obtain ⟨k, rfl⟩ : ∃ q, k = q + 1 := ⟨k - 1, by omega⟩
    have e : n = t.size := by omega
    subst e
    have hv := val_le t t.size h ht
    refine .inr ⟨?_, h⟩
    simp only [impl_ParseNum.l0]
    rw [if_neg (by omega)]
    have hw : wrap64 (-((val t t.size : Nat) : Int)) = -((val t t.size : Nat) : Int) := by unfold wrap64; omega
    rw [hw]
    unfold implEnd
    by_cases h1 : (t.size : Int) < (s.size : Int)
    · rw [if_pos h1]
      simp only [if_pos h1]
      exact impl_parse_tail s _ (by omega) k (by omega)
    · rw [if_neg h1]
      simp only [if_neg h1]
      exact impl_parse_tail s _ (by omega) k (by omega)
  | d + 1, k, n, hn, hk, h => by
    obtain ⟨k, rfl⟩ : ∃ q, k = q + 1 := ⟨k - 1, by omega⟩
    simp only [impl_ParseNum.l0]
    rw [if_pos (by omega), if_pos (by omega), if_pos (by omega)]
    by_cases h1 : bt t (n : Int) < 48
    · rw [if_pos h1]
      exact .inl ⟨rfl, fun ha => by have := ha n (by omega); omega⟩
    · rw [if_neg h1]
      by_cases h2 : bt t (n : Int) > 57
      · rw [if_pos h2]
        exact .inl ⟨rfl, fun ha => by have := ha n (by omega); omega⟩
      · rw [if_neg h2, val_step t n (h.succ (by omega) (by omega)) (by omega), wrap_nat2 n (by omega)]
        exact impl_parse_l0 s t ht d k (n + 1) (by omega) (by omega) (h.succ (by omega) (by omega))
/-! ### The digits' text -/
theorem dgs_val (t : ByteArray) : ∀ n, 0 < n → n ≤ t.size → AllDig t n → bt t 0 ≠ 48 → (dgs (val t n)).data.toList = t.data.toList.take n ∧ 0 < val t n
  | 0, h0, _, _, _ => absurd h0 (by omega)
  | n + 1, _, hs, h, hz => by
    obtain ⟨c, hc, hb⟩ := bt_list t n (by omega)
    have hd := h n (by omega)
    have hone : (one (bt t (n : Int) - 48).toNat).data.toList = [c] := by
      show [UInt8.ofNat (48 + (bt t (n : Int) - 48).toNat)] = [c]
      rw [hb, show 48 + ((c.toNat : Int) - 48).toNat = c.toNat from by omega]
      simp
    have htake : t.data.toList.take (n + 1) = t.data.toList.take n ++ [c] := by
      rw [List.take_add_one, hc]
      rfl
    rcases Nat.eq_zero_or_pos n with e | hp
    · subst e
      have hz' : bt t ((0 : Nat) : Int) ≠ 48 := hz
      have hv : val t (0 + 1) = (bt t ((0 : Nat) : Int) - 48).toNat := Nat.zero_add _
      have hpos : 0 < (bt t ((0 : Nat) : Int) - 48).toNat := by
        generalize bt t ((0 : Nat) : Int) = q at hz' hd
        omega
      rw [hv, dgs_lt _ (by omega), htake, hone]
      exact ⟨rfl, hpos⟩
    · obtain ⟨ih, hpos⟩ := dgs_val t n hp (by omega) (fun j hj => h j (by omega)) hz
      have hv : val t (n + 1) = 10 * val t n + (bt t (n : Int) - 48).toNat := rfl
      rw [hv, dgs_ge _ (by omega), show (10 * val t n + (bt t (n : Int) - 48).toNat) / 10 = val t n from by omega, show (10 * val t n + (bt t (n : Int) - 48).toNat) % 10 = (bt t (n : Int) - 48).toNat from by omega]
      refine ⟨?_, by omega⟩
      rw [ByteArray.data_append, Array.toList_append, ih, htake, hone]
/-- No number but 0 begins with the digit 0. -/
theorem dgs_head : ∀ m : Nat, 0 < m → ∃ c l, (dgs m).data.toList = c :: l ∧ c ≠ 48 ∧ c ≠ 45 := by
  intro m
  induction m using Nat.strongRecOn with
  | _ m ih =>
  intro hm
  by_cases h : m < 10
  · rw [dgs_lt m h]
    refine ⟨UInt8.ofNat (48 + m), [], rfl, ?_, ?_⟩
    · have : m = 1 ∨ m = 2 ∨ m = 3 ∨ m = 4 ∨ m = 5 ∨ m = 6 ∨ m = 7 ∨ m = 8 ∨ m = 9 := by omega
      rcases this with rfl | rfl | rfl | rfl | rfl | rfl | rfl | rfl | rfl <;> decide
    · have : m = 1 ∨ m = 2 ∨ m = 3 ∨ m = 4 ∨ m = 5 ∨ m = 6 ∨ m = 7 ∨ m = 8 ∨ m = 9 := by omega
      rcases this with rfl | rfl | rfl | rfl | rfl | rfl | rfl | rfl | rfl <;> decide
  · obtain ⟨c, l, hl, h48, h45⟩ := ih (m / 10) (by omega) (by omega)
    rw [dgs_ge m h, ByteArray.data_append, Array.toList_append, hl]
    exact ⟨c, l ++ (one (m % 10)).data.toList, rfl, h48, h45⟩
/-- The two ends tell the same, where the digits don't begin with 0. -/
theorem ends_eq (s t : ByteArray) (h0 : 0 < t.size) (ht : t.size ≤ 10) (h : AllDig t t.size) (hz : bt t 0 ≠ 48) (hs : (s = t) ∨ (s.data.toList = 45 :: t.data.toList)) : implEnd s t = specEnd s t := by
  obtain ⟨hd, hpos⟩ := dgs_val t t.size h0 (Nat.le_refl _) h hz
  have hfull : t.data.toList.take t.size = t.data.toList := List.take_of_length_le (by rw [Array.length_toList]; exact Nat.le_refl _)
  rw [hfull] at hd
  have hdt : dgs (val t t.size) = t := ba_ext hd
  unfold implEnd specEnd
  rcases hs with rfl | hs
  · simp only [if_neg (Int.lt_irrefl _)]
    have htx : txt ((val s s.size : Nat) : Int) = s := by unfold txt; rw [if_neg (by omega), Int.natAbs_natCast, hdt]
    by_cases hb : val s s.size > 2147483647
    · rw [if_pos hb, if_neg]
      unfold bnd
      rw [if_pos (by omega)]
      omega
    · rw [if_neg hb, if_pos, htx]
      · simp
      unfold bnd
      rw [if_neg (by omega), if_neg (by omega)]
  · have hsz : s.size = t.size + 1 := by
      have := congrArg List.length hs
      rw [List.length_cons, Array.length_toList, Array.length_toList] at this
      exact this
    have hne : ¬ t.toList = s.toList := by
      rw [tl, tl, hs]
      intro e
      have := congrArg List.length e
      simp at this
    simp only [if_pos (show (t.size : Int) < (s.size : Int) by omega), if_neg hne]
    have htx : txt (-((val t t.size : Nat) : Int)) = s := by
      unfold txt
      rw [if_pos (by omega), Int.natAbs_neg, Int.natAbs_natCast, hdt]
      apply ba_ext
      rw [ByteArray.data_append, Array.toList_append, hs]
      rfl
    by_cases hb : val t t.size > 2147483647
    · rw [if_pos hb, if_neg]
      unfold bnd
      rw [if_neg (by omega), if_pos (by omega)]
      omega
    · rw [if_neg hb, if_pos, htx]
      · simp
      unfold bnd
      rw [if_neg (by omega), if_neg (by omega)]
theorem dgs_zero : (dgs 0).data.toList = [48] := by rw [dgs_lt 0 (by decide)]; rfl
/-- Digits that begin with 0: only "0" itself is told. -/
theorem zero_text (s t : ByteArray) (rest : List UInt8) (hrest : t.data.toList = 48 :: rest) (hs : (s = t) ∨ (s.data.toList = 45 :: t.data.toList)) (m : Int) (hm : m = if (t.size : Int) < (s.size : Int) then -((val t t.size : Nat) : Int) else ((val t t.size : Nat) : Int)) (h : (txt m).toList = s.toList) : s.toList = [48] := by
  rw [tl, tl] at h
  rw [tl]
  rcases Nat.eq_zero_or_pos (val t t.size) with hv | hv
  · rw [hv] at hm
    have hm0 : m = 0 := by rw [hm]; split <;> rfl
    subst hm0
    rw [← h]
    exact dgs_zero
  · obtain ⟨c, l, hl, h48, _⟩ := dgs_head (val t t.size) hv
    rcases hs with rfl | hs
    · rw [if_neg (Int.lt_irrefl _)] at hm
      subst hm
      unfold txt at h
      rw [if_neg (by omega), Int.natAbs_natCast, hl, hrest] at h
      exact absurd (List.cons.inj h).1 h48
    · have hsz : s.size = t.size + 1 := by
        have := congrArg List.length hs
        rw [List.length_cons, Array.length_toList, Array.length_toList] at this
        exact this
      rw [if_pos (by omega)] at hm
      subst hm
      unfold txt at h
      rw [if_pos (by omega), Int.natAbs_neg, Int.natAbs_natCast, ByteArray.data_append, Array.toList_append, hl, hs, hrest] at h
      have h2 : (45 : UInt8) :: (c :: l) = 45 :: 48 :: rest := h
      exact absurd (List.cons.inj (List.cons.inj h2).2).1 h48
theorem first_zero (t : ByteArray) (h0 : 0 < t.size) (hz : bt t 0 = 48) : ∃ rest, t.data.toList = 48 :: rest := by
  obtain ⟨c0, hc0, hb0⟩ := bt_list t 0 h0
  have hb0' : bt t 0 = (c0.toNat : Int) := hb0
  have hc48 : c0 = 48 := UInt8.toNat_inj.1 (by show c0.toNat = 48; omega)
  subst hc48
  cases hl : t.data.toList with
  | nil => rw [hl] at hc0; cases hc0
  | cons a l =>
    rw [hl] at hc0
    have : a = 48 := Option.some.inj hc0
    exact ⟨l, by rw [this]⟩
theorem parse_core (s t : ByteArray) (hs : (s = t) ∨ (s.data.toList = 45 :: t.data.toList)) (k : Nat) (hk : 20000000300 ≤ k) : ∃ r, impl_ParseNum.j1 k s t = some r ∧ spec_ParseNum.j1 k s t = some r := by
  obtain ⟨k, rfl⟩ : ∃ q, k = q + 2 := ⟨k - 2, by omega⟩
  have hlen : t.data.toList.length = t.size := Array.length_toList
  by_cases h0 : t.size = 0
  · have he : t.toList = [] := by rw [tl]; exact List.eq_nil_of_length_eq_zero (by omega)
    refine ⟨(0, false), ?_, ?_⟩
    · simp only [impl_ParseNum.j1, impl_ParseNum.j2]
      rw [if_pos he, if_pos trivial]
    · simp only [spec_ParseNum.j1, spec_ParseNum.j2]
      rw [if_pos (by omega), if_pos trivial]
  have hne : ¬ t.toList = [] := by
    rw [tl]; intro e; rw [e] at hlen; simp at hlen; omega
  by_cases h10 : t.size > 10
  · refine ⟨(0, false), ?_, ?_⟩
    · simp only [impl_ParseNum.j1, impl_ParseNum.j2]
      rw [if_neg hne, if_pos (by simp; omega)]
    · simp only [spec_ParseNum.j1, spec_ParseNum.j2]
      rw [if_neg (by omega), if_pos (by omega), if_pos trivial]
  have ei : impl_ParseNum.j1 (k + 2) s t = impl_ParseNum.l0 k s t 0 (t.size : Int) 0 := by
    simp only [impl_ParseNum.j1, impl_ParseNum.j2]
    rw [if_neg hne, if_neg (by simp; omega)]
  have hi := impl_parse_l0 s t (by omega) t.size k 0 (by omega) (by omega) (fun j hj => by omega)
  have hsp := spec_parse_l0 s t (by omega) t.size k 0 (by omega) (by omega) (fun j hj => by omega)
  rw [show (((val t 0 : Nat)) : Int) = 0 from rfl, show ((0 : Nat) : Int) = 0 from rfl] at hi hsp
  rw [ei]
  by_cases hz : bt t 0 = 48
  · obtain ⟨rest, hrest⟩ := first_zero t (by omega) hz
    have es : spec_ParseNum.j1 (k + 2) s t = if (s.toList != ([48] : List UInt8)) = true then some (0, false) else spec_ParseNum.l0 k s t 0 0 := by
      simp only [spec_ParseNum.j1, spec_ParseNum.j2]
      rw [if_neg (by omega), if_neg (by omega), if_pos (by omega), if_pos hz]
    rw [es]
    by_cases h48 : s.toList = [48]
    · rw [if_neg (by simp [h48])]
      have hst : s = t := by
        rcases hs with h | h
        · exact h
        · rw [tl] at h48; rw [h48] at h; have := (List.cons.inj h).1; exact absurd this (by decide)
      subst hst
      have hone : s.size = 1 := by rw [tl] at h48; rw [h48] at hlen; simpa using hlen.symm
      have hv0 : val s s.size = 0 := by
        rw [hone]
        show 10 * 0 + (bt s ((0 : Nat) : Int) - 48).toNat = 0
        have : bt s ((0 : Nat) : Int) = 48 := hz
        omega
      have h1 : implEnd s s = (0, true) := by
        unfold implEnd
        simp only [if_neg (Int.lt_irrefl _), hv0]
        rw [if_pos (show bnd ((0 : Nat) : Int) = ((0 : Nat) : Int) from rfl), if_pos]
        · rfl
        · rw [tl, h48]; exact dgs_zero
      have h2 : specEnd s s = (0, true) := by
        unfold specEnd
        rw [hv0, if_neg (by omega), if_pos rfl]
        rfl
      rcases hi with hi | hi <;> rcases hsp with hsp | hsp
      · exact ⟨_, hi.1, hsp.1⟩
      · exact absurd hsp.2 hi.2
      · exact absurd hi.2 hsp.2
      · exact ⟨(0, true), by rw [hi.1, h1], by rw [hsp.1, h2]⟩
    · rw [if_pos (by simp [h48])]
      refine ⟨(0, false), ?_, rfl⟩
      rcases hi with hi | hi
      · exact hi.1
      · rw [hi.1]
        unfold implEnd
        generalize hm : (if (t.size : Int) < (s.size : Int) then -((val t t.size : Nat) : Int) else ((val t t.size : Nat) : Int)) = m
        simp only
        by_cases hb : bnd m = m
        · rw [if_pos hb, if_neg]
          intro h
          exact h48 (zero_text s t rest hrest hs m hm.symm h)
        · rw [if_neg hb]
  · have es : spec_ParseNum.j1 (k + 2) s t = spec_ParseNum.l0 k s t 0 0 := by
      simp only [spec_ParseNum.j1, spec_ParseNum.j2]
      rw [if_neg (by omega), if_neg (by omega), if_pos (by omega), if_neg hz, if_neg (by decide)]
    rw [es]
    rcases hi with hi | hi <;> rcases hsp with hsp | hsp
    · exact ⟨_, hi.1, hsp.1⟩
    · exact absurd hsp.2 hi.2
    · exact absurd hi.2 hsp.2
    · exact ⟨specEnd s t, by rw [hi.1, ends_eq s t (by omega) (by omega) hi.2 hz hs], hsp.1⟩
theorem parse_eq (s : ByteArray) (k : Nat) (hk : 20000000400 ≤ k) : ∃ r, impl_ParseNum.f k s = some r ∧ spec_ParseNum.f k s = some r := by
  obtain ⟨k, rfl⟩ : ∃ q, k = q + 1 := ⟨k - 1, by omega⟩
  have hlen : s.data.toList.length = s.size := Array.length_toList
  unfold impl_ParseNum.f spec_ParseNum.f
  by_cases h0 : s.size = 0
  · have he : s.toList = [] := by rw [tl]; exact List.eq_nil_of_length_eq_zero (by omega)
    rw [if_pos he, if_neg (by omega)]
    simp only [impl_ParseNum.j0, spec_ParseNum.j0, Bool.false_eq_true, if_false]
    exact parse_core s s (.inl rfl) k (by omega)
  · have hne : ¬ s.toList = [] := by
      rw [tl]; intro e; rw [e] at hlen; simp at hlen; omega
    rw [if_neg hne, if_pos (by omega), if_pos (by omega), if_pos (by omega)]
    simp only [impl_ParseNum.j0, spec_ParseNum.j0]
    by_cases h45 : bt s 0 = 45
    · rw [if_pos (by simp [h45]), if_pos (by omega), if_pos (by simp [h45]), if_pos (by omega)]
      refine parse_core s (s.extract 1 s.size) (.inr ?_) k (by omega)
      obtain ⟨c0, hc0, hb0⟩ := bt_list s 0 (by omega)
      have hb0' : bt s 0 = (c0.toNat : Int) := hb0
      have hc45 : c0 = 45 := UInt8.toNat_inj.1 (by show c0.toNat = 45; omega)
      subst hc45
      have he : (s.extract 1 s.size).data.toList = s.data.toList.drop 1 := by
        rw [ByteArray.data_extract, Array.toList_extract]
        simp only [List.extract_eq_take_drop]
        exact List.take_of_length_le (by rw [List.length_drop, hlen]; exact Nat.le_refl _)
      rw [he]
      cases hl : s.data.toList with
      | nil => rw [hl] at hc0; cases hc0
      | cons a l =>
        rw [hl] at hc0
        have : a = 45 := Option.some.inj hc0
        rw [this]
        rfl
    · rw [if_neg (by simpa using h45), if_neg (by simpa using h45)]
      exact parse_core s s (.inl rfl) k (by omega)

theorem bt_of (s : ByteArray) (j : Nat) (c : UInt8) (h : s.data.toList[j]? = some c) : bt s (j : Int) = (c.toNat : Int) := by
  have hlen : s.data.toList.length = s.size := Array.length_toList
  have hj : j < s.size := by rw [← hlen]; exact (List.getElem?_eq_some_iff.1 h).1
  obtain ⟨c', h1, h2⟩ := bt_list s j hj
  rw [h] at h1
  cases h1
  exact h2
theorem bt_app_l (a b : ByteArray) (j : Nat) (h : j < a.size) : bt (a ++ b) (j : Int) = bt a (j : Int) := by
  obtain ⟨c, h1, h2⟩ := bt_list a j h
  have hlen : a.data.toList.length = a.size := Array.length_toList
  rw [h2]
  apply bt_of
  rw [ByteArray.data_append, Array.toList_append, List.getElem?_append_left (by omega), h1]
theorem bt_app_r (a b : ByteArray) (j : Nat) (h : j < b.size) : bt (a ++ b) ((a.size + j : Nat) : Int) = bt b (j : Int) := by
  obtain ⟨c, h1, h2⟩ := bt_list b j h
  have hlen : a.data.toList.length = a.size := Array.length_toList
  rw [h2]
  apply bt_of
  rw [ByteArray.data_append, Array.toList_append, List.getElem?_append_right (by omega), show a.size + j - a.data.toList.length = j from by omega, h1]
theorem val_app (a b : ByteArray) : ∀ n, n ≤ a.size → val (a ++ b) n = val a n
  | 0, _ => rfl
  | n + 1, h => by
    unfold val
    rw [val_app a b n (by omega), bt_app_l a b n (by omega)]
theorem bt_one (d : Nat) (h : d < 10) : bt (one d) ((0 : Nat) : Int) = 48 + (d : Int) := by
  have : d = 0 ∨ d = 1 ∨ d = 2 ∨ d = 3 ∨ d = 4 ∨ d = 5 ∨ d = 6 ∨ d = 7 ∨ d = 8 ∨ d = 9 := by omega
  rw [bt_of (one d) 0 (UInt8.ofNat (48 + d)) rfl]
  rcases this with rfl | rfl | rfl | rfl | rfl | rfl | rfl | rfl | rfl | rfl <;> decide
theorem dgs_all : ∀ m : Nat, AllDig (dgs m) (dgs m).size ∧ val (dgs m) (dgs m).size = m ∧ 0 < (dgs m).size := by
  intro m
  induction m using Nat.strongRecOn with
  | _ m ih =>
  by_cases h : m < 10
  · rw [dgs_lt m h]
    refine ⟨fun j hj => ?_, ?_, Nat.one_pos⟩
    · have : j = 0 := by rw [one_size] at hj; omega
      subst this
      rw [bt_one m h]
      omega
    · show 10 * 0 + (bt (one m) ((0 : Nat) : Int) - 48).toNat = m
      rw [bt_one m h]
      omega
  · obtain ⟨h1, h2, h3⟩ := ih (m / 10) (by omega)
    have hr := bt_app_r (dgs (m / 10)) (one (m % 10)) 0 (by rw [one_size]; omega)
    rw [bt_one _ (Nat.mod_lt _ (by omega)), Nat.add_zero] at hr
    have hs : (dgs (m / 10) ++ one (m % 10)).size = (dgs (m / 10)).size + 1 := by rw [ByteArray.size_append, one_size]
    rw [dgs_ge m h, hs]
    refine ⟨fun j hj => ?_, ?_, by omega⟩
    · by_cases e : j < (dgs (m / 10)).size
      · rw [bt_app_l _ _ _ e]; exact h1 j e
      · have : j = (dgs (m / 10)).size := by omega
        subst this
        rw [hr]
        omega
    · show 10 * val (dgs (m / 10) ++ one (m % 10)) (dgs (m / 10)).size + (bt (dgs (m / 10) ++ one (m % 10)) ((dgs (m / 10)).size : Int) - 48).toNat = m
      rw [val_app _ _ _ (Nat.le_refl _), h2, hr]
      omega
theorem minus_ne_dgs (a : ByteArray) (m : Nat) : minus ++ a ≠ dgs m := by
  intro e
  have h1 := bt_app_l minus a 0 (by decide)
  have h2 := (dgs_all m).1 0 (dgs_all m).2.2
  rw [e, bt_of minus 0 45 rfl] at h1
  rw [h1] at h2
  revert h2
  decide
theorem app_inj (a b c : ByteArray) (h : a ++ b = a ++ c) : b = c := by
  have := congrArg (fun s : ByteArray => s.data.toList) h
  simp only [ByteArray.data_append, Array.toList_append] at this
  exact ba_ext (List.append_cancel_left this)
theorem dgs_inj (m n : Nat) (h : dgs m = dgs n) : m = n := by
  have h1 := (dgs_all m).2.1
  rw [h, (dgs_all n).2.1] at h1
  exact h1.symm
theorem txt_inj (m n : Int) (h : txt m = txt n) : m = n := by
  unfold txt at h
  by_cases h1 : m < 0
  · by_cases h2 : n < 0
    · rw [if_pos h1, if_pos h2] at h
      have := dgs_inj _ _ (app_inj _ _ _ h)
      omega
    · rw [if_pos h1, if_neg h2] at h
      exact absurd h (minus_ne_dgs _ _)
  · by_cases h2 : n < 0
    · rw [if_neg h1, if_pos h2] at h
      exact absurd h.symm (minus_ne_dgs _ _)
    · rw [if_neg h1, if_neg h2] at h
      have := dgs_inj _ _ h
      omega
/-- What the program tells is the text of a number within the bounds. -/
theorem implEnd_sound (s t : ByteArray) : (implEnd s t).2 = true → txt (implEnd s t).1 = s ∧ bnd (implEnd s t).1 = (implEnd s t).1 := by
  unfold implEnd
  generalize (if (t.size : Int) < (s.size : Int) then -((val t t.size : Nat) : Int) else ((val t t.size : Nat) : Int)) = m
  simp only
  by_cases h1 : bnd m = m
  · rw [if_pos h1]
    by_cases h2 : (txt m).toList = s.toList
    · rw [if_pos h2]
      rw [tl, tl] at h2
      exact fun _ => ⟨ba_ext h2, h1⟩
    · rw [if_neg h2]
      intro h; cases h
  · rw [if_neg h1]
    intro h; cases h
theorem core_sound (s t : ByteArray) (k : Nat) (hk : 20000000300 ≤ k) (r : Int × Bool) (h : impl_ParseNum.j1 k s t = some r) : (r.2 = true → txt r.1 = s ∧ bnd r.1 = r.1) ∧ (0 < t.size → t.size ≤ 10 → AllDig t t.size → r = implEnd s t) := by
  obtain ⟨k, rfl⟩ : ∃ q, k = q + 2 := ⟨k - 2, by omega⟩
  have hlen : t.data.toList.length = t.size := Array.length_toList
  by_cases h0 : t.size = 0
  · have he : t.toList = [] := by rw [tl]; exact List.eq_nil_of_length_eq_zero (by omega)
    simp only [impl_ParseNum.j1, impl_ParseNum.j2] at h
    rw [if_pos he, if_pos trivial] at h
    cases h
    exact ⟨fun h => (by cases h), fun h => absurd h (by omega)⟩
  have hne : ¬ t.toList = [] := by
    rw [tl]; intro e; rw [e] at hlen; simp at hlen; omega
  by_cases h10 : t.size > 10
  · simp only [impl_ParseNum.j1, impl_ParseNum.j2] at h
    rw [if_neg hne, if_pos (by simp; omega)] at h
    cases h
    exact ⟨fun h => (by cases h), fun _ h => absurd h (by omega)⟩
  simp only [impl_ParseNum.j1, impl_ParseNum.j2] at h
  rw [if_neg hne, if_neg (by simp; omega)] at h
  rcases impl_parse_l0 s t (by omega) t.size k 0 (by omega) (by omega) (fun j hj => by omega) with hi | hi
  · rw [show (((val t 0 : Nat)) : Int) = 0 from rfl, show ((0 : Nat) : Int) = 0 from rfl] at hi
    rw [hi.1] at h
    cases h
    exact ⟨fun h => (by cases h), fun _ _ h => absurd h hi.2⟩
  · rw [show (((val t 0 : Nat)) : Int) = 0 from rfl, show ((0 : Nat) : Int) = 0 from rfl] at hi
    rw [hi.1] at h
    cases h
    exact ⟨implEnd_sound s t, fun _ _ _ => rfl⟩
theorem parse_sound (s : ByteArray) (k : Nat) (hk : 20000000400 ≤ k) (r : Int × Bool) (h : impl_ParseNum.f k s = some r) : r.2 = true → txt r.1 = s ∧ bnd r.1 = r.1 := by
  obtain ⟨k, rfl⟩ : ∃ q, k = q + 1 := ⟨k - 1, by omega⟩
  unfold impl_ParseNum.f at h
  by_cases he : s.toList = []
  · rw [if_pos he] at h
    simp only [impl_ParseNum.j0, Bool.false_eq_true, if_false] at h
    exact (core_sound s s k (by omega) r h).1
  · rw [if_neg he] at h
    by_cases h1 : 0 < (s.size : Int)
    · rw [if_pos h1] at h
      simp only [impl_ParseNum.j0] at h
      by_cases h45 : (bt s 0 == 45) = true
      · rw [if_pos h45, if_pos (by omega)] at h
        exact (core_sound s _ k (by omega) r h).1
      · rw [if_neg h45] at h
        exact (core_sound s s k (by omega) r h).1
    · rw [if_neg h1] at h
      cases h
theorem extract_minus (a : ByteArray) : (minus ++ a).extract 1 (minus ++ a).size = a := by
  apply ba_ext
  have hlen : (minus ++ a).data.toList.length = (minus ++ a).size := Array.length_toList
  rw [ByteArray.data_extract, Array.toList_extract]
  simp only [List.extract_eq_take_drop]
  rw [List.take_of_length_le (by rw [List.length_drop, hlen]; exact Nat.le_refl _), ByteArray.data_append, Array.toList_append]
  rfl
theorem implEnd_self (n : Int) (h : -2147483647 ≤ n ∧ n ≤ 2147483647) : implEnd (txt n) (dgs n.natAbs) = (n, true) := by
  have hb : bnd n = n := by unfold bnd; rw [if_neg (by omega), if_neg (by omega)]
  have hm : (if (((dgs n.natAbs).size : Nat) : Int) < ((txt n).size : Int) then -((val (dgs n.natAbs) (dgs n.natAbs).size : Nat) : Int) else ((val (dgs n.natAbs) (dgs n.natAbs).size : Nat) : Int)) = n := by
    rw [(dgs_all n.natAbs).2.1]
    unfold txt
    by_cases h1 : n < 0
    · rw [if_pos h1, ByteArray.size_append, show minus.size = 1 from rfl, if_pos (by omega)]; omega
    · rw [if_neg h1, if_neg (by omega)]; omega
  unfold implEnd
  simp only [hm]
  rw [if_pos hb, if_pos trivial]
/-- The program reads the text of a number within the bounds. -/
theorem parse_txt (n : Int) (h : -2147483647 ≤ n ∧ n ≤ 2147483647) (k : Nat) (hk : 20000000400 ≤ k) (r : Int × Bool) (hr : impl_ParseNum.f k (txt n) = some r) : r = (n, true) := by
  obtain ⟨k, rfl⟩ : ∃ q, k = q + 1 := ⟨k - 1, by omega⟩
  obtain ⟨ha, hv, hp⟩ := dgs_all n.natAbs
  have hs : (dgs n.natAbs).size ≤ 10 := dgs_size 9 n.natAbs (Nat.lt_of_le_of_lt (show n.natAbs ≤ 2147483647 by omega) (by decide))
  have hlen : (txt n).data.toList.length = (txt n).size := Array.length_toList
  have hz : 0 < (txt n).size := by
    unfold txt
    split
    · rw [ByteArray.size_append]; omega
    · exact hp
  have hne : ¬ (txt n).toList = [] := by
    rw [tl]; intro e; rw [e] at hlen; simp at hlen; omega
  unfold impl_ParseNum.f at hr
  rw [if_neg hne, if_pos (by omega)] at hr
  simp only [impl_ParseNum.j0] at hr
  rw [← implEnd_self n h]
  by_cases h1 : n < 0
  · have ht : txt n = minus ++ dgs n.natAbs := by unfold txt; rw [if_pos h1]
    have h45 : bt (txt n) 0 = 45 := by
      rw [ht]
      exact (bt_app_l minus _ 0 (by decide)).trans (bt_of minus 0 45 rfl)
    rw [if_pos (by simp [h45]), if_pos (by omega)] at hr
    have he : (txt n).extract 1 (txt n).size = dgs n.natAbs := by rw [ht]; exact extract_minus _
    rw [he] at hr
    exact (core_sound (txt n) _ k (by omega) r hr).2 hp hs ha
  · have ht : txt n = dgs n.natAbs := by unfold txt; rw [if_neg h1]
    have h45 : bt (txt n) 0 ≠ 45 := by
      rw [ht]
      have := ha 0 hp
      intro e
      rw [show ((0 : Nat) : Int) = 0 from rfl, e] at this
      omega
    rw [if_neg (by simp [h45])] at hr
    have := (core_sound (txt n) (txt n) k (by omega) r hr).2
    rw [ht] at this ⊢
    exact this hp hs ha

theorem wrap_nat (n : Nat) (h : n ≤ 4611686018427387904) : wrap64 ((n : Int) + 1) = ((n + 1 : Nat) : Int) := by unfold wrap64; omega
theorem rd_nat (l : List Int) (n : Nat) (h : n < l.length) : l[n]? = some (rd l (n : Int)) := by
  unfold rd
  rw [Int.toNat_natCast, List.getD_eq_getElem?_getD, List.getElem?_eq_getElem h]
  rfl
theorem ext_upto {α : Type} (a b : List α) (hl : a.length = b.length) (h : ∀ j, j < a.length → a[j]? = b[j]?) : a = b := by
  apply List.ext_getElem?
  intro j
  by_cases hj : j < a.length
  · exact h j hj
  · rw [List.getElem?_eq_none (by omega), List.getElem?_eq_none (by omega)]

theorem and_bound (x : Int) (m : Nat) (hm : m < 4611686018427387904) : 0 ≤ Go.bits .and .i64 x (m : Int) ∧ Go.bits .and .i64 x (m : Int) ≤ (m : Int) := by
  have h : ((BitVec.ofInt 64 x) &&& (BitVec.ofInt 64 (m : Int))).toNat ≤ m := by
    rw [BitVec.toNat_and, BitVec.ofInt_natCast, BitVec.toNat_ofNat, Nat.mod_eq_of_lt (by omega)]
    exact Nat.and_le_right
  show 0 ≤ IntKind.i64.wrap ((((BitVec.ofInt 64 x) &&& (BitVec.ofInt 64 (m : Int))).toNat : Nat) : Int) ∧ IntKind.i64.wrap ((((BitVec.ofInt 64 x) &&& (BitVec.ofInt 64 (m : Int))).toNat : Nat) : Int) ≤ (m : Int)
  generalize ((BitVec.ofInt 64 x) &&& (BitVec.ofInt 64 (m : Int))).toNat = q at *
  rw [IntKind.wrap_i64]
  omega
theorem and_byte (x : Int) : 0 ≤ Go.bits .and .i64 x 255 ∧ Go.bits .and .i64 x 255 ≤ 255 := and_bound x 255 (by decide)
/-- A place of the reader: within the bytes. -/
def At (b : List Int) (i : Int) : Prop := 0 ≤ i ∧ i ≤ (b.length : Int)
theorem draw_byte (b : List Int) (i h : Int) (hb : b.length ≤ 1048576) (hi : At b i) : ∃ v i' h', spec_l1Byte.f b i h = some (v, i', h') ∧ (0 ≤ v ∧ v ≤ 255) ∧ At b i' := by
  unfold spec_l1Byte.f
  unfold At at *
  by_cases h1 : i < (b.length : Int)
  · rw [if_pos h1, if_pos hi.1]
    exact ⟨_, _, _, rfl, and_byte _, by unfold wrap64; omega⟩
  · rw [if_neg h1]
    exact ⟨_, _, _, rfl, and_byte _, by omega⟩
theorem draw_below (b : List Int) (i h n : Int) (hb : b.length ≤ 1048576) (hi : At b i) (hn : n ≤ 65536) : ∃ v i' h', spec_l1Below.f b i h n = some (v, i', h') ∧ (0 ≤ v ∧ (0 < n → v < n) ∧ (n ≤ 0 → v = 0)) ∧ At b i' := by
  unfold spec_l1Below.f
  by_cases h0 : n ≤ 0
  · rw [if_pos h0]
    exact ⟨_, _, _, rfl, ⟨by omega, by omega, by omega⟩, hi⟩
  · rw [if_neg h0]
    by_cases h1 : n ≤ 256
    · rw [if_pos h1]
      obtain ⟨v, i', h', hv, hr, hi'⟩ := draw_byte b i h hb hi
      rw [hv]
      simp only [Option.bind_some]
      rw [if_neg (by omega), Int.tmod_eq_emod_of_nonneg hr.1]
      exact ⟨_, _, _, rfl, ⟨Int.emod_nonneg _ (by omega), fun _ => Int.emod_lt_of_pos _ (by omega), by omega⟩, hi'⟩
    · rw [if_neg h1]
      obtain ⟨v, i1, h1', hv, hr, hi1⟩ := draw_byte b i h hb hi
      rw [hv]
      simp only [Option.bind_some]
      obtain ⟨v2, i2, h2', hv2, hr2, hi2⟩ := draw_byte b i1 h1' hb hi1
      rw [hv2]
      simp only [Option.bind_some]
      obtain ⟨v3, i3, h3', hv3, hr3, hi3⟩ := draw_byte b i2 h2' hb hi2
      rw [hv3]
      simp only [Option.bind_some]
      have hp : 0 ≤ wrap64 ((wrap64 ((wrap64 (v * 65536)) + (wrap64 (v2 * 256)))) + v3) := by unfold wrap64; omega
      rw [if_neg (by omega), Int.tmod_eq_emod_of_nonneg hp]
      exact ⟨_, _, _, rfl, ⟨Int.emod_nonneg _ (by omega), fun _ => Int.emod_lt_of_pos _ (by omega), by omega⟩, hi3⟩
theorem draw_new_l0 : ∀ (d k : Nat) (b : List Int) (h i : Int), (b.length : Int) - i = (d : Int) → 0 ≤ i → d < k → b.length ≤ 1048576 → ∃ h', spec_l1New.l0 k b h i = some (b, 0, h')
  | 0, k, b, h, i, hd, hi, hk, hb => by
    obtain ⟨k, rfl⟩ : ∃ q, k = q + 1 := ⟨k - 1, by omega⟩
    simp only [spec_l1New.l0]
    rw [if_neg (by omega)]
    exact ⟨_, rfl⟩
  | d + 1, k, b, h, i, hd, hi, hk, hb => by
    obtain ⟨k, rfl⟩ : ∃ q, k = q + 1 := ⟨k - 1, by omega⟩
    simp only [spec_l1New.l0]
    rw [if_pos (by omega)]
    by_cases h4 : i < 4000
    · rw [if_pos h4, if_pos hi]
      have hw : wrap64 (i + 1) = i + 1 := by unfold wrap64; omega
      rw [hw]
      exact draw_new_l0 d k b _ (i + 1) (by omega) (by omega) (by omega) hb
    · rw [if_neg h4]
      exact ⟨_, rfl⟩
theorem draw_new (k : Nat) (b : List Int) (hk : b.length < k) (hb : b.length ≤ 1048576) : ∃ h', spec_l1New.f k b = some (b, 0, h') := by
  unfold spec_l1New.f
  exact draw_new_l0 b.length k b _ 0 (by omega) (by omega) hk hb
theorem at_zero (b : List Int) : At b 0 := ⟨by omega, by omega⟩

theorem draw_once (b : List Int) (i h n : Int) (hb : b.length ≤ 1048576) (hi : At b i) (hn : n ≤ 65536) : ∃ v i' h', spec_l1Once.f b i h n = some (v, i', h') ∧ At b i' := by
  obtain ⟨v, i', h', hv, hr, hi'⟩ := draw_below b i h n hb hi hn
  unfold spec_l1Once.f
  rw [hv]
  exact ⟨_, _, _, rfl, hi'⟩
theorem draw_int (b : List Int) (i h : Int) (l : List Int) (hb : b.length ≤ 1048576) (hi : At b i) (hl : 0 < l.length) (hl2 : l.length ≤ 65536) : ∃ v i' h', spec_l1Int.f b i h l = some (v, i', h') ∧ v ∈ l ∧ At b i' := by
  obtain ⟨v, i', h', hv, hr, hi'⟩ := draw_below b i h (l.length : Int) hb hi (by omega)
  have h2 := hr.2.1 (by omega)
  unfold spec_l1Int.f
  rw [hv]
  simp only [Option.bind_some]
  rw [if_pos hr.1, if_pos h2]
  refine ⟨_, _, _, rfl, ?_, hi'⟩
  have := rd_nat l v.toNat (by omega)
  rw [Int.toNat_of_nonneg hr.1] at this
  exact List.mem_of_getElem? this
theorem mem_i64 (l : List Int) (hl : l.all (fun v => decide (-9223372036854775808 ≤ v) && decide (v ≤ 9223372036854775807)) = true) (v : Int) (h : v ∈ l) : -9223372036854775808 ≤ v ∧ v ≤ 9223372036854775807 := by
  have := List.all_eq_true.1 hl v h
  simpa using this

theorem draw_odd (b : List Int) (i h : Int) (hb : b.length ≤ 1048576) (hi : At b i) : ∃ v i' h', spec_l1Odd.f b i h = some (v, i', h') ∧ (-9223372036854775808 ≤ v ∧ v ≤ 9223372036854775807) ∧ At b i' := by
  obtain ⟨v, i', h', hv, hm, hi'⟩ := draw_int b i h (hb := hb) (hi := hi) (l := [(-1), 0, 1, 2, 255, 256, 65535, 2147483647, 2147483648, 4294967295, 4294967296, (-2147483648), 9223372036854775807, (-9223372036854775808)]) (by decide) (by decide)
  unfold spec_l1Odd.f
  rw [hv]
  exact ⟨_, _, _, rfl, mem_i64 _ (by decide) v hm, hi'⟩
theorem draw_raw (b : List Int) (i h : Int) (hb : b.length ≤ 1048576) (hi : At b i) : ∃ v i' h', spec_l1Raw.f b i h = some (v, i', h') ∧ (-9223372036854775808 ≤ v ∧ v ≤ 9223372036854775807) ∧ At b i' := by
  obtain ⟨v, i1, h1, hv, hi1⟩ := draw_once b i h 2 hb hi (by decide)
  unfold spec_l1Raw.f
  rw [hv]
  simp only [Option.bind_some]
  cases v with
  | true =>
    obtain ⟨v2, i2, h2, hv2, hr2, hi2⟩ := draw_odd b i1 h1 hb hi1
    rw [if_pos rfl, hv2]
    exact ⟨_, _, _, rfl, hr2, hi2⟩
  | false =>
    obtain ⟨v2, i2, h2, hv2, hm, hi2⟩ := draw_int b i1 h1 (hb := hb) (hi := hi1) (l := [(-2147483648), (-2147483647), (-3), (-1), 0, 1, 3, 7, 2147483647, 2147483648]) (by decide) (by decide)
    rw [if_neg (by decide), hv2]
    exact ⟨_, _, _, rfl, mem_i64 _ (by decide) v2 hm, hi2⟩

theorem draw_str (b : List Int) (i h : Int) (l : List ByteArray) (hb : b.length ≤ 1048576) (hi : At b i) (hl : 0 < l.length) (hl2 : l.length ≤ 65536) : ∃ v i' h', spec_l1Str.f b i h l = some (v, i', h') := by
  obtain ⟨v, i', h', hv, hr, hi'⟩ := draw_below b i h (l.length : Int) hb hi (by omega)
  have h2 := hr.2.1 (by omega)
  unfold spec_l1Str.f
  rw [hv]
  simp only [Option.bind_some]
  rw [if_pos hr.1, if_pos h2]
  exact ⟨_, _, _, rfl⟩
theorem draw_text (k : Nat) (b : List Int) (hb : b.length ≤ 1048576) (hk : 18446744073709560000 ≤ k) : ∃ s, spec_DrawParseNum.f k b = some s := by
  obtain ⟨h0, hnew⟩ := draw_new k b (by omega) hb
  obtain ⟨v, i1, h1, hv, hi1⟩ := draw_once b 0 h0 2 hb (at_zero b) (by decide)
  unfold spec_DrawParseNum.f
  rw [hnew]
  simp only [Option.bind_some]
  rw [hv]
  simp only [Option.bind_some]
  cases v with
  | true =>
    rw [if_pos rfl]
    obtain ⟨s, i2, h2, hs⟩ := draw_str b i1 h1 [(⟨#[]⟩ : ByteArray), (⟨#[45]⟩ : ByteArray), (⟨#[48]⟩ : ByteArray), (⟨#[45, 48]⟩ : ByteArray), (⟨#[48, 48]⟩ : ByteArray), (⟨#[48, 49]⟩ : ByteArray), (⟨#[45, 48, 49]⟩ : ByteArray), (⟨#[55]⟩ : ByteArray), (⟨#[45, 55]⟩ : ByteArray), (⟨#[50, 49, 52, 55, 52, 56, 51, 54, 52, 55]⟩ : ByteArray), (⟨#[50, 49, 52, 55, 52, 56, 51, 54, 52, 56]⟩ : ByteArray), (⟨#[45, 50, 49, 52, 55, 52, 56, 51, 54, 52, 55]⟩ : ByteArray), (⟨#[45, 50, 49, 52, 55, 52, 56, 51, 54, 52, 56]⟩ : ByteArray), (⟨#[57, 57, 57, 57, 57, 57, 57, 57, 57, 57, 57]⟩ : ByteArray), (⟨#[49, 120]⟩ : ByteArray), (⟨#[32, 49]⟩ : ByteArray)] hb hi1 (by simp) (by simp)
    rw [hs]
    exact ⟨_, rfl⟩
  | false =>
    rw [if_neg (by decide)]
    obtain ⟨n, i2, h2, hn, hr, _⟩ := draw_raw b i1 h1 hb hi1
    rw [hn]
    simp only [Option.bind_some]
    rw [spec_text_at n hr k (by omega)]
    exact ⟨_, rfl⟩
theorem FnDigits : laws_FnDigits.Pure := by
  intro b _ _ _
  by_cases hb : (b.length : Int) > 1048576
  · refine ⟨0, ?_⟩
    unfold laws_FnDigits.f laws_big.f
    simp only [Option.bind_some]
    rw [if_pos (by simpa using hb)]
  have hb' : b.length ≤ 1048576 := by omega
  generalize hk : (18446744073709560000 : Nat) = k
  refine ⟨k, ?_⟩
  obtain ⟨h0, hnew⟩ := draw_new k b (by omega) hb'
  obtain ⟨n, i1, h1, hn, hnr, hi1⟩ := draw_raw b 0 h0 hb' (at_zero b)
  obtain ⟨s, hs⟩ := draw_text k b hb' (by omega)
  obtain ⟨r, hr1, hr2⟩ := parse_eq (txt n) k (by omega)
  obtain ⟨q, hq1, hq2⟩ := parse_eq s k (by omega)
  have rs := parse_sound (txt n) k (by omega) r hr1
  have qs := parse_sound s k (by omega) q hq1
  have rt := fun h => parse_txt n h k (by omega) r hr1
  have tail : (if (q.2 == q.2) = true then (if q.2 = true then ((impl_NumText.f k q.1).bind fun t196 => (if t196.toList = s.toList then ((impl_Bound.f q.1).bind fun t197 => (some (t197 == q.1))) else (some false))) else (some true)) else (some false)) = some true := by
    rw [if_pos (by simp)]
    by_cases h : q.2 = true
    · obtain ⟨h1, h2⟩ := qs h
      have hr : -2147483647 ≤ q.1 ∧ q.1 ≤ 2147483647 := by
        rw [← h2]; unfold bnd; split
        · omega
        · split <;> omega
      rw [if_pos h, impl_text_at q.1 (by omega) k (by omega)]
      simp only [Option.bind_some]
      rw [h1, if_pos rfl, impl_bound]
      simp only [Option.bind_some, h2, beq_self_eq_true]
    · rw [if_neg h]
  have hd : spec_DrawNumText.f k b = some n := by
    unfold spec_DrawNumText.f
    rw [hnew]
    simp only [Option.bind_some, hn]
  unfold laws_FnDigits.f laws_big.f
  simp only [Option.bind_some]
  rw [if_neg (by simpa using hb), hd]
  simp only [Option.bind_some]
  rw [impl_text_at n hnr k (by omega)]
  simp only [Option.bind_some]
  rw [hr1]
  simp only [Option.bind_some]
  rw [hs]
  simp only [Option.bind_some]
  rw [hq1]
  simp only [Option.bind_some]
  rw [hq2]
  simp only [Option.bind_some]
  rw [spec_text_at n hnr k (by omega)]
  simp only [Option.bind_some, if_true, tail]
  by_cases h1 : n ≥ -2147483647
  · rw [if_pos h1]
    by_cases h2 : n ≤ 2147483647
    · rw [rt ⟨h1, h2⟩, if_pos (by simp [h2]), if_pos rfl, if_pos rfl]
    · have hf : r.2 = false := by
        cases h : r.2 with
        | false => rfl
        | true =>
          obtain ⟨e1, e2⟩ := rs h
          have := txt_inj _ _ e1
          rw [this] at e2
          unfold bnd at e2
          rw [if_pos (by omega)] at e2
          omega
      rw [hf, if_pos (by simp; omega), if_neg (by decide)]
  · rw [if_neg h1]
    have hf : r.2 = false := by
      cases h : r.2 with
      | false => rfl
      | true =>
        obtain ⟨e1, e2⟩ := rs h
        have := txt_inj _ _ e1
        rw [this] at e2
        unfold bnd at e2
        rw [if_neg (by omega), if_pos (by omega)] at e2
        omega
    rw [hf, if_pos (by decide), if_neg (by decide)]

end Go.Proofs.Ytfpbbikhcnpceaa.Pure
