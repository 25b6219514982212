/- For every int n the program's NumText and the reference's NumText return the same string. No condition. -/
import Derived.Test.YtlbjgjhigfldeaaQFnExactNumTextx1
namespace Go.Proofs.Ytlbjgjhigfldeaa.Pure
open Go.RowKit Go.Proofs.Ytlbjgjhigfldeaa.QFnExactNumText Go.Proofs.YtlbjgjhigfldeaaW.PrintWords Go.Proofs.YtlbjgjhigfldeaaW.PrintLast
theorem i64_of_wf {n : Int} (h : (Lit.int .i64 n).wf = true) : -9223372036854775808 ≤ n ∧ n ≤ 9223372036854775807 := by
  simp [Lit.wf, IntKind.min, IntKind.max, IntKind.signed, IntKind.bits] at h
  omega

def one (d : Nat) : ByteArray := ⟨#[UInt8.ofNat (48 + d)]⟩
theorem one_size (d : Nat) : (one d).size = 1 := rfl
theorem enc_one (d : Nat) (h : d < 10) : Utf8.encode (48 + (d : Int)) = one d := by
  have : d = 0 ∨ d = 1 ∨ d = 2 ∨ d = 3 ∨ d = 4 ∨ d = 5 ∨ d = 6 ∨ d = 7 ∨ d = 8 ∨ d = 9 := by omega
  rcases this with rfl | rfl | rfl | rfl | rfl | rfl | rfl | rfl | rfl | rfl <;> rfl
theorem str_one (d : Nat) (h : d < 10) : strOfNums [48 + (d : Int)] = one d := by
  have : d = 0 ∨ d = 1 ∨ d = 2 ∨ d = 3 ∨ d = 4 ∨ d = 5 ∨ d = 6 ∨ d = 7 ∨ d = 8 ∨ d = 9 := by omega
  rcases this with rfl | rfl | rfl | rfl | rfl | rfl | rfl | rfl | rfl | rfl <;> rfl
def dgs (n : Nat) : ByteArray := if n < 10 then one n else dgs (n / 10) ++ one (n % 10)
termination_by n
decreasing_by omega
theorem dgs_lt (n : Nat) (h : n < 10) : dgs n = one n := by rw [dgs, if_pos h]
theorem dgs_ge (n : Nat) (h : ¬ n < 10) : dgs n = dgs (n / 10) ++ one (n % 10) := by rw [dgs, if_neg h]
theorem dgs_size : ∀ (k n : Nat), n < 10 ^ (k + 1) → (dgs n).size ≤ k + 1
  | 0, n, h => by rw [dgs_lt n (by simpa using h), one_size]; omega
  | k + 1, n, h => by
    by_cases h1 : n < 10
    · rw [dgs_lt n h1, one_size]; omega
    · rw [dgs_ge n h1, ByteArray.size_append, one_size]
      have : n / 10 < 10 ^ (k + 1) := by
        rw [Nat.pow_succ] at h
        generalize 10 ^ (k + 1) = p at *
        omega
      have := dgs_size k (n / 10) this
      omega
theorem dgs_size20 (n : Nat) (h : n < 100000000000000000000) : (dgs n).size ≤ 20 := dgs_size 19 n (Nat.lt_of_lt_of_le h (by decide))
theorem tmod_pos (x : Int) (h : 0 ≤ x) : Int.tmod x 10 = x % 10 := Int.tmod_eq_emod_of_nonneg h
theorem tmod_neg (x : Int) (h : x < 0) : Int.tmod x 10 = -((-x) % 10) := by
  have := Int.neg_tmod (-x) 10
  rw [Int.neg_neg] at this
  rw [this, Int.tmod_eq_emod_of_nonneg (by omega)]
theorem tdiv_pos (x : Int) (h : 0 ≤ x) : Int.tdiv x 10 = x / 10 := Int.tdiv_eq_ediv_of_nonneg h
theorem tdiv_neg (x : Int) (h : x < 0) : Int.tdiv x 10 = -((-x) / 10) := by
  have := Int.neg_tdiv (-x) 10
  rw [Int.neg_neg] at this
  rw [this, Int.tdiv_eq_ediv_of_nonneg (by omega)]
def minus : ByteArray := ⟨#[45]⟩
def txt (n : Int) : ByteArray := if n < 0 then minus ++ dgs n.natAbs else dgs n.natAbs

theorem impl_text : ∀ (m : Nat) (n : Int), n.natAbs = m → m ≤ 9223372036854775808 → ∀ k, 2 * m + 6 ≤ k → impl_NumText.f k n = some (txt n) := by
  intro m
  induction m using Nat.strongRecOn with
  | _ m ih =>
  have pos : ∀ (n : Int), n.natAbs ≤ m → n.natAbs ≤ 9 → 0 ≤ n → ∀ k, 2 ≤ k → impl_NumText.f k n = some (dgs n.natAbs) := by
    intro n _ h9 h0 k hk
    obtain ⟨k, rfl⟩ : ∃ q, k = q + 2 := ⟨k - 2, by omega⟩
    simp only [impl_NumText.f]
    rw [if_neg (by omega)]
    simp only [impl_NumText.j0]
    rw [if_neg (by simp), if_neg (by omega), if_pos (by omega), dgs_lt _ (by omega), ← enc_one _ (by omega)]
    congr 2
    unfold wrap64 wrap32
    omega
  intro n hn hm k hk
  obtain ⟨k, rfl⟩ : ∃ q, k = q + 2 := ⟨k - 2, by omega⟩
  by_cases hneg : n < 0
  · have ht : txt n = minus ++ dgs m := by rw [txt, if_pos hneg, hn]
    rw [ht]
    simp only [impl_NumText.f]
    rw [if_pos hneg]
    by_cases h10 : n > -10
    · simp only [impl_NumText.j0]
      rw [if_pos (by simpa using h10)]
      have hw : wrap64 (-n) = (m : Int) := by unfold wrap64; omega
      rw [hw, pos (m : Int) (by omega) (by omega) (by omega) k (by omega)]
      simp only [Option.bind_some, Int.natAbs_natCast]
      rw [if_pos (by have := dgs_size20 m (by omega); omega)]
      rfl
    · simp only [impl_NumText.j0]
      rw [if_neg (by simpa using h10), if_pos hneg]
      have hw : wrap64 (Int.tdiv n 10) = -((m / 10 : Nat) : Int) := by rw [tdiv_neg n hneg]; unfold wrap64; omega
      have hw2 : wrap64 (-(Int.tmod n 10)) = ((m % 10 : Nat) : Int) := by rw [tmod_neg n hneg]; unfold wrap64; omega
      rw [hw, hw2, ih (m / 10) (by omega) (-((m / 10 : Nat) : Int)) (by omega) (by omega) k (by omega), pos ((m % 10 : Nat) : Int) (by omega) (by omega) (by omega) k (by omega)]
      simp only [Option.bind_some, Int.natAbs_natCast]
      have hq : txt (-((m / 10 : Nat) : Int)) = minus ++ dgs (m / 10) := by rw [txt, if_pos (by omega)]; congr 2; omega
      have hd := dgs_ge m (by omega)
      have hs := dgs_size20 m (by omega)
      rw [hq, dgs_lt (m % 10) (by omega)]
      have hs2 : (minus ++ dgs (m / 10)).size + (one (m % 10)).size = 1 + (dgs m).size := by
        rw [hd, ByteArray.size_append, ByteArray.size_append]; rw [show minus.size = 1 from rfl]; omega
      rw [if_pos (by rw [hs2]; omega), hd, ByteArray.append_assoc]
  · have ht : txt n = dgs m := by rw [txt, if_neg hneg, hn]
    rw [ht]
    by_cases h10 : n < 10
    · rw [pos n (by omega) (by omega) (by omega) (k + 2) (by omega), hn]
    · simp only [impl_NumText.f]
      rw [if_neg hneg]
      simp only [impl_NumText.j0]
      rw [if_neg (by simp), if_neg hneg, if_neg h10]
      have hw : wrap64 (Int.tdiv n 10) = ((m / 10 : Nat) : Int) := by rw [tdiv_pos n (by omega)]; unfold wrap64; omega
      have hw2 : wrap32 (wrap64 (48 + (Int.tmod n 10))) = 48 + ((m % 10 : Nat) : Int) := by rw [tmod_pos n (by omega)]; unfold wrap64 wrap32; omega
      rw [hw, hw2, enc_one _ (by omega), ih (m / 10) (by omega) ((m / 10 : Nat) : Int) (by omega) (by omega) k (by omega)]
      simp only [Option.bind_some]
      have hq : txt ((m / 10 : Nat) : Int) = dgs (m / 10) := by rw [txt, if_neg (by omega)]; congr 1
      have hd := dgs_ge m (by omega)
      have hs := dgs_size20 m (by omega)
      rw [hq]
      rw [if_pos (by rw [← ByteArray.size_append, ← hd]; omega), hd]
theorem impl_text_at (n : Int) (h : -9223372036854775808 ≤ n ∧ n ≤ 9223372036854775807) (k : Nat) (hk : 2 * n.natAbs + 6 ≤ k) : impl_NumText.f k n = some (txt n) := impl_text n.natAbs n rfl (by omega) k hk

theorem spec_loop (x0 : Int) : ∀ (m : Nat) (x : Int) (s : ByteArray) (k : Nat), x.natAbs = m → m ≠ 0 → m ≤ 9223372036854775808 → (dgs m).size + s.size ≤ 1000 → m + 2 ≤ k →
    spec_NumText.l0 k x0 s x = some (if x0 < 0 then minus ++ (dgs m ++ s) else dgs m ++ s) := by
  have fin : ∀ (s : ByteArray) (k : Nat), s.size ≤ 1000 → 1 ≤ k → spec_NumText.l0 k x0 s 0 = some (if x0 < 0 then minus ++ s else s) := by
    intro s k hs hk
    obtain ⟨k, rfl⟩ : ∃ q, k = q + 1 := ⟨k - 1, by omega⟩
    simp only [spec_NumText.l0]
    rw [if_pos trivial]
    by_cases h : x0 < 0
    · rw [if_pos h, if_pos h, if_pos (by omega)]; rfl
    · rw [if_neg h, if_neg h]
  intro m
  induction m using Nat.strongRecOn with
  | _ m ih =>
  intro x s k hx hm hb hs hk
  obtain ⟨k, rfl⟩ : ∃ q, k = q + 1 := ⟨k - 1, by omega⟩
  have step : ∀ (y : Int), y = wrap64 (Int.tdiv x 10) → spec_NumText.l0 k x0 (one (m % 10) ++ s) y = some (if x0 < 0 then minus ++ (dgs m ++ s) else dgs m ++ s) := by
    intro y hy
    have hya : y.natAbs = m / 10 := by
      rw [hy]
      by_cases hneg : x < 0
      · rw [tdiv_neg x hneg]; unfold wrap64; omega
      · rw [tdiv_pos x (by omega)]; unfold wrap64; omega
    by_cases h10 : m < 10
    · have : y = 0 := by omega
      subst this
      rw [fin _ _ (by rw [ByteArray.size_append, one_size]; rw [dgs_lt m h10, one_size] at hs; omega) (by omega), dgs_lt m h10, Nat.mod_eq_of_lt h10]
    · have hd := dgs_ge m h10
      rw [ih (m / 10) (by omega) y _ k hya (by omega) (by omega) (by rw [hd, ByteArray.size_append] at hs; rw [ByteArray.size_append]; omega) (by omega), hd, ByteArray.append_assoc]
  simp only [spec_NumText.l0]
  rw [if_neg (by omega)]
  have h1 : 1 ≤ (dgs m).size := by
    by_cases h10 : m < 10
    · rw [dgs_lt m h10, one_size]; omega
    · rw [dgs_ge m h10, ByteArray.size_append, one_size]; omega
  have hd9 : m % 10 < 10 := Nat.mod_lt _ (by omega)
  by_cases hneg : Int.tmod x 10 < 0
  · have hx0 : x < 0 := by
      by_cases h : x < 0
      · exact h
      · rw [tmod_pos x (by omega)] at hneg; omega
    rw [if_pos hneg]
    simp only [Option.bind_some]
    have hw : (wrap64 (48 + (wrap64 (-(Int.tmod x 10))))) % 256 = 48 + ((m % 10 : Nat) : Int) := by rw [tmod_neg x hx0]; unfold wrap64; omega
    rw [hw, str_one _ hd9, if_pos (by rw [one_size]; omega)]
    exact step _ rfl
  · rw [if_neg hneg]
    simp only [Option.bind_some]
    have hw : (wrap64 (48 + (Int.tmod x 10))) % 256 = 48 + ((m % 10 : Nat) : Int) := by
      by_cases h : x < 0
      · rw [tmod_neg x h] at hneg ⊢; unfold wrap64; omega
      · rw [tmod_pos x (by omega)]; unfold wrap64; omega
    rw [hw, str_one _ hd9, if_pos (by rw [one_size]; omega)]
    exact step _ rfl
theorem spec_text_at (n : Int) (h : -9223372036854775808 ≤ n ∧ n ≤ 9223372036854775807) (k : Nat) (hk : n.natAbs + 2 ≤ k) : spec_NumText.f k n = some (txt n) := by
  unfold spec_NumText.f
  by_cases h0 : n = 0
  · rw [if_pos h0, h0]; unfold txt; rw [if_neg (by omega), dgs_lt _ (by omega)]; rfl
  · rw [if_neg h0, spec_loop n n.natAbs n _ k rfl (by omega) (by omega) (by have := dgs_size20 n.natAbs (by omega); show _ + 0 ≤ _; omega) hk]
    unfold txt
    congr 1
    simp only [show (dgs n.natAbs ++ (⟨#[]⟩ : ByteArray)) = dgs n.natAbs from ByteArray.append_empty]

theorem FnExactNumText : laws_FnExactNumText.Pure := by
  intro n hn
  have hw : -9223372036854775808 ≤ n ∧ n ≤ 9223372036854775807 := by
    exact i64_of_wf hn
  refine ⟨2 * n.natAbs + 6, ?_⟩
  unfold laws_FnExactNumText.f
  rw [spec_text_at n hw _ (by omega), impl_text_at n hw _ (by omega)]
  simp

end Go.Proofs.Ytlbjgjhigfldeaa.Pure
