/- For every slice of ints l of at most 2^20 elements and every int n the program's Has and the reference's Has return the same bool, and l stays as it was (of a longer l the law says nothing: it answers true). -/
import Derived.Test.YtnkpbdpdgfjhcaaQFnExactHasx1
namespace Go.Proofs.Ytnkpbdpdgfjhcaa.Pure
open Go.RowKit Go.Proofs.Ytnkpbdpdgfjhcaa.QFnExactHas Go.Proofs.YtnkpbdpdgfjhcaaW.PrintWords Go.Proofs.YtnkpbdpdgfjhcaaW.PrintLast
theorem wrap_nat (n : Nat) (h : n ≤ 4611686018427387904) : wrap64 ((n : Int) + 1) = ((n + 1 : Nat) : Int) := by unfold wrap64; omega
theorem rd_nat (l : List Int) (n : Nat) (h : n < l.length) : l[n]? = some (rd l (n : Int)) := by
  unfold rd
  rw [Int.toNat_natCast, List.getD_eq_getElem?_getD, List.getElem?_eq_getElem h]
  rfl
theorem ext_upto {α : Type} (a b : List α) (hl : a.length = b.length) (h : ∀ j, j < a.length → a[j]? = b[j]?) : a = b := by
  apply List.ext_getElem?
  intro j
  by_cases hj : j < a.length
  · exact h j hj
  · rw [List.getElem?_eq_none (by omega), List.getElem?_eq_none (by omega)]

theorem toIntS_l0 : ∀ (d k n : Nat) (l out : List Int), n + d = l.length → d < k → out.length = l.length → l.length ≤ 4611686018427387904 → (∀ j, j < n → out[j]? = l[j]?) → laws_toIntS.l0 k l out (n : Int) = some l
  | 0, k, n, l, out, hn, hk, hl, hb, h => by
    obtain ⟨k, rfl⟩ : ∃ q, k = q + 1 := ⟨k - 1, by omega⟩
    simp only [laws_toIntS.l0]
    rw [if_neg (by omega), ext_upto out l hl (fun j hj => h j (by omega))]
  | d + 1, k, n, l, out, hn, hk, hl, hb, h => by
    obtain ⟨k, rfl⟩ : ∃ q, k = q + 1 := ⟨k - 1, by omega⟩
    simp only [laws_toIntS.l0]
    rw [if_pos (by omega), if_pos (by omega), if_pos (by omega), wrap_nat n (by omega), Int.toNat_natCast]
    refine toIntS_l0 d k (n + 1) l _ (by omega) (by omega) (by rw [List.length_set]; exact hl) hb (fun j hj => ?_)
    by_cases e : n = j
    · subst e
      rw [List.getElem?_set_self (by omega), rd_nat l n (by omega)]
    · rw [List.getElem?_set_ne e]
      exact h j (by omega)
theorem toIntS_f (k : Nat) (l : List Int) (hk : l.length < k) (hb : l.length ≤ 35184372088832) : laws_toIntS.f k l = some l := by
  unfold laws_toIntS.f
  rw [if_pos (by omega), Int.toNat_natCast, if_pos (by omega)]
  exact toIntS_l0 l.length k 0 l _ (by omega) hk (by simp) (by omega) (fun j hj => by omega)

theorem eqIntS_l0 : ∀ (d k n : Nat) (a b : List Int), n + d = a.length → d < k → a.length = b.length → a.length ≤ 4611686018427387904 → (∀ j, j < n → a[j]? = b[j]?) → laws_eqIntS.l0 k a b (n : Int) = some (decide (a = b))
  | 0, k, n, a, b, hn, hk, hl, hb, h => by
    obtain ⟨k, rfl⟩ : ∃ q, k = q + 1 := ⟨k - 1, by omega⟩
    simp only [laws_eqIntS.l0]
    rw [if_neg (by omega), ext_upto a b hl (fun j hj => h j (by omega))]
    simp
  | d + 1, k, n, a, b, hn, hk, hl, hb, h => by
    obtain ⟨k, rfl⟩ : ∃ q, k = q + 1 := ⟨k - 1, by omega⟩
    simp only [laws_eqIntS.l0]
    rw [if_pos (by omega), if_pos (by omega), if_pos (by omega)]
    by_cases e : rd a (n : Int) = rd b (n : Int)
    · rw [if_pos e, wrap_nat n (by omega)]
      refine eqIntS_l0 d k (n + 1) a b (by omega) (by omega) hl hb (fun j hj => ?_)
      by_cases ej : j = n
      · subst ej
        rw [rd_nat a j (by omega), rd_nat b j (by omega), e]
      · exact h j (by omega)
    · rw [if_neg e, decide_eq_false]
      intro hab
      exact e (by rw [hab])
theorem eqIntS_f (k : Nat) (a b : List Int) (hk : a.length < k) (hb : a.length ≤ 4611686018427387904) : laws_eqIntS.f k a b = some (decide (a = b)) := by
  unfold laws_eqIntS.f
  by_cases hl : (a.length : Int) = (b.length : Int)
  · rw [if_pos hl]
    exact eqIntS_l0 a.length k 0 a b (by omega) hk (by omega) hb (fun j hj => by omega)
  · rw [if_neg hl, decide_eq_false]
    intro hab
    exact hl (by rw [hab])
theorem eqIntS_same (k : Nat) (a : List Int) (hk : a.length < k) (hb : a.length ≤ 4611686018427387904) : laws_eqIntS.f k a a = some true := by rw [eqIntS_f k a a hk hb]; simp

theorem mem_at (l : List Int) (a : Int) : a ∈ l ↔ ∃ j : Nat, j < l.length ∧ rd l (j : Int) = a := by
  constructor
  · intro h
    obtain ⟨j, hj, rfl⟩ := List.mem_iff_getElem.1 h
    have := rd_nat l j hj
    rw [List.getElem?_eq_getElem hj] at this
    exact ⟨j, hj, (Option.some.inj this).symm⟩
  · rintro ⟨j, hj, rfl⟩
    exact List.mem_of_getElem? (rd_nat l j hj)
theorem spec_has_l0 : ∀ (d k n : Nat) (l : List Int) (a : Int), n + d = l.length → d < k → l.length ≤ 4611686018427387904 → (∀ j, j < n → rd l (j : Int) ≠ a) → spec_Has.l0 k l a (n : Int) = some (decide (a ∈ l))
  | 0, k, n, l, a, hn, hk, hb, h => by
    obtain ⟨k, rfl⟩ : ∃ q, k = q + 1 := ⟨k - 1, by omega⟩
    simp only [spec_Has.l0]
    rw [if_neg (by omega), decide_eq_false]
    intro hm
    obtain ⟨j, hj, e⟩ := (mem_at l a).1 hm
    exact h j (by omega) e
  | d + 1, k, n, l, a, hn, hk, hb, h => by
    obtain ⟨k, rfl⟩ : ∃ q, k = q + 1 := ⟨k - 1, by omega⟩
    simp only [spec_Has.l0]
    rw [if_pos (by omega), if_pos (by omega)]
    by_cases e : rd l (n : Int) = a
    · rw [if_pos e, decide_eq_true ((mem_at l a).2 ⟨n, by omega, e⟩)]
    · rw [if_neg e, wrap_nat n (by omega)]
      refine spec_has_l0 d k (n + 1) l a (by omega) (by omega) hb (fun j hj => ?_)
      by_cases ej : j = n
      · subst ej; exact e
      · exact h j (by omega)
theorem spec_has (k : Nat) (l : List Int) (a : Int) (hk : l.length < k) (hb : l.length ≤ 4611686018427387904) : spec_Has.f k l a = some (decide (a ∈ l)) := by
  unfold spec_Has.f
  exact spec_has_l0 l.length k 0 l a (by omega) hk hb (fun j hj => by omega)
theorem index_l0 : ∀ (d k n : Nat) (l : List Int) (a : Int), n + d = l.length → d < k → l.length ≤ 4611686018427387904 → (∀ j, j < n → rd l (j : Int) ≠ a) → ∃ r, slices_Index_int_int.l0 k l a (l.length : Int) (n : Int) = some r ∧ (decide (r ≥ 0)) = (decide (a ∈ l))
  | 0, k, n, l, a, hn, hk, hb, h => by
    obtain ⟨k, rfl⟩ : ∃ q, k = q + 1 := ⟨k - 1, by omega⟩
    simp only [slices_Index_int_int.l0]
    rw [if_neg (by omega)]
    refine ⟨-1, rfl, ?_⟩
    rw [decide_eq_false (by omega), decide_eq_false]
    intro hm
    obtain ⟨j, hj, e⟩ := (mem_at l a).1 hm
    exact h j (by omega) e
  | d + 1, k, n, l, a, hn, hk, hb, h => by
    obtain ⟨k, rfl⟩ : ∃ q, k = q + 1 := ⟨k - 1, by omega⟩
    simp only [slices_Index_int_int.l0]
    rw [if_pos (by omega), if_pos (by omega), if_pos (by omega)]
    by_cases e : a = rd l (n : Int)
    · rw [if_pos e]
      exact ⟨_, rfl, by rw [decide_eq_true (by omega), decide_eq_true ((mem_at l a).2 ⟨n, by omega, e.symm⟩)]⟩
    · rw [if_neg e, wrap_nat n (by omega)]
      refine index_l0 d k (n + 1) l a (by omega) (by omega) hb (fun j hj => ?_)
      by_cases ej : j = n
      · subst ej; exact fun hh => e hh.symm
      · exact h j (by omega)
theorem impl_has (k : Nat) (l : List Int) (a : Int) (hk : l.length < k) (hb : l.length ≤ 4611686018427387904) : impl_Has.f k l a = some (decide (a ∈ l)) := by
  obtain ⟨r, hr, he⟩ := index_l0 l.length k 0 l a (by omega) hk hb (fun j hj => by omega)
  unfold impl_Has.f slices_Contains_int_int.f slices_Index_int_int.f
  rw [show ((0 : Int)) = ((0 : Nat) : Int) from rfl, hr]
  simp only [Option.bind_some]
  exact congrArg some he

theorem FnExactHas : laws_FnExactHas.Pure := by
  intro l n _ _ _ _
  by_cases hbig : (l.length : Int) > 1048576
  · exact ⟨0, by unfold laws_FnExactHas.f; rw [if_pos hbig]⟩
  · refine ⟨l.length + 1, ?_⟩
    unfold laws_FnExactHas.f
    rw [if_neg hbig, toIntS_f _ l (by omega) (by omega)]
    simp only [Option.bind_some]
    rw [spec_has _ l n (by omega) (by omega), impl_has _ l n (by omega) (by omega)]
    simp only [Option.bind_some, bne_self_eq_false, Bool.false_eq_true, if_false]
    rw [eqIntS_same _ l (by omega) (by omega)]
    simp only [Option.bind_some, if_true]

end Go.Proofs.Ytnkpbdpdgfjhcaa.Pure
