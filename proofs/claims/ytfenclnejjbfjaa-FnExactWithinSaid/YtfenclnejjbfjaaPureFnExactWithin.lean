/- For all slices of ints a and b, each of at most 2^20 elements, the program's Within and the reference's Within return the same bool, and a and b stay as they were (of longer ones the law says nothing: it answers true). -/
import Derived.Test.YtfenclnejjbfjaaQFnExactWithinx2
namespace Go.Proofs.Ytfenclnejjbfjaa.Pure
open Go.RowKit Go.Proofs.Ytfenclnejjbfjaa.QFnExactWithin Go.Proofs.YtfenclnejjbfjaaW.PrintWords Go.Proofs.YtfenclnejjbfjaaW.PrintLast
theorem wrap_nat (n : Nat) (h : n ≤ 4611686018427387904) : wrap64 ((n : Int) + 1) = ((n + 1 : Nat) : Int) := by unfold wrap64; omega
theorem rd_nat (l : List Int) (n : Nat) (h : n < l.length) : l[n]? = some (rd l (n : Int)) := by
  unfold rd
  rw [Int.toNat_natCast, List.getD_eq_getElem?_getD, List.getElem?_eq_getElem h]
  rfl
theorem ext_upto {α : Type} (a b : List α) (hl : a.length = b.length) (h : ∀ j, j < a.length → a[j]? = b[j]?) : a = b := by
  apply List.ext_getElem?
  intro j
  by_cases hj : j < a.length
  · exact h j hj
  · rw [List.getElem?_eq_none (by omega), List.getElem?_eq_none (by omega)]

theorem toIntS_l0 : ∀ (d k n : Nat) (l out : List Int), n + d = l.length → d < k → out.length = l.length → l.length ≤ 4611686018427387904 → (∀ j, j < n → out[j]? = l[j]?) → laws_toIntS.l0 k l out (n : Int) = some l
  | 0, k, n, l, out, hn, hk, hl, hb, h => by
    obtain ⟨k, rfl⟩ : ∃ q, k = q + 1 := ⟨k - 1, by omega⟩
    simp only [laws_toIntS.l0]
    rw [if_neg (by omega), ext_upto out l hl (fun j hj => h j (by omega))]
  | d + 1, k, n, l, out, hn, hk, hl, hb, h => by
    obtain ⟨k, rfl⟩ : ∃ q, k = q + 1 := ⟨k - 1, by omega⟩
    simp only [laws_toIntS.l0]
    rw [if_pos (by omega), if_pos (by omega), if_pos (by omega), wrap_nat n (by omega), Int.toNat_natCast]
    refine toIntS_l0 d k (n + 1) l _ (by omega) (by omega) (by rw [List.length_set]; exact hl) hb (fun j hj => ?_)
    by_cases e : n = j
    · subst e
      rw [List.getElem?_set_self (by omega), rd_nat l n (by omega)]
    · rw [List.getElem?_set_ne e]
      exact h j (by omega)
theorem toIntS_f (k : Nat) (l : List Int) (hk : l.length < k) (hb : l.length ≤ 35184372088832) : laws_toIntS.f k l = some l := by
  unfold laws_toIntS.f
  rw [if_pos (by omega), Int.toNat_natCast, if_pos (by omega)]
  exact toIntS_l0 l.length k 0 l _ (by omega) hk (by simp) (by omega) (fun j hj => by omega)

theorem eqIntS_l0 : ∀ (d k n : Nat) (a b : List Int), n + d = a.length → d < k → a.length = b.length → a.length ≤ 4611686018427387904 → (∀ j, j < n → a[j]? = b[j]?) → laws_eqIntS.l0 k a b (n : Int) = some (decide (a = b))
  | 0, k, n, a, b, hn, hk, hl, hb, h => by
    obtain ⟨k, rfl⟩ : ∃ q, k = q + 1 := ⟨k - 1, by omega⟩
    simp only [laws_eqIntS.l0]
    rw [if_neg (by omega), ext_upto a b hl (fun j hj => h j (by omega))]
    simp
  | d + 1, k, n, a, b, hn, hk, hl, hb, h => by
    obtain ⟨k, rfl⟩ : ∃ q, k = q + 1 := ⟨k - 1, by omega⟩
    simp only [laws_eqIntS.l0]
    rw [if_pos (by omega), if_pos (by omega), if_pos (by omega)]
    by_cases e : rd a (n : Int) = rd b (n : Int)
    · rw [if_pos e, wrap_nat n (by omega)]
      refine eqIntS_l0 d k (n + 1) a b (by omega) (by omega) hl hb (fun j hj => ?_)
      by_cases ej : j = n
      · subst ej
        rw [rd_nat a j (by omega), rd_nat b j (by omega), e]
      · exact h j (by omega)
    · rw [if_neg e, decide_eq_false]
      intro hab
      exact e (by rw [hab])
theorem eqIntS_f (k : Nat) (a b : List Int) (hk : a.length < k) (hb : a.length ≤ 4611686018427387904) : laws_eqIntS.f k a b = some (decide (a = b)) := by
  unfold laws_eqIntS.f
  by_cases hl : (a.length : Int) = (b.length : Int)
  · rw [if_pos hl]
    exact eqIntS_l0 a.length k 0 a b (by omega) hk (by omega) hb (fun j hj => by omega)
  · rw [if_neg hl, decide_eq_false]
    intro hab
    exact hl (by rw [hab])
theorem eqIntS_same (k : Nat) (a : List Int) (hk : a.length < k) (hb : a.length ≤ 4611686018427387904) : laws_eqIntS.f k a a = some true := by rw [eqIntS_f k a a hk hb]; simp

theorem mem_at (l : List Int) (a : Int) : a ∈ l ↔ ∃ j : Nat, j < l.length ∧ rd l (j : Int) = a := by
  constructor
  · intro h
    obtain ⟨j, hj, rfl⟩ := List.mem_iff_getElem.1 h
    have := rd_nat l j hj
    rw [List.getElem?_eq_getElem hj] at this
    exact ⟨j, hj, (Option.some.inj this).symm⟩
  · rintro ⟨j, hj, rfl⟩
    exact List.mem_of_getElem? (rd_nat l j hj)
theorem spec_has_l0 : ∀ (d k n : Nat) (l : List Int) (a : Int), n + d = l.length → d < k → l.length ≤ 4611686018427387904 → (∀ j, j < n → rd l (j : Int) ≠ a) → spec_Has.l0 k l a (n : Int) = some (decide (a ∈ l))
  | 0, k, n, l, a, hn, hk, hb, h => by
    obtain ⟨k, rfl⟩ : ∃ q, k = q + 1 := ⟨k - 1, by omega⟩
    simp only [spec_Has.l0]
    rw [if_neg (by omega), decide_eq_false]
    intro hm
    obtain ⟨j, hj, e⟩ := (mem_at l a).1 hm
    exact h j (by omega) e
  | d + 1, k, n, l, a, hn, hk, hb, h => by
    obtain ⟨k, rfl⟩ : ∃ q, k = q + 1 := ⟨k - 1, by omega⟩
    simp only [spec_Has.l0]
    rw [if_pos (by omega), if_pos (by omega)]
    by_cases e : rd l (n : Int) = a
    · rw [if_pos e, decide_eq_true ((mem_at l a).2 ⟨n, by omega, e⟩)]
    · rw [if_neg e, wrap_nat n (by omega)]
      refine spec_has_l0 d k (n + 1) l a (by omega) (by omega) hb (fun j hj => ?_)
      by_cases ej : j = n
      · subst ej; exact e
      · exact h j (by omega)
theorem spec_has (k : Nat) (l : List Int) (a : Int) (hk : l.length < k) (hb : l.length ≤ 4611686018427387904) : spec_Has.f k l a = some (decide (a ∈ l)) := by
  unfold spec_Has.f
  exact spec_has_l0 l.length k 0 l a (by omega) hk hb (fun j hj => by omega)

/-- In order, each once. -/
def Asc (l : List Int) : Prop := l.Pairwise (· < ·)
theorem asc_ext : ∀ (a b : List Int), Asc a → Asc b → (∀ x, x ∈ a ↔ x ∈ b) → a = b
  | [], [], _, _, _ => rfl
  | [], y :: b, _, _, h => absurd ((h y).2 (List.mem_cons_self ..)) (List.not_mem_nil)
  | x :: a, [], _, _, h => absurd ((h x).1 (List.mem_cons_self ..)) (List.not_mem_nil)
  | x :: a, y :: b, ha, hb, h => by
    obtain ⟨ha1, ha2⟩ := List.pairwise_cons.1 ha
    obtain ⟨hb1, hb2⟩ := List.pairwise_cons.1 hb
    have e : x = y := by
      rcases List.mem_cons.1 ((h x).1 (List.mem_cons_self ..)) with h1 | h1
      · exact h1
      · rcases List.mem_cons.1 ((h y).2 (List.mem_cons_self ..)) with h2 | h2
        · exact h2.symm
        · have := ha1 y h2
          have := hb1 x h1
          omega
    subst e
    rw [asc_ext a b ha2 hb2]
    intro z
    constructor
    · intro hz
      rcases List.mem_cons.1 ((h z).1 (List.mem_cons_of_mem _ hz)) with h1 | h1
      · have := ha1 z hz; omega
      · exact h1
    · intro hz
      rcases List.mem_cons.1 ((h z).2 (List.mem_cons_of_mem _ hz)) with h1 | h1
      · have := hb1 z hz; omega
      · exact h1
open Go.Lib in
theorem cu_mem (d : Array Int) : ∀ (m : Nat) (x : Int), x ∈ compactUpTo d m ↔ ∃ j, j < m ∧ d[j]! = x
  | 0, x => by simp [compactUpTo]
  | m + 1, x => by
    rw [compactUpTo_succ, List.mem_append, cu_mem d m x]
    by_cases hk : keeps d m = true
    · rw [if_pos hk, List.mem_singleton]
      constructor
      · rintro (⟨j, hj, e⟩ | e)
        · exact ⟨j, by omega, e⟩
        · exact ⟨m, by omega, e.symm⟩
      · rintro ⟨j, hj, e⟩
        by_cases ej : j = m
        · subst ej; exact .inr e.symm
        · exact .inl ⟨j, by omega, e⟩
    · rw [if_neg hk]
      have hm : m ≠ 0 ∧ d[m]! = d[m - 1]! := by
        unfold keeps at hk
        simpa using hk
      constructor
      · rintro (⟨j, hj, e⟩ | e)
        · exact ⟨j, by omega, e⟩
        · exact absurd e (List.not_mem_nil)
      · rintro ⟨j, hj, e⟩
        by_cases ej : j = m
        · subst ej; exact .inl ⟨j - 1, by omega, by rw [← hm.2]; exact e⟩
        · exact .inl ⟨j, by omega, e⟩
open Go.Lib in
theorem cu_asc (d : Array Int) (n : Nat) (h : ∀ i j, i < j → j < n → d[i]! ≤ d[j]!) : ∀ m, m ≤ n → Asc (compactUpTo d m)
  | 0, _ => by
    have : compactUpTo d 0 = [] := by simp [compactUpTo]
    rw [this]
    exact List.Pairwise.nil
  | m + 1, hm => by
    rw [compactUpTo_succ]
    by_cases hk : keeps d m = true
    · rw [if_pos hk]
      refine List.pairwise_append.2 ⟨cu_asc d n h m (by omega), List.pairwise_singleton _ _, ?_⟩
      intro a ha b hb
      rw [List.mem_singleton.1 hb]
      obtain ⟨j, hj, rfl⟩ := (cu_mem d m a).1 ha
      have hne : m = 0 ∨ d[m]! ≠ d[m - 1]! := by
        unfold keeps at hk
        simpa using hk
      have h1 : d[m - 1]! ≤ d[m]! := h (m - 1) m (by omega) (by omega)
      have h2 : d[j]! ≤ d[m - 1]! := by
        by_cases ej : j = m - 1
        · rw [ej]; exact Int.le_refl _
        · exact h j (m - 1) (by omega) (by omega)
      have h3 : d[m]! ≠ d[m - 1]! := by
        rcases hne with h0 | h0
        · omega
        · exact h0
      omega
    · rw [if_neg hk, List.append_nil]
      exact cu_asc d n h m (by omega)
/-- The set of a list. -/
def setOf (l : List Int) : List Int := Go.Lib.compact (l.mergeSort fun x y => decide (x ≤ y))
theorem bang (l : List Int) (j : Nat) (h : j < l.length) : l.toArray[j]! = l[j] := by
  rw [getElem!_pos l.toArray j (by simpa using h)]
  simp
theorem setOf_mem (l : List Int) (x : Int) : x ∈ setOf l ↔ x ∈ l := by
  unfold setOf Go.Lib.compact
  rw [cu_mem, ← List.mem_mergeSort (le := fun x y => decide (x ≤ y))]
  generalize l.mergeSort (fun x y => decide (x ≤ y)) = s
  rw [List.mem_iff_getElem]
  constructor
  · rintro ⟨j, hj, e⟩
    exact ⟨j, hj, by rw [← bang s j hj]; exact e⟩
  · rintro ⟨j, hj, e⟩
    exact ⟨j, hj, by rw [bang s j hj]; exact e⟩
theorem setOf_asc (l : List Int) : Asc (setOf l) := by
  have hs : (l.mergeSort fun x y => decide (x ≤ y)).Pairwise (fun a b => decide (a ≤ b) = true) :=
    List.pairwise_mergeSort (fun a b c h1 h2 => by simp at *; omega) (fun a b => by simp; omega) l
  unfold setOf Go.Lib.compact
  generalize l.mergeSort (fun x y => decide (x ≤ y)) = s at hs
  refine cu_asc s.toArray s.length (fun i j hij hj => ?_) s.length (Nat.le_refl _)
  rw [bang s i (by omega), bang s j hj]
  have := List.pairwise_iff_getElem.1 hs i j (by omega) hj hij
  simpa using this
theorem setOf_length (l : List Int) : (setOf l).length ≤ l.length := by
  unfold setOf
  refine Nat.le_trans (Go.Lib.compact_length_le _) ?_
  rw [List.length_mergeSort]
  exact Nat.le_refl _
theorem setOf_self (l : List Int) (h : Asc l) : setOf l = l := asc_ext _ _ (setOf_asc l) h (setOf_mem l)
theorem setOf_eq (l s : List Int) (h : Asc s) (hm : ∀ x, x ∈ s ↔ x ∈ l) : s = setOf l := asc_ext _ _ h (setOf_asc l) (fun x => (hm x).trans (setOf_mem l x).symm)
theorem impl_setof (l : List Int) (h : l.length < 17592186044416) : impl_SetOf.f l = some (setOf l) := by
  unfold impl_SetOf.f setOf
  rw [if_pos h]

theorem drop_cons (l : List Int) (n : Nat) (h : n < l.length) : l.drop n = rd l (n : Int) :: l.drop (n + 1) := by
  have h1 := rd_nat l n h
  rw [List.getElem?_eq_getElem h] at h1
  rw [List.drop_eq_getElem_cons h, Option.some.inj h1]
/-- Of the elements of a those that are in b (f), or those that aren't. -/
def sel (a b : List Int) (f : Bool) : List Int := a.filter fun x => decide (x ∈ b) == f
theorem sel_length (a b : List Int) (f : Bool) : (sel a b f).length ≤ a.length := List.length_filter_le _ _
theorem sel_cons (x : Int) (a b : List Int) (f : Bool) : sel (x :: a) b f = (if (decide (x ∈ b) == f) = true then x :: sel a b f else sel a b f) := by
  unfold sel
  rw [List.filter_cons]

theorem index_l0 : ∀ (d k n : Nat) (l : List Int) (a : Int), n + d = l.length → d < k → l.length ≤ 4611686018427387904 → (∀ j, j < n → rd l (j : Int) ≠ a) → ∃ r, slices_Index_int_int.l0 k l a (l.length : Int) (n : Int) = some r ∧ (decide (r ≥ 0)) = (decide (a ∈ l))
  | 0, k, n, l, a, hn, hk, hb, h => by
    obtain ⟨k, rfl⟩ : ∃ q, k = q + 1 := ⟨k - 1, by omega⟩
    simp only [slices_Index_int_int.l0]
    rw [if_neg (by omega)]
    refine ⟨-1, rfl, ?_⟩
    rw [decide_eq_false (by omega), decide_eq_false]
    intro hm
    obtain ⟨j, hj, e⟩ := (mem_at l a).1 hm
    exact h j (by omega) e
  | d + 1, k, n, l, a, hn, hk, hb, h => by
    obtain ⟨k, rfl⟩ : ∃ q, k = q + 1 := ⟨k - 1, by omega⟩
    simp only [slices_Index_int_int.l0]
    rw [if_pos (by omega), if_pos (by omega), if_pos (by omega)]
    by_cases e : a = rd l (n : Int)
    · rw [if_pos e]
      exact ⟨_, rfl, by rw [decide_eq_true (by omega), decide_eq_true ((mem_at l a).2 ⟨n, by omega, e.symm⟩)]⟩
    · rw [if_neg e, wrap_nat n (by omega)]
      refine index_l0 d k (n + 1) l a (by omega) (by omega) hb (fun j hj => ?_)
      by_cases ej : j = n
      · subst ej; exact fun hh => e hh.symm
      · exact h j (by omega)
theorem impl_has (k : Nat) (l : List Int) (a : Int) (hk : l.length < k) (hb : l.length ≤ 4611686018427387904) : impl_Has.f k l a = some (decide (a ∈ l)) := by
  obtain ⟨r, hr, he⟩ := index_l0 l.length k 0 l a (by omega) hk hb (fun j hj => by omega)
  unfold impl_Has.f slices_Contains_int_int.f slices_Index_int_int.f
  rw [show ((0 : Int)) = ((0 : Nat) : Int) from rfl, hr]
  simp only [Option.bind_some]
  exact congrArg some he

theorem impl_chosen_l0 (a b : List Int) (f : Bool) (N : Nat) (hN : N ≤ 17592186040000) (ha : a.length ≤ N) (hb : b.length ≤ N) : ∀ (d k n : Nat) (out : List Int), n + d = a.length → d + b.length + 1 < k → out.length ≤ n → impl_chosen.l0 k b f out a (a.length : Int) (n : Int) = some (setOf (out ++ sel (a.drop n) b f))
  | 0, k, n, out, hn, hk, ho => by
    obtain ⟨k, rfl⟩ : ∃ q, k = q + 1 := ⟨k - 1, by omega⟩
    simp only [impl_chosen.l0]
    rw [if_neg (by omega), List.drop_eq_nil_of_le (by omega), impl_setof out (by omega)]
    simp [sel]
  | d + 1, k, n, out, hn, hk, ho => by
    obtain ⟨k, rfl⟩ : ∃ q, k = q + 1 := ⟨k - 1, by omega⟩
    simp only [impl_chosen.l0]
    rw [if_pos (by omega), if_pos (by omega), if_pos (by omega), impl_has k b _ (by omega) (by omega), wrap_nat n (by omega), drop_cons a n (by omega), sel_cons]
    simp only [Option.bind_some]
    by_cases h : (decide (rd a (n : Int) ∈ b) == f) = true
    · rw [if_pos h, if_pos h, if_pos (by omega), impl_chosen_l0 a b f N hN ha hb d k (n + 1) _ (by omega) (by omega) (by rw [List.length_append, List.length_singleton]; omega), List.append_assoc]
      rfl
    · rw [if_neg h, if_neg h, impl_chosen_l0 a b f N hN ha hb d k (n + 1) out (by omega) (by omega) (by omega)]
theorem impl_chosen_f (k N : Nat) (a b : List Int) (f : Bool) (hN : N ≤ 17592186040000) (ha : a.length ≤ N) (hb : b.length ≤ N) (hk : 2 * N + 1 < k) : impl_chosen.f k a b f = some (setOf (sel a b f)) := by
  unfold impl_chosen.f
  exact impl_chosen_l0 a b f N hN ha hb a.length k 0 [] (by omega) (by omega) (Nat.le_refl _)

theorem spec_within_l0 (a b : List Int) (N : Nat) (hN : N ≤ 17592186040000) (ha : a.length ≤ N) (hb : b.length ≤ N) : ∀ (d k n : Nat), n + d = a.length → d + b.length + 1 < k → spec_Within.l0 k a b (n : Int) = some (decide (sel (a.drop n) b false = []))
  | 0, k, n, hn, hk => by
    obtain ⟨k, rfl⟩ : ∃ q, k = q + 1 := ⟨k - 1, by omega⟩
    simp only [spec_Within.l0]
    rw [if_neg (by omega), List.drop_eq_nil_of_le (by omega)]
    rfl
  | d + 1, k, n, hn, hk => by
    obtain ⟨k, rfl⟩ : ∃ q, k = q + 1 := ⟨k - 1, by omega⟩
    simp only [spec_Within.l0]
    rw [if_pos (by omega), if_pos (by omega), spec_has k b _ (by omega) (by omega), wrap_nat n (by omega), drop_cons a n (by omega), sel_cons]
    simp only [Option.bind_some]
    by_cases h : rd a (n : Int) ∈ b
    · rw [if_pos (decide_eq_true h), decide_eq_true h, if_neg (by decide), spec_within_l0 a b N hN ha hb d k (n + 1) (by omega) (by omega)]
    · rw [if_neg (by simpa using h), decide_eq_false h, if_pos (by decide)]
      simp
theorem FnExactWithin : laws_FnExactWithin.Pure := by
  intro a b _ _ _ _ _ _
  by_cases ha : (a.length : Int) > 1048576
  · exact ⟨0, by unfold laws_FnExactWithin.f; rw [if_pos ha]⟩
  by_cases hb : (b.length : Int) > 1048576
  · exact ⟨0, by unfold laws_FnExactWithin.f; rw [if_neg ha, if_pos hb]⟩
  have s1 : ∀ k, 10000000 < k → spec_Within.f k a b = some (decide (sel a b false = [])) := fun k hk => by
    unfold spec_Within.f
    exact spec_within_l0 a b 1048576 (by omega) (by omega) (by omega) a.length k 0 (by omega) (by omega)
  have s2 : ∀ k, 10000000 < k → impl_Within.f k a b = some (decide (sel a b false = [])) := fun k hk => by
    unfold impl_Within.f impl_Rest.f
    rw [impl_chosen_f k 1048576 a b false (by omega) (by omega) (by omega) (by omega)]
    simp only [Option.bind_some]
    congr 1
    by_cases h : sel a b false = []
    · rw [h, decide_eq_true rfl]
      have : setOf [] = [] := setOf_self [] List.Pairwise.nil
      rw [this]
      rfl
    · rw [decide_eq_false h]
      have : (setOf (sel a b false)) ≠ [] := by
        intro e
        obtain ⟨x, hx⟩ := List.exists_mem_of_ne_nil _ h
        have := (setOf_mem _ x).2 hx
        rw [e] at this
        exact absurd this (List.not_mem_nil)
      have : (setOf (sel a b false)).length ≠ 0 := fun e => this (List.eq_nil_of_length_eq_zero e)
      rw [beq_eq_false_iff_ne]
      omega
  refine ⟨20000000, ?_⟩
  unfold laws_FnExactWithin.f
  rw [if_neg ha, if_neg hb]
  simp (maxSteps := 10000000) (disch := omega) only [toIntS_f, s1, s2, Option.bind_some, eqIntS_same, if_true, if_false, bne_self_eq_false, Bool.false_eq_true]

end Go.Proofs.Ytfenclnejjbfjaa.Pure
