/- For all slices of ints a and b, each of at most 2^20 elements, the program's Union and the reference's Union return the same list, in new memory, and a and b stay as they were (of longer ones the law says nothing: it answers true). -/
import Derived.Test.YtfenclnejjbfjaaQFnExactUnionx3
namespace Go.Proofs.Ytfenclnejjbfjaa.Pure
open Go.RowKit Go.Proofs.Ytfenclnejjbfjaa.QFnExactUnion Go.Proofs.YtfenclnejjbfjaaW.PrintWords Go.Proofs.YtfenclnejjbfjaaW.PrintLast
theorem wrap_nat (n : Nat) (h : n ≤ 4611686018427387904) : wrap64 ((n : Int) + 1) = ((n + 1 : Nat) : Int) := by unfold wrap64; omega
theorem rd_nat (l : List Int) (n : Nat) (h : n < l.length) : l[n]? = some (rd l (n : Int)) := by
  unfold rd
  rw [Int.toNat_natCast, List.getD_eq_getElem?_getD, List.getElem?_eq_getElem h]
  rfl
theorem ext_upto {α : Type} (a b : List α) (hl : a.length = b.length) (h : ∀ j, j < a.length → a[j]? = b[j]?) : a = b := by
  apply List.ext_getElem?
  intro j
  by_cases hj : j < a.length
  · exact h j hj
  · rw [List.getElem?_eq_none (by omega), List.getElem?_eq_none (by omega)]

theorem toIntS_l0 : ∀ (d k n : Nat) (l out : List Int), n + d = l.length → d < k → out.length = l.length → l.length ≤ 4611686018427387904 → (∀ j, j < n → out[j]? = l[j]?) → laws_toIntS.l0 k l out (n : Int) = some l
  | 0, k, n, l, out, hn, hk, hl, hb, h => by
    obtain ⟨k, rfl⟩ : ∃ q, k = q + 1 := ⟨k - 1, by omega⟩
    simp only [laws_toIntS.l0]
    rw [if_neg (by omega), ext_upto out l hl (fun j hj => h j (by omega))]
  | d + 1, k, n, l, out, hn, hk, hl, hb, h => by
    obtain ⟨k, rfl⟩ : ∃ q, k = q + 1 := ⟨k - 1, by omega⟩
    simp only [laws_toIntS.l0]
    rw [if_pos (by omega), if_pos (by omega), if_pos (by omega), wrap_nat n (by omega), Int.toNat_natCast]
    refine toIntS_l0 d k (n + 1) l _ (by omega) (by omega) (by rw [List.length_set]; exact hl) hb (fun j hj => ?_)
    by_cases e : n = j
    · subst e
      rw [List.getElem?_set_self (by omega), rd_nat l n (by omega)]
    · rw [List.getElem?_set_ne e]
      exact h j (by omega)
theorem toIntS_f (k : Nat) (l : List Int) (hk : l.length < k) (hb : l.length ≤ 35184372088832) : laws_toIntS.f k l = some l := by
  unfold laws_toIntS.f
  rw [if_pos (by omega), Int.toNat_natCast, if_pos (by omega)]
  exact toIntS_l0 l.length k 0 l _ (by omega) hk (by simp) (by omega) (fun j hj => by omega)

theorem eqIntS_l0 : ∀ (d k n : Nat) (a b : List Int), n + d = a.length → d < k → a.length = b.length → a.length ≤ 4611686018427387904 → (∀ j, j < n → a[j]? = b[j]?) → laws_eqIntS.l0 k a b (n : Int) = some (decide (a = b))
  | 0, k, n, a, b, hn, hk, hl, hb, h => by
    obtain ⟨k, rfl⟩ : ∃ q, k = q + 1 := ⟨k - 1, by omega⟩
    simp only [laws_eqIntS.l0]
    rw [if_neg (by omega), ext_upto a b hl (fun j hj => h j (by omega))]
    simp
  | d + 1, k, n, a, b, hn, hk, hl, hb, h => by
    obtain ⟨k, rfl⟩ : ∃ q, k = q + 1 := ⟨k - 1, by omega⟩
    simp only [laws_eqIntS.l0]
    rw [if_pos (by omega), if_pos (by omega), if_pos (by omega)]
    by_cases e : rd a (n : Int) = rd b (n : Int)
    · rw [if_pos e, wrap_nat n (by omega)]
      refine eqIntS_l0 d k (n + 1) a b (by omega) (by omega) hl hb (fun j hj => ?_)
      by_cases ej : j = n
      · subst ej
        rw [rd_nat a j (by omega), rd_nat b j (by omega), e]
      · exact h j (by omega)
    · rw [if_neg e, decide_eq_false]
      intro hab
      exact e (by rw [hab])
theorem eqIntS_f (k : Nat) (a b : List Int) (hk : a.length < k) (hb : a.length ≤ 4611686018427387904) : laws_eqIntS.f k a b = some (decide (a = b)) := by
  unfold laws_eqIntS.f
  by_cases hl : (a.length : Int) = (b.length : Int)
  · rw [if_pos hl]
    exact eqIntS_l0 a.length k 0 a b (by omega) hk (by omega) hb (fun j hj => by omega)
  · rw [if_neg hl, decide_eq_false]
    intro hab
    exact hl (by rw [hab])
theorem eqIntS_same (k : Nat) (a : List Int) (hk : a.length < k) (hb : a.length ≤ 4611686018427387904) : laws_eqIntS.f k a a = some true := by rw [eqIntS_f k a a hk hb]; simp

def marksInt (n : Nat) : List Int := (List.range n).map fun (j : Nat) => (1 + (j : Int))
theorem marksInt_length (n : Nat) : (marksInt n).length = n := by simp [marksInt]
theorem marksInt_at (n j : Nat) (h : j < n) : (marksInt n)[j]? = some ((1 + (j : Int))) := by simp [marksInt, h]
theorem markIntS_l0 : ∀ (d k n : Nat) (x : List Int), n + d = x.length → d < k → x.length ≤ 4611686018427387904 → (∀ j, j < n → x[j]? = some ((1 + (j : Int)))) → laws_markIntS.l0 k x (1 + (n : Int)) (n : Int) = some (1 + (x.length : Int), marksInt x.length)
  | 0, k, n, x, hn, hk, hb, h => by
    obtain ⟨k, rfl⟩ : ∃ q, k = q + 1 := ⟨k - 1, by omega⟩
    simp only [laws_markIntS.l0]
    rw [if_neg (by omega), ← ext_upto x (marksInt x.length) (marksInt_length _).symm (fun j hj => by rw [h j (by omega), marksInt_at _ j hj])]
    congr 2
    omega
  | d + 1, k, n, x, hn, hk, hb, h => by
    obtain ⟨k, rfl⟩ : ∃ q, k = q + 1 := ⟨k - 1, by omega⟩
    simp only [laws_markIntS.l0]
    have hw : wrap64 (1 + (n : Int) + 1) = 1 + ((n + 1 : Nat) : Int) := by unfold wrap64; omega
    rw [if_pos (by omega), if_pos (by omega), wrap_nat n (by omega), hw, Int.toNat_natCast]
    have hl : (x.set n ((1 + (n : Int)))).length = x.length := List.length_set ..
    have := markIntS_l0 d k (n + 1) (x.set n ((1 + (n : Int)))) (by omega) (by omega) (by omega) (fun j hj => ?_)
    · rw [hl] at this
      exact this
    · by_cases e : n = j
      · subst e
        rw [List.getElem?_set_self (by omega)]
      · rw [List.getElem?_set_ne e]
        exact h j (by omega)
theorem markIntS_f (k : Nat) (x : List Int) (hk : x.length < k) (hb : x.length ≤ 4611686018427387904) : laws_markIntS.f k x 1 = some (1 + (x.length : Int), marksInt x.length) := by
  unfold laws_markIntS.f
  exact markIntS_l0 x.length k 0 x (by omega) hk hb (fun j hj => by omega)

theorem heldIntS_l0 : ∀ (d k n m : Nat), n + d = m → d < k → m ≤ 4611686018427387904 → laws_heldIntS.l0 k (marksInt m) (1 + (n : Int)) (n : Int) = some (1 + (m : Int))
  | 0, k, n, m, hn, hk, hb => by
    obtain ⟨k, rfl⟩ : ∃ q, k = q + 1 := ⟨k - 1, by omega⟩
    simp only [laws_heldIntS.l0]
    rw [if_neg (by rw [marksInt_length]; omega)]
    congr 2
    omega
  | d + 1, k, n, m, hn, hk, hb => by
    obtain ⟨k, rfl⟩ : ∃ q, k = q + 1 := ⟨k - 1, by omega⟩
    simp only [laws_heldIntS.l0]
    have hw : wrap64 (1 + (n : Int) + 1) = 1 + ((n + 1 : Nat) : Int) := by unfold wrap64; omega
    have hr : rd (marksInt m) (n : Int) = (1 + (n : Int)) := by
      have := rd_nat (marksInt m) n (by rw [marksInt_length]; omega)
      rw [marksInt_at m n (by omega)] at this
      exact (Option.some.inj this).symm
    rw [if_pos (by rw [marksInt_length]; omega), if_pos (by omega), if_pos hr, wrap_nat n (by omega), hw]
    exact heldIntS_l0 d k (n + 1) m (by omega) (by omega) hb
theorem heldIntS_f (k : Nat) (m : Nat) (hk : m < k) (hb : m ≤ 4611686018427387904) : laws_heldIntS.f k (marksInt m) 1 = some (1 + (m : Int)) := by
  unfold laws_heldIntS.f
  exact heldIntS_l0 m k 0 m (by omega) hk hb

theorem neg1 (n : Nat) : (1 + (n : Int) < 0) = False := eq_false (by omega)


theorem markIntS_any_l0 : ∀ (d k n : Nat) (x : List Int) (s : Int), n + d = x.length → d < k → x.length ≤ 4611686018427387904 → 0 ≤ s → s + (d : Int) ≤ 4611686018427387904 → ∃ y, laws_markIntS.l0 k x s (n : Int) = some (s + (d : Int), y)
  | 0, k, n, x, s, hn, hk, hb, h0, h1 => by
    obtain ⟨k, rfl⟩ : ∃ q, k = q + 1 := ⟨k - 1, by omega⟩
    simp only [laws_markIntS.l0]
    rw [if_neg (by omega)]
    exact ⟨x, by simp⟩
  | d + 1, k, n, x, s, hn, hk, hb, h0, h1 => by
    obtain ⟨k, rfl⟩ : ∃ q, k = q + 1 := ⟨k - 1, by omega⟩
    simp only [laws_markIntS.l0]
    have hw : wrap64 (s + 1) = s + 1 := by unfold wrap64; omega
    rw [if_pos (by omega), if_pos (by omega), wrap_nat n (by omega), hw, Int.toNat_natCast]
    obtain ⟨y, hy⟩ := markIntS_any_l0 d k (n + 1) (x.set n (s)) (s + 1) (by rw [List.length_set]; omega) (by omega) (by rw [List.length_set]; omega) (by omega) (by omega)
    exact ⟨y, by rw [hy]; congr 2; omega⟩
theorem markIntS_any (k : Nat) (x : List Int) (s : Int) (hk : x.length < k) (hb : x.length ≤ 2305843009213693952) (h0 : 0 ≤ s) (h1 : s ≤ 2305843009213693952) : ∃ y, laws_markIntS.f k x s = some (s + (x.length : Int), y) := by
  unfold laws_markIntS.f
  exact markIntS_any_l0 x.length k 0 x s (by omega) hk (by omega) h0 (by omega)

theorem mem_at (l : List Int) (a : Int) : a ∈ l ↔ ∃ j : Nat, j < l.length ∧ rd l (j : Int) = a := by
  constructor
  · intro h
    obtain ⟨j, hj, rfl⟩ := List.mem_iff_getElem.1 h
    have := rd_nat l j hj
    rw [List.getElem?_eq_getElem hj] at this
    exact ⟨j, hj, (Option.some.inj this).symm⟩
  · rintro ⟨j, hj, rfl⟩
    exact List.mem_of_getElem? (rd_nat l j hj)
theorem spec_has_l0 : ∀ (d k n : Nat) (l : List Int) (a : Int), n + d = l.length → d < k → l.length ≤ 4611686018427387904 → (∀ j, j < n → rd l (j : Int) ≠ a) → spec_Has.l0 k l a (n : Int) = some (decide (a ∈ l))
  | 0, k, n, l, a, hn, hk, hb, h => by
    obtain ⟨k, rfl⟩ : ∃ q, k = q + 1 := ⟨k - 1, by omega⟩
    simp only [spec_Has.l0]
    rw [if_neg (by omega), decide_eq_false]
    intro hm
    obtain ⟨j, hj, e⟩ := (mem_at l a).1 hm
    exact h j (by omega) e
  | d + 1, k, n, l, a, hn, hk, hb, h => by
    obtain ⟨k, rfl⟩ : ∃ q, k = q + 1 := ⟨k - 1, by omega⟩
    simp only [spec_Has.l0]
    rw [if_pos (by omega), if_pos (by omega)]
    by_cases e : rd l (n : Int) = a
    · rw [if_pos e, decide_eq_true ((mem_at l a).2 ⟨n, by omega, e⟩)]
    · rw [if_neg e, wrap_nat n (by omega)]
      refine spec_has_l0 d k (n + 1) l a (by omega) (by omega) hb (fun j hj => ?_)
      by_cases ej : j = n
      · subst ej; exact e
      · exact h j (by omega)
theorem spec_has (k : Nat) (l : List Int) (a : Int) (hk : l.length < k) (hb : l.length ≤ 4611686018427387904) : spec_Has.f k l a = some (decide (a ∈ l)) := by
  unfold spec_Has.f
  exact spec_has_l0 l.length k 0 l a (by omega) hk hb (fun j hj => by omega)

/-- In order, each once. -/
def Asc (l : List Int) : Prop := l.Pairwise (· < ·)
theorem asc_ext : ∀ (a b : List Int), Asc a → Asc b → (∀ x, x ∈ a ↔ x ∈ b) → a = b
  | [], [], _, _, _ => rfl
  | [], y :: b, _, _, h => absurd ((h y).2 (List.mem_cons_self ..)) (List.not_mem_nil)
  | x :: a, [], _, _, h => absurd ((h x).1 (List.mem_cons_self ..)) (List.not_mem_nil)
  | x :: a, y :: b, ha, hb, h => by
    obtain ⟨ha1, ha2⟩ := List.pairwise_cons.1 ha
    obtain ⟨hb1, hb2⟩ := List.pairwise_cons.1 hb
    have e : x = y := by
      rcases List.mem_cons.1 ((h x).1 (List.mem_cons_self ..)) with h1 | h1
      · exact h1
      · rcases List.mem_cons.1 ((h y).2 (List.mem_cons_self ..)) with h2 | h2
        · exact h2.symm
        · have := ha1 y h2
          have := hb1 x h1
          omega
    subst e
    rw [asc_ext a b ha2 hb2]
    intro z
    constructor
    · intro hz
      rcases List.mem_cons.1 ((h z).1 (List.mem_cons_of_mem _ hz)) with h1 | h1
      · have := ha1 z hz; omega
      · exact h1
    · intro hz
      rcases List.mem_cons.1 ((h z).2 (List.mem_cons_of_mem _ hz)) with h1 | h1
      · have := hb1 z hz; omega
      · exact h1
open Go.Lib in
theorem cu_mem (d : Array Int) : ∀ (m : Nat) (x : Int), x ∈ compactUpTo d m ↔ ∃ j, j < m ∧ d[j]! = x
  | 0, x => by simp [compactUpTo]
  | m + 1, x => by
    rw [compactUpTo_succ, List.mem_append, cu_mem d m x]
    by_cases hk : keeps d m = true
    · rw [if_pos hk, List.mem_singleton]
      constructor
      · rintro (⟨j, hj, e⟩ | e)
        · exact ⟨j, by omega, e⟩
        · exact ⟨m, by omega, e.symm⟩
      · rintro ⟨j, hj, e⟩
        by_cases ej : j = m
        · subst ej; exact .inr e.symm
        · exact .inl ⟨j, by omega, e⟩
    · rw [if_neg hk]
      have hm : m ≠ 0 ∧ d[m]! = d[m - 1]! := by
        unfold keeps at hk
        simpa using hk
      constructor
      · rintro (⟨j, hj, e⟩ | e)
        · exact ⟨j, by omega, e⟩
        · exact absurd e (List.not_mem_nil)
      · rintro ⟨j, hj, e⟩
        by_cases ej : j = m
        · subst ej; exact .inl ⟨j - 1, by omega, by rw [← hm.2]; exact e⟩
        · exact .inl ⟨j, by omega, e⟩
open Go.Lib in
theorem cu_asc (d : Array Int) (n : Nat) (h : ∀ i j, i < j → j < n → d[i]! ≤ d[j]!) : ∀ m, m ≤ n → Asc (compactUpTo d m)
  | 0, _ => by
    have : compactUpTo d 0 = [] := by simp [compactUpTo]
    rw [this]
    exact List.Pairwise.nil
  | m + 1, hm => by
    rw [compactUpTo_succ]
    by_cases hk : keeps d m = true
    · rw [if_pos hk]
      refine List.pairwise_append.2 ⟨cu_asc d n h m (by omega), List.pairwise_singleton _ _, ?_⟩
      intro a ha b hb
      rw [List.mem_singleton.1 hb]
      obtain ⟨j, hj, rfl⟩ := (cu_mem d m a).1 ha
      have hne : m = 0 ∨ d[m]! ≠ d[m - 1]! := by
        unfold keeps at hk
        simpa using hk
      have h1 : d[m - 1]! ≤ d[m]! := h (m - 1) m (by omega) (by omega)
      have h2 : d[j]! ≤ d[m - 1]! := by
        by_cases ej : j = m - 1
        · rw [ej]; exact Int.le_refl _
        · exact h j (m - 1) (by omega) (by omega)
      have h3 : d[m]! ≠ d[m - 1]! := by
        rcases hne with h0 | h0
        · omega
        · exact h0
      omega
    · rw [if_neg hk, List.append_nil]
      exact cu_asc d n h m (by omega)
/-- The set of a list. -/
def setOf (l : List Int) : List Int := Go.Lib.compact (l.mergeSort fun x y => decide (x ≤ y))
theorem bang (l : List Int) (j : Nat) (h : j < l.length) : l.toArray[j]! = l[j] := by
  rw [getElem!_pos l.toArray j (by simpa using h)]
  simp
theorem setOf_mem (l : List Int) (x : Int) : x ∈ setOf l ↔ x ∈ l := by
  unfold setOf Go.Lib.compact
  rw [cu_mem, ← List.mem_mergeSort (le := fun x y => decide (x ≤ y))]
  generalize l.mergeSort (fun x y => decide (x ≤ y)) = s
  rw [List.mem_iff_getElem]
  constructor
  · rintro ⟨j, hj, e⟩
    exact ⟨j, hj, by rw [← bang s j hj]; exact e⟩
  · rintro ⟨j, hj, e⟩
    exact ⟨j, hj, by rw [bang s j hj]; exact e⟩
theorem setOf_asc (l : List Int) : Asc (setOf l) := by
  have hs : (l.mergeSort fun x y => decide (x ≤ y)).Pairwise (fun a b => decide (a ≤ b) = true) :=
    List.pairwise_mergeSort (fun a b c h1 h2 => by simp at *; omega) (fun a b => by simp; omega) l
  unfold setOf Go.Lib.compact
  generalize l.mergeSort (fun x y => decide (x ≤ y)) = s at hs
  refine cu_asc s.toArray s.length (fun i j hij hj => ?_) s.length (Nat.le_refl _)
  rw [bang s i (by omega), bang s j hj]
  have := List.pairwise_iff_getElem.1 hs i j (by omega) hj hij
  simpa using this
theorem setOf_length (l : List Int) : (setOf l).length ≤ l.length := by
  unfold setOf
  refine Nat.le_trans (Go.Lib.compact_length_le _) ?_
  rw [List.length_mergeSort]
  exact Nat.le_refl _
theorem setOf_self (l : List Int) (h : Asc l) : setOf l = l := asc_ext _ _ (setOf_asc l) h (setOf_mem l)
theorem setOf_eq (l s : List Int) (h : Asc s) (hm : ∀ x, x ∈ s ↔ x ∈ l) : s = setOf l := asc_ext _ _ h (setOf_asc l) (fun x => (hm x).trans (setOf_mem l x).symm)
theorem impl_setof (l : List Int) (h : l.length < 17592186044416) : impl_SetOf.f l = some (setOf l) := by
  unfold impl_SetOf.f setOf
  rw [if_pos h]

/-! ### The reference's set -/
theorem rd_take (l : List Int) (p i : Nat) (hi : i < p) : rd (l.take p) (i : Int) = rd l (i : Int) := by
  unfold rd
  rw [Int.toNat_natCast, List.getD_eq_getElem?_getD, List.getD_eq_getElem?_getD, List.getElem?_take_of_lt hi]
theorem asc_rd (l : List Int) (h : Asc l) (i j : Nat) (hij : i < j) (hj : j < l.length) : rd l (i : Int) < rd l (j : Int) := by
  have h1 := List.pairwise_iff_getElem.1 h i j (by omega) hj hij
  have e1 := rd_nat l i (by omega)
  have e2 := rd_nat l j hj
  rw [List.getElem?_eq_getElem (by omega)] at e1
  rw [List.getElem?_eq_getElem hj] at e2
  have e1 := Option.some.inj e1
  have e2 := Option.some.inj e2
  rw [← e1, ← e2]
  exact h1
theorem spec_setof_l1 (l out : List Int) (n : Nat) (hn : n < l.length) (hl : l.length ≤ 4611686018427387904) (ho : out.length ≤ 17592186044000) : ∀ (j k : Nat), j ≤ out.length → j + 1 ≤ k → (∀ i, j ≤ i → i < out.length → rd out (i : Int) > rd l (n : Int)) →
    ∃ (p k' : Nat), p ≤ out.length ∧ k ≤ k' + j + 1 ∧ (∀ i, p ≤ i → i < out.length → rd out (i : Int) > rd l (n : Int)) ∧ (0 < p → rd out ((p - 1 : Nat) : Int) ≤ rd l (n : Int)) ∧
      spec_SetOf.l1 k l out (n : Int) (j : Int) = spec_SetOf.l0 k' l (out.take p ++ [rd l (n : Int)] ++ out.drop p) ((n + 1 : Nat) : Int)
  | 0, k, hj, hk, h => by
    obtain ⟨k, rfl⟩ : ∃ q, k = q + 1 := ⟨k - 1, by omega⟩
    refine ⟨0, k, by omega, by omega, h, fun h0 => absurd h0 (by omega), ?_⟩
    simp only [spec_SetOf.l1]
    rw [if_neg (by omega)]
    simp (disch := first | omega | (simp only [List.length_append, List.length_take, List.length_drop, List.length_nil, List.length_cons]; omega)) only [Option.bind_some, if_pos, wrap_nat, Int.toNat_natCast, List.nil_append]
  | j + 1, k, hj, hk, h => by
    obtain ⟨k, rfl⟩ : ∃ q, k = q + 1 := ⟨k - 1, by omega⟩
    have hw : wrap64 (((j + 1 : Nat) : Int) - 1) = (j : Int) := by unfold wrap64; omega
    simp only [spec_SetOf.l1]
    rw [if_pos (by omega), hw, if_pos (by omega), if_pos (by omega), if_pos (by omega), if_pos (by omega)]
    by_cases hc : rd out (j : Int) > rd l (n : Int)
    · rw [if_pos hc]
      obtain ⟨p, k', h1, h2, h3, h4, h5⟩ := spec_setof_l1 l out n hn hl ho j k (by omega) (by omega) (fun i hi hi2 => by
        by_cases e : i = j
        · subst e; exact hc
        · exact h i (by omega) hi2)
      exact ⟨p, k', h1, by omega, h3, h4, h5⟩
    · rw [if_neg hc]
      refine ⟨j + 1, k, hj, by omega, h, fun _ => by rw [Nat.add_sub_cancel]; omega, ?_⟩
      simp (disch := first | omega | (simp only [List.length_append, List.length_take, List.length_drop, List.length_nil, List.length_cons]; omega)) only [Option.bind_some, if_pos, wrap_nat, Int.toNat_natCast, List.nil_append]
theorem ins_asc (out : List Int) (x : Int) (p : Nat) (ha : Asc out) (hx : x ∉ out) (hp : p ≤ out.length) (h1 : ∀ i, p ≤ i → i < out.length → rd out (i : Int) > x) (h2 : 0 < p → rd out ((p - 1 : Nat) : Int) ≤ x) : Asc (out.take p ++ [x] ++ out.drop p) := by
  have low : ∀ y ∈ out.take p, y < x := by
    intro y hy
    obtain ⟨i, hi, e⟩ := (mem_at _ y).1 hy
    rw [List.length_take] at hi
    rw [rd_take out p i (by omega)] at e
    have hne : y ≠ x := fun e2 => hx (by rw [← e2]; exact List.mem_of_mem_take hy)
    have hle : rd out (i : Int) ≤ rd out ((p - 1 : Nat) : Int) := by
      by_cases ei : i = p - 1
      · rw [ei]; exact Int.le_refl _
      · exact Int.le_of_lt (asc_rd out ha i (p - 1) (by omega) (by omega))
    have := h2 (by omega)
    omega
  have high : ∀ y ∈ out.drop p, x < y := by
    intro y hy
    obtain ⟨i, hi, e⟩ := List.mem_iff_getElem.1 hy
    rw [List.getElem_drop] at e
    rw [List.length_drop] at hi
    have h3 := h1 (p + i) (by omega) (by omega)
    have h4 := rd_nat out (p + i) (by omega)
    rw [List.getElem?_eq_getElem (by omega)] at h4
    have h5 := Option.some.inj h4
    rw [← h5, e] at h3
    exact h3
  refine List.pairwise_append.2 ⟨List.pairwise_append.2 ⟨ha.sublist (List.take_sublist _ _), List.pairwise_singleton _ _, ?_⟩, ha.sublist (List.drop_sublist _ _), ?_⟩
  · intro a ha b hb
    rw [List.mem_singleton.1 hb]
    exact low a ha
  · intro a ha b hb
    rcases List.mem_append.1 ha with h | h
    · have := low a h
      have := high b hb
      omega
    · rw [List.mem_singleton.1 h]
      exact high b hb
theorem ins_mem (out : List Int) (x y : Int) (p : Nat) : y ∈ out.take p ++ [x] ++ out.drop p ↔ y ∈ out ∨ y = x := by
  have h := List.take_append_drop p out
  constructor
  · intro hy
    rcases List.mem_append.1 hy with hy | hy
    · rcases List.mem_append.1 hy with hy | hy
      · exact .inl (List.mem_of_mem_take hy)
      · exact .inr (List.mem_singleton.1 hy)
    · exact .inl (List.mem_of_mem_drop hy)
  · rintro (hy | rfl)
    · rw [← h] at hy
      rcases List.mem_append.1 hy with hy | hy
      · exact List.mem_append.2 (.inl (List.mem_append.2 (.inl hy)))
      · exact List.mem_append.2 (.inr hy)
    · exact List.mem_append.2 (.inl (List.mem_append.2 (.inr (List.mem_singleton.2 rfl))))
theorem spec_setof_l0 (l : List Int) (hl : l.length ≤ 17592186040000) : ∀ (d k n : Nat) (out : List Int), n + d = l.length → d * (l.length + 5) + l.length + 5 ≤ k → out.length ≤ n → Asc out → (∀ x, x ∈ out ↔ ∃ j : Nat, j < n ∧ rd l (j : Int) = x) → ∃ r, spec_SetOf.l0 k l out (n : Int) = some r ∧ Asc r ∧ ∀ x, x ∈ r ↔ x ∈ l
  | 0, k, n, out, hn, hk, ho, ha, hm => by
    obtain ⟨k, rfl⟩ : ∃ q, k = q + 1 := ⟨k - 1, by omega⟩
    simp only [spec_SetOf.l0]
    rw [if_neg (by omega)]
    refine ⟨out, rfl, ha, fun x => (hm x).trans ?_⟩
    rw [mem_at, show n = l.length from by omega]
  | d + 1, k, n, out, hn, hk, ho, ha, hm => by
    rw [Nat.succ_mul] at hk
    obtain ⟨k, rfl⟩ : ∃ q, k = q + 1 := ⟨k - 1, by omega⟩
    simp only [spec_SetOf.l0]
    rw [if_pos (by omega), if_pos (by omega), spec_has k out _ (by omega) (by omega)]
    simp only [Option.bind_some]
    by_cases hx : rd l (n : Int) ∈ out
    · rw [if_pos (decide_eq_true hx), wrap_nat n (by omega)]
      refine spec_setof_l0 l hl d k (n + 1) out (by omega) (by omega) (by omega) ha (fun x => (hm x).trans ?_)
      constructor
      · rintro ⟨j, hj, e⟩
        exact ⟨j, by omega, e⟩
      · rintro ⟨j, hj, e⟩
        by_cases ej : j = n
        · subst ej
          rw [← e]
          exact (hm _).1 hx
        · exact ⟨j, by omega, e⟩
    · rw [if_neg (by simpa using hx)]
      obtain ⟨p, k', h1, h2, h3, h4, h5⟩ := spec_setof_l1 l out n (by omega) (by omega) (by omega) out.length k (Nat.le_refl _) (by omega) (fun i hi hi2 => by omega)
      rw [h5]
      refine spec_setof_l0 l hl d k' (n + 1) _ (by omega) (by omega) ?_ (ins_asc out _ p ha hx h1 h3 h4) (fun x => (ins_mem out _ x p).trans ?_)
      · rw [List.length_append, List.length_append, List.length_take, List.length_drop, List.length_singleton]; omega
      · rw [hm]
        constructor
        · rintro (⟨j, hj, e⟩ | e)
          · exact ⟨j, by omega, e⟩
          · exact ⟨n, by omega, e.symm⟩
        · rintro ⟨j, hj, e⟩
          by_cases ej : j = n
          · subst ej; exact .inr e.symm
          · exact .inl ⟨j, by omega, e⟩
theorem spec_setof (k : Nat) (l : List Int) (hl : l.length ≤ 17592186040000) (hk : l.length * (l.length + 5) + l.length + 5 ≤ k) : spec_SetOf.f k l = some (setOf l) := by
  unfold spec_SetOf.f
  obtain ⟨r, hr, ha, hm⟩ := spec_setof_l0 l hl l.length k 0 [] (by omega) hk (Nat.le_refl _) List.Pairwise.nil (fun x => by
    constructor
    · intro h; exact absurd h (List.not_mem_nil)
    · rintro ⟨j, hj, _⟩; omega)
  rw [setOf_eq l r ha hm] at hr
  exact hr


theorem spec_setofN (k N : Nat) (l : List Int) (hl : l.length ≤ N) (hN : N ≤ 17592186040000) (hk : N * (N + 5) + N + 5 ≤ k) : spec_SetOf.f k l = some (setOf l) := by
  have := Nat.mul_le_mul hl (Nat.add_le_add_right hl 5)
  exact spec_setof k l (by omega) (by omega)
theorem drop_cons (l : List Int) (n : Nat) (h : n < l.length) : l.drop n = rd l (n : Int) :: l.drop (n + 1) := by
  have h1 := rd_nat l n h
  rw [List.getElem?_eq_getElem h] at h1
  rw [List.drop_eq_getElem_cons h, Option.some.inj h1]
/-- Of the elements of a those that are in b (f), or those that aren't. -/
def sel (a b : List Int) (f : Bool) : List Int := a.filter fun x => decide (x ∈ b) == f
theorem sel_length (a b : List Int) (f : Bool) : (sel a b f).length ≤ a.length := List.length_filter_le _ _
theorem sel_cons (x : Int) (a b : List Int) (f : Bool) : sel (x :: a) b f = (if (decide (x ∈ b) == f) = true then x :: sel a b f else sel a b f) := by
  unfold sel
  rw [List.filter_cons]


theorem FnExactUnion : laws_FnExactUnion.Pure := by
  intro a b _ _ _ _ _ _
  by_cases ha : (a.length : Int) > 1048576
  · exact ⟨0, by unfold laws_FnExactUnion.f; rw [if_pos ha]⟩
  by_cases hb : (b.length : Int) > 1048576
  · exact ⟨0, by unfold laws_FnExactUnion.f; rw [if_neg ha, if_pos hb]⟩
  have h1 := setOf_length (a ++ b)
  have h2 : (a ++ b).length = a.length + b.length := List.length_append
  obtain ⟨y, hy⟩ := markIntS_any 9000000000000 b (1 + (a.length : Int)) (by omega) (by omega) (by omega) (by omega)
  have hneg : (1 + (a.length : Int) + (b.length : Int) < 0) = False := eq_false (by omega)
  have hneg2 : (1 + ((setOf (a ++ b)).length : Int) < 0) = False := eq_false (by omega)
  have s1 : ∀ k, 4398060000000 < k → spec_Union.f k a b = some (setOf (a ++ b)) := fun k hk => by
    unfold spec_Union.f
    simp only [Option.bind_some, List.length_nil, List.nil_append]
    rw [if_pos (by omega), if_pos (by omega), spec_setofN k 2097152 (a ++ b) (by omega) (by omega) (by omega)]
    rfl
  have s2 : impl_Union.f a b = some (setOf (a ++ b)) := by
    unfold impl_Union.f
    rw [if_pos (by omega), impl_setof (a ++ b) (by omega)]
  refine ⟨9000000000000, ?_⟩
  unfold laws_FnExactUnion.f
  rw [if_neg ha, if_neg hb]
  simp (maxSteps := 10000000) (disch := omega) only [toIntS_f, s1, s2, Option.bind_some, eqIntS_same, if_true, markIntS_f, hy, hneg, hneg2, if_false, heldIntS_f]

end Go.Proofs.Ytfenclnejjbfjaa.Pure
