/- Whatever bytes it is handed, the law FnSetSums answers true: of drawn lists the program's Union, Meet, Rest and Within are the reference's; what is in both lists and what is in the first alone make up the first, what is in both is in each, each is in the union, and the sizes add up (for more than 2^20 bytes the law says nothing: it answers true). -/
import Derived.Test.YtfenclnejjbfjaaQFnSetSumsx5
namespace Go.Proofs.Ytfenclnejjbfjaa.Pure
open Go.RowKit Go.Proofs.Ytfenclnejjbfjaa.QFnSetSums Go.Proofs.YtfenclnejjbfjaaW.PrintWords Go.Proofs.YtfenclnejjbfjaaW.PrintLast
theorem wrap_nat (n : Nat) (h : n ≤ 4611686018427387904) : wrap64 ((n : Int) + 1) = ((n + 1 : Nat) : Int) := by unfold wrap64; omega
theorem rd_nat (l : List Int) (n : Nat) (h : n < l.length) : l[n]? = some (rd l (n : Int)) := by
  unfold rd
  rw [Int.toNat_natCast, List.getD_eq_getElem?_getD, List.getElem?_eq_getElem h]
  rfl
theorem ext_upto {α : Type} (a b : List α) (hl : a.length = b.length) (h : ∀ j, j < a.length → a[j]? = b[j]?) : a = b := by
  apply List.ext_getElem?
  intro j
  by_cases hj : j < a.length
  · exact h j hj
  · rw [List.getElem?_eq_none (by omega), List.getElem?_eq_none (by omega)]

theorem sameInts_l0 : ∀ (d k n : Nat) (a b : List Int), n + d = a.length → d < k → a.length = b.length → a.length ≤ 4611686018427387904 → (∀ j, j < n → a[j]? = b[j]?) → laws_sameInts.l0 k a b (n : Int) = some (decide (a = b))
  | 0, k, n, a, b, hn, hk, hl, hb, h => by
    obtain ⟨k, rfl⟩ : ∃ q, k = q + 1 := ⟨k - 1, by omega⟩
    simp only [laws_sameInts.l0]
    rw [if_neg (by omega), ext_upto a b hl (fun j hj => h j (by omega))]
    simp
  | d + 1, k, n, a, b, hn, hk, hl, hb, h => by
    obtain ⟨k, rfl⟩ : ∃ q, k = q + 1 := ⟨k - 1, by omega⟩
    simp only [laws_sameInts.l0]
    rw [if_pos (by omega), if_pos (by omega), if_pos (by omega)]
    by_cases e : rd a (n : Int) = rd b (n : Int)
    · rw [if_pos e, wrap_nat n (by omega)]
      refine sameInts_l0 d k (n + 1) a b (by omega) (by omega) hl hb (fun j hj => ?_)
      by_cases ej : j = n
      · subst ej
        rw [rd_nat a j (by omega), rd_nat b j (by omega), e]
      · exact h j (by omega)
    · rw [if_neg e, decide_eq_false]
      intro hab
      exact e (by rw [hab])
theorem sameInts_f (k : Nat) (a b : List Int) (hk : a.length < k) (hb : a.length ≤ 4611686018427387904) : laws_sameInts.f k a b = some (decide (a = b)) := by
  unfold laws_sameInts.f
  by_cases hl : (a.length : Int) = (b.length : Int)
  · rw [if_pos hl]
    exact sameInts_l0 a.length k 0 a b (by omega) hk (by omega) hb (fun j hj => by omega)
  · rw [if_neg hl, decide_eq_false]
    intro hab
    exact hl (by rw [hab])
theorem sameInts_same (k : Nat) (a : List Int) (hk : a.length < k) (hb : a.length ≤ 4611686018427387904) : laws_sameInts.f k a a = some true := by rw [sameInts_f k a a hk hb]; simp

theorem mem_at (l : List Int) (a : Int) : a ∈ l ↔ ∃ j : Nat, j < l.length ∧ rd l (j : Int) = a := by
  constructor
  · intro h
    obtain ⟨j, hj, rfl⟩ := List.mem_iff_getElem.1 h
    have := rd_nat l j hj
    rw [List.getElem?_eq_getElem hj] at this
    exact ⟨j, hj, (Option.some.inj this).symm⟩
  · rintro ⟨j, hj, rfl⟩
    exact List.mem_of_getElem? (rd_nat l j hj)
theorem spec_has_l0 : ∀ (d k n : Nat) (l : List Int) (a : Int), n + d = l.length → d < k → l.length ≤ 4611686018427387904 → (∀ j, j < n → rd l (j : Int) ≠ a) → spec_Has.l0 k l a (n : Int) = some (decide (a ∈ l))
  | 0, k, n, l, a, hn, hk, hb, h => by
    obtain ⟨k, rfl⟩ : ∃ q, k = q + 1 := ⟨k - 1, by omega⟩
    simp only [spec_Has.l0]
    rw [if_neg (by omega), decide_eq_false]
    intro hm
    obtain ⟨j, hj, e⟩ := (mem_at l a).1 hm
    exact h j (by omega) e
  | d + 1, k, n, l, a, hn, hk, hb, h => by
    obtain ⟨k, rfl⟩ : ∃ q, k = q + 1 := ⟨k - 1, by omega⟩
    simp only [spec_Has.l0]
    rw [if_pos (by omega), if_pos (by omega)]
    by_cases e : rd l (n : Int) = a
    · rw [if_pos e, decide_eq_true ((mem_at l a).2 ⟨n, by omega, e⟩)]
    · rw [if_neg e, wrap_nat n (by omega)]
      refine spec_has_l0 d k (n + 1) l a (by omega) (by omega) hb (fun j hj => ?_)
      by_cases ej : j = n
      · subst ej; exact e
      · exact h j (by omega)
theorem spec_has (k : Nat) (l : List Int) (a : Int) (hk : l.length < k) (hb : l.length ≤ 4611686018427387904) : spec_Has.f k l a = some (decide (a ∈ l)) := by
  unfold spec_Has.f
  exact spec_has_l0 l.length k 0 l a (by omega) hk hb (fun j hj => by omega)

/-- In order, each once. -/
def Asc (l : List Int) : Prop := l.Pairwise (· < ·)
theorem asc_ext : ∀ (a b : List Int), Asc a → Asc b → (∀ x, x ∈ a ↔ x ∈ b) → a = b
  | [], [], _, _, _ => rfl
  | [], y :: b, _, _, h => absurd ((h y).2 (List.mem_cons_self ..)) (List.not_mem_nil)
  | x :: a, [], _, _, h => absurd ((h x).1 (List.mem_cons_self ..)) (List.not_mem_nil)
  | x :: a, y :: b, ha, hb, h => by
    obtain ⟨ha1, ha2⟩ := List.pairwise_cons.1 ha
    obtain ⟨hb1, hb2⟩ := List.pairwise_cons.1 hb
    have e : x = y := by
      rcases List.mem_cons.1 ((h x).1 (List.mem_cons_self ..)) with h1 | h1
      · exact h1
      · rcases List.mem_cons.1 ((h y).2 (List.mem_cons_self ..)) with h2 | h2
        · exact h2.symm
        · have := ha1 y h2
          have := hb1 x h1
          omega
    subst e
    rw [asc_ext a b ha2 hb2]
    intro z
    constructor
    · intro hz
      rcases List.mem_cons.1 ((h z).1 (List.mem_cons_of_mem _ hz)) with h1 | h1
      · have := ha1 z hz; omega
      · exact h1
    · intro hz
      rcases List.mem_cons.1 ((h z).2 (List.mem_cons_of_mem _ hz)) with h1 | h1
      · have := hb1 z hz; omega
      · exact h1
open Go.Lib in
theorem cu_mem (d : Array Int) : ∀ (m : Nat) (x : Int), x ∈ compactUpTo d m ↔ ∃ j, j < m ∧ d[j]! = x
  | 0, x => by simp [compactUpTo]
  | m + 1, x => by
    rw [compactUpTo_succ, List.mem_append, cu_mem d m x]
    by_cases hk : keeps d m = true
    · rw [if_pos hk, List.mem_singleton]
      constructor
      · rintro (⟨j, hj, e⟩ | e)
        · exact ⟨j, by omega, e⟩
        · exact ⟨m, by omega, e.symm⟩
      · rintro ⟨j, hj, e⟩
        by_cases ej : j = m
        · subst ej; exact .inr e.symm
        · exact .inl ⟨j, by omega, e⟩
    · rw [if_neg hk]
      have hm : m ≠ 0 ∧ d[m]! = d[m - 1]! := by
        unfold keeps at hk
        simpa using hk
      constructor
      · rintro (⟨j, hj, e⟩ | e)
        · exact ⟨j, by omega, e⟩
        · exact absurd e (List.not_mem_nil)
      · rintro ⟨j, hj, e⟩
        by_cases ej : j = m
        · subst ej; exact .inl ⟨j - 1, by omega, by rw [← hm.2]; exact e⟩
        · exact .inl ⟨j, by omega, e⟩
open Go.Lib in
theorem cu_asc (d : Array Int) (n : Nat) (h : ∀ i j, i < j → j < n → d[i]! ≤ d[j]!) : ∀ m, m ≤ n → Asc (compactUpTo d m)
  | 0, _ => by
    have : compactUpTo d 0 = [] := by simp [compactUpTo]
    rw [this]
    exact List.Pairwise.nil
  | m + 1, hm => by
    rw [compactUpTo_succ]
    by_cases hk : keeps d m = true
    · rw [if_pos hk]
      refine List.pairwise_append.2 ⟨cu_asc d n h m (by omega), List.pairwise_singleton _ _, ?_⟩
      intro a ha b hb
      rw [List.mem_singleton.1 hb]
      obtain ⟨j, hj, rfl⟩ := (cu_mem d m a).1 ha
      have hne : m = 0 ∨ d[m]! ≠ d[m - 1]! := by
        unfold keeps at hk
        simpa using hk
      have h1 : d[m - 1]! ≤ d[m]! := h (m - 1) m (by omega) (by omega)
      have h2 : d[j]! ≤ d[m - 1]! := by
        by_cases ej : j = m - 1
        · rw [ej]; exact Int.le_refl _
        · exact h j (m - 1) (by omega) (by omega)
      have h3 : d[m]! ≠ d[m - 1]! := by
        rcases hne with h0 | h0
        · omega
        · exact h0
      omega
    · rw [if_neg hk, List.append_nil]
      exact cu_asc d n h m (by omega)
/-- The set of a list. -/
def setOf (l : List Int) : List Int := Go.Lib.compact (l.mergeSort fun x y => decide (x ≤ y))
theorem bang (l : List Int) (j : Nat) (h : j < l.length) : l.toArray[j]! = l[j] := by
  rw [getElem!_pos l.toArray j (by simpa using h)]
  simp
theorem setOf_mem (l : List Int) (x : Int) : x ∈ setOf l ↔ x ∈ l := by
  unfold setOf Go.Lib.compact
  rw [cu_mem, ← List.mem_mergeSort (le := fun x y => decide (x ≤ y))]
  generalize l.mergeSort (fun x y => decide (x ≤ y)) = s
  rw [List.mem_iff_getElem]
  constructor
  · rintro ⟨j, hj, e⟩
    exact ⟨j, hj, by rw [← bang s j hj]; exact e⟩
  · rintro ⟨j, hj, e⟩
    exact ⟨j, hj, by rw [bang s j hj]; exact e⟩
theorem setOf_asc (l : List Int) : Asc (setOf l) := by
  have hs : (l.mergeSort fun x y => decide (x ≤ y)).Pairwise (fun a b => decide (a ≤ b) = true) :=
    List.pairwise_mergeSort (fun a b c h1 h2 => by simp at *; omega) (fun a b => by simp; omega) l
  unfold setOf Go.Lib.compact
  generalize l.mergeSort (fun x y => decide (x ≤ y)) = s at hs
  refine cu_asc s.toArray s.length (fun i j hij hj => ?_) s.length (Nat.le_refl _)
  rw [bang s i (by omega), bang s j hj]
  have := List.pairwise_iff_getElem.1 hs i j (by omega) hj hij
  simpa using this
theorem setOf_length (l : List Int) : (setOf l).length ≤ l.length := by
  unfold setOf
  refine Nat.le_trans (Go.Lib.compact_length_le _) ?_
  rw [List.length_mergeSort]
  exact Nat.le_refl _
theorem setOf_self (l : List Int) (h : Asc l) : setOf l = l := asc_ext _ _ (setOf_asc l) h (setOf_mem l)
theorem setOf_eq (l s : List Int) (h : Asc s) (hm : ∀ x, x ∈ s ↔ x ∈ l) : s = setOf l := asc_ext _ _ h (setOf_asc l) (fun x => (hm x).trans (setOf_mem l x).symm)
theorem impl_setof (l : List Int) (h : l.length < 17592186044416) : impl_SetOf.f l = some (setOf l) := by
  unfold impl_SetOf.f setOf
  rw [if_pos h]

/-! ### The reference's set -/
theorem rd_take (l : List Int) (p i : Nat) (hi : i < p) : rd (l.take p) (i : Int) = rd l (i : Int) := by
  unfold rd
  rw [Int.toNat_natCast, List.getD_eq_getElem?_getD, List.getD_eq_getElem?_getD, List.getElem?_take_of_lt hi]
theorem asc_rd (l : List Int) (h : Asc l) (i j : Nat) (hij : i < j) (hj : j < l.length) : rd l (i : Int) < rd l (j : Int) := by
  have h1 := List.pairwise_iff_getElem.1 h i j (by omega) hj hij
  have e1 := rd_nat l i (by omega)
  have e2 := rd_nat l j hj
  rw [List.getElem?_eq_getElem (by omega)] at e1
  rw [List.getElem?_eq_getElem hj] at e2
  have e1 := Option.some.inj e1
  have e2 := Option.some.inj e2
  rw [← e1, ← e2]
  exact h1
theorem spec_setof_l1 (l out : List Int) (n : Nat) (hn : n < l.length) (hl : l.length ≤ 4611686018427387904) (ho : out.length ≤ 17592186044000) : ∀ (j k : Nat), j ≤ out.length → j + 1 ≤ k → (∀ i, j ≤ i → i < out.length → rd out (i : Int) > rd l (n : Int)) →
    ∃ (p k' : Nat), p ≤ out.length ∧ k ≤ k' + j + 1 ∧ (∀ i, p ≤ i → i < out.length → rd out (i : Int) > rd l (n : Int)) ∧ (0 < p → rd out ((p - 1 : Nat) : Int) ≤ rd l (n : Int)) ∧
      spec_SetOf.l1 k l out (n : Int) (j : Int) = spec_SetOf.l0 k' l (out.take p ++ [rd l (n : Int)] ++ out.drop p) ((n + 1 : Nat) : Int)
  | 0, k, hj, hk, h => by
    obtain ⟨k, rfl⟩ : ∃ q, k = q + 1 := ⟨k - 1, by omega⟩
    refine ⟨0, k, by omega, by omega, h, fun h0 => absurd h0 (by omega), ?_⟩
    simp only [spec_SetOf.l1]
    rw [if_neg (by omega)]
    simp (disch := first | omega | (simp only [List.length_append, List.length_take, List.length_drop, List.length_nil, List.length_cons]; omega)) only [Option.bind_some, if_pos, wrap_nat, Int.toNat_natCast, List.nil_append]
  | j + 1, k, hj, hk, h => by
    obtain ⟨k, rfl⟩ : ∃ q, k = q + 1 := ⟨k - 1, by omega⟩
    have hw : wrap64 (((j + 1 : Nat) : Int) - 1) = (j : Int) := by unfold wrap64; omega
    simp only [spec_SetOf.l1]
    rw [if_pos (by omega), hw, if_pos (by omega), if_pos (by omega), if_pos (by omega), if_pos (by omega)]
    by_cases hc : rd out (j : Int) > rd l (n : Int)
    · rw [if_pos hc]
      obtain ⟨p, k', h1, h2, h3, h4, h5⟩ := spec_setof_l1 l out n hn hl ho j k (by omega) (by omega) (fun i hi hi2 => by
        by_cases e : i = j
        · subst e; exact hc
        · exact h i (by omega) hi2)
      exact ⟨p, k', h1, by omega, h3, h4, h5⟩
    · rw [if_neg hc]
      refine ⟨j + 1, k, hj, by omega, h, fun _ => by rw [Nat.add_sub_cancel]; omega, ?_⟩
      simp (disch := first | omega | (simp only [List.length_append, List.length_take, List.length_drop, List.length_nil, List.length_cons]; omega)) only [Option.bind_some, if_pos, wrap_nat, Int.toNat_natCast, List.nil_append]
theorem ins_asc (out : List Int) (x : Int) (p : Nat) (ha : Asc out) (hx : x ∉ out) (hp : p ≤ out.length) (h1 : ∀ i, p ≤ i → i < out.length → rd out (i : Int) > x) (h2 : 0 < p → rd out ((p - 1 : Nat) : Int) ≤ x) : Asc (out.take p ++ [x] ++ out.drop p) := by
  have low : ∀ y ∈ out.take p, y < x := by
    intro y hy
    obtain ⟨i, hi, e⟩ := (mem_at _ y).1 hy
    rw [List.length_take] at hi
    rw [rd_take out p i (by omega)] at e
    have hne : y ≠ x := fun e2 => hx (by rw [← e2]; exact List.mem_of_mem_take hy)
    have hle : rd out (i : Int) ≤ rd out ((p - 1 : Nat) : Int) := by
      by_cases ei : i = p - 1
      · rw [ei]; exact Int.le_refl _
      · exact Int.le_of_lt (asc_rd out ha i (p - 1) (by omega) (by omega))
    have := h2 (by omega)
    omega
  have high : ∀ y ∈ out.drop p, x < y := by
    intro y hy
    obtain ⟨i, hi, e⟩ := List.mem_iff_getElem.1 hy
    rw [List.getElem_drop] at e
    rw [List.length_drop] at hi
    have h3 := h1 (p + i) (by omega) (by omega)
    have h4 := rd_nat out (p + i) (by omega)
    rw [List.getElem?_eq_getElem (by omega)] at h4
    have h5 := Option.some.inj h4
    rw [← h5, e] at h3
    exact h3
  refine List.pairwise_append.2 ⟨List.pairwise_append.2 ⟨ha.sublist (List.take_sublist _ _), List.pairwise_singleton _ _, ?_⟩, ha.sublist (List.drop_sublist _ _), ?_⟩
  · intro a ha b hb
    rw [List.mem_singleton.1 hb]
    exact low a ha
  · intro a ha b hb
    rcases List.mem_append.1 ha with h | h
    · have := low a h
      have := high b hb
      omega
    · rw [List.mem_singleton.1 h]
      exact high b hb
theorem ins_mem (out : List Int) (x y : Int) (p : Nat) : y ∈ out.take p ++ [x] ++ out.drop p ↔ y ∈ out ∨ y = x := by
  have h := List.take_append_drop p out
  constructor
  · intro hy
    rcases List.mem_append.1 hy with hy | hy
    · rcases List.mem_append.1 hy with hy | hy
      · exact .inl (List.mem_of_mem_take hy)
      · exact .inr (List.mem_singleton.1 hy)
    · exact .inl (List.mem_of_mem_drop hy)
  · rintro (hy | rfl)
    · rw [← h] at hy
      rcases List.mem_append.1 hy with hy | hy
      · exact List.mem_append.2 (.inl (List.mem_append.2 (.inl hy)))
      · exact List.mem_append.2 (.inr hy)
    · exact List.mem_append.2 (.inl (List.mem_append.2 (.inr (List.mem_singleton.2 rfl))))
theorem spec_setof_l0 (l : List Int) (hl : l.length ≤ 17592186040000) : ∀ (d k n : Nat) (out : List Int), n + d = l.length → d * (l.length + 5) + l.length + 5 ≤ k → out.length ≤ n → Asc out → (∀ x, x ∈ out ↔ ∃ j : Nat, j < n ∧ rd l (j : Int) = x) → ∃ r, spec_SetOf.l0 k l out (n : Int) = some r ∧ Asc r ∧ ∀ x, x ∈ r ↔ x ∈ l
  | 0, k, n, out, hn, hk, ho, ha, hm => by
    obtain ⟨k, rfl⟩ : ∃ q, k = q + 1 := ⟨k - 1, by omega⟩
    simp only [spec_SetOf.l0]
    rw [if_neg (by omega)]
    refine ⟨out, rfl, ha, fun x => (hm x).trans ?_⟩
    rw [mem_at, show n = l.length from by omega]
  | d + 1, k, n, out, hn, hk, ho, ha, hm => by
    rw [Nat.succ_mul] at hk
    obtain ⟨k, rfl⟩ : ∃ q, k = q + 1 := ⟨k - 1, by omega⟩
    simp only [spec_SetOf.l0]
    rw [if_pos (by omega), if_pos (by omega), spec_has k out _ (by omega) (by omega)]
    simp only [Option.bind_some]
    by_cases hx : rd l (n : Int) ∈ out
    · rw [if_pos (decide_eq_true hx), wrap_nat n (by omega)]
      refine spec_setof_l0 l hl d k (n + 1) out (by omega) (by omega) (by omega) ha (fun x => (hm x).trans ?_)
      constructor
      · rintro ⟨j, hj, e⟩
        exact ⟨j, by omega, e⟩
      · rintro ⟨j, hj, e⟩
        by_cases ej : j = n
        · subst ej
          rw [← e]
          exact (hm _).1 hx
        · exact ⟨j, by omega, e⟩
    · rw [if_neg (by simpa using hx)]
      obtain ⟨p, k', h1, h2, h3, h4, h5⟩ := spec_setof_l1 l out n (by omega) (by omega) (by omega) out.length k (Nat.le_refl _) (by omega) (fun i hi hi2 => by omega)
      rw [h5]
      refine spec_setof_l0 l hl d k' (n + 1) _ (by omega) (by omega) ?_ (ins_asc out _ p ha hx h1 h3 h4) (fun x => (ins_mem out _ x p).trans ?_)
      · rw [List.length_append, List.length_append, List.length_take, List.length_drop, List.length_singleton]; omega
      · rw [hm]
        constructor
        · rintro (⟨j, hj, e⟩ | e)
          · exact ⟨j, by omega, e⟩
          · exact ⟨n, by omega, e.symm⟩
        · rintro ⟨j, hj, e⟩
          by_cases ej : j = n
          · subst ej; exact .inr e.symm
          · exact .inl ⟨j, by omega, e⟩
theorem spec_setof (k : Nat) (l : List Int) (hl : l.length ≤ 17592186040000) (hk : l.length * (l.length + 5) + l.length + 5 ≤ k) : spec_SetOf.f k l = some (setOf l) := by
  unfold spec_SetOf.f
  obtain ⟨r, hr, ha, hm⟩ := spec_setof_l0 l hl l.length k 0 [] (by omega) hk (Nat.le_refl _) List.Pairwise.nil (fun x => by
    constructor
    · intro h; exact absurd h (List.not_mem_nil)
    · rintro ⟨j, hj, _⟩; omega)
  rw [setOf_eq l r ha hm] at hr
  exact hr


theorem spec_setofN (k N : Nat) (l : List Int) (hl : l.length ≤ N) (hN : N ≤ 17592186040000) (hk : N * (N + 5) + N + 5 ≤ k) : spec_SetOf.f k l = some (setOf l) := by
  have := Nat.mul_le_mul hl (Nat.add_le_add_right hl 5)
  exact spec_setof k l (by omega) (by omega)
theorem drop_cons (l : List Int) (n : Nat) (h : n < l.length) : l.drop n = rd l (n : Int) :: l.drop (n + 1) := by
  have h1 := rd_nat l n h
  rw [List.getElem?_eq_getElem h] at h1
  rw [List.drop_eq_getElem_cons h, Option.some.inj h1]
/-- Of the elements of a those that are in b (f), or those that aren't. -/
def sel (a b : List Int) (f : Bool) : List Int := a.filter fun x => decide (x ∈ b) == f
theorem sel_length (a b : List Int) (f : Bool) : (sel a b f).length ≤ a.length := List.length_filter_le _ _
theorem sel_cons (x : Int) (a b : List Int) (f : Bool) : sel (x :: a) b f = (if (decide (x ∈ b) == f) = true then x :: sel a b f else sel a b f) := by
  unfold sel
  rw [List.filter_cons]


theorem index_l0 : ∀ (d k n : Nat) (l : List Int) (a : Int), n + d = l.length → d < k → l.length ≤ 4611686018427387904 → (∀ j, j < n → rd l (j : Int) ≠ a) → ∃ r, slices_Index_int_int.l0 k l a (l.length : Int) (n : Int) = some r ∧ (decide (r ≥ 0)) = (decide (a ∈ l))
  | 0, k, n, l, a, hn, hk, hb, h => by
    obtain ⟨k, rfl⟩ : ∃ q, k = q + 1 := ⟨k - 1, by omega⟩
    simp only [slices_Index_int_int.l0]
    rw [if_neg (by omega)]
    refine ⟨-1, rfl, ?_⟩
    rw [decide_eq_false (by omega), decide_eq_false]
    intro hm
    obtain ⟨j, hj, e⟩ := (mem_at l a).1 hm
    exact h j (by omega) e
  | d + 1, k, n, l, a, hn, hk, hb, h => by
    obtain ⟨k, rfl⟩ : ∃ q, k = q + 1 := ⟨k - 1, by omega⟩
    simp only [slices_Index_int_int.l0]
    rw [if_pos (by omega), if_pos (by omega), if_pos (by omega)]
    by_cases e : a = rd l (n : Int)
    · rw [if_pos e]
      exact ⟨_, rfl, by rw [decide_eq_true (by omega), decide_eq_true ((mem_at l a).2 ⟨n, by omega, e.symm⟩)]⟩
    · rw [if_neg e, wrap_nat n (by omega)]
      refine index_l0 d k (n + 1) l a (by omega) (by omega) hb (fun j hj => ?_)
      by_cases ej : j = n
      · subst ej; exact fun hh => e hh.symm
      · exact h j (by omega)
theorem impl_has (k : Nat) (l : List Int) (a : Int) (hk : l.length < k) (hb : l.length ≤ 4611686018427387904) : impl_Has.f k l a = some (decide (a ∈ l)) := by
  obtain ⟨r, hr, he⟩ := index_l0 l.length k 0 l a (by omega) hk hb (fun j hj => by omega)
  unfold impl_Has.f slices_Contains_int_int.f slices_Index_int_int.f
  rw [show ((0 : Int)) = ((0 : Nat) : Int) from rfl, hr]
  simp only [Option.bind_some]
  exact congrArg some he

theorem impl_chosen_l0 (a b : List Int) (f : Bool) (N : Nat) (hN : N ≤ 17592186040000) (ha : a.length ≤ N) (hb : b.length ≤ N) : ∀ (d k n : Nat) (out : List Int), n + d = a.length → d + b.length + 1 < k → out.length ≤ n → impl_chosen.l0 k b f out a (a.length : Int) (n : Int) = some (setOf (out ++ sel (a.drop n) b f))
  | 0, k, n, out, hn, hk, ho => by
    obtain ⟨k, rfl⟩ : ∃ q, k = q + 1 := ⟨k - 1, by omega⟩
    simp only [impl_chosen.l0]
    rw [if_neg (by omega), List.drop_eq_nil_of_le (by omega), impl_setof out (by omega)]
    simp [sel]
  | d + 1, k, n, out, hn, hk, ho => by
    obtain ⟨k, rfl⟩ : ∃ q, k = q + 1 := ⟨k - 1, by omega⟩
    simp only [impl_chosen.l0]
    rw [if_pos (by omega), if_pos (by omega), if_pos (by omega), impl_has k b _ (by omega) (by omega), wrap_nat n (by omega), drop_cons a n (by omega), sel_cons]
    simp only [Option.bind_some]
    by_cases h : (decide (rd a (n : Int) ∈ b) == f) = true
    · rw [if_pos h, if_pos h, if_pos (by omega), impl_chosen_l0 a b f N hN ha hb d k (n + 1) _ (by omega) (by omega) (by rw [List.length_append, List.length_singleton]; omega), List.append_assoc]
      rfl
    · rw [if_neg h, if_neg h, impl_chosen_l0 a b f N hN ha hb d k (n + 1) out (by omega) (by omega) (by omega)]
theorem impl_chosen_f (k N : Nat) (a b : List Int) (f : Bool) (hN : N ≤ 17592186040000) (ha : a.length ≤ N) (hb : b.length ≤ N) (hk : 2 * N + 1 < k) : impl_chosen.f k a b f = some (setOf (sel a b f)) := by
  unfold impl_chosen.f
  exact impl_chosen_l0 a b f N hN ha hb a.length k 0 [] (by omega) (by omega) (Nat.le_refl _)

theorem impl_within (k N : Nat) (a b : List Int) (hN : N ≤ 17592186040000) (ha : a.length ≤ N) (hb : b.length ≤ N) (hk : 2 * N + 1 < k) : impl_Within.f k a b = some (decide (sel a b false = [])) := by
  unfold impl_Within.f impl_Rest.f
  rw [impl_chosen_f k N a b false hN ha hb hk]
  simp only [Option.bind_some]
  congr 1
  by_cases h : sel a b false = []
  · rw [h, decide_eq_true rfl]
    have : setOf [] = [] := setOf_self [] List.Pairwise.nil
    rw [this]
    rfl
  · rw [decide_eq_false h]
    have : (setOf (sel a b false)) ≠ [] := by
      intro e
      obtain ⟨x, hx⟩ := List.exists_mem_of_ne_nil _ h
      have := (setOf_mem _ x).2 hx
      rw [e] at this
      exact absurd this (List.not_mem_nil)
    have : (setOf (sel a b false)).length ≠ 0 := fun e => this (List.eq_nil_of_length_eq_zero e)
    rw [beq_eq_false_iff_ne]
    omega

theorem sel_mem (x : Int) (a b : List Int) (f : Bool) : x ∈ sel a b f ↔ x ∈ a ∧ decide (x ∈ b) = f := by
  unfold sel
  rw [List.mem_filter]
  simp
theorem setOf_congr (a b : List Int) (h : ∀ x, x ∈ a ↔ x ∈ b) : setOf a = setOf b := asc_ext _ _ (setOf_asc a) (setOf_asc b) (fun x => by rw [setOf_mem, setOf_mem]; exact h x)
theorem within_iff (a b : List Int) : sel a b false = [] ↔ ∀ x ∈ a, x ∈ b := by
  constructor
  · intro h x hx
    by_cases hb : x ∈ b
    · exact hb
    · have := (sel_mem x a b false).2 ⟨hx, decide_eq_false hb⟩
      rw [h] at this
      exact absurd this (List.not_mem_nil)
  · intro h
    apply List.eq_nil_iff_forall_not_mem.2
    intro x hx
    obtain ⟨h1, h2⟩ := (sel_mem x a b false).1 hx
    exact of_decide_eq_false h2 (h x h1)

theorem spec_Meet_l0 (a b : List Int) (N : Nat) (hN : N ≤ 17592186040000) (ha : a.length ≤ N) (hb : b.length ≤ 4611686018427387904) : ∀ (d k n : Nat) (out : List Int), n + d = a.length → d + b.length + N * (N + 5) + N + 5 < k → out.length ≤ n → spec_Meet.l0 k a b out (n : Int) = some (setOf (out ++ sel (a.drop n) b true))
  | 0, k, n, out, hn, hk, ho => by
    obtain ⟨k, rfl⟩ : ∃ q, k = q + 1 := ⟨k - 1, by omega⟩
    simp only [spec_Meet.l0]
    rw [if_neg (by omega), List.drop_eq_nil_of_le (by omega), spec_setofN k N out (by omega) hN (by omega)]
    simp [sel]
  | d + 1, k, n, out, hn, hk, ho => by
    obtain ⟨k, rfl⟩ : ∃ q, k = q + 1 := ⟨k - 1, by omega⟩
    simp only [spec_Meet.l0]
    rw [if_pos (by omega), if_pos (by omega), spec_has k b _ (by omega) hb, wrap_nat n (by omega), drop_cons a n (by omega), sel_cons]
    simp only [Option.bind_some]
    by_cases h : rd a (n : Int) ∈ b
    · rw [if_pos (decide_eq_true h), decide_eq_true h]
      rw [if_pos (by omega), if_pos (by decide), spec_Meet_l0 a b N hN ha hb d k (n + 1) (out ++ [rd a (n : Int)]) (by omega) (by omega) (by rw [List.length_append, List.length_singleton]; omega), List.append_assoc, List.singleton_append]
    · rw [if_neg (by simpa using h), decide_eq_false h]
      rw [if_neg (by decide), spec_Meet_l0 a b N hN ha hb d k (n + 1) out (by omega) (by omega) (by omega)]
theorem spec_Meet_f (k N : Nat) (a b : List Int) (hN : N ≤ 17592186040000) (ha : a.length ≤ N) (hb : b.length ≤ N) (hk : 2 * N + N * (N + 5) + N + 5 < k) : spec_Meet.f k a b = some (setOf (sel a b true)) := by
  unfold spec_Meet.f
  exact spec_Meet_l0 a b N hN ha (by omega) a.length k 0 [] (by omega) (by omega) (Nat.le_refl _)

theorem spec_Rest_l0 (a b : List Int) (N : Nat) (hN : N ≤ 17592186040000) (ha : a.length ≤ N) (hb : b.length ≤ 4611686018427387904) : ∀ (d k n : Nat) (out : List Int), n + d = a.length → d + b.length + N * (N + 5) + N + 5 < k → out.length ≤ n → spec_Rest.l0 k a b out (n : Int) = some (setOf (out ++ sel (a.drop n) b false))
  | 0, k, n, out, hn, hk, ho => by
    obtain ⟨k, rfl⟩ : ∃ q, k = q + 1 := ⟨k - 1, by omega⟩
    simp only [spec_Rest.l0]
    rw [if_neg (by omega), List.drop_eq_nil_of_le (by omega), spec_setofN k N out (by omega) hN (by omega)]
    simp [sel]
  | d + 1, k, n, out, hn, hk, ho => by
    obtain ⟨k, rfl⟩ : ∃ q, k = q + 1 := ⟨k - 1, by omega⟩
    simp only [spec_Rest.l0]
    rw [if_pos (by omega), if_pos (by omega), spec_has k b _ (by omega) hb, wrap_nat n (by omega), drop_cons a n (by omega), sel_cons]
    simp only [Option.bind_some]
    by_cases h : rd a (n : Int) ∈ b
    · rw [if_pos (decide_eq_true h), decide_eq_true h]
      rw [if_neg (by decide), spec_Rest_l0 a b N hN ha hb d k (n + 1) out (by omega) (by omega) (by omega)]
    · rw [if_neg (by simpa using h), decide_eq_false h]
      rw [if_pos (by omega), if_pos (by decide), spec_Rest_l0 a b N hN ha hb d k (n + 1) (out ++ [rd a (n : Int)]) (by omega) (by omega) (by rw [List.length_append, List.length_singleton]; omega), List.append_assoc, List.singleton_append]
theorem spec_Rest_f (k N : Nat) (a b : List Int) (hN : N ≤ 17592186040000) (ha : a.length ≤ N) (hb : b.length ≤ N) (hk : 2 * N + N * (N + 5) + N + 5 < k) : spec_Rest.f k a b = some (setOf (sel a b false)) := by
  unfold spec_Rest.f
  exact spec_Rest_l0 a b N hN ha (by omega) a.length k 0 [] (by omega) (by omega) (Nat.le_refl _)

theorem spec_within_l0 (a b : List Int) (N : Nat) (hN : N ≤ 17592186040000) (ha : a.length ≤ N) (hb : b.length ≤ N) : ∀ (d k n : Nat), n + d = a.length → d + b.length + 1 < k → spec_Within.l0 k a b (n : Int) = some (decide (sel (a.drop n) b false = []))
  | 0, k, n, hn, hk => by
    obtain ⟨k, rfl⟩ : ∃ q, k = q + 1 := ⟨k - 1, by omega⟩
    simp only [spec_Within.l0]
    rw [if_neg (by omega), List.drop_eq_nil_of_le (by omega)]
    rfl
  | d + 1, k, n, hn, hk => by
    obtain ⟨k, rfl⟩ : ∃ q, k = q + 1 := ⟨k - 1, by omega⟩
    simp only [spec_Within.l0]
    rw [if_pos (by omega), if_pos (by omega), spec_has k b _ (by omega) (by omega), wrap_nat n (by omega), drop_cons a n (by omega), sel_cons]
    simp only [Option.bind_some]
    by_cases h : rd a (n : Int) ∈ b
    · rw [if_pos (decide_eq_true h), decide_eq_true h, if_neg (by decide), spec_within_l0 a b N hN ha hb d k (n + 1) (by omega) (by omega)]
    · rw [if_neg (by simpa using h), decide_eq_false h, if_pos (by decide)]
      simp

theorem and_bound (x : Int) (m : Nat) (hm : m < 4611686018427387904) : 0 ≤ Go.bits .and .i64 x (m : Int) ∧ Go.bits .and .i64 x (m : Int) ≤ (m : Int) := by
  have h : ((BitVec.ofInt 64 x) &&& (BitVec.ofInt 64 (m : Int))).toNat ≤ m := by
    rw [BitVec.toNat_and, BitVec.ofInt_natCast, BitVec.toNat_ofNat, Nat.mod_eq_of_lt (by omega)]
    exact Nat.and_le_right
  show 0 ≤ IntKind.i64.wrap ((((BitVec.ofInt 64 x) &&& (BitVec.ofInt 64 (m : Int))).toNat : Nat) : Int) ∧ IntKind.i64.wrap ((((BitVec.ofInt 64 x) &&& (BitVec.ofInt 64 (m : Int))).toNat : Nat) : Int) ≤ (m : Int)
  generalize ((BitVec.ofInt 64 x) &&& (BitVec.ofInt 64 (m : Int))).toNat = q at *
  rw [IntKind.wrap_i64]
  omega
theorem and_byte (x : Int) : 0 ≤ Go.bits .and .i64 x 255 ∧ Go.bits .and .i64 x 255 ≤ 255 := and_bound x 255 (by decide)
/-- A place of the reader: within the bytes. -/
def At (b : List Int) (i : Int) : Prop := 0 ≤ i ∧ i ≤ (b.length : Int)
theorem draw_byte (b : List Int) (i h : Int) (hb : b.length ≤ 1048576) (hi : At b i) : ∃ v i' h', spec_l1Byte.f b i h = some (v, i', h') ∧ (0 ≤ v ∧ v ≤ 255) ∧ At b i' := by
  unfold spec_l1Byte.f
  unfold At at *
  by_cases h1 : i < (b.length : Int)
  · rw [if_pos h1, if_pos hi.1]
    exact ⟨_, _, _, rfl, and_byte _, by unfold wrap64; omega⟩
  · rw [if_neg h1]
    exact ⟨_, _, _, rfl, and_byte _, by omega⟩
theorem draw_below (b : List Int) (i h n : Int) (hb : b.length ≤ 1048576) (hi : At b i) (hn : n ≤ 65536) : ∃ v i' h', spec_l1Below.f b i h n = some (v, i', h') ∧ (0 ≤ v ∧ (0 < n → v < n) ∧ (n ≤ 0 → v = 0)) ∧ At b i' := by
  unfold spec_l1Below.f
  by_cases h0 : n ≤ 0
  · rw [if_pos h0]
    exact ⟨_, _, _, rfl, ⟨by omega, by omega, by omega⟩, hi⟩
  · rw [if_neg h0]
    by_cases h1 : n ≤ 256
    · rw [if_pos h1]
      obtain ⟨v, i', h', hv, hr, hi'⟩ := draw_byte b i h hb hi
      rw [hv]
      simp only [Option.bind_some]
      rw [if_neg (by omega), Int.tmod_eq_emod_of_nonneg hr.1]
      exact ⟨_, _, _, rfl, ⟨Int.emod_nonneg _ (by omega), fun _ => Int.emod_lt_of_pos _ (by omega), by omega⟩, hi'⟩
    · rw [if_neg h1]
      obtain ⟨v, i1, h1', hv, hr, hi1⟩ := draw_byte b i h hb hi
      rw [hv]
      simp only [Option.bind_some]
      obtain ⟨v2, i2, h2', hv2, hr2, hi2⟩ := draw_byte b i1 h1' hb hi1
      rw [hv2]
      simp only [Option.bind_some]
      obtain ⟨v3, i3, h3', hv3, hr3, hi3⟩ := draw_byte b i2 h2' hb hi2
      rw [hv3]
      simp only [Option.bind_some]
      have hp : 0 ≤ wrap64 ((wrap64 ((wrap64 (v * 65536)) + (wrap64 (v2 * 256)))) + v3) := by unfold wrap64; omega
      rw [if_neg (by omega), Int.tmod_eq_emod_of_nonneg hp]
      exact ⟨_, _, _, rfl, ⟨Int.emod_nonneg _ (by omega), fun _ => Int.emod_lt_of_pos _ (by omega), by omega⟩, hi3⟩
theorem draw_new_l0 : ∀ (d k : Nat) (b : List Int) (h i : Int), (b.length : Int) - i = (d : Int) → 0 ≤ i → d < k → b.length ≤ 1048576 → ∃ h', spec_l1New.l0 k b h i = some (b, 0, h')
  | 0, k, b, h, i, hd, hi, hk, hb => by
    obtain ⟨k, rfl⟩ : ∃ q, k = q + 1 := ⟨k - 1, by omega⟩
    simp only [spec_l1New.l0]
    rw [if_neg (by omega)]
    exact ⟨_, rfl⟩
  | d + 1, k, b, h, i, hd, hi, hk, hb => by
    obtain ⟨k, rfl⟩ : ∃ q, k = q + 1 := ⟨k - 1, by omega⟩
    simp only [spec_l1New.l0]
    rw [if_pos (by omega)]
    by_cases h4 : i < 4000
    · rw [if_pos h4, if_pos hi]
      have hw : wrap64 (i + 1) = i + 1 := by unfold wrap64; omega
      rw [hw]
      exact draw_new_l0 d k b _ (i + 1) (by omega) (by omega) (by omega) hb
    · rw [if_neg h4]
      exact ⟨_, rfl⟩
theorem draw_new (k : Nat) (b : List Int) (hk : b.length < k) (hb : b.length ≤ 1048576) : ∃ h', spec_l1New.f k b = some (b, 0, h') := by
  unfold spec_l1New.f
  exact draw_new_l0 b.length k b _ 0 (by omega) (by omega) hk hb
theorem at_zero (b : List Int) : At b 0 := ⟨by omega, by omega⟩

theorem draw_once (b : List Int) (i h n : Int) (hb : b.length ≤ 1048576) (hi : At b i) (hn : n ≤ 65536) : ∃ v i' h', spec_l1Once.f b i h n = some (v, i', h') ∧ At b i' := by
  obtain ⟨v, i', h', hv, hr, hi'⟩ := draw_below b i h n hb hi hn
  unfold spec_l1Once.f
  rw [hv]
  exact ⟨_, _, _, rfl, hi'⟩

theorem draw_3_l0 : ∀ (d k : Nat) (b acc : List Int) (i h : Int), d < k → d ≤ 1000 → acc.length + d ≤ 1000 → b.length ≤ 1048576 → At b i → ∃ l i' h', spec_l3Draw.l0 k acc (d : Int) b i h = some (l, i', h') ∧ l.length = acc.length + d ∧ At b i'
  | 0, k, b, acc, i, h, hk, hd, ha, hb, hi => by
    obtain ⟨k, rfl⟩ : ∃ q, k = q + 1 := ⟨k - 1, by omega⟩
    simp only [spec_l3Draw.l0]
    rw [if_neg (by omega)]
    exact ⟨_, _, _, rfl, rfl, hi⟩
  | d + 1, k, b, acc, i, h, hk, hd, ha, hb, hi => by
    obtain ⟨k, rfl⟩ : ∃ q, k = q + 1 := ⟨k - 1, by omega⟩
    obtain ⟨v, i1, h1, hv, hr, hi1⟩ := draw_below b i h 6 hb hi (by decide)
    simp only [spec_l3Draw.l0]
    have hw : wrap64 (((d + 1 : Nat) : Int) - 1) = (d : Int) := by unfold wrap64; omega
    rw [if_pos (by omega), hv]
    simp only [Option.bind_some]
    rw [if_pos (by omega), hw]
    obtain ⟨l, i2, h2, hl, hn, hi2⟩ := draw_3_l0 d k b (acc ++ [wrap64 (v - 1)]) i1 h1 (by omega) (by omega) (by rw [List.length_append, List.length_singleton]; omega) hb hi1
    refine ⟨l, i2, h2, hl, ?_, hi2⟩
    rw [hn, List.length_append, List.length_singleton]
    omega
theorem draw_3 (k : Nat) (b : List Int) (i h : Int) (hk : 10 ≤ k) (hb : b.length ≤ 1048576) (hi : At b i) : ∃ l i' h', spec_l3Draw.f k b i h = some (l, i', h') ∧ l.length ≤ 6 ∧ At b i' := by
  obtain ⟨v, i1, h1, hv, hr, hi1⟩ := draw_below b i h 7 hb hi (by decide)
  have h2 := hr.2.1 (by decide)
  obtain ⟨d, rfl⟩ : ∃ d : Nat, v = (d : Int) := ⟨v.toNat, by omega⟩
  unfold spec_l3Draw.f
  rw [hv]
  simp only [Option.bind_some]
  obtain ⟨l, i2, h2, hl, hn, hi2⟩ := draw_3_l0 d k b [] i1 h1 (by omega) (by omega) (by simp only [List.length_nil]; omega) hb hi1
  exact ⟨l, i2, h2, hl, by simp only [List.length_nil] at hn; omega, hi2⟩

theorem asc_nodup (l : List Int) (h : Asc l) : l.Nodup := List.Pairwise.imp (fun h => by omega) h
theorem count_union (a b : List Int) : (setOf (a ++ b)).length + (setOf (sel a b true)).length = (setOf a).length + (setOf b).length := by
  have p1 : (setOf (a ++ b)).Perm (setOf a ++ (setOf b).filter (fun x => !decide (x ∈ a))) := by
    refine (List.perm_ext_iff_of_nodup (asc_nodup _ (setOf_asc _)) ?_).2 (fun x => ?_)
    · refine List.nodup_append.2 ⟨asc_nodup _ (setOf_asc _), (asc_nodup _ (setOf_asc _)).filter _, ?_⟩
      intro x hx y hy e
      subst e
      have := (List.mem_filter.1 hy).2
      have h2 := (setOf_mem a x).1 hx
      simp [h2] at this
    · rw [setOf_mem, List.mem_append, List.mem_append, List.mem_filter, setOf_mem, setOf_mem]
      by_cases h : x ∈ a <;> simp [h]
  have p2 : (setOf (sel a b true)).Perm ((setOf b).filter (fun x => decide (x ∈ a))) := by
    refine (List.perm_ext_iff_of_nodup (asc_nodup _ (setOf_asc _)) ((asc_nodup _ (setOf_asc _)).filter _)).2 (fun x => ?_)
    rw [setOf_mem, sel_mem, List.mem_filter, setOf_mem]
    by_cases h : x ∈ a <;> by_cases h2 : x ∈ b <;> simp [h, h2]
  have p3 := (List.filter_append_perm (fun x => decide (x ∈ a)) (setOf b)).length_eq
  rw [p1.length_eq, p2.length_eq, List.length_append]
  rw [List.length_append] at p3
  omega
theorem meet_self (c d : List Int) : decide (setOf (sel c d true) = setOf c) = decide (sel c d false = []) := by
  by_cases h : sel c d false = []
  · rw [decide_eq_true h, decide_eq_true]
    have := (within_iff c d).1 h
    refine setOf_congr _ _ (fun x => ?_)
    rw [sel_mem]
    exact ⟨fun h => h.1, fun h => ⟨h, decide_eq_true (this x h)⟩⟩
  · rw [decide_eq_false h, decide_eq_false]
    intro e
    refine h ((within_iff c d).2 (fun x hx => ?_))
    have h1 := (setOf_mem c x).2 hx
    rw [← e, setOf_mem, sel_mem] at h1
    exact of_decide_eq_true h1.2
theorem wr2 (x y z : Nat) (hx : x ≤ 1000) (hy : y ≤ 1000) (hz : z ≤ 1000) : wrap64 ((wrap64 ((x : Int) + (y : Int))) - (z : Int)) = (x : Int) + (y : Int) - (z : Int) := by unfold wrap64; omega
theorem bind_of {α β : Type} {x : Option α} {v : α} {f : α → Option β} {r : Option β} (h : x = some v) (h2 : f v = r) : x.bind f = r := by rw [h]; exact h2
theorem ite_of {α : Type} {c : Prop} [Decidable c] {a b r : α} (hc : c) (h : a = r) : (if c then a else b) = r := by rw [if_pos hc]; exact h
theorem ite_no {α : Type} {c : Prop} [Decidable c] {a b r : α} (hc : ¬ c) (h : b = r) : (if c then a else b) = r := by rw [if_neg hc]; exact h
theorem FnSetSums : laws_FnSetSums.Pure := by
  intro l _ _ _
  by_cases hb : (l.length : Int) > 1048576
  · refine ⟨0, ?_⟩
    unfold laws_FnSetSums.f laws_big.f
    simp only [Option.bind_some]
    rw [if_pos (by simpa using hb)]
  have hb' : l.length ≤ 1048576 := by omega
  obtain ⟨k, hk⟩ : ∃ k : Nat, k = l.length + 2000000 := ⟨_, rfl⟩
  refine ⟨k, ?_⟩
  obtain ⟨h0, hnew⟩ := draw_new k l (by omega) hb'
  obtain ⟨a, i1, h1, ha, hal, hi1⟩ := draw_3 k l 0 h0 (by omega) hb' (at_zero l)
  obtain ⟨b, i2, h2, hbd, hbl, hi2⟩ := draw_3 k l i1 h1 (by omega) hb' hi1
  have hM : spec_DrawMeet.f k l = some (a, b) := by
    unfold spec_DrawMeet.f
    rw [hnew]
    simp only [Option.bind_some]
    rw [ha]
    simp only [Option.bind_some]
    rw [hbd]
    rfl
  obtain ⟨c, d, hW, hcl, hdl⟩ : ∃ c d, spec_DrawWithin.f k l = some (c, d) ∧ c.length ≤ 100 ∧ d.length ≤ 100 := by
    obtain ⟨o, i3, h3, ho, hi3⟩ := draw_once l i1 h1 2 hb' hi1 (by decide)
    obtain ⟨e, i4, h4, he, hel, hi4⟩ := draw_3 k l i3 h3 (by omega) hb' hi3
    unfold spec_DrawWithin.f
    rw [hnew]
    simp only [Option.bind_some]
    rw [ha]
    simp only [Option.bind_some]
    rw [ho]
    simp only [Option.bind_some]
    have q1 := setOf_length (sel a e true)
    have q2 := sel_length a e true
    cases o with
    | true =>
      rw [if_pos rfl, he]
      simp only [Option.bind_some]
      rw [spec_Meet_f k 900 a e (by omega) (by omega) (by omega) (by omega)]
      exact ⟨setOf (sel a e true), a, rfl, by omega, by omega⟩
    | false =>
      rw [if_neg (by decide), he]
      exact ⟨a, e, rfl, by omega, by omega⟩
  have L1 := setOf_length (a ++ b)
  have L2 : (a ++ b).length = a.length + b.length := List.length_append
  have L3 := setOf_length (sel a b true)
  have L4 := sel_length a b true
  have L5 := setOf_length (sel a b false)
  have L6 := sel_length a b false
  have L7 := setOf_length a
  have L8 := setOf_length b
  have L9 := setOf_length c
  have L10 := setOf_length (sel c d true)
  have L11 := sel_length c d true
  have N1 := count_union a b
  obtain ⟨u, hu⟩ : ∃ u, u = setOf (a ++ b) := ⟨_, rfl⟩
  obtain ⟨m, hm⟩ : ∃ m, m = setOf (sel a b true) := ⟨_, rfl⟩
  obtain ⟨r, hr⟩ : ∃ r, r = setOf (sel a b false) := ⟨_, rfl⟩
  have U1 : impl_Union.f a b = some u := by
    unfold impl_Union.f
    rw [if_pos (by omega), impl_setof (a ++ b) (by omega), hu]
  have U2 : spec_Union.f k a b = some u := by
    unfold spec_Union.f
    simp only [Option.bind_some, List.length_nil, List.nil_append]
    rw [if_pos (by omega), if_pos (by omega), spec_setofN k 900 (a ++ b) (by omega) (by omega) (by omega), hu]
    rfl
  have M1 : ∀ x y : List Int, x.length ≤ 900 → y.length ≤ 900 → impl_Meet.f k x y = some (setOf (sel x y true)) := fun x y hx hy => by
    unfold impl_Meet.f
    rw [impl_chosen_f k 900 x y true (by omega) hx hy (by omega)]
    rfl
  have R1 : impl_Rest.f k a b = some r := by
    unfold impl_Rest.f
    rw [impl_chosen_f k 900 a b false (by omega) (by omega) (by omega) (by omega), hr]
    rfl
  have M2 : spec_Meet.f k a b = some m := by rw [spec_Meet_f k 900 a b (by omega) (by omega) (by omega) (by omega), hm]
  have R2 : spec_Rest.f k a b = some r := by rw [spec_Rest_f k 900 a b (by omega) (by omega) (by omega) (by omega), hr]
  have W1 : ∀ x y : List Int, x.length ≤ 900 → y.length ≤ 900 → impl_Within.f k x y = some (decide (sel x y false = [])) := fun x y hx hy => impl_within k 900 x y (by omega) hx hy (by omega)
  have W2 : spec_Within.f k c d = some (decide (sel c d false = [])) := by
    unfold spec_Within.f
    exact spec_within_l0 c d 900 (by omega) (by omega) (by omega) c.length k 0 (by omega) (by omega)
  have U3 : impl_Union.f m r = some (setOf a) := by
    have q : (m ++ r).length = m.length + r.length := List.length_append
    subst hm
    subst hr
    unfold impl_Union.f
    rw [if_pos (by omega), impl_setof _ (by omega)]
    congr 1
    refine setOf_congr _ _ (fun x => ?_)
    rw [List.mem_append, setOf_mem, setOf_mem, sel_mem, sel_mem]
    by_cases h : x ∈ b <;> simp [h]
  have e1 : decide (sel m a false = []) = true := decide_eq_true ((within_iff _ _).2 (fun x hx => by rw [hm, setOf_mem, sel_mem] at hx; exact hx.1))
  have e2 : decide (sel m b false = []) = true := decide_eq_true ((within_iff _ _).2 (fun x hx => by rw [hm, setOf_mem, sel_mem] at hx; exact of_decide_eq_true hx.2))
  have e3 : decide (sel a u false = []) = true := decide_eq_true ((within_iff _ _).2 (fun x hx => by rw [hu, setOf_mem]; exact List.mem_append.2 (.inl hx)))
  have e4 : decide (sel b u false = []) = true := decide_eq_true ((within_iff _ _).2 (fun x hx => by rw [hu, setOf_mem]; exact List.mem_append.2 (.inr hx)))
  have e5 : setOf (sel r b true) = [] := by
    have : sel r b true = [] := by
      apply List.eq_nil_iff_forall_not_mem.2
      intro x hx
      obtain ⟨q1, q2⟩ := (sel_mem x r b true).1 hx
      rw [hr, setOf_mem, sel_mem] at q1
      rw [q1.2] at q2
      cases q2
    rw [this]
    exact setOf_self [] List.Pairwise.nil
  rw [← hm, ← hu] at N1
  rw [← hu] at L1
  rw [← hm] at L3
  rw [← hr] at L5
  obtain ⟨sa, hsa⟩ : ∃ s, s = setOf a := ⟨_, rfl⟩
  obtain ⟨sb, hsb⟩ : ∃ s, s = setOf b := ⟨_, rfl⟩
  obtain ⟨sc, hsc⟩ : ∃ s, s = setOf c := ⟨_, rfl⟩
  obtain ⟨mc, hmc⟩ : ∃ s, s = setOf (sel c d true) := ⟨_, rfl⟩
  obtain ⟨wcd, hwcd⟩ : ∃ s, s = decide (sel c d false = []) := ⟨_, rfl⟩
  have S1 : impl_SetOf.f a = some sa := by rw [impl_setof a (by omega), hsa]
  have S2 : impl_SetOf.f b = some sb := by rw [impl_setof b (by omega), hsb]
  have S3 : impl_SetOf.f c = some sc := by rw [impl_setof c (by omega), hsc]
  have X1 : impl_Meet.f k a b = some m := by rw [M1 a b (by omega) (by omega), hm]
  have X2 : impl_Meet.f k c d = some mc := by rw [M1 c d (by omega) (by omega), hmc]
  have X3 : impl_Meet.f k r b = some [] := by rw [M1 r b (by omega) (by omega), e5]
  have X4 : impl_Within.f k c d = some wcd := by rw [W1 c d (by omega) (by omega), hwcd]
  have X5 : spec_Within.f k c d = some wcd := by rw [W2, hwcd]
  have X6 : laws_sameInts.f k mc sc = some wcd := by rw [sameInts_f k mc sc (by rw [hmc]; omega) (by rw [hmc]; omega), hmc, hsc, meet_self, hwcd]
  have X7 : impl_Within.f k m a = some true := by rw [W1 m a (by omega) (by omega), e1]
  have X8 : impl_Within.f k m b = some true := by rw [W1 m b (by omega) (by omega), e2]
  have X9 : impl_Within.f k a u = some true := by rw [W1 a u (by omega) (by omega), e3]
  have X10 : impl_Within.f k b u = some true := by rw [W1 b u (by omega) (by omega), e4]
  have Y1 : laws_sameInts.f k u u = some true := sameInts_same k u (by omega) (by omega)
  have Y2 : laws_sameInts.f k m m = some true := sameInts_same k m (by omega) (by omega)
  have Y3 : laws_sameInts.f k r r = some true := sameInts_same k r (by omega) (by omega)
  have Y4 : laws_sameInts.f k sa sa = some true := sameInts_same k sa (by rw [hsa]; omega) (by rw [hsa]; omega)
  have e6 : (u.length : Int) = (wrap64 ((wrap64 ((sa.length : Int) + (sb.length : Int))) - (m.length : Int))) := by
    rw [hsa, hsb, wr2 _ _ _ (by omega) (by omega) (by omega)]
    omega
  rw [← hsa] at U3
  clear hsa hsb hsc hmc hwcd hu hm hr e1 e2 e3 e4 e5 M1 W1 W2
  unfold laws_FnSetSums.f
  refine bind_of (show laws_big.f l = some false from congrArg some (decide_eq_false hb)) ?_
  refine ite_no (by decide) ?_
  refine bind_of hM ?_
  refine bind_of U1 ?_
  refine bind_of X1 ?_
  refine bind_of R1 ?_
  refine bind_of hW ?_
  refine bind_of U2 ?_
  refine bind_of Y1 ?_
  refine ite_of rfl ?_
  refine bind_of M2 ?_
  refine bind_of Y2 ?_
  refine ite_of rfl ?_
  refine bind_of R2 ?_
  refine bind_of Y3 ?_
  refine ite_of rfl ?_
  refine bind_of X4 ?_
  refine bind_of X5 ?_
  refine ite_no (by simp) ?_
  refine bind_of X4 ?_
  refine bind_of X2 ?_
  refine bind_of S3 ?_
  refine bind_of X6 ?_
  refine ite_no (by simp) ?_
  refine bind_of U3 ?_
  refine bind_of S1 ?_
  refine bind_of Y4 ?_
  refine ite_of rfl ?_
  refine bind_of X7 ?_
  refine ite_of rfl ?_
  refine bind_of X8 ?_
  refine ite_of rfl ?_
  refine bind_of X9 ?_
  refine ite_of rfl ?_
  refine bind_of X10 ?_
  refine ite_of rfl ?_
  refine bind_of S1 ?_
  refine bind_of S2 ?_
  refine ite_of e6 ?_
  refine bind_of X3 ?_
  rfl

end Go.Proofs.Ytfenclnejjbfjaa.Pure
