/- What the functions over whole states compute, in plain words: SameState, OnField, StateNew, Within, sameInts. -/
import Derived.Test.YtfkidiagmekleaaHDrawS
import Derived.Test.YtfkidiagmekleaaHOkI
import Derived.Test.YtfkidiagmekleaaRINw
import Derived.Test.YtfkidiagmekleaaRIOn
import Derived.Test.YtfkidiagmekleaaRSOn
import Derived.Test.YtfkidiagmekleaaRISm
import Derived.Test.YtfkidiagmekleaaRSSm
import Derived.Test.YtfkidiagmekleaaRSmI
import Derived.Test.YtfkidiagmekleaaRWin
namespace Go.Proofs.Ytfkidiagmekleaa.QAll
open Go.RowKit Go.Proofs.YtfkidiagmekleaaW.PrintWords Go.Proofs.YtfkidiagmekleaaW.PrintLast Go.Proofs.YtfkidiagmekleaaW.PrintMore
set_option linter.unusedVariables false
set_option linter.unusedSimpArgs false
theorem mem_at (l : List Int) (a : Int) : a ∈ l ↔ ∃ j : Nat, j < l.length ∧ rd l (j : Int) = a := by
  constructor
  · intro h
    obtain ⟨j, hj, rfl⟩ := List.mem_iff_getElem.1 h
    have := rd_nat l j hj
    rw [List.getElem?_eq_getElem hj] at this
    exact ⟨j, hj, (Option.some.inj this).symm⟩
  · rintro ⟨j, hj, rfl⟩
    exact List.mem_of_getElem? (rd_nat l j hj)
theorem index_l0 : ∀ (d k n : Nat) (l : List Int) (a : Int), n + d = l.length → d < k → l.length ≤ 4611686018427387904 → (∀ j, j < n → rd l (j : Int) ≠ a) → ∃ r, slices_Index_int_int.l0 k l a (l.length : Int) (n : Int) = some r ∧ (decide (r ≥ 0)) = (decide (a ∈ l))
  | 0, k, n, l, a, hn, hk, hb, h => by
    obtain ⟨k, rfl⟩ : ∃ q, k = q + 1 := ⟨k - 1, by omega⟩
    simp only [slices_Index_int_int.l0]
    rw [if_neg (by omega)]
    refine ⟨-1, rfl, ?_⟩
    rw [decide_eq_false (by omega), decide_eq_false]
    intro hm
    obtain ⟨j, hj, e⟩ := (mem_at l a).1 hm
    exact h j (by omega) e
  | d + 1, k, n, l, a, hn, hk, hb, h => by
    obtain ⟨k, rfl⟩ : ∃ q, k = q + 1 := ⟨k - 1, by omega⟩
    simp only [slices_Index_int_int.l0]
    rw [if_pos (by omega), if_pos (by omega), if_pos (by omega)]
    by_cases e : a = rd l (n : Int)
    · rw [if_pos e]
      exact ⟨_, rfl, by rw [decide_eq_true (by omega), decide_eq_true ((mem_at l a).2 ⟨n, by omega, e.symm⟩)]⟩
    · rw [if_neg e, wrap_nat n (by omega)]
      refine index_l0 d k (n + 1) l a (by omega) (by omega) hb (fun j hj => ?_)
      by_cases ej : j = n
      · subst ej; exact fun hh => e hh.symm
      · exact h j (by omega)
theorem impl_has (k : Nat) (l : List Int) (a : Int) (hk : l.length < k) (hb : l.length ≤ 4611686018427387904) : impl_Has.f k l a = some (decide (a ∈ l)) := by
  obtain ⟨r, hr, he⟩ := index_l0 l.length k 0 l a (by omega) hk hb (fun j hj => by omega)
  unfold impl_Has.f slices_Contains_int_int.f slices_Index_int_int.f
  rw [show ((0 : Int)) = ((0 : Nat) : Int) from rfl, hr]
  simp only [Option.bind_some]
  exact congrArg some he
theorem sameInts_l0 : ∀ (d k n : Nat) (a b : List Int), n + d = a.length → d < k → a.length = b.length → a.length ≤ 4611686018427387904 → (∀ j, j < n → a[j]? = b[j]?) → laws_sameInts.l0 k a b (n : Int) = some (decide (a = b))
  | 0, k, n, a, b, hn, hk, hl, hb, h => by
    obtain ⟨k, rfl⟩ : ∃ q, k = q + 1 := ⟨k - 1, by omega⟩
    simp only [laws_sameInts.l0]
    rw [if_neg (by omega), ext_upto a b hl (fun j hj => h j (by omega))]
    simp
  | d + 1, k, n, a, b, hn, hk, hl, hb, h => by
    obtain ⟨k, rfl⟩ : ∃ q, k = q + 1 := ⟨k - 1, by omega⟩
    simp only [laws_sameInts.l0]
    rw [if_pos (by omega), if_pos (by omega), if_pos (by omega)]
    by_cases e : rd a (n : Int) = rd b (n : Int)
    · rw [if_pos e, wrap_nat n (by omega)]
      refine sameInts_l0 d k (n + 1) a b (by omega) (by omega) hl hb (fun j hj => ?_)
      by_cases ej : j = n
      · subst ej
        rw [rd_nat a j (by omega), rd_nat b j (by omega), e]
      · exact h j (by omega)
    · rw [if_neg e, decide_eq_false]
      intro hab
      exact e (by rw [hab])
theorem sameInts_f (k : Nat) (a b : List Int) (hk : a.length < k) (hb : a.length ≤ 4611686018427387904) : laws_sameInts.f k a b = some (decide (a = b)) := by
  unfold laws_sameInts.f
  by_cases hl : (a.length : Int) = (b.length : Int)
  · rw [if_pos hl]
    exact sameInts_l0 a.length k 0 a b (by omega) hk (by omega) hb (fun j hj => by omega)
  · rw [if_neg hl, decide_eq_false]
    intro hab
    exact hl (by rw [hab])
theorem sameInts_same (k : Nat) (a : List Int) (hk : a.length < k) (hb : a.length ≤ 4611686018427387904) : laws_sameInts.f k a a = some true := by rw [sameInts_f k a a hk hb]; simp
theorem both_if2 {C : Prop} [Decidable C] {A B E : Option Bool} (h : ∃ r, A = some r ∧ B = if r = true then E else some false) : ∃ r, (if C then some false else A) = some r ∧ (if C then some false else B) = if r = true then E else some false := by
  by_cases c : C
  · rw [if_pos c, if_pos c]
    exact ⟨false, rfl, rfl⟩
  · rw [if_neg c, if_neg c]
    exact h
theorem both_if {C : Prop} [Decidable C] {A B : Option Bool} (h : ∃ r, A = some r ∧ B = some r) : ∃ r, (if C then some false else A) = some r ∧ (if C then some false else B) = some r := by
  by_cases c : C
  · rw [if_pos c, if_pos c]
    exact ⟨false, rfl, rfl⟩
  · rw [if_neg c, if_neg c]
    exact h
theorem ps_l0 (a b : List S25) (sa sb : List S71) (x y x' y' : Int) (hl : a.length = b.length) (hb : a.length ≤ 1048576) : ∀ (d k k' n : Nat), n + d = a.length → d < k → d < k' → ∃ r, impl_Piece_110.l0 k a b (a.length : Int) (n : Int) = some r ∧ spec_SameState.l0 k' (n : Int) a sa x y b sb x' y' = if r = true then spec_SameState.l1 (k' - d - 1) 0 a sa x y b sb x' y' else some false
  | 0, k, k', n, hn, hk, hk' => by
    obtain ⟨k, rfl⟩ : ∃ q, k = q + 1 := ⟨k - 1, by omega⟩
    obtain ⟨k', rfl⟩ : ∃ q, k' = q + 1 := ⟨k' - 1, by omega⟩
    refine ⟨true, ?_, ?_⟩
    · simp only [impl_Piece_110.l0]
      rw [if_neg (by omega)]
    · simp only [spec_SameState.l0]
      rw [if_neg (by omega), if_pos trivial]
      rfl
  | d + 1, k, k', n, hn, hk, hk' => by
    obtain ⟨k, rfl⟩ : ∃ q, k = q + 1 := ⟨k - 1, by omega⟩
    obtain ⟨k', rfl⟩ : ∃ q, k' = q + 1 := ⟨k' - 1, by omega⟩
    have ih := ps_l0 a b sa sb x y x' y' hl hb d k k' (n + 1) (by omega) (by omega) (by omega)
    simp (disch := omega) only [impl_Piece_110.l0, spec_SameState.l0, if_pos, wrap_nat]
    rw [show k' + 1 - (d + 1) - 1 = k' - d - 1 from by omega]
    exact both_if2 ih
theorem ss_l1 (a b : List S25) (sa sb : List S71) (x y x' y' : Int) (hl : sa.length = sb.length) (hb : sa.length ≤ 1048576) : ∀ (d k k' n : Nat), n + d = sa.length → d < k → d < k' → ∃ r, impl_Side_111.l0 k sa sb (sa.length : Int) (n : Int) = some r ∧ spec_SameState.l1 k' (n : Int) a sa x y b sb x' y' = some r
  | 0, k, k', n, hn, hk, hk' => by
    obtain ⟨k, rfl⟩ : ∃ q, k = q + 1 := ⟨k - 1, by omega⟩
    obtain ⟨k', rfl⟩ : ∃ q, k' = q + 1 := ⟨k' - 1, by omega⟩
    refine ⟨true, ?_, ?_⟩
    · simp only [impl_Side_111.l0]
      rw [if_neg (by omega)]
    · simp only [spec_SameState.l1]
      rw [if_neg (by omega)]
  | d + 1, k, k', n, hn, hk, hk' => by
    obtain ⟨k, rfl⟩ : ∃ q, k = q + 1 := ⟨k - 1, by omega⟩
    obtain ⟨k', rfl⟩ : ∃ q, k' = q + 1 := ⟨k' - 1, by omega⟩
    have ih := ss_l1 a b sa sb x y x' y' hl hb d k k' (n + 1) (by omega) (by omega) (by omega)
    simp (disch := omega) only [impl_Side_111.l0, spec_SameState.l1, if_pos, wrap_nat]
    exact both_if ih
theorem same_both (k : Nat) (a b : List S25) (sa sb : List S71) (x y x' y' : Int) (hk : a.length + sa.length + 10 < k) (ha : a.length ≤ 1048576) (hs : sa.length ≤ 1048576) : ∃ r, impl_SameState.f k a sa x y b sb x' y' = some r ∧ spec_SameState.f k a sa x y b sb x' y' = some r := by
  have hj : spec_SameState.j0 k true a sa x y b sb x' y' = some false := by
    obtain ⟨k, rfl⟩ : ∃ q, k = q + 1 := ⟨k - 1, by omega⟩
    simp only [spec_SameState.j0, if_true]
  have bad : ∀ h : Bool, h = true → (spec_SameState.j0 k h a sa x y b sb x' y' = some false) := fun h e => by rw [e]; exact hj
  unfold impl_SameState.f spec_SameState.f
  by_cases hx : x = x'
  · by_cases hy : y = y'
    · rw [if_pos hx, if_pos hy]
      by_cases h1 : (a.length : Int) = (b.length : Int)
      · rw [if_pos h1]
        obtain ⟨q, hq⟩ : ∃ q, k = q + 1 := ⟨k - 1, by omega⟩
        obtain ⟨r, e1, e2⟩ := ps_l0 a b sa sb x y x' y' (by omega) ha a.length k q 0 (by omega) (by omega) (by omega)
        have hP : impl_Piece_110.f k a b = some r := by
          unfold impl_Piece_110.f
          rw [if_pos h1]
          exact e1
        rw [hP]
        simp only [Option.bind_some]
        by_cases h2 : (sa.length : Int) = (sb.length : Int)
        · rw [if_pos h2, if_pos hx]
          have hn : (y != y') = false := by rw [hy]; exact bne_self_eq_false y'
          obtain ⟨r', f1, f2⟩ := ss_l1 a b sa sb x y x' y' (by omega) hs sa.length k (q - a.length - 1) 0 (by omega) (by omega) (by omega)
          have hS : impl_Side_111.f k sa sb = some r' := by
            unfold impl_Side_111.f
            rw [if_pos h2]
            exact f1
          have hJ : spec_SameState.j0 k false a sa x y b sb x' y' = spec_SameState.l0 q 0 a sa x y b sb x' y' := by
            rw [hq]
            simp only [spec_SameState.j0, Bool.false_eq_true, if_false]
          have e2' : spec_SameState.l0 q 0 a sa x y b sb x' y' = if r = true then spec_SameState.l1 (q - a.length - 1) 0 a sa x y b sb x' y' else some false := e2
          have f2' : spec_SameState.l1 (q - a.length - 1) 0 a sa x y b sb x' y' = some r' := f2
          rw [hn, hJ, e2', hS, f2']
          cases r
          · exact ⟨false, rfl, rfl⟩
          · exact ⟨r', rfl, rfl⟩
        · rw [if_neg h2, hj]
          have hS : impl_Side_111.f k sa sb = some false := by
            unfold impl_Side_111.f
            rw [if_neg h2]
          rw [hS]
          refine ⟨false, ?_, rfl⟩
          cases r <;> rfl
      · rw [if_neg h1, hj]
        have hP : impl_Piece_110.f k a b = some false := by
          unfold impl_Piece_110.f
          rw [if_neg h1]
        rw [hP]
        exact ⟨false, rfl, rfl⟩
    · rw [if_pos hx, if_neg hy]
      refine ⟨false, rfl, ?_⟩
      have hn : (y != y') = true := bne_iff_ne.mpr hy
      rw [bad _ hn, hj]
      split
      · split <;> rfl
      · rfl
  · rw [if_neg hx]
    refine ⟨false, rfl, ?_⟩
    rw [if_neg hx, hj]
    split
    · split <;> rfl
    · rfl
def onf (side : Int) (ps : List S25) : List Int := (ps.filter fun x => decide (x.f3 = 2) && (decide (side = -1) || decide (x.f2 = side))).map fun x => x.f0
theorem onf_cons (side : Int) (x : S25) (ps : List S25) : onf side (x :: ps) = (if x.f3 = 2 ∧ (side = -1 ∨ x.f2 = side) then [x.f0] else []) ++ onf side ps := by
  unfold onf
  rw [List.filter_cons]
  by_cases h : x.f3 = 2 ∧ (side = -1 ∨ x.f2 = side)
  · rw [if_pos h, if_pos (by simpa using h)]
    rfl
  · rw [if_neg h, if_neg (by simpa using h)]
    rfl
theorem onf_length (side : Int) (ps : List S25) : (onf side ps).length ≤ ps.length := by
  unfold onf
  rw [List.length_map]
  exact List.length_filter_le _ _
theorem rdrop (ps : List S25) (n : Nat) (h : n < ps.length) : ps.drop n = rd_T25 ps (n : Int) :: ps.drop (n + 1) := by
  rw [List.drop_eq_getElem_cons h]
  congr 1
  simp [rd_T25, h]
theorem impl_onf (side : Int) (ps : List S25) (hb : ps.length ≤ 1048576) : ∀ (d k n : Nat) (out : List Int), n + d = ps.length → d < k → out.length ≤ n → impl_OnField.l0 k side out ps (ps.length : Int) (n : Int) = some (out ++ onf side (ps.drop n))
  | 0, k, n, out, hn, hk, ho => by
    obtain ⟨k, rfl⟩ : ∃ q, k = q + 1 := ⟨k - 1, by omega⟩
    simp only [impl_OnField.l0]
    rw [if_neg (by omega), List.drop_eq_nil_of_le (by omega)]
    simp [onf]
  | d + 1, k, n, out, hn, hk, ho => by
    obtain ⟨k, rfl⟩ : ∃ q, k = q + 1 := ⟨k - 1, by omega⟩
    have ih0 := impl_onf side ps hb d k (n + 1) out (by omega) (by omega) (by omega)
    have ih1 := impl_onf side ps hb d k (n + 1) (out ++ [(rd_T25 ps (n : Int)).f0]) (by omega) (by omega) (by rw [List.length_append, List.length_singleton]; omega)
    rw [List.append_assoc] at ih1
    simp only [impl_OnField.l0]
    rw [if_pos (by omega), if_pos (by omega), if_pos (by omega), wrap_nat n (by omega), rdrop ps n (by omega), onf_cons, if_pos (show out.length < 17592186044416 by omega)]
    by_cases h1 : (rd_T25 ps (n : Int)).f3 = 2
    · rw [if_pos h1]
      by_cases h2 : side = -1
      · rw [if_pos h2, if_pos ⟨h1, Or.inl h2⟩]
        exact ih1
      · rw [if_neg h2]
        by_cases h3 : (rd_T25 ps (n : Int)).f2 = side
        · rw [if_pos h3, if_pos ⟨h1, Or.inr h3⟩]
          exact ih1
        · rw [if_neg h3, if_neg (fun h => h.2.elim h2 h3)]
          exact ih0
    · rw [if_neg h1, if_neg (fun h => h1 h.1)]
      exact ih0
theorem spec_onf (side : Int) (ps : List S25) (ss : List S71) (a c : Int) (hb : ps.length ≤ 1048576) : ∀ (d k n : Nat) (out : List Int), n + d = ps.length → d < k → out.length ≤ n → spec_OnField.l0 k side out (n : Int) ps ss a c = some (out ++ onf side (ps.drop n))
  | 0, k, n, out, hn, hk, ho => by
    obtain ⟨k, rfl⟩ : ∃ q, k = q + 1 := ⟨k - 1, by omega⟩
    simp only [spec_OnField.l0]
    rw [if_neg (by omega), List.drop_eq_nil_of_le (by omega)]
    simp [onf]
  | d + 1, k, n, out, hn, hk, ho => by
    obtain ⟨k, rfl⟩ : ∃ q, k = q + 1 := ⟨k - 1, by omega⟩
    have ih0 := spec_onf side ps ss a c hb d k (n + 1) out (by omega) (by omega) (by omega)
    have ih1 := spec_onf side ps ss a c hb d k (n + 1) (out ++ [(rd_T25 ps (n : Int)).f0]) (by omega) (by omega) (by rw [List.length_append, List.length_singleton]; omega)
    rw [List.append_assoc] at ih1
    simp only [spec_OnField.l0]
    rw [if_pos (by omega), if_pos (by omega), wrap_nat n (by omega), rdrop ps n (by omega), onf_cons, if_pos (show out.length < 17592186044416 by omega)]
    by_cases h1 : (rd_T25 ps (n : Int)).f3 = 2
    · rw [if_pos h1]
      by_cases h2 : side = -1
      · rw [if_pos h2, if_pos ⟨h1, Or.inl h2⟩]
        exact ih1
      · rw [if_neg h2]
        by_cases h3 : (rd_T25 ps (n : Int)).f2 = side
        · rw [if_pos h3, if_pos ⟨h1, Or.inr h3⟩]
          exact ih1
        · rw [if_neg h3, if_neg (fun h => h.2.elim h2 h3)]
          exact ih0
    · rw [if_neg h1, if_neg (fun h => h1 h.1)]
      exact ih0
theorem same_ps_l0 (a : List S25) (hb : a.length ≤ 1048576) : ∀ (d k n : Nat), n + d = a.length → d < k → impl_Piece_110.l0 k a a (a.length : Int) (n : Int) = some true
  | 0, k, n, hn, hk => by
    obtain ⟨k, rfl⟩ : ∃ q, k = q + 1 := ⟨k - 1, by omega⟩
    simp only [impl_Piece_110.l0]
    rw [if_neg (by omega)]
  | d + 1, k, n, hn, hk => by
    obtain ⟨k, rfl⟩ : ∃ q, k = q + 1 := ⟨k - 1, by omega⟩
    have ih := same_ps_l0 a hb d k (n + 1) (by omega) (by omega)
    simp (disch := omega) only [impl_Piece_110.l0, if_pos, wrap_nat, beq_self_eq_true, Bool.not_true, Bool.or_false, Bool.false_eq_true, if_false]
    exact ih
theorem same_ss_l0 (a : List S71) (hb : a.length ≤ 1048576) : ∀ (d k n : Nat), n + d = a.length → d < k → impl_Side_111.l0 k a a (a.length : Int) (n : Int) = some true
  | 0, k, n, hn, hk => by
    obtain ⟨k, rfl⟩ : ∃ q, k = q + 1 := ⟨k - 1, by omega⟩
    simp only [impl_Side_111.l0]
    rw [if_neg (by omega)]
  | d + 1, k, n, hn, hk => by
    obtain ⟨k, rfl⟩ : ∃ q, k = q + 1 := ⟨k - 1, by omega⟩
    have ih := same_ss_l0 a hb d k (n + 1) (by omega) (by omega)
    simp (disch := omega) only [impl_Side_111.l0, if_pos, wrap_nat, beq_self_eq_true, Bool.not_true, Bool.or_false, Bool.false_eq_true, if_false]
    exact ih
theorem same_self (k : Nat) (a : List S25) (s : List S71) (x y : Int) (ha : a.length ≤ 1048576) (hs : s.length ≤ 1048576) (hk : a.length + s.length < k) : impl_SameState.f k a s x y a s x y = some true := by
  unfold impl_SameState.f impl_Piece_110.f impl_Side_111.f
  have e1 : impl_Piece_110.l0 k a a (a.length : Int) 0 = some true := same_ps_l0 a ha a.length k 0 (by omega) (by omega)
  have e2 : impl_Side_111.l0 k s s (s.length : Int) 0 = some true := same_ss_l0 s hs s.length k 0 (by omega) (by omega)
  rw [if_pos rfl, if_pos rfl, if_pos rfl, if_pos rfl, e1]
  simp only [Option.bind_some]
  rw [if_pos trivial, e2]
  rfl
theorem impl_of (k : Nat) (ps : List S25) (ss : List S71) (a c side : Int) (hb : ps.length ≤ 1048576) (hk : ps.length < k) : impl_OnField.f k ps ss a c side = some (onf side ps) := impl_onf side ps hb ps.length k 0 [] (by omega) (by omega) (Nat.le_refl _)
theorem spec_of (k : Nat) (ps : List S25) (ss : List S71) (a c side : Int) (hb : ps.length ≤ 1048576) (hk : ps.length < k) : spec_OnField.f k ps ss a c side = some (onf side ps) := spec_onf side ps ss a c hb ps.length k 0 [] (by omega) (by omega) (Nat.le_refl _)
theorem onf_all (side : Int) (ps : List S25) : ∀ x, x ∈ onf side ps → x ∈ onf (-1) ps := by
  intro x hx
  unfold onf at hx ⊢
  rw [List.mem_map] at hx ⊢
  obtain ⟨y, hy, e⟩ := hx
  rw [List.mem_filter] at hy
  refine ⟨y, ?_, e⟩
  rw [List.mem_filter]
  refine ⟨hy.1, ?_⟩
  have := hy.2
  simp at this ⊢
  exact this.1
theorem chosen_none (a b : List Int) (hs : ∀ x, x ∈ a → x ∈ b) (ha : a.length ≤ 1048576) (hb : b.length ≤ 1048576) : ∀ (d k n : Nat), n + d = a.length → d + b.length + 1 < k → impl_chosen.l0 k b false [] a (a.length : Int) (n : Int) = some []
  | 0, k, n, hn, hk => by
    obtain ⟨k, rfl⟩ : ∃ q, k = q + 1 := ⟨k - 1, by omega⟩
    simp only [impl_chosen.l0]
    rw [if_neg (by omega)]
    have : impl_SetOf.f [] = some [] := by
      unfold impl_SetOf.f
      rw [if_pos (by decide), List.mergeSort_nil]
      rfl
    rw [this]
    rfl
  | d + 1, k, n, hn, hk => by
    obtain ⟨k, rfl⟩ : ∃ q, k = q + 1 := ⟨k - 1, by omega⟩
    have ih := chosen_none a b hs ha hb d k (n + 1) (by omega) (by omega)
    have hm : rd a (n : Int) ∈ b := hs _ (List.mem_of_getElem? (rd_nat a n (by omega)))
    simp only [impl_chosen.l0]
    rw [if_pos (by omega), if_pos (by omega), if_pos (by omega), impl_has k b _ (by omega) (by omega), wrap_nat n (by omega), decide_eq_true hm]
    exact ih
theorem within_f (k : Nat) (a b : List Int) (hs : ∀ x, x ∈ a → x ∈ b) (ha : a.length ≤ 1048576) (hb : b.length ≤ 1048576) (hk : a.length + b.length + 1 < k) : impl_Within.f k a b = some true := by
  unfold impl_Within.f impl_Rest.f impl_chosen.f
  have e1 : impl_chosen.l0 k b false [] a (a.length : Int) 0 = some [] := chosen_none a b hs ha hb a.length k 0 (by omega) (by omega)
  rw [e1]
  rfl
theorem stateNew_f (n : Int) : ∃ ss : List S71, impl_StateNew.f 30 n = some ([], (⟨20, 0, false⟩ : S71) :: ss, 0, 0) ∧ stOk [] ((⟨20, 0, false⟩ : S71) :: ss) 0 0 = true ∧ 1 ≤ ss.length ∧ ss.length ≤ 2 ∧ (n = 3 → ss.length = 2) := by
  by_cases h : n = 3
  · subst h
    exact ⟨[⟨20, 0, false⟩, ⟨20, 0, false⟩], by kernel_rfl, by decide, by decide, by decide, fun _ => rfl⟩
  · refine ⟨[⟨20, 0, false⟩], ?_, by decide, by decide, by decide, fun e => absurd e h⟩
    unfold impl_StateNew.f
    rw [if_neg h]
    kernel_rfl
end Go.Proofs.Ytfkidiagmekleaa.QAll
