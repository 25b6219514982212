/- For every slice of bytes b of at most 2^20 bytes and every int n the program's PutNum and the reference's PutNum return the same bytes, in new memory, and b stays as it was (of a longer b the law says nothing: it answers true). -/
import Derived.Test.YtnkpbdpdgfjhcaaQFnExactPutNumx2
namespace Go.Proofs.Ytnkpbdpdgfjhcaa.Pure
open Go.RowKit Go.Proofs.Ytnkpbdpdgfjhcaa.QFnExactPutNum Go.Proofs.YtnkpbdpdgfjhcaaW.PrintWords Go.Proofs.YtnkpbdpdgfjhcaaW.PrintLast
theorem i64_of_wf {n : Int} (h : (Lit.int .i64 n).wf = true) : -9223372036854775808 ≤ n ∧ n ≤ 9223372036854775807 := by
  simp [Lit.wf, IntKind.min, IntKind.max, IntKind.signed, IntKind.bits] at h
  omega

theorem wrap_nat (n : Nat) (h : n ≤ 4611686018427387904) : wrap64 ((n : Int) + 1) = ((n + 1 : Nat) : Int) := by unfold wrap64; omega
theorem rd_nat (l : List Int) (n : Nat) (h : n < l.length) : l[n]? = some (rd l (n : Int)) := by
  unfold rd
  rw [Int.toNat_natCast, List.getD_eq_getElem?_getD, List.getElem?_eq_getElem h]
  rfl
theorem ext_upto {α : Type} (a b : List α) (hl : a.length = b.length) (h : ∀ j, j < a.length → a[j]? = b[j]?) : a = b := by
  apply List.ext_getElem?
  intro j
  by_cases hj : j < a.length
  · exact h j hj
  · rw [List.getElem?_eq_none (by omega), List.getElem?_eq_none (by omega)]

theorem toByteS_l0 : ∀ (d k n : Nat) (l out : List Int), n + d = l.length → d < k → out.length = l.length → l.length ≤ 4611686018427387904 → (∀ j, j < n → out[j]? = l[j]?) → laws_toByteS.l0 k l out (n : Int) = some l
  | 0, k, n, l, out, hn, hk, hl, hb, h => by
    obtain ⟨k, rfl⟩ : ∃ q, k = q + 1 := ⟨k - 1, by omega⟩
    simp only [laws_toByteS.l0]
    rw [if_neg (by omega), ext_upto out l hl (fun j hj => h j (by omega))]
  | d + 1, k, n, l, out, hn, hk, hl, hb, h => by
    obtain ⟨k, rfl⟩ : ∃ q, k = q + 1 := ⟨k - 1, by omega⟩
    simp only [laws_toByteS.l0]
    rw [if_pos (by omega), if_pos (by omega), if_pos (by omega), wrap_nat n (by omega), Int.toNat_natCast]
    refine toByteS_l0 d k (n + 1) l _ (by omega) (by omega) (by rw [List.length_set]; exact hl) hb (fun j hj => ?_)
    by_cases e : n = j
    · subst e
      rw [List.getElem?_set_self (by omega), rd_nat l n (by omega)]
    · rw [List.getElem?_set_ne e]
      exact h j (by omega)
theorem toByteS_f (k : Nat) (l : List Int) (hk : l.length < k) (hb : l.length ≤ 281474976710656) : laws_toByteS.f k l = some l := by
  unfold laws_toByteS.f
  rw [if_pos (by omega), Int.toNat_natCast, if_pos (by omega)]
  exact toByteS_l0 l.length k 0 l _ (by omega) hk (by simp) (by omega) (fun j hj => by omega)

theorem eqByteS_l0 : ∀ (d k n : Nat) (a b : List Int), n + d = a.length → d < k → a.length = b.length → a.length ≤ 4611686018427387904 → (∀ j, j < n → a[j]? = b[j]?) → laws_eqByteS.l0 k a b (n : Int) = some (decide (a = b))
  | 0, k, n, a, b, hn, hk, hl, hb, h => by
    obtain ⟨k, rfl⟩ : ∃ q, k = q + 1 := ⟨k - 1, by omega⟩
    simp only [laws_eqByteS.l0]
    rw [if_neg (by omega), ext_upto a b hl (fun j hj => h j (by omega))]
    simp
  | d + 1, k, n, a, b, hn, hk, hl, hb, h => by
    obtain ⟨k, rfl⟩ : ∃ q, k = q + 1 := ⟨k - 1, by omega⟩
    simp only [laws_eqByteS.l0]
    rw [if_pos (by omega), if_pos (by omega), if_pos (by omega)]
    by_cases e : rd a (n : Int) = rd b (n : Int)
    · rw [if_pos e, wrap_nat n (by omega)]
      refine eqByteS_l0 d k (n + 1) a b (by omega) (by omega) hl hb (fun j hj => ?_)
      by_cases ej : j = n
      · subst ej
        rw [rd_nat a j (by omega), rd_nat b j (by omega), e]
      · exact h j (by omega)
    · rw [if_neg e, decide_eq_false]
      intro hab
      exact e (by rw [hab])
theorem eqByteS_f (k : Nat) (a b : List Int) (hk : a.length < k) (hb : a.length ≤ 4611686018427387904) : laws_eqByteS.f k a b = some (decide (a = b)) := by
  unfold laws_eqByteS.f
  by_cases hl : (a.length : Int) = (b.length : Int)
  · rw [if_pos hl]
    exact eqByteS_l0 a.length k 0 a b (by omega) hk (by omega) hb (fun j hj => by omega)
  · rw [if_neg hl, decide_eq_false]
    intro hab
    exact hl (by rw [hab])
theorem eqByteS_same (k : Nat) (a : List Int) (hk : a.length < k) (hb : a.length ≤ 4611686018427387904) : laws_eqByteS.f k a a = some true := by rw [eqByteS_f k a a hk hb]; simp

def marksByte (n : Nat) : List Int := (List.range n).map fun (j : Nat) => (1 + (j : Int)) % 256
theorem marksByte_length (n : Nat) : (marksByte n).length = n := by simp [marksByte]
theorem marksByte_at (n j : Nat) (h : j < n) : (marksByte n)[j]? = some ((1 + (j : Int)) % 256) := by simp [marksByte, h]
theorem markByteS_l0 : ∀ (d k n : Nat) (x : List Int), n + d = x.length → d < k → x.length ≤ 4611686018427387904 → (∀ j, j < n → x[j]? = some ((1 + (j : Int)) % 256)) → laws_markByteS.l0 k x (1 + (n : Int)) (n : Int) = some (1 + (x.length : Int), marksByte x.length)
  | 0, k, n, x, hn, hk, hb, h => by
    obtain ⟨k, rfl⟩ : ∃ q, k = q + 1 := ⟨k - 1, by omega⟩
    simp only [laws_markByteS.l0]
    rw [if_neg (by omega), ← ext_upto x (marksByte x.length) (marksByte_length _).symm (fun j hj => by rw [h j (by omega), marksByte_at _ j hj])]
    congr 2
    omega
  | d + 1, k, n, x, hn, hk, hb, h => by
    obtain ⟨k, rfl⟩ : ∃ q, k = q + 1 := ⟨k - 1, by omega⟩
    simp only [laws_markByteS.l0]
    have hw : wrap64 (1 + (n : Int) + 1) = 1 + ((n + 1 : Nat) : Int) := by unfold wrap64; omega
    rw [if_pos (by omega), if_pos (by omega), wrap_nat n (by omega), hw, Int.toNat_natCast]
    have hl : (x.set n ((1 + (n : Int)) % 256)).length = x.length := List.length_set ..
    have := markByteS_l0 d k (n + 1) (x.set n ((1 + (n : Int)) % 256)) (by omega) (by omega) (by omega) (fun j hj => ?_)
    · rw [hl] at this
      exact this
    · by_cases e : n = j
      · subst e
        rw [List.getElem?_set_self (by omega)]
      · rw [List.getElem?_set_ne e]
        exact h j (by omega)
theorem markByteS_f (k : Nat) (x : List Int) (hk : x.length < k) (hb : x.length ≤ 4611686018427387904) : laws_markByteS.f k x 1 = some (1 + (x.length : Int), marksByte x.length) := by
  unfold laws_markByteS.f
  exact markByteS_l0 x.length k 0 x (by omega) hk hb (fun j hj => by omega)

theorem heldByteS_l0 : ∀ (d k n m : Nat), n + d = m → d < k → m ≤ 4611686018427387904 → laws_heldByteS.l0 k (marksByte m) (1 + (n : Int)) (n : Int) = some (1 + (m : Int))
  | 0, k, n, m, hn, hk, hb => by
    obtain ⟨k, rfl⟩ : ∃ q, k = q + 1 := ⟨k - 1, by omega⟩
    simp only [laws_heldByteS.l0]
    rw [if_neg (by rw [marksByte_length]; omega)]
    congr 2
    omega
  | d + 1, k, n, m, hn, hk, hb => by
    obtain ⟨k, rfl⟩ : ∃ q, k = q + 1 := ⟨k - 1, by omega⟩
    simp only [laws_heldByteS.l0]
    have hw : wrap64 (1 + (n : Int) + 1) = 1 + ((n + 1 : Nat) : Int) := by unfold wrap64; omega
    have hr : rd (marksByte m) (n : Int) = (1 + (n : Int)) % 256 := by
      have := rd_nat (marksByte m) n (by rw [marksByte_length]; omega)
      rw [marksByte_at m n (by omega)] at this
      exact (Option.some.inj this).symm
    rw [if_pos (by rw [marksByte_length]; omega), if_pos (by omega), if_pos hr, wrap_nat n (by omega), hw]
    exact heldByteS_l0 d k (n + 1) m (by omega) (by omega) hb
theorem heldByteS_f (k : Nat) (m : Nat) (hk : m < k) (hb : m ≤ 4611686018427387904) : laws_heldByteS.f k (marksByte m) 1 = some (1 + (m : Int)) := by
  unfold laws_heldByteS.f
  exact heldByteS_l0 m k 0 m (by omega) hk hb

def bnd (n : Int) : Int := if n > 2147483647 then 2147483647 else if n < -2147483647 then -2147483647 else n
theorem spec_bound (n : Int) : spec_Bound.f n = some (bnd n) := by
  unfold spec_Bound.f bnd
  by_cases h1 : n > 2147483647
  · rw [if_pos h1, if_pos h1]
  · rw [if_neg h1, if_neg h1]
    by_cases h2 : n < -2147483647
    · rw [if_pos h2, if_pos h2]
    · rw [if_neg h2, if_neg h2]
theorem impl_bound (n : Int) : impl_Bound.f n = some (bnd n) := by
  unfold impl_Bound.f bnd mx mn
  congr 1
  split <;> split <;> (try split) <;> omega

theorem bnd_range (n : Int) : -2147483647 ≤ bnd n ∧ bnd n ≤ 2147483647 := by
  unfold bnd
  split
  · omega
  · split <;> omega
def code (n : Int) : List Int := [(bnd n + 2147483648) / 16777216, (bnd n + 2147483648) / 65536 % 256, (bnd n + 2147483648) / 256 % 256, (bnd n + 2147483648) % 256]
theorem code_length (n : Int) : (code n).length = 4 := rfl
theorem and255 (x : Int) (h0 : 0 ≤ x) (h : x ≤ 4611686018427387904) : Go.bits .and .i64 x 255 = x % 256 :=
  bits_mask .i64 63 (by decide) (fun n h0 h1 => by rw [IntKind.wrap_i64]; omega) 8 (by decide) x h0 (by omega)
theorem impl_putnum (l : List Int) (n : Int) (hb : l.length < 140737488355000) : impl_PutNum.f l n = some (l ++ code n) := by
  have hr := bnd_range n
  have hw : wrap64 (bnd n + 2147483648) = bnd n + 2147483648 := by unfold wrap64; omega
  unfold impl_PutNum.f slices_Clone_byte_byte.f
  rw [impl_bound]
  simp only [Option.bind_some, List.length_nil, List.nil_append, List.length_cons]
  rw [if_pos (by omega)]
  simp only [Option.bind_some]
  rw [if_pos (by omega), hw]
  unfold code
  congr 4
  omega
theorem spec_putnum (l : List Int) (n : Int) (hb : l.length < 140737488355000) : spec_PutNum.f l n = some (l ++ code n) := by
  have hr := bnd_range n
  have hw : wrap64 (bnd n + 2147483648) = bnd n + 2147483648 := by unfold wrap64; omega
  unfold spec_PutNum.f
  rw [spec_bound]
  simp only [Option.bind_some, List.length_nil, List.nil_append, List.length_cons]
  rw [if_pos (by omega)]
  rw [if_pos (by omega), hw, and255 _ (by omega) (by omega), and255 _ (by omega) (by omega), and255 _ (by omega) (by omega), and255 _ (by omega) (by omega)]
  unfold code
  congr 3
  · omega
  · congr 1
    · omega
    · congr 1
      · omega
      · congr 1
        omega

theorem FnExactPutNum : laws_FnExactPutNum.Pure := by
  intro l n _ _ _ _
  by_cases hbig : (l.length : Int) > 1048576
  · exact ⟨0, by unfold laws_FnExactPutNum.f; rw [if_pos hbig]⟩
  · have hs : (l ++ code n).length = l.length + 4 := by rw [List.length_append, code_length]
    refine ⟨l.length + 11, ?_⟩
    unfold laws_FnExactPutNum.f
    rw [if_neg hbig, toByteS_f _ l (by omega) (by omega)]
    simp only [Option.bind_some]
    rw [spec_putnum l n (by omega), impl_putnum l n (by omega)]
    simp only [Option.bind_some]
    rw [eqByteS_same _ _ (by omega) (by omega), eqByteS_same _ _ (by omega) (by omega), markByteS_f _ l (by omega) (by omega)]
    simp only [Option.bind_some, if_true]
    rw [if_neg (by omega)]
    simp only [laws_FnExactPutNum.j0, Bool.not_true, Bool.false_eq_true, if_false]
    rw [markByteS_f _ _ (by omega) (by omega)]
    simp only [Option.bind_some]
    rw [heldByteS_f _ _ (by omega) (by omega)]
    simp only [Option.bind_some]
    rw [if_neg (by omega), toByteS_f _ l (by omega) (by omega)]
    simp only [Option.bind_some, if_true]
    rw [impl_putnum l n (by omega)]
    simp only [Option.bind_some]
    rw [eqByteS_same _ _ (by omega) (by omega)]
    simp only [Option.bind_some, if_true]
    rw [if_neg (by omega)]

end Go.Proofs.Ytnkpbdpdgfjhcaa.Pure
