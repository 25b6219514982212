/- For every state s whose lists together have at most 2^20 elements the program's PutState and the reference's PutState return the same bytes, in new memory, and s stays as it was (of a longer one the law says nothing: it answers true). -/
import Derived.Test.YtfkidiagmekleaaHFnExactPutState
namespace Go.Proofs.Ytfkidiagmekleaa.Pure
open Go.RowKit Go.Proofs.Ytfkidiagmekleaa.QAll Go.Proofs.YtfkidiagmekleaaW.PrintWords Go.Proofs.YtfkidiagmekleaaW.PrintLast
theorem wrap_nat (n : Nat) (h : n ≤ 4611686018427387904) : wrap64 ((n : Int) + 1) = ((n + 1 : Nat) : Int) := by unfold wrap64; omega
theorem rd_nat (l : List Int) (n : Nat) (h : n < l.length) : l[n]? = some (rd l (n : Int)) := by
  unfold rd
  rw [Int.toNat_natCast, List.getD_eq_getElem?_getD, List.getElem?_eq_getElem h]
  rfl
theorem ext_upto {α : Type} (a b : List α) (hl : a.length = b.length) (h : ∀ j, j < a.length → a[j]? = b[j]?) : a = b := by
  apply List.ext_getElem?
  intro j
  by_cases hj : j < a.length
  · exact h j hj
  · rw [List.getElem?_eq_none (by omega), List.getElem?_eq_none (by omega)]

theorem eqByteS_l0 : ∀ (d k n : Nat) (a b : List Int), n + d = a.length → d < k → a.length = b.length → a.length ≤ 4611686018427387904 → (∀ j, j < n → a[j]? = b[j]?) → laws_eqByteS.l0 k a b (n : Int) = some (decide (a = b))
  | 0, k, n, a, b, hn, hk, hl, hb, h => by
    obtain ⟨k, rfl⟩ : ∃ q, k = q + 1 := ⟨k - 1, by omega⟩
    simp only [laws_eqByteS.l0]
    rw [if_neg (by omega), ext_upto a b hl (fun j hj => h j (by omega))]
    simp
  | d + 1, k, n, a, b, hn, hk, hl, hb, h => by
    obtain ⟨k, rfl⟩ : ∃ q, k = q + 1 := ⟨k - 1, by omega⟩
    simp only [laws_eqByteS.l0]
    rw [if_pos (by omega), if_pos (by omega), if_pos (by omega)]
    by_cases e : rd a (n : Int) = rd b (n : Int)
    · rw [if_pos e, wrap_nat n (by omega)]
      refine eqByteS_l0 d k (n + 1) a b (by omega) (by omega) hl hb (fun j hj => ?_)
      by_cases ej : j = n
      · subst ej
        rw [rd_nat a j (by omega), rd_nat b j (by omega), e]
      · exact h j (by omega)
    · rw [if_neg e, decide_eq_false]
      intro hab
      exact e (by rw [hab])
theorem eqByteS_f (k : Nat) (a b : List Int) (hk : a.length < k) (hb : a.length ≤ 4611686018427387904) : laws_eqByteS.f k a b = some (decide (a = b)) := by
  unfold laws_eqByteS.f
  by_cases hl : (a.length : Int) = (b.length : Int)
  · rw [if_pos hl]
    exact eqByteS_l0 a.length k 0 a b (by omega) hk (by omega) hb (fun j hj => by omega)
  · rw [if_neg hl, decide_eq_false]
    intro hab
    exact hl (by rw [hab])
theorem eqByteS_same (k : Nat) (a : List Int) (hk : a.length < k) (hb : a.length ≤ 4611686018427387904) : laws_eqByteS.f k a a = some true := by rw [eqByteS_f k a a hk hb]; simp

def marksByte (n : Nat) : List Int := (List.range n).map fun (j : Nat) => (1 + (j : Int)) % 256
theorem marksByte_length (n : Nat) : (marksByte n).length = n := by simp [marksByte]
theorem marksByte_at (n j : Nat) (h : j < n) : (marksByte n)[j]? = some ((1 + (j : Int)) % 256) := by simp [marksByte, h]
theorem markByteS_l0 : ∀ (d k n : Nat) (x : List Int), n + d = x.length → d < k → x.length ≤ 4611686018427387904 → (∀ j, j < n → x[j]? = some ((1 + (j : Int)) % 256)) → laws_markByteS.l0 k x (1 + (n : Int)) (n : Int) = some (1 + (x.length : Int), marksByte x.length)
  | 0, k, n, x, hn, hk, hb, h => by
    obtain ⟨k, rfl⟩ : ∃ q, k = q + 1 := ⟨k - 1, by omega⟩
    simp only [laws_markByteS.l0]
    rw [if_neg (by omega), ← ext_upto x (marksByte x.length) (marksByte_length _).symm (fun j hj => by rw [h j (by omega), marksByte_at _ j hj])]
    congr 2
    omega
  | d + 1, k, n, x, hn, hk, hb, h => by
    obtain ⟨k, rfl⟩ : ∃ q, k = q + 1 := ⟨k - 1, by omega⟩
    simp only [laws_markByteS.l0]
    have hw : wrap64 (1 + (n : Int) + 1) = 1 + ((n + 1 : Nat) : Int) := by unfold wrap64; omega
    rw [if_pos (by omega), if_pos (by omega), wrap_nat n (by omega), hw, Int.toNat_natCast]
    have hl : (x.set n ((1 + (n : Int)) % 256)).length = x.length := List.length_set ..
    have := markByteS_l0 d k (n + 1) (x.set n ((1 + (n : Int)) % 256)) (by omega) (by omega) (by omega) (fun j hj => ?_)
    · rw [hl] at this
      exact this
    · by_cases e : n = j
      · subst e
        rw [List.getElem?_set_self (by omega)]
      · rw [List.getElem?_set_ne e]
        exact h j (by omega)
theorem markByteS_f (k : Nat) (x : List Int) (hk : x.length < k) (hb : x.length ≤ 4611686018427387904) : laws_markByteS.f k x 1 = some (1 + (x.length : Int), marksByte x.length) := by
  unfold laws_markByteS.f
  exact markByteS_l0 x.length k 0 x (by omega) hk hb (fun j hj => by omega)

theorem heldByteS_l0 : ∀ (d k n m : Nat), n + d = m → d < k → m ≤ 4611686018427387904 → laws_heldByteS.l0 k (marksByte m) (1 + (n : Int)) (n : Int) = some (1 + (m : Int))
  | 0, k, n, m, hn, hk, hb => by
    obtain ⟨k, rfl⟩ : ∃ q, k = q + 1 := ⟨k - 1, by omega⟩
    simp only [laws_heldByteS.l0]
    rw [if_neg (by rw [marksByte_length]; omega)]
    congr 2
    omega
  | d + 1, k, n, m, hn, hk, hb => by
    obtain ⟨k, rfl⟩ : ∃ q, k = q + 1 := ⟨k - 1, by omega⟩
    simp only [laws_heldByteS.l0]
    have hw : wrap64 (1 + (n : Int) + 1) = 1 + ((n + 1 : Nat) : Int) := by unfold wrap64; omega
    have hr : rd (marksByte m) (n : Int) = (1 + (n : Int)) % 256 := by
      have := rd_nat (marksByte m) n (by rw [marksByte_length]; omega)
      rw [marksByte_at m n (by omega)] at this
      exact (Option.some.inj this).symm
    rw [if_pos (by rw [marksByte_length]; omega), if_pos (by omega), if_pos hr, wrap_nat n (by omega), hw]
    exact heldByteS_l0 d k (n + 1) m (by omega) (by omega) hb
theorem heldByteS_f (k : Nat) (m : Nat) (hk : m < k) (hb : m ≤ 4611686018427387904) : laws_heldByteS.f k (marksByte m) 1 = some (1 + (m : Int)) := by
  unfold laws_heldByteS.f
  exact heldByteS_l0 m k 0 m (by omega) hk hb

theorem neg1 (n : Nat) : (1 + (n : Int) < 0) = False := eq_false (by omega)

def bnd (n : Int) : Int := if n > 2147483647 then 2147483647 else if n < -2147483647 then -2147483647 else n

theorem spec_bound (n : Int) : spec_Bound.f n = some (bnd n) := by
  unfold spec_Bound.f bnd
  by_cases h1 : n > 2147483647
  · rw [if_pos h1, if_pos h1]
  · rw [if_neg h1, if_neg h1]
    by_cases h2 : n < -2147483647
    · rw [if_pos h2, if_pos h2]
    · rw [if_neg h2, if_neg h2]

theorem impl_bound (n : Int) : impl_Bound.f n = some (bnd n) := by
  unfold impl_Bound.f bnd mx mn
  congr 1
  split <;> split <;> (try split) <;> omega


theorem bnd_range (n : Int) : -2147483647 ≤ bnd n ∧ bnd n ≤ 2147483647 := by
  unfold bnd
  split
  · omega
  · split <;> omega
def code (n : Int) : List Int := [(bnd n + 2147483648) / 16777216, (bnd n + 2147483648) / 65536 % 256, (bnd n + 2147483648) / 256 % 256, (bnd n + 2147483648) % 256]
theorem code_length (n : Int) : (code n).length = 4 := rfl
theorem and255 (x : Int) (h0 : 0 ≤ x) (h : x ≤ 4611686018427387904) : Go.bits .and .i64 x 255 = x % 256 :=
  bits_mask .i64 63 (by decide) (fun n h0 h1 => by rw [IntKind.wrap_i64]; omega) 8 (by decide) x h0 (by omega)
theorem impl_putnum (l : List Int) (n : Int) (hb : l.length < 140737488355000) : impl_PutNum.f l n = some (l ++ code n) := by
  have hr := bnd_range n
  have hw : wrap64 (bnd n + 2147483648) = bnd n + 2147483648 := by unfold wrap64; omega
  unfold impl_PutNum.f slices_Clone_byte_byte.f
  rw [impl_bound]
  simp only [Option.bind_some, List.length_nil, List.nil_append, List.length_cons]
  rw [if_pos (by omega)]
  simp only [Option.bind_some]
  rw [if_pos (by omega), hw]
  unfold code
  congr 4
  omega
theorem spec_putnum (l : List Int) (n : Int) (hb : l.length < 140737488355000) : spec_PutNum.f l n = some (l ++ code n) := by
  have hr := bnd_range n
  have hw : wrap64 (bnd n + 2147483648) = bnd n + 2147483648 := by unfold wrap64; omega
  unfold spec_PutNum.f
  rw [spec_bound]
  simp only [Option.bind_some, List.length_nil, List.nil_append, List.length_cons]
  rw [if_pos (by omega)]
  rw [if_pos (by omega), hw, and255 _ (by omega) (by omega), and255 _ (by omega) (by omega), and255 _ (by omega) (by omega), and255 _ (by omega) (by omega)]
  unfold code
  congr 3
  · omega
  · congr 1
    · omega
    · congr 1
      · omega
      · congr 1
        omega

theorem flat_length (l : List Int) : (l.flatMap code).length = 4 * l.length := by
  induction l with
  | nil => rfl
  | cons x l ih => rw [List.flatMap_cons, List.length_append, code_length, ih, List.length_cons]; omega
theorem drop_cons (l : List Int) (n : Nat) (h : n < l.length) : l.drop n = rd l (n : Int) :: l.drop (n + 1) := by
  have h1 := rd_nat l n h
  rw [List.getElem?_eq_getElem h] at h1
  rw [List.drop_eq_getElem_cons h, Option.some.inj h1]

def bit (b : Bool) : Int := if b = true then 1 else 0
def nums (a0 a1 a2 a3 a4 a5 a6 a7 a8 a9 a10 : Int) (a11 a12 : Bool) : List Int := [a0, a1, a2, a3, a4, a5, a6, a7, a8, a9, a10, bit a11, bit a12]
def pput (b : List Int) (a0 a1 a2 a3 a4 a5 a6 a7 a8 a9 a10 : Int) (a11 a12 : Bool) : List Int :=
  if pok a0 a1 a2 a3 a4 a5 a6 a7 a8 a9 a10 a11 a12 = true then b ++ (nums a0 a1 a2 a3 a4 a5 a6 a7 a8 a9 a10 a11 a12).flatMap code else b
theorem pput_length (b : List Int) (a0 a1 a2 a3 a4 a5 a6 a7 a8 a9 a10 : Int) (a11 a12 : Bool) : (pput b a0 a1 a2 a3 a4 a5 a6 a7 a8 a9 a10 a11 a12).length ≤ b.length + 52 := by
  unfold pput
  split
  · rw [List.length_append, flat_length]; unfold nums; simp
  · omega
theorem impl_putpiece_l0 : ∀ (d k n : Nat) (out l : List Int), n + d = l.length → d < k → l.length ≤ 255 → out.length + 4 * d < 140737488300000 → impl_PutPiece.l0 k out l (l.length : Int) (n : Int) = some (out ++ (l.drop n).flatMap code)
  | 0, k, n, out, l, hn, hk, hl, hb => by
    obtain ⟨k, rfl⟩ : ∃ q, k = q + 1 := ⟨k - 1, by omega⟩
    simp only [impl_PutPiece.l0]
    rw [if_neg (by omega), List.drop_eq_nil_of_le (by omega)]
    simp
  | d + 1, k, n, out, l, hn, hk, hl, hb => by
    obtain ⟨k, rfl⟩ : ∃ q, k = q + 1 := ⟨k - 1, by omega⟩
    simp only [impl_PutPiece.l0]
    rw [if_pos (by omega), if_pos (by omega), if_pos (by omega), impl_putnum _ _ (by omega), wrap_nat n (by omega)]
    simp only [Option.bind_some]
    rw [impl_putpiece_l0 d k (n + 1) _ l (by omega) (by omega) hl (by rw [List.length_append, code_length]; omega), drop_cons l n (by omega), List.flatMap_cons, List.append_assoc]
theorem spec_putpiece_l0 : ∀ (d k n : Nat) (out l : List Int), n + d = l.length → d < k → l.length ≤ 255 → out.length + 4 * d < 140737488300000 → spec_PutPiece.l0 k out l (n : Int) = some (out ++ (l.drop n).flatMap code)
  | 0, k, n, out, l, hn, hk, hl, hb => by
    obtain ⟨k, rfl⟩ : ∃ q, k = q + 1 := ⟨k - 1, by omega⟩
    simp only [spec_PutPiece.l0]
    rw [if_neg (by omega), List.drop_eq_nil_of_le (by omega)]
    simp
  | d + 1, k, n, out, l, hn, hk, hl, hb => by
    obtain ⟨k, rfl⟩ : ∃ q, k = q + 1 := ⟨k - 1, by omega⟩
    simp only [spec_PutPiece.l0]
    rw [if_pos (by omega), if_pos (by omega), spec_putnum _ _ (by omega), wrap_nat n (by omega)]
    simp only [Option.bind_some]
    rw [spec_putpiece_l0 d k (n + 1) _ l (by omega) (by omega) hl (by rw [List.length_append, code_length]; omega), drop_cons l n (by omega), List.flatMap_cons, List.append_assoc]
theorem impl_bit_f (b : Bool) : impl_bit.f b = some (bit b) := by cases b <;> rfl
theorem spec_bit_f (b : Bool) : spec_l4Bit.f b = some (bit b) := by cases b <;> rfl
theorem impl_putpiece (k : Nat) (b : List Int) (a0 a1 a2 a3 a4 a5 a6 a7 a8 a9 a10 : Int) (a11 a12 : Bool) (hk : 14 ≤ k) (hb : b.length < 140737488200000) : impl_PutPiece.f k b a0 a1 a2 a3 a4 a5 a6 a7 a8 a9 a10 a11 a12 = some (pput b a0 a1 a2 a3 a4 a5 a6 a7 a8 a9 a10 a11 a12) := by
  unfold impl_PutPiece.f slices_Clone_byte_byte.f pput
  simp only [Option.bind_some, List.length_nil, List.nil_append]
  rw [if_pos (by omega)]
  simp only [Option.bind_some]
  rw [impl_pieceok k _ _ _ _ _ _ _ _ _ _ _ _ _ (by omega)]
  simp only [Option.bind_some, impl_bit_f]
  split
  · exact impl_putpiece_l0 13 k 0 b (nums a0 a1 a2 a3 a4 a5 a6 a7 a8 a9 a10 a11 a12) rfl (by omega) (by unfold nums; simp) (by omega)
  · rfl
theorem spec_putpiece (k : Nat) (b : List Int) (a0 a1 a2 a3 a4 a5 a6 a7 a8 a9 a10 : Int) (a11 a12 : Bool) (hk : 14 ≤ k) (hb : b.length < 140737488200000) : spec_PutPiece.f k b a0 a1 a2 a3 a4 a5 a6 a7 a8 a9 a10 a11 a12 = some (pput b a0 a1 a2 a3 a4 a5 a6 a7 a8 a9 a10 a11 a12) := by
  unfold spec_PutPiece.f pput
  simp only [Option.bind_some, List.length_nil, List.nil_append]
  rw [if_pos (by omega)]
  rw [spec_pieceok k _ _ _ _ _ _ _ _ _ _ _ _ _ (by omega)]
  simp only [Option.bind_some, spec_bit_f]
  split
  · exact spec_putpiece_l0 13 k 0 b (nums a0 a1 a2 a3 a4 a5 a6 a7 a8 a9 a10 a11 a12) rfl (by omega) (by unfold nums; simp) (by omega)
  · rfl

def pc (x : S25) : List Int := if pokS x = true then (nums x.f0 x.f1 x.f2 x.f3 x.f4 x.f5 x.f6 x.f7 x.f8 x.f9 x.f10 x.f11 x.f12).flatMap code else []
theorem pput_pc (b : List Int) (x : S25) : pput b x.f0 x.f1 x.f2 x.f3 x.f4 x.f5 x.f6 x.f7 x.f8 x.f9 x.f10 x.f11 x.f12 = b ++ pc x := by
  unfold pput pc pokS
  split
  · rfl
  · rw [List.append_nil]
theorem pc_length (x : S25) : (pc x).length ≤ 52 := by
  have h := pput_length [] x.f0 x.f1 x.f2 x.f3 x.f4 x.f5 x.f6 x.f7 x.f8 x.f9 x.f10 x.f11 x.f12
  rw [pput_pc] at h
  simpa using h
def sc (x : S71) : List Int := code x.f0 ++ (code x.f1 ++ code (bit x.f2))
theorem sc_length (x : S71) : (sc x).length = 12 := rfl
def stCode (ps : List S25) (ss : List S71) (a c : Int) : List Int := code (ps.length : Int) ++ (ps.flatMap pc ++ (code (ss.length : Int) ++ (ss.flatMap sc ++ (code a ++ code c))))
theorem drop_T25 (l : List S25) (n : Nat) (h : n < l.length) : l.drop n = rd_T25 l (n : Int) :: l.drop (n + 1) := by
  rw [List.drop_eq_getElem_cons h]
  simp [rd_T25, h]
theorem drop_T71 (l : List S71) (n : Nat) (h : n < l.length) : l.drop n = rd_T71 l (n : Int) :: l.drop (n + 1) := by
  rw [List.drop_eq_getElem_cons h]
  simp [rd_T71, h]
theorem impl_put_l1 (ps : List S25) (ss : List S71) (a c : Int) (hs : ss.length ≤ 1048576) : ∀ (d k n : Nat) (out : List Int), n + d = ss.length → d < k → out.length + 12 * d < 140737488300000 → impl_PutState.l1 k out ss (ss.length : Int) (n : Int) ps ss a c = some (out ++ ((ss.drop n).flatMap sc ++ (code a ++ code c)))
  | 0, k, n, out, hn, hk, hb => by
    obtain ⟨k, rfl⟩ : ∃ q, k = q + 1 := ⟨k - 1, by omega⟩
    simp only [impl_PutState.l1]
    rw [if_neg (by omega), List.drop_eq_nil_of_le (by omega), impl_putnum _ _ (by omega)]
    simp only [Option.bind_some]
    rw [impl_putnum _ _ (by rw [List.length_append, code_length]; omega)]
    simp only [Option.bind_some, List.flatMap_nil, List.nil_append, List.append_assoc]
  | d + 1, k, n, out, hn, hk, hb => by
    obtain ⟨k, rfl⟩ : ∃ q, k = q + 1 := ⟨k - 1, by omega⟩
    simp only [impl_PutState.l1]
    rw [if_pos (by omega), if_pos (by omega), if_pos (by omega), impl_putnum _ _ (by omega)]
    simp only [Option.bind_some]
    rw [impl_putnum _ _ (by rw [List.length_append, code_length]; omega)]
    simp only [Option.bind_some, impl_bit_f]
    rw [impl_putnum _ _ (by rw [List.length_append, List.length_append, code_length, code_length]; omega), wrap_nat n (by omega)]
    simp only [Option.bind_some]
    rw [impl_put_l1 ps ss a c hs d k (n + 1) _ (by omega) (by omega) (by rw [List.length_append, List.length_append, List.length_append, code_length, code_length, code_length]; omega), drop_T71 ss n (by omega), List.flatMap_cons]
    unfold sc
    simp only [List.append_assoc]
theorem impl_put_l0 (ps : List S25) (ss : List S71) (a c : Int) (hp : ps.length ≤ 1048576) (hs : ss.length ≤ 1048576) : ∀ (d k n : Nat) (out : List Int), n + d = ps.length → d + ss.length + 20 < k → out.length + 52 * d + 12 * ss.length + 100 < 140737488200000 → impl_PutState.l0 k out ps (ps.length : Int) (n : Int) ps ss a c = some (out ++ ((ps.drop n).flatMap pc ++ (code (ss.length : Int) ++ (ss.flatMap sc ++ (code a ++ code c)))))
  | 0, k, n, out, hn, hk, hb => by
    obtain ⟨k, rfl⟩ : ∃ q, k = q + 1 := ⟨k - 1, by omega⟩
    simp only [impl_PutState.l0]
    rw [if_neg (by omega), List.drop_eq_nil_of_le (by omega), impl_putnum _ _ (by omega)]
    simp only [Option.bind_some]
    have h := impl_put_l1 ps ss a c hs ss.length k 0 (out ++ code (ss.length : Int)) (by omega) (by omega) (by rw [List.length_append, code_length]; omega)
    rw [show ((0 : Nat) : Int) = 0 from rfl] at h
    rw [h]
    simp only [List.drop_zero, List.flatMap_nil, List.nil_append, List.append_assoc]
  | d + 1, k, n, out, hn, hk, hb => by
    obtain ⟨k, rfl⟩ : ∃ q, k = q + 1 := ⟨k - 1, by omega⟩
    simp only [impl_PutState.l0]
    rw [if_pos (by omega), if_pos (by omega), if_pos (by omega), impl_putpiece k _ _ _ _ _ _ _ _ _ _ _ _ _ _ (by omega) (by omega), pput_pc, wrap_nat n (by omega)]
    simp only [Option.bind_some]
    have hl := pc_length (rd_T25 ps (n : Int))
    rw [impl_put_l0 ps ss a c hp hs d k (n + 1) _ (by omega) (by omega) (by rw [List.length_append]; omega), drop_T25 ps n (by omega), List.flatMap_cons]
    simp only [List.append_assoc]
theorem spec_put_l1 (ps : List S25) (ss : List S71) (a c : Int) (hs : ss.length ≤ 1048576) : ∀ (d k n : Nat) (out : List Int), n + d = ss.length → d < k → out.length + 12 * d < 140737488300000 → spec_PutState.l1 k out (n : Int) ps ss a c = some (out ++ ((ss.drop n).flatMap sc ++ (code a ++ code c)))
  | 0, k, n, out, hn, hk, hb => by
    obtain ⟨k, rfl⟩ : ∃ q, k = q + 1 := ⟨k - 1, by omega⟩
    simp only [spec_PutState.l1]
    rw [if_neg (by omega), List.drop_eq_nil_of_le (by omega), spec_putnum _ _ (by omega)]
    simp only [Option.bind_some]
    rw [spec_putnum _ _ (by rw [List.length_append, code_length]; omega)]
    simp only [Option.bind_some, List.flatMap_nil, List.nil_append, List.append_assoc]
  | d + 1, k, n, out, hn, hk, hb => by
    obtain ⟨k, rfl⟩ : ∃ q, k = q + 1 := ⟨k - 1, by omega⟩
    simp only [spec_PutState.l1]
    rw [if_pos (by omega), if_pos (by omega), spec_putnum _ _ (by omega)]
    simp only [Option.bind_some]
    rw [spec_putnum _ _ (by rw [List.length_append, code_length]; omega)]
    simp only [Option.bind_some, spec_bit_f]
    rw [spec_putnum _ _ (by rw [List.length_append, List.length_append, code_length, code_length]; omega), wrap_nat n (by omega)]
    simp only [Option.bind_some]
    rw [spec_put_l1 ps ss a c hs d k (n + 1) _ (by omega) (by omega) (by rw [List.length_append, List.length_append, List.length_append, code_length, code_length, code_length]; omega), drop_T71 ss n (by omega), List.flatMap_cons]
    unfold sc
    simp only [List.append_assoc]
theorem spec_put_l0 (ps : List S25) (ss : List S71) (a c : Int) (hp : ps.length ≤ 1048576) (hs : ss.length ≤ 1048576) : ∀ (d k n : Nat) (out : List Int), n + d = ps.length → d + ss.length + 20 < k → out.length + 52 * d + 12 * ss.length + 100 < 140737488200000 → spec_PutState.l0 k out (n : Int) ps ss a c = some (out ++ ((ps.drop n).flatMap pc ++ (code (ss.length : Int) ++ (ss.flatMap sc ++ (code a ++ code c)))))
  | 0, k, n, out, hn, hk, hb => by
    obtain ⟨k, rfl⟩ : ∃ q, k = q + 1 := ⟨k - 1, by omega⟩
    simp only [spec_PutState.l0]
    rw [if_neg (by omega), List.drop_eq_nil_of_le (by omega), spec_putnum _ _ (by omega)]
    simp only [Option.bind_some]
    have h := spec_put_l1 ps ss a c hs ss.length k 0 (out ++ code (ss.length : Int)) (by omega) (by omega) (by rw [List.length_append, code_length]; omega)
    rw [show ((0 : Nat) : Int) = 0 from rfl] at h
    rw [h]
    simp only [List.drop_zero, List.flatMap_nil, List.nil_append, List.append_assoc]
  | d + 1, k, n, out, hn, hk, hb => by
    obtain ⟨k, rfl⟩ : ∃ q, k = q + 1 := ⟨k - 1, by omega⟩
    simp only [spec_PutState.l0]
    rw [if_pos (by omega), if_pos (by omega), spec_putpiece k _ _ _ _ _ _ _ _ _ _ _ _ _ _ (by omega) (by omega), pput_pc, wrap_nat n (by omega)]
    simp only [Option.bind_some]
    have hl := pc_length (rd_T25 ps (n : Int))
    rw [spec_put_l0 ps ss a c hp hs d k (n + 1) _ (by omega) (by omega) (by rw [List.length_append]; omega), drop_T25 ps n (by omega), List.flatMap_cons]
    simp only [List.append_assoc]
/-- What PutState returns. -/
def putSt (ps : List S25) (ss : List S71) (a c : Int) : List Int := if stOk ps ss a c = true then stCode ps ss a c else []
theorem impl_put (k : Nat) (ps : List S25) (ss : List S71) (a c : Int) (hk : ps.length + ss.length + 20 < k) (hp : ps.length ≤ 1048576) (hs : ss.length ≤ 1048576) : impl_PutState.f k ps ss a c = some (putSt ps ss a c) := by
  unfold impl_PutState.f putSt
  rw [show impl_StateOk.f k ps ss a c = some (stOk ps ss a c) from rfl]
  simp only [Option.bind_some]
  split
  · rw [impl_putnum _ _ (by simp)]
    simp only [Option.bind_some, List.nil_append]
    have h := impl_put_l0 ps ss a c hp hs ps.length k 0 (code (ps.length : Int)) (by omega) (by omega) (by rw [code_length]; omega)
    rw [show ((0 : Nat) : Int) = 0 from rfl] at h
    rw [h]
    rfl
  · rfl
theorem spec_put (k : Nat) (ps : List S25) (ss : List S71) (a c : Int) (hk : ps.length + ss.length + 20 < k) (hp : ps.length ≤ 1048576) (hs : ss.length ≤ 1048576) : spec_PutState.f k ps ss a c = some (putSt ps ss a c) := by
  unfold spec_PutState.f putSt
  rw [show spec_StateOk.f k ps ss a c = some (stOk ps ss a c) from rfl]
  simp only [Option.bind_some]
  split
  · rw [spec_putnum _ _ (by simp)]
    simp only [Option.bind_some, List.nil_append]
    have h := spec_put_l0 ps ss a c hp hs ps.length k 0 (code (ps.length : Int)) (by omega) (by omega) (by rw [code_length]; omega)
    rw [show ((0 : Nat) : Int) = 0 from rfl] at h
    rw [h]
    rfl
  · rfl
theorem good_len {ps : List S25} {ss : List S71} {a c : Int} (h : stOk ps ss a c = true) : ps.length ≤ 8 ∧ 2 ≤ ss.length ∧ ss.length ≤ 3 := by
  unfold stOk at h
  simp only [Bool.and_eq_true, decide_eq_true_eq, inr] at h
  omega
theorem flat_le {α : Type} (f : α → List Int) (n : Nat) (hf : ∀ x, (f x).length ≤ n) : ∀ l : List α, (l.flatMap f).length ≤ n * l.length
  | [] => by simp
  | x :: l => by
    have h1 := flat_le f n hf l
    have h2 := hf x
    rw [List.flatMap_cons, List.length_append, List.length_cons, Nat.mul_succ]
    omega
theorem putSt_length (ps : List S25) (ss : List S71) (a c : Int) : (putSt ps ss a c).length ≤ 468 := by
  unfold putSt
  split
  · rename_i h
    have hl := good_len h
    unfold stCode
    simp only [List.length_append, code_length]
    have h1 := flat_le pc 52 pc_length ps
    have h2 := flat_le sc 12 (fun x => Nat.le_of_eq (sc_length x)) ss
    omega
  · simp

theorem rdT_75 (l : List S75) (n : Nat) (h : n < l.length) : l[n]? = some (rd_T75 l (n : Int)) := by
  unfold rd_T75
  rw [Int.toNat_natCast, List.getD_eq_getElem?_getD, List.getElem?_eq_getElem h]
  rfl
theorem rdT_25 (l : List S25) (n : Nat) (h : n < l.length) : l[n]? = some (rd_T25 l (n : Int)) := by
  unfold rd_T25
  rw [Int.toNat_natCast, List.getD_eq_getElem?_getD, List.getElem?_eq_getElem h]
  rfl
def convPiece (x : S75) : S25 := ⟨x.f0, x.f1, x.f2, x.f3, x.f4, x.f5, x.f6, x.f7, x.f8, x.f9, x.f10, x.f11, x.f12⟩
theorem toPieceS_l0 : ∀ (d k n : Nat) (l : List S75) (out : List S25), n + d = l.length → d < k → out.length = l.length → l.length ≤ 4611686018427387904 → (∀ j, j < n → out[j]? = (l.map convPiece)[j]?) → laws_toPieceS.l0 k l out (n : Int) = some (l.map convPiece)
  | 0, k, n, l, out, hn, hk, hl, hb, h => by
    obtain ⟨k, rfl⟩ : ∃ q, k = q + 1 := ⟨k - 1, by omega⟩
    simp only [laws_toPieceS.l0]
    rw [if_neg (by omega), ext_upto out (l.map convPiece) (by rw [List.length_map]; exact hl) (fun j hj => h j (by omega))]
  | d + 1, k, n, l, out, hn, hk, hl, hb, h => by
    obtain ⟨k, rfl⟩ : ∃ q, k = q + 1 := ⟨k - 1, by omega⟩
    simp only [laws_toPieceS.l0, laws_toPiece.f, Option.bind_some]
    rw [if_pos (by omega), if_pos (by omega), if_pos (by omega), wrap_nat n (by omega), Int.toNat_natCast]
    refine toPieceS_l0 d k (n + 1) l _ (by omega) (by omega) (by rw [List.length_set]; exact hl) hb (fun j hj => ?_)
    by_cases e : n = j
    · subst e
      rw [List.getElem?_set_self (by omega), List.getElem?_map, rdT_75 l n (by omega)]
      rfl
    · rw [List.getElem?_set_ne e]
      exact h j (by omega)
theorem toPieceS_f (k : Nat) (l : List S75) (hk : l.length < k) (hb : l.length ≤ 1048576) : laws_toPieceS.f k l = some (l.map convPiece) := by
  unfold laws_toPieceS.f
  rw [if_pos (by omega), Int.toNat_natCast, if_pos (by omega)]
  exact toPieceS_l0 l.length k 0 l _ (by omega) hk (by simp) (by omega) (fun j hj => by omega)
theorem eqPiece_same (x : S25) : laws_eqPiece.f (x.f0) (x.f1) (x.f2) (x.f3) (x.f4) (x.f5) (x.f6) (x.f7) (x.f8) (x.f9) (x.f10) (x.f11) (x.f12) (x.f0) (x.f1) (x.f2) (x.f3) (x.f4) (x.f5) (x.f6) (x.f7) (x.f8) (x.f9) (x.f10) (x.f11) (x.f12) = some true := by
  unfold laws_eqPiece.f
  simp only [if_true, bne_self_eq_false, Bool.false_eq_true, if_false]
theorem eqPieceS_l0 : ∀ (d k n : Nat) (a : List S25), n + d = a.length → d < k → a.length ≤ 4611686018427387904 → laws_eqPieceS.l0 k a a (n : Int) = some true
  | 0, k, n, a, hn, hk, hb => by
    obtain ⟨k, rfl⟩ : ∃ q, k = q + 1 := ⟨k - 1, by omega⟩
    simp only [laws_eqPieceS.l0]
    rw [if_neg (by omega)]
  | d + 1, k, n, a, hn, hk, hb => by
    obtain ⟨k, rfl⟩ : ∃ q, k = q + 1 := ⟨k - 1, by omega⟩
    simp only [laws_eqPieceS.l0]
    rw [if_pos (by omega), if_pos (by omega), if_pos (by omega), eqPiece_same (rd_T25 a (n : Int)), wrap_nat n (by omega)]
    simp only [Option.bind_some, if_true]
    exact eqPieceS_l0 d k (n + 1) a (by omega) (by omega) hb
theorem eqPieceS_same (k : Nat) (a : List S25) (hk : a.length < k) (hb : a.length ≤ 4611686018427387904) : laws_eqPieceS.f k a a = some true := by
  unfold laws_eqPieceS.f
  rw [if_pos rfl]
  exact eqPieceS_l0 a.length k 0 a (by omega) hk hb

theorem rdT_124 (l : List S124) (n : Nat) (h : n < l.length) : l[n]? = some (rd_T124 l (n : Int)) := by
  unfold rd_T124
  rw [Int.toNat_natCast, List.getD_eq_getElem?_getD, List.getElem?_eq_getElem h]
  rfl
theorem rdT_71 (l : List S71) (n : Nat) (h : n < l.length) : l[n]? = some (rd_T71 l (n : Int)) := by
  unfold rd_T71
  rw [Int.toNat_natCast, List.getD_eq_getElem?_getD, List.getElem?_eq_getElem h]
  rfl
def convSide (x : S124) : S71 := ⟨x.f0, x.f1, x.f2⟩
theorem toSideS_l0 : ∀ (d k n : Nat) (l : List S124) (out : List S71), n + d = l.length → d < k → out.length = l.length → l.length ≤ 4611686018427387904 → (∀ j, j < n → out[j]? = (l.map convSide)[j]?) → laws_toSideS.l0 k l out (n : Int) = some (l.map convSide)
  | 0, k, n, l, out, hn, hk, hl, hb, h => by
    obtain ⟨k, rfl⟩ : ∃ q, k = q + 1 := ⟨k - 1, by omega⟩
    simp only [laws_toSideS.l0]
    rw [if_neg (by omega), ext_upto out (l.map convSide) (by rw [List.length_map]; exact hl) (fun j hj => h j (by omega))]
  | d + 1, k, n, l, out, hn, hk, hl, hb, h => by
    obtain ⟨k, rfl⟩ : ∃ q, k = q + 1 := ⟨k - 1, by omega⟩
    simp only [laws_toSideS.l0, laws_toSide.f, Option.bind_some]
    rw [if_pos (by omega), if_pos (by omega), if_pos (by omega), wrap_nat n (by omega), Int.toNat_natCast]
    refine toSideS_l0 d k (n + 1) l _ (by omega) (by omega) (by rw [List.length_set]; exact hl) hb (fun j hj => ?_)
    by_cases e : n = j
    · subst e
      rw [List.getElem?_set_self (by omega), List.getElem?_map, rdT_124 l n (by omega)]
      rfl
    · rw [List.getElem?_set_ne e]
      exact h j (by omega)
theorem toSideS_f (k : Nat) (l : List S124) (hk : l.length < k) (hb : l.length ≤ 1048576) : laws_toSideS.f k l = some (l.map convSide) := by
  unfold laws_toSideS.f
  rw [if_pos (by omega), Int.toNat_natCast, if_pos (by omega)]
  exact toSideS_l0 l.length k 0 l _ (by omega) hk (by simp) (by omega) (fun j hj => by omega)
theorem eqSide_same (x : S71) : laws_eqSide.f (x.f0) (x.f1) (x.f2) (x.f0) (x.f1) (x.f2) = some true := by
  unfold laws_eqSide.f
  simp only [if_true, bne_self_eq_false, Bool.false_eq_true, if_false]
theorem eqSideS_l0 : ∀ (d k n : Nat) (a : List S71), n + d = a.length → d < k → a.length ≤ 4611686018427387904 → laws_eqSideS.l0 k a a (n : Int) = some true
  | 0, k, n, a, hn, hk, hb => by
    obtain ⟨k, rfl⟩ : ∃ q, k = q + 1 := ⟨k - 1, by omega⟩
    simp only [laws_eqSideS.l0]
    rw [if_neg (by omega)]
  | d + 1, k, n, a, hn, hk, hb => by
    obtain ⟨k, rfl⟩ : ∃ q, k = q + 1 := ⟨k - 1, by omega⟩
    simp only [laws_eqSideS.l0]
    rw [if_pos (by omega), if_pos (by omega), if_pos (by omega), eqSide_same (rd_T71 a (n : Int)), wrap_nat n (by omega)]
    simp only [Option.bind_some, if_true]
    exact eqSideS_l0 d k (n + 1) a (by omega) (by omega) hb
theorem eqSideS_same (k : Nat) (a : List S71) (hk : a.length < k) (hb : a.length ≤ 4611686018427387904) : laws_eqSideS.f k a a = some true := by
  unfold laws_eqSideS.f
  rw [if_pos rfl]
  exact eqSideS_l0 a.length k 0 a (by omega) hk hb

theorem toState_f (k : Nat) (ps : List S75) (ss : List S124) (a c : Int) (hk : ps.length + ss.length < k) (hb : ps.length + ss.length ≤ 1048576) : laws_toState.f k ps ss a c = some (ps.map convPiece, ss.map convSide, a, c) := by
  unfold laws_toState.f
  rw [toPieceS_f k ps (by omega) (by omega), toSideS_f k ss (by omega) (by omega)]
  rfl
theorem eqState_same (k : Nat) (ps : List S25) (ss : List S71) (a c : Int) (hk : ps.length + ss.length < k) (hb : ps.length + ss.length ≤ 1048576) : laws_eqState.f k ps ss a c ps ss a c = some true := by
  unfold laws_eqState.f
  rw [eqPieceS_same k ps (by omega) (by omega), eqSideS_same k ss (by omega) (by omega)]
  simp only [Option.bind_some, if_true]

theorem sz_f (ps : List S75) (ss : List S124) (a c n : Int) (h0 : 0 ≤ n) (h1 : n ≤ 1048576) (hp : ps.length ≤ 9223372036854775807) (hs : ss.length ≤ 9223372036854775807) : laws_szState.f ps ss a c n = some (if n - (ps.length : Int) - (ss.length : Int) < 0 then -1 else n - (ps.length : Int) - (ss.length : Int)) := by
  have w1 : wrap64 (n - (ps.length : Int)) = n - (ps.length : Int) := by unfold wrap64; omega
  unfold laws_szState.f laws_szPieceS.f laws_szSideS.f
  rw [w1]
  by_cases g : n - (ps.length : Int) < 0
  · rw [if_pos g]
    simp only [Option.bind_some]
    rw [if_pos (by decide), if_pos (by omega)]
  · rw [if_neg g]
    simp only [Option.bind_some]
    have w2 : wrap64 (n - (ps.length : Int) - (ss.length : Int)) = n - (ps.length : Int) - (ss.length : Int) := by unfold wrap64; omega
    rw [if_neg g, w2]
    by_cases g2 : n - (ps.length : Int) - (ss.length : Int) < 0
    · rw [if_pos g2, if_pos g2]
      simp only [Option.bind_some]
      rw [if_pos (by decide)]
    · rw [if_neg g2, if_neg g2]
      simp only [Option.bind_some]
      rw [if_neg g2]

theorem bind_of {α β : Type} {x : Option α} {v : α} {f : α → Option β} {r : Option β} (h : x = some v) (h2 : f v = r) : x.bind f = r := by rw [h]; exact h2
theorem ite_of {α : Type} {c : Prop} [Decidable c] {a b r : α} (hc : c) (h : a = r) : (if c then a else b) = r := by rw [if_pos hc]; exact h
theorem ite_no {α : Type} {c : Prop} [Decidable c] {a b r : α} (hc : ¬ c) (h : b = r) : (if c then a else b) = r := by rw [if_neg hc]; exact h

theorem mstep_Piece {Q : Option (Int × List S25) → Prop} {f : List S25 → Option (Int × List S25)} {z : List S25} (h : ∀ y : List S25, y.length = z.length → Q (f y)) : Q ((some z).bind f) := h z rfl
theorem markPieceS_any_l0 : ∀ (d k n : Nat) (x : List S25) (s : Int), n + d = x.length → d < k → x.length ≤ 4611686018427387904 → 0 ≤ s → s + 13 * (d : Int) ≤ 4611686018427387904 → ∃ y, laws_markPieceS.l0 k x s (n : Int) = some (s + 13 * (d : Int), y)
  | 0, k, n, x, s, hn, hk, hb, h0, h1 => by
    obtain ⟨k, rfl⟩ : ∃ q, k = q + 1 := ⟨k - 1, by omega⟩
    simp only [laws_markPieceS.l0]
    rw [if_neg (by omega)]
    exact ⟨x, by simp⟩
  | d + 1, k, n, x, s, hn, hk, hb, h0, h1 => by
    obtain ⟨k, rfl⟩ : ∃ q, k = q + 1 := ⟨k - 1, by omega⟩
    have key : ∀ (z : List S25) (q : Int), z.length = x.length → q = s + 13 → ∃ y, laws_markPieceS.l0 k z q (wrap64 ((n : Int) + 1)) = some (s + 13 * ((d + 1 : Nat) : Int), y) := fun z q hz hq => by
      subst hq
      rw [wrap_nat n (by omega)]
      obtain ⟨y, hy⟩ := markPieceS_any_l0 d k (n + 1) z (s + 13) (by omega) (by omega) (by omega) (by omega) (by omega)
      exact ⟨y, by rw [hy]; congr 2; omega⟩
    have hw : ∀ t : Int, 0 ≤ t ∧ t ≤ 4611686018427387904 → wrap64 (t + 1) = t + 1 := fun t ht => by unfold wrap64; omega
    simp only [laws_markPieceS.l0]
    rw [if_pos (by omega), if_pos (by omega)]
    refine mstep_Piece (Q := fun r => ∃ y, r = some (s + 13 * ((d + 1 : Nat) : Int), y)) (fun y1 h1 => ?_)
    refine mstep_Piece (Q := fun r => ∃ y, r = some (s + 13 * ((d + 1 : Nat) : Int), y)) (fun y2 h2 => ?_)
    refine mstep_Piece (Q := fun r => ∃ y, r = some (s + 13 * ((d + 1 : Nat) : Int), y)) (fun y3 h3 => ?_)
    refine mstep_Piece (Q := fun r => ∃ y, r = some (s + 13 * ((d + 1 : Nat) : Int), y)) (fun y4 h4 => ?_)
    refine mstep_Piece (Q := fun r => ∃ y, r = some (s + 13 * ((d + 1 : Nat) : Int), y)) (fun y5 h5 => ?_)
    refine mstep_Piece (Q := fun r => ∃ y, r = some (s + 13 * ((d + 1 : Nat) : Int), y)) (fun y6 h6 => ?_)
    refine mstep_Piece (Q := fun r => ∃ y, r = some (s + 13 * ((d + 1 : Nat) : Int), y)) (fun y7 h7 => ?_)
    refine mstep_Piece (Q := fun r => ∃ y, r = some (s + 13 * ((d + 1 : Nat) : Int), y)) (fun y8 h8 => ?_)
    refine mstep_Piece (Q := fun r => ∃ y, r = some (s + 13 * ((d + 1 : Nat) : Int), y)) (fun y9 h9 => ?_)
    refine mstep_Piece (Q := fun r => ∃ y, r = some (s + 13 * ((d + 1 : Nat) : Int), y)) (fun y10 h10 => ?_)
    refine mstep_Piece (Q := fun r => ∃ y, r = some (s + 13 * ((d + 1 : Nat) : Int), y)) (fun y11 h11 => ?_)
    refine mstep_Piece (Q := fun r => ∃ y, r = some (s + 13 * ((d + 1 : Nat) : Int), y)) (fun y12 h12 => ?_)
    refine key _ _ (by rw [List.length_set, h12, List.length_set, h11, List.length_set, h10, List.length_set, h9, List.length_set, h8, List.length_set, h7, List.length_set, h6, List.length_set, h5, List.length_set, h4, List.length_set, h3, List.length_set, h2, List.length_set, h1, List.length_set]) ?_
    clear key
    simp (disch := omega) only [hw]
    omega
theorem markPieceS_any (k : Nat) (x : List S25) (s : Int) (hk : x.length < k) (hb : x.length ≤ 1048576) (h0 : 0 ≤ s) (h1 : s ≤ 2305843009213693952) : ∃ y, laws_markPieceS.f k x s = some (s + 13 * (x.length : Int), y) := by
  unfold laws_markPieceS.f
  exact markPieceS_any_l0 x.length k 0 x s (by omega) hk (by omega) h0 (by omega)
theorem mstep_Side {Q : Option (Int × List S71) → Prop} {f : List S71 → Option (Int × List S71)} {z : List S71} (h : ∀ y : List S71, y.length = z.length → Q (f y)) : Q ((some z).bind f) := h z rfl
theorem markSideS_any_l0 : ∀ (d k n : Nat) (x : List S71) (s : Int), n + d = x.length → d < k → x.length ≤ 4611686018427387904 → 0 ≤ s → s + 3 * (d : Int) ≤ 4611686018427387904 → ∃ y, laws_markSideS.l0 k x s (n : Int) = some (s + 3 * (d : Int), y)
  | 0, k, n, x, s, hn, hk, hb, h0, h1 => by
    obtain ⟨k, rfl⟩ : ∃ q, k = q + 1 := ⟨k - 1, by omega⟩
    simp only [laws_markSideS.l0]
    rw [if_neg (by omega)]
    exact ⟨x, by simp⟩
  | d + 1, k, n, x, s, hn, hk, hb, h0, h1 => by
    obtain ⟨k, rfl⟩ : ∃ q, k = q + 1 := ⟨k - 1, by omega⟩
    have key : ∀ (z : List S71) (q : Int), z.length = x.length → q = s + 3 → ∃ y, laws_markSideS.l0 k z q (wrap64 ((n : Int) + 1)) = some (s + 3 * ((d + 1 : Nat) : Int), y) := fun z q hz hq => by
      subst hq
      rw [wrap_nat n (by omega)]
      obtain ⟨y, hy⟩ := markSideS_any_l0 d k (n + 1) z (s + 3) (by omega) (by omega) (by omega) (by omega) (by omega)
      exact ⟨y, by rw [hy]; congr 2; omega⟩
    have hw : ∀ t : Int, 0 ≤ t ∧ t ≤ 4611686018427387904 → wrap64 (t + 1) = t + 1 := fun t ht => by unfold wrap64; omega
    simp only [laws_markSideS.l0]
    rw [if_pos (by omega), if_pos (by omega)]
    refine mstep_Side (Q := fun r => ∃ y, r = some (s + 3 * ((d + 1 : Nat) : Int), y)) (fun y1 h1 => ?_)
    refine mstep_Side (Q := fun r => ∃ y, r = some (s + 3 * ((d + 1 : Nat) : Int), y)) (fun y2 h2 => ?_)
    refine key _ _ (by rw [List.length_set, h2, List.length_set, h1, List.length_set]) ?_
    clear key
    simp (disch := omega) only [hw]
    omega
theorem markSideS_any (k : Nat) (x : List S71) (s : Int) (hk : x.length < k) (hb : x.length ≤ 1048576) (h0 : 0 ≤ s) (h1 : s ≤ 2305843009213693952) : ∃ y, laws_markSideS.f k x s = some (s + 3 * (x.length : Int), y) := by
  unfold laws_markSideS.f
  exact markSideS_any_l0 x.length k 0 x s (by omega) hk (by omega) h0 (by omega)
theorem markState_any (k : Nat) (ps : List S25) (ss : List S71) (a c : Int) (hk : ps.length + ss.length < k) (hb : ps.length + ss.length ≤ 1048576) : ∃ v x y, laws_markState.f k ps ss a c 1 = some (v, x, y) ∧ 0 ≤ v := by
  obtain ⟨x, hx⟩ := markPieceS_any k ps 1 (by omega) (by omega) (by omega) (by omega)
  obtain ⟨y, hy⟩ := markSideS_any k ss (1 + 13 * (ps.length : Int)) (by omega) (by omega) (by omega) (by omega)
  refine ⟨1 + 13 * (ps.length : Int) + 3 * (ss.length : Int), x, y, ?_, by omega⟩
  unfold laws_markState.f
  rw [hx]
  simp only [Option.bind_some]
  rw [hy]
  rfl

theorem FnExactPutState : laws_FnExactPutState.Pure := by
  intro ps ss x y m1 _ m2 _ _ _
  have hm : maxLen ≤ 9223372036854775807 := by decide
  have hz := sz_f ps ss x y 1048576 (by omega) (by omega) (by omega) (by omega)
  by_cases g : (1048576 : Int) - (ps.length : Int) - (ss.length : Int) < 0
  · rw [if_pos g] at hz
    exact ⟨0, by unfold laws_FnExactPutState.f; rw [hz]; rfl⟩
  rw [if_neg g] at hz
  obtain ⟨k, hk⟩ : ∃ k : Nat, k = 3000000 := ⟨_, rfl⟩
  refine ⟨k, ?_⟩
  have la : (ps.map convPiece).length = ps.length := List.length_map ..
  have lb : (ss.map convSide).length = ss.length := List.length_map ..
  have T := toState_f k ps ss x y (by omega) (by omega)
  have E := eqState_same k (ps.map convPiece) (ss.map convSide) x y (by omega) (by omega)
  have W := spec_put k (ps.map convPiece) (ss.map convSide) x y (by omega) (by omega) (by omega)
  have I := impl_put k (ps.map convPiece) (ss.map convSide) x y (by omega) (by omega) (by omega)
  obtain ⟨y1, y2, y3, M, hv⟩ := markState_any k (ps.map convPiece) (ss.map convSide) x y (by omega) (by omega)
  have hl := putSt_length (ps.map convPiece) (ss.map convSide) x y
  generalize putSt (ps.map convPiece) (ss.map convSide) x y = o at W I hl
  have B := eqByteS_same k o (by omega) (by omega)
  have K := markByteS_f k o (by omega) (by omega)
  have H := heldByteS_f k o.length (by omega) (by omega)
  unfold laws_FnExactPutState.f
  refine bind_of hz ?_
  refine ite_no g ?_
  refine bind_of T ?_
  refine bind_of W ?_
  refine bind_of T ?_
  refine bind_of I ?_
  refine bind_of B ?_
  refine ite_of rfl ?_
  refine bind_of T ?_
  refine bind_of E ?_
  refine ite_of rfl ?_
  refine bind_of M ?_
  refine ite_no (by simp only; omega) ?_
  refine bind_of B ?_
  refine ite_of rfl ?_
  refine bind_of K ?_
  refine bind_of H ?_
  refine ite_no (by omega) ?_
  refine ite_of rfl ?_
  refine bind_of T ?_
  refine bind_of I ?_
  refine bind_of B ?_
  refine ite_of rfl ?_
  refine bind_of H ?_
  refine ite_no (by omega) ?_
  exact ite_of rfl rfl

end Go.Proofs.Ytfkidiagmekleaa.Pure
