/- spec.SetPiece and spec.PieceAt compute what impl.SetPiece and impl.PieceAt compute; what SetPiece does, told plainly (no further condition but bounds of length). -/
import Derived.Test.YtfkidiagmekleaaHSetP
import Derived.Test.YtfkidiagmekleaaRSetP
import Derived.Test.YtfkidiagmekleaaRSSp
namespace Go.Proofs.Ytfkidiagmekleaa.QAll
open Go.RowKit Go.Proofs.YtfkidiagmekleaaW.PrintWords Go.Proofs.YtfkidiagmekleaaW.PrintLast Go.Proofs.YtfkidiagmekleaaW.PrintMore
set_option linter.unusedVariables false
set_option linter.unusedSimpArgs false
theorem wrap_suc (n : Nat) (h : n ≤ 4611686018427387904) : wrap64 ((n : Int) + 1) = ((n + 1 : Nat) : Int) := by unfold wrap64; omega
theorem at_spec_l0 (ps : List S25) (ss : List S71) (a c id : Int) (hb : ps.length ≤ 4611686018427387904) : ∀ (d k n : Nat), n + d = ps.length → d < k → spec_PieceAt.l0 k id (n : Int) ps ss a c = some (idx25 (fun x => x.f0 == id) (ps.drop n) (n : Int))
  | 0, k, n, hn, hk => by
    obtain ⟨k, rfl⟩ : ∃ q, k = q + 1 := ⟨k - 1, by omega⟩
    simp only [spec_PieceAt.l0]
    rw [if_neg (by omega), List.drop_eq_nil_of_le (by omega)]
    rfl
  | d + 1, k, n, hn, hk => by
    obtain ⟨k, rfl⟩ : ∃ q, k = q + 1 := ⟨k - 1, by omega⟩
    have hlt : n < ps.length := by omega
    have hr : rd_T25 ps (n : Int) = ps[n] := by simp [rd_T25, hlt]
    simp only [spec_PieceAt.l0]
    rw [if_pos (by omega), if_pos (by omega), hr, List.drop_eq_getElem_cons hlt, idx25]
    by_cases h : (ps[n]).f0 = id
    · rw [if_pos h, if_pos (by simpa using h)]
    · rw [if_neg h, if_neg (by simpa using h), wrap_suc n (by omega), at_spec_l0 ps ss a c id hb d k (n + 1) (by omega) (by omega)]
      rfl
theorem spec_at (k : Nat) (ps : List S25) (ss : List S71) (a c id : Int) (hb : ps.length ≤ 4611686018427387904) (hk : ps.length < k) : spec_PieceAt.f k ps ss a c id = some (atP ps id) := by
  unfold spec_PieceAt.f atP
  exact at_spec_l0 ps ss a c id hb ps.length k 0 (by omega) hk
theorem gap_hit (ps : List S25) (q : Int) (n : Nat) (h : n < ps.length) (hq : q < (ps[n]).f0) (hl : ∀ i (hi : i < ps.length), i < n → ¬ q < (ps[i]).f0) : gapP ps q = n := by
  have e : gtP ps q = (n : Int) := by
    unfold gtP
    rw [idx25_hit _ ps n 0 h (by simpa using hq) (fun j hj hjn => by simpa using hl j hj hjn), Int.zero_add]
  unfold gapP
  rw [e, if_pos (by omega), Int.toNat_natCast]
theorem gap_end (ps : List S25) (q : Int) (hl : ∀ i (hi : i < ps.length), ¬ q < (ps[i]).f0) : gapP ps q = ps.length := by
  have e : gtP ps q = -1 := by
    unfold gtP
    rw [idx25_miss _ ps 0 (fun j hj => by simpa using hl j hj)]
  unfold gapP
  rw [e, if_neg (by decide)]
theorem gap_le (ps : List S25) (q : Int) : gapP ps q ≤ ps.length := by
  unfold gapP
  rcases gtP_cases ps q with h | ⟨j, hj, h⟩
  · rw [h, if_neg (by decide)]
    exact Nat.le_refl _
  · rw [h, if_pos (by omega), Int.toNat_natCast]
    omega
theorem set_spec_l0 (ps : List S25) (ss : List S71) (a c : Int) (y0 y1 y2 y3 y4 y5 y6 y7 y8 y9 y10 : Int) (y11 y12 : Bool) (qs : List S25) (hb : ps.length < 1466015503700) : ∀ (d k n : Nat), n + d = ps.length → d < k → (∀ i (hi : i < ps.length), i < n → ¬ y0 < (ps[i]).f0) → spec_SetPiece.l0 k (n : Int) ps ss a c y0 y1 y2 y3 y4 y5 y6 y7 y8 y9 y10 y11 y12 qs ss a c = some (ps.take (gapP ps y0) ++ [⟨y0, y1, y2, y3, y4, y5, y6, y7, y8, y9, y10, y11, y12⟩] ++ ps.drop (gapP ps y0), ss, a, c)
  | 0, k, n, hn, hk, hl => by
    obtain ⟨k, rfl⟩ : ∃ q, k = q + 1 := ⟨k - 1, by omega⟩
    have e := gap_end ps y0 (fun i hi => hl i hi (by omega))
    rw [e]
    obtain rfl : n = ps.length := by omega
    simp only [spec_SetPiece.l0]
    rw [if_neg (by omega)]
    simp only [Option.bind_some, Int.toNat_natCast, List.nil_append, List.length_nil, List.length_append, List.length_take, List.length_drop, List.length_singleton]
    rw [if_pos (by omega), if_pos (by omega), if_pos (by omega), if_pos (by omega), if_pos (by omega)]
  | d + 1, k, n, hn, hk, hl => by
    obtain ⟨k, rfl⟩ : ∃ q, k = q + 1 := ⟨k - 1, by omega⟩
    have hlt : n < ps.length := by omega
    have hr : rd_T25 ps (n : Int) = ps[n] := by simp [rd_T25, hlt]
    simp only [spec_SetPiece.l0]
    rw [if_pos (by omega), if_pos (by omega), hr]
    by_cases h : (ps[n]).f0 ≤ y0
    · rw [if_pos h, wrap_suc n (by omega)]
      exact set_spec_l0 ps ss a c y0 y1 y2 y3 y4 y5 y6 y7 y8 y9 y10 y11 y12 qs hb d k (n + 1) (by omega) (by omega) (fun i hi hin => by
        by_cases e : i = n
        · subst e
          omega
        · exact hl i hi (by omega))
    · rw [if_neg h, gap_hit ps y0 n hlt (by omega) hl]
      simp only [Option.bind_some, Int.toNat_natCast, List.nil_append, List.length_nil, List.length_append, List.length_take, List.length_drop, List.length_singleton]
      rw [if_pos (by omega), if_pos (by omega), if_pos (by omega), if_pos (by omega)]
theorem l5Copy_f (ps : List S25) (ss : List S71) (a c : Int) (h0 : ps.length < 1466015503700) (h1 : ss.length < 1000000000000) : spec_l5Copy.f ps ss a c = some (ps, ss, a, c) := by
  unfold spec_l5Copy.f
  simp only [Option.bind_some, List.nil_append, List.length_nil, Nat.zero_add]
  rw [if_pos (by omega), if_pos (by omega)]
theorem spec_set (k : Nat) (ps : List S25) (ss : List S71) (a c : Int) (y0 y1 y2 y3 y4 y5 y6 y7 y8 y9 y10 : Int) (y11 y12 : Bool) (h0 : ps.length < 1466015503700) (h1 : ss.length < 1000000000000) (hk : ps.length < k) : spec_SetPiece.f k ps ss a c y0 y1 y2 y3 y4 y5 y6 y7 y8 y9 y10 y11 y12 = some (setP ps ⟨y0, y1, y2, y3, y4, y5, y6, y7, y8, y9, y10, y11, y12⟩, ss, a, c) := by
  unfold spec_SetPiece.f setP
  rw [l5Copy_f ps ss a c h0 h1]
  simp only [Option.bind_some]
  rw [spec_at k ps ss a c y0 (by omega) hk]
  simp only [Option.bind_some]
  rcases atP_cases ps y0 with h | ⟨j, hj, h⟩
  · rw [h, if_neg (by decide), if_neg (by decide)]
    exact set_spec_l0 ps ss a c y0 y1 y2 y3 y4 y5 y6 y7 y8 y9 y10 y11 y12 ps h0 ps.length k 0 (by omega) hk (fun i hi h => absurd h (Nat.not_lt_zero _))
  · rw [h, if_pos (by omega), if_pos (by omega), if_pos (by omega), if_pos (by omega)]
theorem impl_set (ps : List S25) (ss : List S71) (a c : Int) (y0 y1 y2 y3 y4 y5 y6 y7 y8 y9 y10 : Int) (y11 y12 : Bool) (h0 : ps.length < 1466015503700) (h1 : ss.length < 1000000000000) : impl_SetPiece.f ps ss a c y0 y1 y2 y3 y4 y5 y6 y7 y8 y9 y10 y11 y12 = some (setP ps ⟨y0, y1, y2, y3, y4, y5, y6, y7, y8, y9, y10, y11, y12⟩, ss, a, c) := by
  unfold impl_SetPiece.f
  rw [if_pos ⟨h0, h1⟩]
theorem setP_length (ps : List S25) (p : S25) : (setP ps p).length = if 0 ≤ atP ps p.f0 then ps.length else ps.length + 1 := by
  unfold setP
  have := gap_le ps p.f0
  split
  · rw [List.length_set]
  · simp only [List.length_append, List.length_take, List.length_drop, List.length_singleton]
    omega
theorem setP_le (ps : List S25) (p : S25) : (setP ps p).length ≤ ps.length + 1 := by
  rw [setP_length]
  split <;> omega
theorem at_iff (ps : List S25) (q : Int) (j : Nat) : atP ps q = (j : Int) ↔ ∃ hj : j < ps.length, (ps[j]).f0 = q ∧ ∀ i (hi : i < ps.length), i < j → (ps[i]).f0 ≠ q := by
  constructor
  · intro h
    rcases idx25_cases (fun x => x.f0 == q) ps with ⟨h1, -⟩ | ⟨m, hm, h1, h2, h3⟩
    · rw [show idx25 (fun x => x.f0 == q) ps 0 = atP ps q from rfl, h] at h1
      omega
    · rw [show idx25 (fun x => x.f0 == q) ps 0 = atP ps q from rfl, h] at h1
      obtain rfl : j = m := by omega
      exact ⟨hm, by simpa using h2, fun i hi hij => by simpa using h3 i hi hij⟩
  · rintro ⟨hj, h1, h2⟩
    unfold atP
    rw [idx25_hit _ ps j 0 hj (by simpa using h1) (fun i hi hij => by simpa using h2 i hi hij), Int.zero_add]
theorem at_none (ps : List S25) (q : Int) (h : atP ps q = -1) : ∀ i (hi : i < ps.length), (ps[i]).f0 ≠ q := by
  rcases idx25_cases (fun x => x.f0 == q) ps with ⟨-, h1⟩ | ⟨m, hm, h1, -⟩
  · intro i hi
    simpa using h1 i hi
  · rw [show idx25 (fun x => x.f0 == q) ps 0 = atP ps q from rfl, h] at h1
    omega
/-- The piece that was set is there. -/
theorem at_set (ps : List S25) (p : S25) : ∃ j : Nat, ∃ hj : j < (setP ps p).length, atP (setP ps p) p.f0 = (j : Int) ∧ (setP ps p)[j] = p ∧ (0 ≤ atP ps p.f0 → atP ps p.f0 = (j : Int)) := by
  rcases atP_cases ps p.f0 with h | ⟨j, hj, h⟩
  · have hn := at_none ps p.f0 h
    have hg := gap_le ps p.f0
    have e : setP ps p = ps.take (gapP ps p.f0) ++ [p] ++ ps.drop (gapP ps p.f0) := by
      unfold setP
      rw [h, if_neg (by decide)]
    have hl : (ps.take (gapP ps p.f0)).length = gapP ps p.f0 := by rw [List.length_take]; omega
    have hlen : gapP ps p.f0 < (setP ps p).length := by
      rw [setP_length, h, if_neg (by decide)]
      omega
    have hget : (setP ps p)[gapP ps p.f0] = p := by
      have h5 : (setP ps p)[gapP ps p.f0]? = some p := by
        rw [e, List.append_assoc, List.getElem?_append_right (by omega), hl, Nat.sub_self]
        rfl
      obtain ⟨_, h6⟩ := List.getElem?_eq_some_iff.1 h5
      exact h6
    refine ⟨gapP ps p.f0, hlen, ?_, hget, fun h0 => by omega⟩
    rw [at_iff]
    refine ⟨hlen, by rw [hget], fun i hi hij => ?_⟩
    have hi2 : i < ps.length := by omega
    have : (setP ps p)[i] = ps[i] := by
      have h5 : (setP ps p)[i]? = some ps[i] := by
        rw [e, List.append_assoc, List.getElem?_append_left (by omega), List.getElem?_take_of_lt hij, List.getElem?_eq_getElem hi2]
      obtain ⟨_, h6⟩ := List.getElem?_eq_some_iff.1 h5
      exact h6
    rw [this]
    exact hn i hi2
  · have e : setP ps p = ps.set j p := by
      unfold setP
      rw [h, if_pos (by omega), Int.toNat_natCast]
    obtain ⟨hj', h1, h2⟩ := (at_iff ps p.f0 j).1 h
    have hlen : j < (setP ps p).length := by rw [e, List.length_set]; exact hj
    have hget : (setP ps p)[j] = p := by simp [e]
    refine ⟨j, hlen, ?_, hget, fun _ => h⟩
    rw [at_iff]
    refine ⟨hlen, by rw [hget], fun i hi hij => ?_⟩
    have hi2 : i < ps.length := by omega
    have : (setP ps p)[i] = ps[i] := by
      simp only [e]
      rw [List.getElem_set_ne (by omega)]
    rw [this]
    exact h2 i hi2 hij
/-- Set back, all is as it was. -/
theorem set_back (ps : List S25) (p : S25) (j : Nat) (hj : j < ps.length) (h : atP ps p.f0 = (j : Int)) : setP (setP ps p) ps[j] = ps := by
  obtain ⟨hj', h1, h2⟩ := (at_iff ps p.f0 j).1 h
  have e : setP ps p = ps.set j p := by
    unfold setP
    rw [h, if_pos (by omega), Int.toNat_natCast]
  obtain ⟨m, hm, ha, -, hb⟩ := at_set ps p
  have hmj : m = j := by
    have := hb (by omega)
    omega
  subst hmj
  have hk : atP (setP ps p) (ps[m]).f0 = (m : Int) := by rw [h1]; exact ha
  rw [e] at hk ⊢
  unfold setP
  rw [hk, if_pos (by omega), Int.toNat_natCast, List.set_set]
  exact List.set_getElem_self hj
end Go.Proofs.Ytfkidiagmekleaa.QAll
