/- slices.Insert over rows of pieces, as the claims speak of them (no further condition). -/
import Derived.Test.YtfkidiagmekleaaHIns
namespace Go.Proofs.Ytfkidiagmekleaa.QAll
open Go.RowKit Go.Lib Go.Proofs.YtfkidiagmekleaaW.PrintWords Go.Proofs.YtfkidiagmekleaaW.PrintLast Go.Proofs.YtfkidiagmekleaaW.PrintMore
set_option linter.unusedVariables false
set_option linter.unusedSimpArgs false
/-- A piece's cells. -/
def pl (x : S25) : List Value := [.int .i64 x.f0, .int .i64 x.f1, .int .i64 x.f2, .int .i64 x.f3, .int .i64 x.f4, .int .i64 x.f5, .int .i64 x.f6, .int .i64 x.f7, .int .i64 x.f8, .int .i64 x.f9, .int .i64 x.f10, .bool x.f11, .bool x.f12]
theorem pl_length (x : S25) : (pl x).length = 13 := rfl
theorem pl_one (x : S25) : ∀ u ∈ pl x, u.oneCell' = true := by
  intro u hu
  simp only [pl, List.mem_cons, List.not_mem_nil, or_false] at hu
  rcases hu with rfl | rfl | rfl | rfl | rfl | rfl | rfl | rfl | rfl | rfl | rfl | rfl | rfl <;> rfl
theorem flat_length (ps : List S25) : (ps.flatMap pl).length = ps.length * 13 := by
  induction ps with
  | nil => rfl
  | cons x xs ih => rw [List.flatMap_cons, List.length_append, ih, pl_length, List.length_cons]; omega
theorem flat_one (ps : List S25) : ∀ u ∈ ps.flatMap pl, u.oneCell' = true := by
  intro u hu
  obtain ⟨x, -, hx⟩ := List.mem_flatMap.1 hu
  exact pl_one x u hx
theorem flat_take : ∀ (ps : List S25) (i : Nat), (ps.flatMap pl).take (i * 13) = (ps.take i).flatMap pl
  | [], i => by simp
  | x :: xs, 0 => by simp
  | x :: xs, i + 1 => by
    rw [List.take_succ_cons, List.flatMap_cons, List.flatMap_cons, ← flat_take xs i, Nat.succ_mul, Nat.add_comm, ← pl_length x]
    exact List.take_length_add_append _
theorem flat_drop : ∀ (ps : List S25) (i : Nat), (ps.flatMap pl).drop (i * 13) = (ps.drop i).flatMap pl
  | [], i => by simp
  | x :: xs, 0 => by simp
  | x :: xs, i + 1 => by
    rw [List.drop_succ_cons, List.flatMap_cons, ← flat_drop xs i, Nat.succ_mul, Nat.add_comm, ← pl_length x]
    exact List.drop_length_add_append _
theorem reps_flat {w : World} {B : Nat} {ok : Nat → Prop} : ∀ (ps : List S25) (inner : List Value), Reps (k25.M w B ok) 13 ps inner → inner = ps.flatMap pl
  | [], inner, h => by
    have := h.1
    exact List.eq_nil_of_length_eq_zero (by simpa using this)
  | x :: xs, inner, h => by
    have h0 : inner.take 13 = pl x := by
      have := k25_openM (h.2 0 x rfl)
      rw [Nat.zero_mul, List.drop_zero] at this
      exact this
    have h1 : inner.drop 13 = xs.flatMap pl := by
      refine reps_flat (w := w) (B := B) (ok := ok) xs (inner.drop 13) ⟨?_, fun j p hj => ?_⟩
      · rw [List.length_drop, h.1, List.length_cons]; omega
      · have := h.2 (j + 1) p (by simpa using hj)
        rw [List.drop_drop, show 13 + j * 13 = (j + 1) * 13 by omega]
        exact this
    rw [List.flatMap_cons, ← h0, ← h1, List.take_append_drop]
theorem flat_reps (w : World) (B : Nat) (ok : Nat → Prop) (ps : List S25) : Reps (k25.M w B ok) 13 ps (ps.flatMap pl) := by
  refine ⟨flat_length ps, fun j p hj => ?_⟩
  obtain ⟨hlt, he⟩ := List.getElem?_eq_some_iff.1 hj
  rw [flat_drop, List.drop_eq_getElem_cons hlt, he, List.flatMap_cons, ← pl_length p, List.take_left]
  exact k25_mkM w B ok p
theorem R_flat {w : World} {B : Nat} {v : Value} {ps : List S25} (h : Kd.R k25 25 w B (fun _ => True) v ps) : w.ownsRow B 25 13 v ps.length (ps.flatMap pl) := by
  obtain ⟨_, inner, ho, hr⟩ := h
  rw [← reps_flat ps inner hr]
  exact ho
theorem flat_R {w : World} {B : Nat} {v : Value} {ps : List S25} (h : w.ownsRow B 25 13 v ps.length (ps.flatMap pl)) : Kd.R k25 25 w B (fun _ => True) v ps :=
  ⟨fun _ _ => trivial, ps.flatMap pl, h, flat_reps _ _ _ ps⟩
/-- slices.Insert of one piece. -/
theorem insert25 (B : Nat) (A : Option Addr) (c : Nat) (ps : List S25) (i : Nat) (p : S25) (g : Nat) (w : World) (HR : Kd.R k25 25 w B (fun _ => True) (.slice A ps.length c) ps) (hB : B ≤ w.heap.size) (hi : i ≤ ps.length) (hg : w.heap[g]? = some (.cells (pl p).toArray 25 (0, 0))) (hne : ∀ a, A = some a → a.block ≠ g) (hbig : ps.length < 1466015503700) :
    Calls Try.prog 120 #[.slice A ps.length c, .int .i64 (i : Int), .slice (some ⟨g, 0, none⟩) 1 1] w fun e w' => ∃ b' c', e = .returned (.slice (some ⟨b', 0, none⟩) (ps.length + 1) c') ∧ Kd.R k25 25 w' B (fun _ => True) (.slice (some ⟨b', 0, none⟩) (ps.length + 1) c') (ps.take i ++ [p] ++ ps.drop i) ∧ w.grownBy w' (A.map Addr.block) ∧ ((∃ a, A = some a ∧ a.block = b') ∨ w.heap.size ≤ b') := by
  have ho := R_flat HR
  have hlen : (ps.take i ++ [p] ++ ps.drop i).length = ps.length + 1 := by simp only [List.length_append, List.length_take, List.length_drop, List.length_singleton]; omega
  have hfl : (ps.flatMap pl).take (i * 13) ++ pl p ++ (ps.flatMap pl).drop (i * 13) = (ps.take i ++ [p] ++ ps.drop i).flatMap pl := by
    rw [flat_take, flat_drop, List.flatMap_append, List.flatMap_append, List.flatMap_singleton]
  rcases Nat.lt_or_ge i ps.length with hlt | hge
  · obtain ⟨b, cap, hv, -, -⟩ := ho.form (by omega)
    injection hv with hA _ hc
    subst hA hc
    rcases Nat.lt_or_ge c (ps.length + 1) with hroom | hroom
    · refine (insert_grow B b c ps.length i _ (pl p) g w ho hB hlt hroom (pl_length p) (pl_one p) (flat_one ps) hg hbig).mono ?_
      rintro e w' ⟨c', rfl, hown, hgr⟩
      rw [hfl] at hown
      refine ⟨_, c', rfl, flat_R (by rw [hlen]; exact hown), ⟨hgr.os, hgr.tape, hgr.output, hgr.size, fun k hk _ => hgr.block k hk (by simp)⟩, .inr (Nat.le_refl _)⟩
    · refine (insert_shift B b c ps.length i _ (pl p) g w ho hlt hroom (fun e => hne _ rfl e.symm) (pl_length p) (pl_one p) (flat_one ps) hg hbig).mono ?_
      rintro e w' ⟨rfl, hown, hgr⟩
      rw [hfl] at hown
      exact ⟨b, c, rfl, flat_R (by rw [hlen]; exact hown), hgr, .inl ⟨_, rfl, rfl⟩⟩
  · obtain rfl : i = ps.length := by omega
    refine (insert_end B A c ps.length _ (pl p) g w ho hB (pl_length p) (pl_one p) hg hbig).mono ?_
    rintro e w' ⟨b', c', rfl, hown, hgr, hat⟩
    have hfl2 : ps.flatMap pl ++ pl p = (ps.take ps.length ++ [p] ++ ps.drop ps.length).flatMap pl := by
      rw [← hfl, ← flat_length, List.take_length, List.drop_length, List.append_nil]
    rw [hfl2] at hown
    exact ⟨b', c', rfl, flat_R (by rw [hlen]; exact hown), hgr, hat.imp id (fun h => by rw [h]; exact Nat.le_refl _)⟩
/-- A slice literal of one element, as a step whose world is a letter. -/
theorem lit_event {P : Program} {ops : Array Oper} {rest : List Oper} {o : Oper} {a : Act} {Q : Exit → Act → World → Prop} {W : World} (hgd : o.guard = none) {N : Tmp} (_hd : o.dst = some N) {cs : Array Value} {t : TypeId}
    (hrun : (execOp a.eval o).run P W = .ok (.value (.slice (some ⟨W.heap.size, 0, none⟩) 1 1)) (W.alloc (.cells cs t (0, 0))))
    (h : ∀ g, g = W.heap.size → ∀ w1, w1.heap[g]? = some (.cells cs t (0, 0)) → Below W.heap.size W w1 → wpList P ops Q rest (a.put o.dst (.slice (some ⟨g, 0, none⟩) 1 1)) w1) : wpList P ops Q (o :: rest) a W :=
  Kd.event_run hgd hrun (h _ rfl _ (blk_new W _) (below_alloc (Below.refl _ _) _))
end Go.Proofs.Ytfkidiagmekleaa.QAll
