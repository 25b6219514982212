/- slices.Insert of one struct into a slice of structs whose row is known, and copy of elements of many cells (no further condition). -/
import Derived.Test.YtfkidiagmekleaaQAllx0
import Derived.Lib.Overlaps
import Derived.Lib.AppendZerosOnto
namespace Go.Proofs.Ytfkidiagmekleaa.QAll
open Go.RowKit Go.Lib Go.Proofs.YtfkidiagmekleaaW.PrintWords Go.Proofs.YtfkidiagmekleaaW.PrintLast Go.Proofs.YtfkidiagmekleaaW.PrintMore
set_option linter.unusedVariables false
set_option linter.unusedSimpArgs false
/-- The builtin copy between slices of elements of sz cells. -/
theorem run_copy_rows {P : Program} (w : World) (dT sT ty elem : TypeId) (sz b o dLen dCap : Nat) (a : Addr) (sLen sCap : Nat) (cs : List Value)
    (hu : P.underlying dT = some (.slice elem)) (hs : (P.info? elem).map (·.size) = some sz) (hn : cs.length = Nat.min sLen dLen * sz)
    (hsrc : ∀ j v, cs[j]? = some v → w.cell? (a.add j) = some v) (hc : ∀ j, j < cs.length → (w.cell? ⟨b, o + j, none⟩).isSome = true) (hf : ∀ j, j < cs.length → w.frozen? ⟨b, o + j, none⟩ = false) (h1 : ∀ v ∈ cs, v.oneCell' = true) :
    (Builtin.copy_ #[dT, sT] ty #[.slice (some ⟨b, o, none⟩) dLen dCap, .slice (some a) sLen sCap]).run P w = .ok (goInt (Nat.min sLen dLen)) (w.setCells b o cs) := by
  have hl := run_loadCells_list (P := P) w a cs hsrc
  have hst := run_storeCells_cells (P := P) b o cs 0 w (by simpa using hc) (by simpa using hf) h1
  cases hq : P.info? elem with
  | none => simp [hq] at hs
  | some i =>
    have hi : i.size = sz := by simpa [hq] using hs
    rw [hn] at hl
    simp [Builtin.copy_, run_underlying hu, Builtin.lenOf, Builtin.firstCells, sizeOf, typeInfo, hq, hi, hl, hst]
theorem wp_copy_run {P : Program} (w : World) {o : Oper} {a : Act} {K : Act → World → Prop} {Q : Exit → Act → World → Prop} (d s : Operand) (t t' : TypeId)
    (ho : o.op = .call { callee := .builtin .copy, args := #[d, s], argTypes := #[t, t'] }) (v u : Value) (hd : a.eval d = v) (hs : a.eval s = u) {v' : Value} {w' : World}
    (hr : (Builtin.copy_ #[t, t'] o.type #[v, u]).run P w = .ok v' w') (h : K (a.put o.dst v') w') : o.wp P a w K Q := by
  unfold Oper.wp execOp
  simp only [ho, resolve, invoke, builtin, Sem.run_bind, Sem.run_pure, Result.andThen_ok, List.map_toArray, List.map_cons, List.map_nil, hd, hs, hr]
  exact h
theorem copy_run {P : Program} (w : World) {ops : Array Oper} {rest : List Oper} {o : Oper} {a : Act} {Q : Exit → Act → World → Prop} (hgd : o.guard = none) (d s : Operand) (t t' : TypeId)
    (ho : o.op = .call { callee := .builtin .copy, args := #[d, s], argTypes := #[t, t'] }) (v u : Value) (hd : a.eval d = v) (hs : a.eval s = u) {v' : Value} {w' : World}
    (hr : (Builtin.copy_ #[t, t'] o.type #[v, u]).run P w = .ok v' w') (h : wpList P ops Q rest (a.put o.dst v') w') : wpList P ops Q (o :: rest) a w :=
  wpList_plain hgd fun _ hK => wp_copy_run w d s t t' ho v u hd hs hr (hK _ _ h)
theorem copy_step {P : Program} {ops : Array Oper} {o : Oper} {a : Act} {w : World} {K : Act → World → Prop} {Q : Exit → Act → World → Prop} {E : Prop}
    (hg : o.guard = none) (d x : Operand) (dT sT : TypeId) (hop : o.op = Op.call { callee := Callee.builtin Builtin.copy, args := #[d, x], argTypes := #[dT, sT] })
    (v u : Value) (hd : a.eval d = v) (hx : a.eval x = u) {v' : Value} {w' : World} (hr : (Builtin.copy_ #[dT, sT] o.type #[v, u]).run P w = .ok v' w') (hK : K (a.put o.dst v') w') :
    if Region.wanted o (yielded ops a.tmps) = true then Oper.wp P o a w K Q else E := by
  have hw : Region.wanted o (yielded ops a.tmps) = true := by simp [Region.wanted, hg]
  rw [if_pos hw]
  exact wp_copy_run w d x dT sT hop v u hd hx hr hK
/-- A run of cells read out of a block that is known whole. -/
theorem run_of_blk {w : World} {g : Nat} {t : TypeId} {cur : Array Value} (h : w.heap[g]? = some (.cells cur t (0, 0))) (o : Nat) (cs : List Value) (hcs : ∀ j v, cs[j]? = some v → cur[o + j]? = some v) :
    ∀ j v, cs[j]? = some v → w.cell? ((⟨g, o, none⟩ : Addr).add j) = some v := by
  intro j v hj
  rw [Addr.add_lit, blk_cell h]
  exact hcs j v hj
theorem own_map (A : Option Addr) (n c : Nat) : (Value.slice A n c).ownBlock = A.map Addr.block := by cases A <;> rfl
set_option maxHeartbeats 4000000 in
set_option maxRecDepth 100000 in
/-- At the end: append. -/
theorem insert_end (B : Nat) (A : Option Addr) (c n : Nat) (xs cs : List Value) (g : Nat) (w : World) (ho : w.ownsRow B 25 13 (.slice A n c) n xs) (hB : B ≤ w.heap.size) (hl : cs.length = 13) (h1 : ∀ u ∈ cs, u.oneCell' = true) (hg : w.heap[g]? = some (.cells cs.toArray 25 (0, 0))) (hbig : n < 1466015503700) :
    Calls Try.prog 120 #[.slice A n c, .int .i64 (n : Int), .slice (some ⟨g, 0, none⟩) 1 1] w fun e w' => ∃ b' c', e = .returned (.slice (some ⟨b', 0, none⟩) (n + 1) c') ∧ w'.ownsRow B 25 13 (.slice (some ⟨b', 0, none⟩) (n + 1) c') (n + 1) (xs ++ cs) ∧ w.grownBy w' (A.map Addr.block) ∧ ((∃ a, A = some a ∧ a.block = b') ∨ b' = w.heap.size) := by
  obtain ⟨i, hi, hi3⟩ := Option.map_eq_some_iff.mp info25
  have hz : i.zero = _ := congrArg Prod.fst hi3
  have hsz : i.size = 13 := congrArg (fun q => q.2.1) hi3
  have hby : i.bytes = 96 := congrArg (fun q => q.2.2) hi3
  have hcut : n ≤ c := by
    rcases ho.2 with ⟨h, h0⟩ | ⟨g', cap, cur, h, _, _, h2, _⟩
    · rw [h0]; exact Nat.zero_le _
    · injection h with _ _ hc
      omega
  have HO := Aside0.mk ho
  have HG := Aside0.mk hg
  clear ho hg
  go_enter Try.func120, Try.ntmps120
  go_wp2_with (at_builtin; refine wpList_append_lies _ rfl _ _ 53 rfl B 25 i _ 13 96 Try.underlying53 hi hz hsz hby rfl (by decide) (.slice A n c) n xs rfl HO.out ⟨g, 0, none⟩ 1 1 cs rfl (by rw [hl]) (run_of_blk HG.out 0 cs (fun j v hj => by rw [Nat.zero_add]; simpa using hj)) h1 (by decide) (by unfold maxLen; omega) (by omega) hB _ rfl ?_; intro b' c' w' hown hgr hat hlt; rw [own_map] at hgr hat; replace hat := hat.imp (fun h => Option.map_eq_some_iff.mp h) id)
  all_goals (go_ret; exact ⟨b', c', rfl, hown, hgr, hat⟩)

theorem shape_of {w : World} {g : Nat} {t : TypeId} {cur : Array Value} (h : w.heap[g]? = some (.cells cur t (0, 0))) : w.shape? g = some (t, cur.size) := by simp [World.shape?, h]
theorem ins_list (L xs cs : List Value) (i n c : Nat) (hL : L.length = c * 13) (hx : L.take (n * 13) = xs) (hi : i < n) (hroom : n + 1 ≤ c) (hl : cs.length = 13) :
    ((L.take ((i + 1) * 13) ++ xs.drop (i * 13) ++ L.drop ((i + 1) * 13 + (xs.drop (i * 13)).length)).take (i * 13) ++ cs ++ (L.take ((i + 1) * 13) ++ xs.drop (i * 13) ++ L.drop ((i + 1) * 13 + (xs.drop (i * 13)).length)).drop (i * 13 + cs.length)).take ((n + 1) * 13) = xs.take (i * 13) ++ cs ++ xs.drop (i * 13) := by
  have hxl : xs.length = n * 13 := by rw [← hx, List.length_take, hL]; omega
  have h1 : (L.take ((i + 1) * 13)).length = (i + 1) * 13 := by rw [List.length_take, hL]; omega
  have h2 : (L.take ((i + 1) * 13) ++ xs.drop (i * 13) ++ L.drop ((i + 1) * 13 + (xs.drop (i * 13)).length)).take (i * 13) = xs.take (i * 13) := by
    rw [List.append_assoc, List.take_append_of_le_length (by omega), List.take_take, ← hx, List.take_take]
    congr 1
    omega
  have h3 : (L.take ((i + 1) * 13) ++ xs.drop (i * 13) ++ L.drop ((i + 1) * 13 + (xs.drop (i * 13)).length)).drop (i * 13 + cs.length) = xs.drop (i * 13) ++ L.drop ((i + 1) * 13 + (xs.drop (i * 13)).length) := by
    rw [List.append_assoc]
    exact List.drop_left' (by omega)
  rw [h2, h3, ← List.append_assoc]
  exact List.take_left' (by simp only [List.length_append, List.length_take, List.length_drop, hxl, hl]; omega)
set_option maxHeartbeats 4000000 in
set_option maxRecDepth 100000 in
/-- In the middle, with room. -/
theorem insert_shift (B b c n i : Nat) (xs cs : List Value) (g : Nat) (w : World) (ho : w.ownsRow B 25 13 (.slice (some ⟨b, 0, none⟩) n c) n xs) (hi : i < n) (hroom : n + 1 ≤ c) (hgb : g ≠ b) (hl : cs.length = 13) (h1 : ∀ u ∈ cs, u.oneCell' = true) (h1x : ∀ u ∈ xs, u.oneCell' = true) (hg : w.heap[g]? = some (.cells cs.toArray 25 (0, 0))) (hbig : n < 1466015503700) :
    Calls Try.prog 120 #[.slice (some ⟨b, 0, none⟩) n c, .int .i64 (i : Int), .slice (some ⟨g, 0, none⟩) 1 1] w fun e w' => e = .returned (.slice (some ⟨b, 0, none⟩) (n + 1) c) ∧ w'.ownsRow B 25 13 (.slice (some ⟨b, 0, none⟩) (n + 1) c) (n + 1) (xs.take (i * 13) ++ cs ++ xs.drop (i * 13)) ∧ w.grownBy w' (some b) := by
  obtain ⟨hxl, hcase⟩ := ho
  obtain ⟨cur, hbB, hcur, hnc, hcm, hcs, hx⟩ : ∃ cur, B ≤ b ∧ w.heap[b]? = some (.cells cur 25 (0, 0)) ∧ n ≤ c ∧ c ≤ maxLen ∧ cur.size = c * 13 ∧ cur.toList.take (n * 13) = xs := by
    rcases hcase with ⟨h, _⟩ | ⟨g', cap, cur, h, r⟩
    · cases h
    · injection h with ha _ hc
      injection ha with ha
      injection ha with ha
      subst ha hc
      exact ⟨cur, r⟩
  have hc63 : c ≤ 9223372036854775807 := by unfold maxLen at hcm; omega
  have hov : ∀ o lb cb, (callFunc 138 #[.slice (some ⟨g, 0, none⟩) 1 1, .slice (some ⟨b, o, none⟩) lb cb]).run Try.prog w = .ok (.value (.bool false)) w := fun o lb cb => by
    rw [run_callFunc_extern Try.func138 (by kernel_rfl) (by kernel_rfl) (by kernel_rfl) (e := Extern.SlicesOverlaps.overlaps #[53, 53] #[4]) (by kernel_rfl),
      Lib.run_overlaps_apart w 53 4 25 Try.underlying53 13 (fun w => by kernel_rfl) ⟨g, 0, none⟩ ⟨b, o, none⟩ 1 1 lb cb hgb 25 25 _ _ (shape_of hg) (shape_of hcur) (by rw [hcs]; omega) (blk_frozen hg 0) (blk_frozen hg _)]
    rfl
  have hw1 : IntKind.i64.wrap ((i : Int) + 1) = (i : Int) + 1 := by rw [IntKind.wrap_i64]; omega
  have hw2 : IntKind.i64.wrap ((n : Int) + 1) = (n : Int) + 1 := by rw [IntKind.wrap_i64]; omega
  have hb1 : (0 : Int) ≤ (i : Int) + 1 := by omega
  have hin : i ≤ n := by omega
  have htn : ((i : Int) + 1).toNat = i + 1 := by omega
  have htn2 : ((n : Int) + 1).toNat = n + 1 := by omega
  have hb2 : ¬ (c = i + 1) := by omega
  have hb3 : (i : Int) ≤ (n : Int) + 1 := by omega
  have hb4 : ¬ (c = i) := by omega
  have hz2 : ¬ ((i : Int) = (n : Int)) := by omega
  have hz3 : ¬ ((c : Int) < (n : Int) + 1) := by omega
  have hmin : Nat.min (n + 1 - i) (n - i) = n - i := by simp only [Nat.min_def]; split <;> omega
  have hmin2 : Nat.min 1 (n + 1 - i) = 1 := by simp only [Nat.min_def]; split <;> omega
  have mixed : Try.prog.follows Departure.mixedOrders = true := by kernel_rfl
  have hinfo : (Try.prog.info? 25).map (·.size) = some 13 := by kernel_rfl
  have hdl : (xs.drop (i * 13)).length = (n - i) * 13 := by rw [List.length_drop, hxl]; omega
  have hxg : ∀ (j : Nat) (v : Value), xs[j]? = some v → cur[j]? = some v := fun j v hj => by
    rw [← hx, List.getElem?_take] at hj
    split at hj
    · simpa using hj
    · cases hj
  have hcd : w.drew.heap[b]? = some (.cells cur 25 (0, 0)) := hcur
  have hcp1 : ∀ ty dc sc, (Builtin.copy_ #[53, 53] ty #[.slice (some ⟨b, (i + 1) * 13, none⟩) (n - i) dc, .slice (some ⟨b, i * 13, none⟩) (n + 1 - i) sc]).run Try.prog w.drew = .ok (goInt ((n - i : Nat) : Int)) (w.drew.setCells b ((i + 1) * 13) (xs.drop (i * 13))) := fun ty dc sc => by
    have h := run_copy_rows (P := Try.prog) w.drew 53 53 ty 25 13 b ((i + 1) * 13) (n - i) dc ⟨b, i * 13, none⟩ (n + 1 - i) sc (xs.drop (i * 13)) Try.underlying53 hinfo (by rw [hmin, hdl])
      (run_of_blk hcd _ _ (fun j v hj => hxg _ v (by rwa [List.getElem?_drop] at hj)))
      (fun j hj => by rw [blk_cell hcd, Array.getElem?_eq_getElem (by omega)]; rfl) (fun j hj => blk_frozen hcd _) (fun v hv => h1x v (List.mem_of_mem_drop hv))
    rw [hmin] at h
    exact h
  obtain ⟨cur1, hc1, hs1, hl1⟩ := setCells_row (xs.drop (i * 13)) ((i + 1) * 13) w.drew cur hcd (by omega)
  obtain ⟨p1, p2, p3, p4⟩ := setCells_same b (xs.drop (i * 13)) ((i + 1) * 13) w.drew
  have hg1 : (w.drew.setCells b ((i + 1) * 13) (xs.drop (i * 13))).heap[g]? = some (.cells cs.toArray 25 (0, 0)) := (setCells_far _ _ g hgb).trans hg
  have hfar1 : ∀ k, k ≠ b → (w.drew.setCells b ((i + 1) * 13) (xs.drop (i * 13))).heap[k]? = w.heap[k]? := fun k hk => setCells_far _ _ k hk
  obtain ⟨W1, hW1⟩ : ∃ W1, W1 = w.drew.setCells b ((i + 1) * 13) (xs.drop (i * 13)) := ⟨_, rfl⟩
  rw [← hW1] at hcp1 hc1 p1 p2 p3 p4 hg1 hfar1
  have hcp2 : ∀ ty dc, (Builtin.copy_ #[53, 53] ty #[.slice (some ⟨b, i * 13, none⟩) (n + 1 - i) dc, .slice (some ⟨g, 0, none⟩) 1 1]).run Try.prog W1 = .ok (goInt 1) (W1.setCells b (i * 13) cs) := fun ty dc => by
    have h := run_copy_rows (P := Try.prog) W1 53 53 ty 25 13 b (i * 13) (n + 1 - i) dc ⟨g, 0, none⟩ 1 1 cs Try.underlying53 hinfo (by rw [hmin2, hl])
      (run_of_blk hg1 _ _ (fun j v hj => by rw [Nat.zero_add]; simpa using hj))
      (fun j hj => by rw [blk_cell hc1, Array.getElem?_eq_getElem (by omega)]; rfl) (fun j hj => blk_frozen hc1 _) h1
    rw [hmin2] at h
    exact h
  obtain ⟨cur2, hc2, hs2, hl2⟩ := setCells_row cs (i * 13) W1 cur1 hc1 (by omega)
  obtain ⟨q1, q2, q3, q4⟩ := setCells_same b cs (i * 13) W1
  have hfin : (W1.setCells b (i * 13) cs).ownsRow B 25 13 (.slice (some ⟨b, 0, none⟩) (n + 1) c) (n + 1) (xs.take (i * 13) ++ cs ++ xs.drop (i * 13)) := by
    refine ⟨?_, .inr ⟨b, c, cur2, rfl, hbB, hc2, hroom, hcm, by omega, ?_⟩⟩
    · simp only [List.length_append, List.length_take, hdl, hxl, hl]
      omega
    · rw [hl2, hl1]
      exact ins_list cur.toList xs cs i n c (by simpa using hcs) hx hi hroom hl
  have hgr : w.grownBy (W1.setCells b (i * 13) cs) (some b) := ⟨by rw [q1, p1]; rfl, by rw [q2, p2]; rfl, by rw [q3, p3]; rfl, by rw [q4, p4]; exact Nat.le_refl _, fun k _ hk => (setCells_far cs _ k (fun h => hk (by rw [h]))).trans (hfar1 k (fun h => hk (by rw [h])))⟩
  clear hfar1 hc2 hs2 hl2 q1 q2 q3 q4 p1 p2 p3 p4 hl1 hs1 hW1 hcd hxg hcur hg hg1 hc1
  go_enter Try.func120, Try.ntmps120
  go_wp2_with (simp only [hov])
  go_region_law_o (refine copy_step rfl _ _ 53 53 rfl _ _ (by simp [Act.eval, Act.put]) (by simp [Act.eval, Act.put]) (hcp1 _ _ _) ?_)
  go_wp2_with (at_builtin; refine copy_run _ rfl _ _ 53 53 rfl _ _ rfl rfl (hcp2 _ _) ?_)
  go_ret
  exact ⟨rfl, hfin, hgr⟩
theorem ins_list2 (L X cs rest : List Value) (i n c : Nat) (hL : L.length = c * 13) (hx : L.take (i * 13) = X) (hi : i < n) (hroom : n + 1 ≤ c) (hl : cs.length = 13) (hr : rest.length = (n - i) * 13) :
    ((L.take (i * 13) ++ cs ++ L.drop (i * 13 + cs.length)).take ((i + 1) * 13) ++ rest ++ (L.take (i * 13) ++ cs ++ L.drop (i * 13 + cs.length)).drop ((i + 1) * 13 + rest.length)).take ((n + 1) * 13) = X ++ cs ++ rest := by
  have hX : X.length = i * 13 := by rw [← hx, List.length_take, hL]; omega
  rw [hx]
  have h1 : (X ++ cs ++ L.drop (i * 13 + cs.length)).take ((i + 1) * 13) = X ++ cs := List.take_left' (by simp only [List.length_append]; omega)
  rw [h1]
  exact List.take_left' (by simp only [List.length_append]; omega)
theorem zeros_size (z : Array Value) (k : Nat) : (Builtin.zeroCells z k).size = k * z.size := by simp [Builtin.zeroCells]
def z25v : Value := .agg #[(.int .i64 0), (.int .i64 0), (.int .i64 0), (.int .i64 0), (.int .i64 0), (.int .i64 0), (.int .i64 0), (.int .i64 0), (.int .i64 0), (.int .i64 0), (.int .i64 0), (.bool false), (.bool false)]
set_option maxHeartbeats 4000000 in
set_option maxRecDepth 100000 in
/-- In the middle, without room. -/
theorem insert_grow (B b c n i : Nat) (xs cs : List Value) (g : Nat) (w : World) (ho : w.ownsRow B 25 13 (.slice (some ⟨b, 0, none⟩) n c) n xs) (hBw : B ≤ w.heap.size) (hi : i < n) (hroom : c < n + 1) (hl : cs.length = 13) (h1 : ∀ u ∈ cs, u.oneCell' = true) (h1x : ∀ u ∈ xs, u.oneCell' = true) (hg : w.heap[g]? = some (.cells cs.toArray 25 (0, 0))) (hbig : n < 1466015503700) :
    Calls Try.prog 120 #[.slice (some ⟨b, 0, none⟩) n c, .int .i64 (i : Int), .slice (some ⟨g, 0, none⟩) 1 1] w fun e w' => ∃ c', e = .returned (.slice (some ⟨w.heap.size, 0, none⟩) (n + 1) c') ∧ w'.ownsRow B 25 13 (.slice (some ⟨w.heap.size, 0, none⟩) (n + 1) c') (n + 1) (xs.take (i * 13) ++ cs ++ xs.drop (i * 13)) ∧ w.grownBy w' none := by
  obtain ⟨hxl, hcase⟩ := ho
  obtain ⟨cur, hbB, hcur, hnc, hcm, hcs, hx⟩ : ∃ cur, B ≤ b ∧ w.heap[b]? = some (.cells cur 25 (0, 0)) ∧ n ≤ c ∧ c ≤ maxLen ∧ cur.size = c * 13 ∧ cur.toList.take (n * 13) = xs := by
    rcases hcase with ⟨h, _⟩ | ⟨g', cap, cur, h, r⟩
    · cases h
    · injection h with ha _ hc
      injection ha with ha
      injection ha with ha
      subst ha hc
      exact ⟨cur, r⟩
  have hcn : c = n := by omega
  obtain ⟨i0, hi0, hi3⟩ := Option.map_eq_some_iff.mp info25
  have hz : i0.zero = some z25v := congrArg Prod.fst hi3
  have hsz : i0.size = 13 := congrArg (fun q => q.2.1) hi3
  have hby : i0.bytes = 96 := congrArg (fun q => q.2.2) hi3
  have hinfo : (Try.prog.info? 25).map (·.size) = some 13 := by kernel_rfl
  have hdl : (xs.drop (i * 13)).length = (n - i) * 13 := by rw [List.length_drop, hxl]; omega
  have hxg : ∀ (j : Nat) (v : Value), xs[j]? = some v → cur[j]? = some v := fun j v hj => by
    rw [← hx, List.getElem?_take] at hj
    split at hj
    · simpa using hj
    · cases hj
  have hkk : (n : Int) + 1 - (i : Int) = ((n + 1 - i : Nat) : Int) := by omega
  have hik : i + (n + 1 - i) = n + 1 := by omega
  have hold : (Builtin.firstCells i0.size i (.slice (some ⟨b, 0, none⟩) i c)).run Try.prog w.drew = .ok (xs.take (i * 13)).toArray w.drew := by
    rw [hsz]
    exact run_firstCells_some w.drew 13 i ⟨b, 0, none⟩ i c (xs.take (i * 13)) (by rw [List.length_take]; omega) (run_of_blk (w := w.drew) hcur 0 _ (fun j v hj => by
      rw [List.getElem?_take] at hj
      split at hj
      · rw [Nat.zero_add]; exact hxg j v hj
      · cases hj))
  have hrz : ∀ ty, (Builtin.append_ #[53, 3] ty #[.slice (some ⟨b, 0, none⟩) i c, .int .i64 ((n : Int) + 1 - (i : Int))]).run Try.prog w =
      .ok (.slice (some ⟨w.heap.size, 0, none⟩) (n + 1) (grownCap w (n + 1) c 25)) (w.drew.alloc (.cells ((xs.take (i * 13)).toArray ++ Builtin.zeroCells z25v.cells (n + 1 - i) ++ Builtin.zeroCells z25v.cells (grownCap w (n + 1) c 25 - (n + 1))) 25)) := fun ty => by
    have h := Lib.run_append_grow_zeros w 53 3 ty 25 i0 _ .i64 .i64 Try.underlying53 (by kernel_rfl) hi0 hz (some ⟨b, 0, none⟩) i c (xs.take (i * 13)) hold (n + 1 - i) (by omega) (by omega) (by omega) (by omega) (by rw [hby]; omega) (by rw [hby, hik]; exact growslice_fits hroom (by omega))
    rw [hik] at h
    rw [hkk]
    exact h
  obtain ⟨G, hG⟩ : ∃ G, G = grownCap w (n + 1) c 25 := ⟨_, rfl⟩
  have hGn : n + 1 ≤ G := by rw [hG]; exact grownCap_ge w _ _ _
  have hGm : G ≤ maxLen := by rw [hG]; exact grownCap_le_maxLen w (n + 1) c 25 (by unfold maxLen; omega)
  obtain ⟨ROW, hROW⟩ : ∃ ROW : Array Value, ROW = (xs.take (i * 13)).toArray ++ Builtin.zeroCells z25v.cells (n + 1 - i) ++ Builtin.zeroCells z25v.cells (G - (n + 1)) := ⟨_, rfl⟩
  rw [← hG, ← hROW] at hrz
  have hRl : ROW.size = G * 13 := by
    rw [hROW, Array.size_append, Array.size_append, zeros_size, zeros_size, show z25v.cells.size = 13 by rfl, List.size_toArray, List.length_take]
    omega
  have hRt : ROW.toList.take (i * 13) = xs.take (i * 13) := by
    rw [hROW, Array.toList_append, Array.toList_append, List.append_assoc]
    exact List.take_left' (by rw [List.length_take]; omega)
  obtain ⟨W1, hW1⟩ : ∃ W1, W1 = w.drew.alloc (.cells ROW 25) := ⟨_, rfl⟩
  obtain ⟨H, hH⟩ : ∃ H, H = w.heap.size := ⟨_, rfl⟩
  rw [← hW1, ← hH] at hrz
  have hbw : b < H := by rw [hH]; exact blk_lt hcur
  have hgw : g < H := by rw [hH]; exact blk_lt hg
  have hN : W1.heap[H]? = some (.cells ROW 25 (0, 0)) := by rw [hW1, hH]; exact heap_alloc_new w.drew _
  have hbK : W1.heap[b]? = some (.cells cur 25 (0, 0)) := by rw [hW1]; exact blk_alloc (w := w.drew) hcur _
  have hgK : W1.heap[g]? = some (.cells cs.toArray 25 (0, 0)) := by rw [hW1]; exact blk_alloc (w := w.drew) hg _
  have hgr1 : w.grownBy W1 none := by
    rw [hW1]
    exact grown_of_below (below_alloc (below_drew (Below.refl _ w)) _) none
  have hmin2 : Nat.min 1 (n + 1 - i) = 1 := by simp only [Nat.min_def]; split <;> omega
  have hmin : Nat.min (n - i) (n - i) = n - i := by simp only [Nat.min_def]; split <;> omega
  have hcpA : ∀ ty dc, (Builtin.copy_ #[53, 53] ty #[.slice (some ⟨H, i * 13, none⟩) (n + 1 - i) dc, .slice (some ⟨g, 0, none⟩) 1 1]).run Try.prog W1 = .ok (goInt 1) (W1.setCells H (i * 13) cs) := fun ty dc => by
    have h := run_copy_rows (P := Try.prog) W1 53 53 ty 25 13 H (i * 13) (n + 1 - i) dc ⟨g, 0, none⟩ 1 1 cs Try.underlying53 hinfo (by rw [hmin2, hl])
      (run_of_blk hgK _ _ (fun j v hj => by rw [Nat.zero_add]; simpa using hj))
      (fun j hj => by rw [blk_cell hN, Array.getElem?_eq_getElem (by omega)]; rfl) (fun j hj => blk_frozen hN _) h1
    rw [hmin2] at h
    exact h
  obtain ⟨cur1, hc1, hs1, hl1⟩ := setCells_row cs (i * 13) W1 ROW hN (by omega)
  obtain ⟨p1, p2, p3, p4⟩ := setCells_same H cs (i * 13) W1
  have hbK1 : (W1.setCells H (i * 13) cs).heap[b]? = some (.cells cur 25 (0, 0)) := (setCells_far _ _ b (by omega)).trans hbK
  have hfar1 : ∀ k, k ≠ H → (W1.setCells H (i * 13) cs).heap[k]? = W1.heap[k]? := fun k hk => setCells_far _ _ k hk
  obtain ⟨W2, hW2⟩ : ∃ W2, W2 = W1.setCells H (i * 13) cs := ⟨_, rfl⟩
  rw [← hW2] at hcpA hc1 p1 p2 p3 p4 hbK1 hfar1
  have hc1d : W2.drew.heap[H]? = some (.cells cur1 25 (0, 0)) := hc1
  have hcpB : ∀ ty dc sc, (Builtin.copy_ #[53, 53] ty #[.slice (some ⟨H, (i + 1) * 13, none⟩) (n - i) dc, .slice (some ⟨b, i * 13, none⟩) (n - i) sc]).run Try.prog W2.drew = .ok (goInt ((n - i : Nat) : Int)) (W2.drew.setCells H ((i + 1) * 13) (xs.drop (i * 13))) := fun ty dc sc => by
    have h := run_copy_rows (P := Try.prog) W2.drew 53 53 ty 25 13 H ((i + 1) * 13) (n - i) dc ⟨b, i * 13, none⟩ (n - i) sc (xs.drop (i * 13)) Try.underlying53 hinfo (by rw [hmin, hdl])
      (run_of_blk (w := W2.drew) hbK1 _ _ (fun j v hj => hxg _ v (by rwa [List.getElem?_drop] at hj)))
      (fun j hj => by rw [blk_cell hc1d, Array.getElem?_eq_getElem (by omega)]; rfl) (fun j hj => blk_frozen hc1d _) (fun v hv => h1x v (List.mem_of_mem_drop hv))
    rw [hmin] at h
    exact h
  obtain ⟨cur2, hc2, hs2, hl2⟩ := setCells_row (xs.drop (i * 13)) ((i + 1) * 13) W2.drew cur1 hc1d (by omega)
  obtain ⟨q1, q2, q3, q4⟩ := setCells_same H (xs.drop (i * 13)) ((i + 1) * 13) W2.drew
  have hfin : (W2.drew.setCells H ((i + 1) * 13) (xs.drop (i * 13))).ownsRow B 25 13 (.slice (some ⟨H, 0, none⟩) (n + 1) G) (n + 1) (xs.take (i * 13) ++ cs ++ xs.drop (i * 13)) := by
    refine ⟨?_, .inr ⟨H, G, cur2, rfl, by omega, hc2, hGn, hGm, by omega, ?_⟩⟩
    · simp only [List.length_append, List.length_take, hdl, hxl, hl]
      omega
    · rw [hl2, hl1]
      exact ins_list2 ROW.toList (xs.take (i * 13)) cs (xs.drop (i * 13)) i n G (by simpa using hRl) hRt hi hGn hl hdl
  have hgr : w.grownBy (W2.drew.setCells H ((i + 1) * 13) (xs.drop (i * 13))) none := ⟨by rw [q1]; show W2.os = _; rw [p1, hgr1.os], by rw [q2]; show W2.tape = _; rw [p2, hgr1.tape], by rw [q3]; show W2.output = _; rw [p3, hgr1.output], by rw [q4]; show _ ≤ W2.heap.size; rw [p4]; exact hgr1.size, fun k hk hk2 => (setCells_far _ _ k (by omega)).trans ((hfar1 k (by omega)).trans (hgr1.block k hk hk2))⟩
  have hG63 : G ≤ 9223372036854775807 := by unfold maxLen at hGm; omega
  have mixed : Try.prog.follows Departure.mixedOrders = true := by kernel_rfl
  have hw1 : IntKind.i64.wrap ((i : Int) + 1) = (i : Int) + 1 := by rw [IntKind.wrap_i64]; omega
  have hw2 : IntKind.i64.wrap ((n : Int) + 1) = (n : Int) + 1 := by rw [IntKind.wrap_i64]; omega
  have hw3 : IntKind.i64.wrap ((n : Int) + 1 - (i : Int)) = (n : Int) + 1 - (i : Int) := by rw [IntKind.wrap_i64]; omega
  have hb1 : (0 : Int) ≤ (i : Int) + 1 := by omega
  have hin : i ≤ n := by omega
  have htn : ((i : Int) + 1).toNat = i + 1 := by omega
  have htn2 : ((n : Int) + 1).toNat = n + 1 := by omega
  have hb3 : (i : Int) ≤ (n : Int) := by omega
  have hGi : ¬ (G = i) := by omega
  have hGim : ¬ (G = i + 1) := by omega
  have hci : ¬ (c = i) := by omega
  have hz2 : ¬ ((i : Int) = (n : Int)) := by omega
  have hz3 : (c : Int) < (n : Int) + 1 := by omega
  rw [← hH]
  clear hfar1 hc2 hs2 hl2 q1 q2 q3 q4 p1 p2 p3 p4 hl1 hs1 hW1 hxg hcur hg hc1 hc1d hW2 hgr1 hbK1 hbK hgK hN hRt hRl hROW hG hold hkk hik hcn hH hcase
  go_enter Try.func120, Try.ntmps120
  go_wp2_with (first
    | (at_builtin; refine Lib.wpList_append_run _ rfl _ _ _ _ rfl _ _ rfl rfl _ _ (hrz _) ?_)
    | (at_builtin; refine copy_run _ rfl _ _ 53 53 rfl _ _ rfl rfl (hcpA _ _) ?_))
  go_region_law_o (refine copy_step rfl _ _ 53 53 rfl _ _ (by simp [Act.eval, Act.put]) (by simp [Act.eval, Act.put]) (hcpB _ _ _) ?_)
  go_wp2
  go_ret
  exact ⟨G, rfl, hfin, hgr⟩
end Go.Proofs.Ytfkidiagmekleaa.QAll
