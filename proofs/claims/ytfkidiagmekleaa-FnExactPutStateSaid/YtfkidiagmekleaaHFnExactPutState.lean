-- Written by a program of this session (patch_print.py over the print).
import Derived.Test.YtfkidiagmekleaaQAllx0
import Derived.Test.YtfkidiagmekleaaREqSt
import Derived.Test.YtfkidiagmekleaaRIPs
import Derived.Test.YtfkidiagmekleaaRMk
import Derived.Test.YtfkidiagmekleaaRMkP
import Derived.Test.YtfkidiagmekleaaRSPs
import Derived.Test.YtfkidiagmekleaaRTo
namespace Go.Proofs.Ytfkidiagmekleaa.QAll
open Go.RowKit Go.Proofs.YtfkidiagmekleaaW.PrintWords Go.Proofs.YtfkidiagmekleaaW.PrintLast Go.Proofs.YtfkidiagmekleaaW.PrintMore
attribute [local go_sem] max2_int min2_int max_two min_two max_three min_three max_four min_four   -- for this text's walks alone
set_option linter.unusedVariables false
set_option linter.unusedSimpArgs false

theorem C49_4 {W : World} {g : Nat} {T : TypeId} {v0 v1 v2 v3 : Value} (h : W.heap[g]? = some (.cells #[v0, v1, v2, v3] T (0, 0))) : (W.cell? ⟨g, 0, none⟩ = some v0 ∧ W.cell? ⟨g, 1, none⟩ = some v1 ∧ W.cell? ⟨g, 2, none⟩ = some v2 ∧ W.cell? ⟨g, 3, none⟩ = some v3) ∧ W.frozen? ⟨g, 0, none⟩ = false ∧ W.frozen? ⟨g, 1, none⟩ = false ∧ W.frozen? ⟨g, 2, none⟩ = false ∧ W.frozen? ⟨g, 3, none⟩ = false := ⟨⟨(blk_cell h 0).trans rfl, (blk_cell h 1).trans rfl, (blk_cell h 2).trans rfl, (blk_cell h 3).trans rfl⟩, blk_frozen h 0, blk_frozen h 1, blk_frozen h 2, blk_frozen h 3⟩
theorem D49_4 {W : World} {g : Nat} {T : TypeId} {v0 v1 v2 v3 : Value} (h : W.heap[g]? = some (.cells #[v0, v1, v2, v3] T (0, 0))) {R : Prop} (r : R) : W.cell? ⟨g, 0, none⟩ = some v0 ∧ W.cell? ⟨g, 1, none⟩ = some v1 ∧ W.cell? ⟨g, 2, none⟩ = some v2 ∧ W.cell? ⟨g, 3, none⟩ = some v3 ∧ R := ⟨(blk_cell h 0).trans rfl, (blk_cell h 1).trans rfl, (blk_cell h 2).trans rfl, (blk_cell h 3).trans rfl, r⟩
theorem E49_4 {W : World} {g : Nat} {T : TypeId} {v0 v1 v2 v3 o0 o1 o2 o3 : Value} (h : W.heap[g]? = some (.cells #[o0, o1, o2, o3] T (0, 0))) : ((((W.setCell ⟨g, 0, none⟩ v0).setCell ⟨g, 1, none⟩ v1).setCell ⟨g, 2, none⟩ v2).setCell ⟨g, 3, none⟩ v3).heap[g]? = some (.cells #[v0, v1, v2, v3] T (0, 0)) := (blk_put (cs := #[v0, v1, v2, o3]) (blk_put (cs := #[v0, v1, o2, o3]) (blk_put (cs := #[v0, o1, o2, o3]) (blk_put (cs := #[o0, o1, o2, o3]) h 0 _ rfl) 1 _ rfl) 2 _ rfl) 3 _ rfl)
theorem F49_4 {W : World} {g : Nat} {v0 v1 v2 v3 : Value} {a : Addr} (h : a.block ≠ g) : ((((W.setCell ⟨g, 0, none⟩ v0).setCell ⟨g, 1, none⟩ v1).setCell ⟨g, 2, none⟩ v2).setCell ⟨g, 3, none⟩ v3).cell? a = W.cell? a := by rw [cell_far (p := ⟨g, 3, none⟩) h, cell_far (p := ⟨g, 2, none⟩) h, cell_far (p := ⟨g, 1, none⟩) h, cell_far (p := ⟨g, 0, none⟩) h]
theorem Z49_1 {p : Prop} (h : p := by (with_reducible repeat (first | apply Kd.R_alloc | apply Kd.R_drewN | apply Kd.R_drew)); exact (Kd.R_mono (Kd.R_far (p := ⟨gb1576, 3, none⟩) (Kd.R_far (p := ⟨gb1576, 2, none⟩) (Kd.R_far (p := ⟨gb1576, 1, none⟩) (Kd.R_far (p := ⟨gb1576, 0, none⟩) (Kd.R_types HO1570.out BK1576.out (by decide)) (fun _ hk => hk.2) (.slice Ao42 t1568.length co42)) (fun _ hk => hk.2) (.slice Ao45 t1571.length co45)) (fun _ hk => hk.2) (.int .i64 t1574)) (fun _ hk => hk.2) (.int .i64 t1575)) (fun _ h_ => h_.1))) : p := h
theorem Z49_2 {p : Prop} (h : p := by (with_reducible repeat (first | apply Kd.R_alloc | apply Kd.R_drewN | apply Kd.R_drew)); exact (Kd.R_mono (Kd.R_far (p := ⟨gb1576, 3, none⟩) (Kd.R_far (p := ⟨gb1576, 2, none⟩) (Kd.R_far (p := ⟨gb1576, 1, none⟩) (Kd.R_far (p := ⟨gb1576, 0, none⟩) (Kd.R_types HO1573.out BK1576.out (by decide)) (fun _ hk => hk.2) (.slice Ao42 t1568.length co42)) (fun _ hk => hk.2) (.slice Ao45 t1571.length co45)) (fun _ hk => hk.2) (.int .i64 t1574)) (fun _ hk => hk.2) (.int .i64 t1575)) (fun _ h_ => h_.1))) : p := h
theorem Z49_3 {p : Prop} (h : p := by (with_reducible repeat (first | apply Kd.R_alloc | apply Kd.R_drewN | apply Kd.R_drew)); exact (Kd.R_mono (Kd.R_far (p := ⟨gb1576, 3, none⟩) (Kd.R_far (p := ⟨gb1576, 2, none⟩) (Kd.R_far (p := ⟨gb1576, 1, none⟩) (Kd.R_far (p := ⟨gb1576, 0, none⟩) (Kd.R_types HO1567.out BK1576.out (by decide)) (fun _ hk => hk.2) (.slice Ao42 t1568.length co42)) (fun _ hk => hk.2) (.slice Ao45 t1571.length co45)) (fun _ hk => hk.2) (.int .i64 t1574)) (fun _ hk => hk.2) (.int .i64 t1575)) (fun _ h_ => h_.1))) : p := h
theorem Z49_29 {p : Prop} (h : p := by (with_reducible repeat (first | refine blk_drewN ?_ _ | refine blk_drew ?_ | refine blk_alloc ?_ _)); exact BK1576.out) : p := h
theorem Z49_4 {p : Prop} (h : p := by exact (blk_below (g := gb1576) (o := .cells #[.slice Ao42 t1568.length co42, .slice Ao45 t1571.length co45, .int .i64 t1574, .int .i64 t1575] 56 (0, 0)) Z49_29 hb)) : p := h
theorem Z49_28 {p : Prop} (h : p := by (with_reducible repeat (first | refine blk_drewN ?_ _ | refine blk_drew ?_ | refine blk_alloc ?_ _)); exact BK1555.out) : p := h
theorem Z49_5 {p : Prop} (h : p := by exact (blk_below (g := gb1555) (o := .cells #[.slice A0_0 l0_0.length c0_0, .slice A0_1 l0_1.length c0_1, .int .i64 a0_2, .int .i64 a0_3] 50 (0, 0)) Z49_28 hb)) : p := h
theorem Z49_6 {p : Prop} (h : p := by (try simp only [List.map_toArray, List.map_cons, List.map_nil]); first | done | (rw [show t1595.length = t1577.length from (Kd.R_reads' HO1579.out).1.symm] <;> rfl) | rfl | (simp only [List.length_drop, List.length_take]; rfl)) : p := h
theorem Z49_13 {p : Prop} (h : p := by repeat (first | (with_reducible first | exact HB.out | apply below_alloc | apply pw_below_drewN | apply below_drew1 | refine below_set ?_ GE1555.out) | exact HB.out)) : p := h
theorem Z49_7 {p : Prop} (h : p := by exact ((by rw [hg]; exact (below_size Z49_13) : w.heap.size ≤ gb1576))) : p := h
theorem Z49_9 {p : Prop} (h : p := by repeat (first | (with_reducible first | exact HB.out | apply below_alloc | apply pw_below_drewN | apply below_drew1 | refine below_set ?_ GE1555.out | refine below_set ?_ GE1576.out) | exact HB.out)) : p := h
theorem Z49_8 {p : Prop} (h : p := by exact (below_step Z49_9 hb)) : p := h
theorem Z49_10 {p : Prop} (h : p := by exact (Kd.R_lower ho0 (below_size Z49_13))) : p := h
theorem Z49_11 {p : Prop} (h : p := by exact ((by rw [hg]; exact (below_size (by repeat (first | (with_reducible first | exact HB.out | apply below_alloc | apply pw_below_drewN | apply below_drew1) | exact HB.out))) : w.heap.size ≤ gb1555))) : p := h
theorem Z49_12 {p : Prop} (h : p := by exact (below_step Z49_13 hb)) : p := h
theorem Z49_14 {p : Prop} (h : p := by exact (below_step (by repeat (first | (with_reducible first | exact HB.out | apply below_alloc | apply pw_below_drewN | apply below_drew1) | exact HB.out)) hb)) : p := h
theorem Z49_15 {p : Prop} (h : p := by (try simp only [List.map_toArray, List.map_cons, List.map_nil]); first | done | rfl | (simp only [List.length_drop, List.length_take]; rfl)) : p := h
theorem Z49_31 {p : Prop} (h : p := by (with_reducible repeat (first | apply Kd.R_alloc | apply Kd.R_drewN | apply Kd.R_drew)); exact HO1559.out) : p := h
theorem Z49_16 {p : Prop} (h : p := by exact (Kd.R_elder' Z49_31 (Kd.R_base ho0) hb)) : p := h
theorem Z49_32 {p : Prop} (h : p := by (with_reducible repeat (first | apply Kd.R_alloc | apply Kd.R_drewN | apply Kd.R_drew)); exact HO1562.out) : p := h
theorem Z49_17 {p : Prop} (h : p := by exact (Kd.R_elder' Z49_32 (Kd.R_base ho1) hb)) : p := h
theorem Z49_34 {p : Prop} (h : p := by (with_reducible repeat (first | apply Kd.R_alloc | apply Kd.R_drewN | apply Kd.R_drew)); exact HO1570.out) : p := h
theorem Z49_18 {p : Prop} (h : p := by exact (Kd.R_elder' Z49_34 (Kd.R_base ho0) hb)) : p := h
theorem Z49_35 {p : Prop} (h : p := by (with_reducible repeat (first | apply Kd.R_alloc | apply Kd.R_drewN | apply Kd.R_drew)); exact HO1573.out) : p := h
theorem Z49_19 {p : Prop} (h : p := by exact (Kd.R_elder' Z49_35 (Kd.R_base ho1) hb)) : p := h
theorem Z49_20 {p : Prop} (h : p := by exact (Kd.R_below Z49_31 hb)) : p := h
theorem Z49_21 {p : Prop} (h : p := by exact (Kd.R_below Z49_32 hb)) : p := h
theorem Z49_33 {p : Prop} (h : p := by (with_reducible repeat (first | apply Kd.R_alloc | apply Kd.R_drewN | apply Kd.R_drew)); exact HO1567.out) : p := h
theorem Z49_22 {p : Prop} (h : p := by exact (Kd.R_below Z49_33 hb)) : p := h
theorem Z49_23 {p : Prop} (h : p := by exact (Kd.R_below Z49_34 hb)) : p := h
theorem Z49_24 {p : Prop} (h : p := by exact (Kd.R_below Z49_35 hb)) : p := h
theorem Z49_36 {p : Prop} (h : p := by (with_reducible repeat (first | apply Kd.R_alloc | apply Kd.R_drewN | apply Kd.R_drew)); exact HO1579.out) : p := h
theorem Z49_25 {p : Prop} (h : p := by exact (Kd.R_below Z49_36 hb)) : p := h
theorem Z49_37 {p : Prop} (h : p := by (with_reducible repeat (first | apply Kd.R_alloc | apply Kd.R_drewN | apply Kd.R_drew)); exact HO1583.out) : p := h
theorem Z49_26 {p : Prop} (h : p := by exact (Kd.R_below Z49_37 hb)) : p := h
theorem Z49_38 {p : Prop} (h : p := by (with_reducible repeat (first | apply Kd.R_alloc | apply Kd.R_drewN | apply Kd.R_drew)); exact HO1586.out) : p := h
theorem Z49_27 {p : Prop} (h : p := by exact (Kd.R_below Z49_38 hb)) : p := h
theorem Z49_30 {p : Prop} (h : p := by simp only [Act.put, List.setIfInBounds_toArray, List.set_cons_zero, List.set_cons_succ, i64_w, i32_w]; rfl) : p := h
/-! ### laws_FnExactPutState: function 7 -/
def laws_FnExactPutState.f (k : Nat) (l0_0 : List (S75)) (l0_1 : List (S124)) (a0_2 : Int) (a0_3 : Int) : Option (Bool) := (laws_szState.f l0_0 l0_1 a0_2 a0_3 1048576).bind fun t1556 => (if t1556 < 0 then (some true) else ((laws_toState.f k l0_0 l0_1 a0_2 a0_3).bind fun bt1557 => ((spec_PutState.f k bt1557.1 bt1557.2.1 bt1557.2.2.1 bt1557.2.2.2).bind fun t1565 => ((laws_toState.f k l0_0 l0_1 a0_2 a0_3).bind fun bt1568 => ((impl_PutState.f k bt1568.1 bt1568.2.1 bt1568.2.2.1 bt1568.2.2.2).bind fun t1577 => ((laws_eqByteS.f k t1577 t1565).bind fun t1580 => (if t1580 = true then ((laws_toState.f k l0_0 l0_1 a0_2 a0_3).bind fun bt1581 => ((laws_eqState.f k bt1568.1 bt1568.2.1 bt1568.2.2.1 bt1568.2.2.2 bt1581.1 bt1581.2.1 bt1581.2.2.1 bt1581.2.2.2).bind fun t1589 => (if t1589 = true then ((laws_markState.f k bt1568.1 bt1568.2.1 bt1568.2.2.1 bt1568.2.2.2 1).bind fun bt1590 => (if bt1590.1 < 0 then (some false) else ((laws_eqByteS.f k t1577 t1565).bind fun t1593 => (if t1593 = true then ((laws_markByteS.f k t1577 1).bind fun bt1594 => ((laws_heldByteS.f k bt1594.2 1).bind fun t1596 => (if t1596 < 0 then (some false) else (if t1596 = bt1594.1 then ((laws_toState.f k l0_0 l0_1 a0_2 a0_3).bind fun bt1597 => ((impl_PutState.f k bt1597.1 bt1597.2.1 bt1597.2.2.1 bt1597.2.2.2).bind fun t1605 => ((laws_eqByteS.f k t1605 t1565).bind fun t1608 => (if t1608 = true then ((laws_heldByteS.f k bt1594.2 1).bind fun t1609 => (if t1609 < 0 then (some false) else (if t1609 = bt1594.1 then (some true) else (some false)))) else (some false))))) else (some false))))) else (some false))))) else (some false)))) else (some false))))))))
theorem laws_FnExactPutState.mono : ∀ a0 a1 a2 a3 k, LeO (laws_FnExactPutState.f k a0 a1 a2 a3) (laws_FnExactPutState.f (k + 1) a0 a1 a2 a3) := by
  intro a0 a1 a2 a3 k
  unfold laws_FnExactPutState.f
  repeat' first
      | (with_reducible exact impl_PutState.mono _ _ _ _ _)
      | (with_reducible exact laws_eqByteS.mono _ _ _)
      | (with_reducible exact laws_eqState.mono _ _ _ _ _ _ _ _ _)
      | (with_reducible exact laws_heldByteS.mono _ _ _)
      | (with_reducible exact laws_markByteS.mono _ _ _)
      | (with_reducible exact laws_markState.mono _ _ _ _ _ _)
      | (with_reducible exact laws_toState.mono _ _ _ _ _)
      | (with_reducible exact spec_PutState.mono _ _ _ _ _)
      | (with_reducible exact LeO.refl _)
      | (with_reducible exact LeO.none _)
      | (with_reducible refine LeO.ite ?_ ?_)
      | (with_reducible refine LeO.bind ?_ (fun _ => ?_))
      | exact impl_PutState.mono _ _ _ _ _
      | exact laws_eqByteS.mono _ _ _
      | exact laws_eqState.mono _ _ _ _ _ _ _ _ _
      | exact laws_heldByteS.mono _ _ _
      | exact laws_markByteS.mono _ _ _
      | exact laws_markState.mono _ _ _ _ _ _
      | exact laws_toState.mono _ _ _ _ _
      | exact spec_PutState.mono _ _ _ _ _
      | exact LeO.none _
      | refine LeO.ite ?_ ?_
      | refine LeO.bind ?_ (fun _ => ?_)
set_option maxHeartbeats 8000000 in
set_option maxRecDepth 100000 in
theorem laws_FnExactPutState.calls (k : Nat) (A0_0 : Option Addr) (c0_0 : Nat) (l0_0 : List (S75)) (A0_1 : Option Addr) (c0_1 : Nat) (l0_1 : List (S124)) (a0_2 : Int) (a0_3 : Int) (r : Bool) (w : World) (hr0_0 : Kd.C k75 w A0_0 l0_0.length l0_0) (hc0_0 : l0_0.length ≤ c0_0) (hr0_1 : Kd.C k124 w A0_1 l0_1.length l0_1) (hc0_1 : l0_1.length ≤ c0_1) (hrt : r = true) (h : laws_FnExactPutState.f k l0_0 l0_1 a0_2 a0_3 = some r) :
    Calls Try.prog 7 #[.agg #[.slice A0_0 l0_0.length c0_0, .slice A0_1 l0_1.length c0_1, .int .i64 a0_2, .int .i64 a0_3]] w fun e w' => e = .returned (.bool r) ∧ Below w.heap.size w w' := by
  have hu50 := Try.underlying50
  have hu56 := Try.underlying56
  have HRT := Aside0.mk hrt
  clear hrt
  have HR0_0 := Aside0.mk hr0_0
  have HC0_0 := Aside0.mk hc0_0
  clear hr0_0 hc0_0
  have HR0_1 := Aside0.mk hr0_1
  have HC0_1 := Aside0.mk hc0_1
  clear hr0_1 hc0_1
  have HB := Aside0.mk (Below.refl w.heap.size w)
  have H : ((laws_szState.f l0_0 l0_1 a0_2 a0_3 1048576).bind fun t1556 => (if t1556 < 0 then (some true) else ((laws_toState.f k l0_0 l0_1 a0_2 a0_3).bind fun bt1557 => ((spec_PutState.f k bt1557.1 bt1557.2.1 bt1557.2.2.1 bt1557.2.2.2).bind fun t1565 => ((laws_toState.f k l0_0 l0_1 a0_2 a0_3).bind fun bt1568 => ((impl_PutState.f k bt1568.1 bt1568.2.1 bt1568.2.2.1 bt1568.2.2.2).bind fun t1577 => ((laws_eqByteS.f k t1577 t1565).bind fun t1580 => (if t1580 = true then ((laws_toState.f k l0_0 l0_1 a0_2 a0_3).bind fun bt1581 => ((laws_eqState.f k bt1568.1 bt1568.2.1 bt1568.2.2.1 bt1568.2.2.2 bt1581.1 bt1581.2.1 bt1581.2.2.1 bt1581.2.2.2).bind fun t1589 => (if t1589 = true then ((laws_markState.f k bt1568.1 bt1568.2.1 bt1568.2.2.1 bt1568.2.2.2 1).bind fun bt1590 => (if bt1590.1 < 0 then (some false) else ((laws_eqByteS.f k t1577 t1565).bind fun t1593 => (if t1593 = true then ((laws_markByteS.f k t1577 1).bind fun bt1594 => ((laws_heldByteS.f k bt1594.2 1).bind fun t1596 => (if t1596 < 0 then (some false) else (if t1596 = bt1594.1 then ((laws_toState.f k l0_0 l0_1 a0_2 a0_3).bind fun bt1597 => ((impl_PutState.f k bt1597.1 bt1597.2.1 bt1597.2.2.1 bt1597.2.2.2).bind fun t1605 => ((laws_eqByteS.f k t1605 t1565).bind fun t1608 => (if t1608 = true then ((laws_heldByteS.f k bt1594.2 1).bind fun t1609 => (if t1609 < 0 then (some false) else (if t1609 = bt1594.1 then (some true) else (some false)))) else (some false))))) else (some false))))) else (some false))))) else (some false)))) else (some false))))))))) = some r := h
  clear h
  replace H := Option.bind_eq_some_iff.mp H
  obtain ⟨t1556, A20, H⟩ := H
  (try dsimp only at H)
  have A2 := Aside0.mk A20
  clear A20
  by_cases c3 : t1556 < 0
  · rw [if_pos c3] at H
    have c3b0 : decide (t1556 < 0) = true := decide_eq_true c3
    clear c3
    obtain rfl := Option.some.inj H
    go_enter Try.func7, Try.ntmps7
    go_wp2_with (first | ((with_reducible refine gate_dst (N := 1) rfl ?_); refine box_event ?hg (N := 1) ?hd (cs := #[.slice A0_0 l0_0.length c0_0, .slice A0_1 l0_1.length c0_1, .int .i64 a0_2, .int .i64 a0_3]) (t := 50) ?hr ?_; (case hd => rfl); (case hg => rfl); (case hr => first | (go_simp; done) | (go_simp; rfl)); intro gb1555 hg w4 hbox hb; have n0_ := Aside0.mk Z49_14; have n1_ := Aside0.mk (hbox); have n2_ := Aside0.mk Z49_11; have n3_ := Aside0.mk Z49_11; clear HB; have HB := n0_; have BK1555 := n1_; have GW1555 := n2_; have GE1555 := n3_; clear n0_ n1_ n2_ n3_; clear hb hbox hg; obtain ⟨⟨hcz5_0, hcz5_1, hcz5_2, hcz5_3⟩, hfz5_0, hfz5_1, hfz5_2, hfz5_3⟩ := C49_4 BK1555.out) | ((with_reducible refine gate_callee (f := 35) rfl ?_); refine goesL_ (some 13) rfl rfl Try.func35 (by kernel_rfl) rfl #[.agg #[.slice A0_0 l0_0.length c0_0, .slice A0_1 l0_1.length c0_1, .int .i64 a0_2, .int .i64 a0_3], .int .i64 1048576] rfl Z49_15 ?_; (with_reducible refine (laws_szState.calls _ _ l0_0 _ _ l0_1 a0_2 a0_3 1048576 t1556 _ ?side1 ?side2 ?side3 ?side4 A2.out).mono ?_); (case side1 => repeat (first | exact (Kd.C_below HR0_0.out HB.out) | (with_reducible refine Kd.C_alloc ?_ _) | (with_reducible refine Kd.C_drewN ?_ _) | (with_reducible refine Kd.C_drew ?_))); (case side2 => exact HC0_0.out); (case side3 => repeat (first | exact (Kd.C_below HR0_1.out HB.out) | (with_reducible refine Kd.C_alloc ?_ _) | (with_reducible refine Kd.C_drewN ?_ _) | (with_reducible refine Kd.C_drew ?_))); (case side4 => exact HC0_1.out); rintro e w6 ⟨rfl, hb⟩; refine ⟨_, rfl, ?_⟩; have n0_ := Aside0.mk Z49_5; have n1_ := Aside0.mk Z49_12; clear BK1555; clear HB; have BK1555 := n0_; have HB := n1_; clear n0_ n1_; (try clear hb); (try clear hb2); (try clear hk); (try clear hi)))
    go_ret
    exact ⟨(by first | rfl | (simp [errW_none, errW_some] <;> rfl) | (simp [*, errW_none, errW_some] <;> rfl)), Z49_13⟩
  rw [if_neg c3] at H
  have c3b0 : decide (t1556 < 0) = false := decide_eq_false c3
  clear c3
  replace H := Option.bind_eq_some_iff.mp H
  obtain ⟨⟨t1557, t1560, t1563, t1564⟩, A70, H⟩ := H
  (try dsimp only at H)
  have A7 := Aside0.mk A70
  clear A70
  replace H := Option.bind_eq_some_iff.mp H
  obtain ⟨t1565, A80, H⟩ := H
  (try dsimp only at H)
  have A8 := Aside0.mk A80
  clear A80
  replace H := Option.bind_eq_some_iff.mp H
  obtain ⟨⟨t1568, t1571, t1574, t1575⟩, A90, H⟩ := H
  (try dsimp only at H)
  have A9 := Aside0.mk A90
  clear A90
  replace H := Option.bind_eq_some_iff.mp H
  obtain ⟨t1577, A100, H⟩ := H
  (try dsimp only at H)
  have A10 := Aside0.mk A100
  clear A100
  replace H := Option.bind_eq_some_iff.mp H
  obtain ⟨t1580, A110, H⟩ := H
  (try dsimp only at H)
  have A11 := Aside0.mk A110
  clear A110
  by_cases c12 : t1580 = true
  rotate_left
  · replace c12 := Bool.eq_false_iff.mpr c12
    subst c12
    have H1 : (some false) = some r := by rw [if_neg (show ¬ (false = true) by decide)] at H; exact H
    clear H
    have H := H1
    clear H1
    exact absurd (H.trans (congrArg some HRT.out)) (by simp)
  subst c12
  rw [if_pos rfl] at H
  replace H := Option.bind_eq_some_iff.mp H
  obtain ⟨⟨t1581, t1584, t1587, t1588⟩, A130, H⟩ := H
  (try dsimp only at H)
  have A13 := Aside0.mk A130
  clear A130
  replace H := Option.bind_eq_some_iff.mp H
  obtain ⟨t1589, A140, H⟩ := H
  (try dsimp only at H)
  have A14 := Aside0.mk A140
  clear A140
  by_cases c15 : t1589 = true
  rotate_left
  · replace c15 := Bool.eq_false_iff.mpr c15
    subst c15
    have H1 : (some false) = some r := by rw [if_neg (show ¬ (false = true) by decide)] at H; exact H
    clear H
    have H := H1
    clear H1
    exact absurd (H.trans (congrArg some HRT.out)) (by simp)
  subst c15
  rw [if_pos rfl] at H
  replace H := Option.bind_eq_some_iff.mp H
  obtain ⟨⟨t1590, t1591, t1592⟩, A160, H⟩ := H
  (try dsimp only at H)
  have A16 := Aside0.mk A160
  clear A160
  by_cases c17 : t1590 < 0
  · rw [if_pos c17] at H
    exact absurd (H.trans (congrArg some HRT.out)) (by simp)
  rw [if_neg c17] at H
  have c17b0 : decide (t1590 < 0) = false := decide_eq_false c17
  clear c17
  replace H := Option.bind_eq_some_iff.mp H
  obtain ⟨t1593, A180, H⟩ := H
  (try dsimp only at H)
  have A18 := Aside0.mk A180
  clear A180
  by_cases c19 : t1593 = true
  rotate_left
  · replace c19 := Bool.eq_false_iff.mpr c19
    subst c19
    have H1 : (some false) = some r := by rw [if_neg (show ¬ (false = true) by decide)] at H; exact H
    clear H
    have H := H1
    clear H1
    exact absurd (H.trans (congrArg some HRT.out)) (by simp)
  subst c19
  rw [if_pos rfl] at H
  replace H := Option.bind_eq_some_iff.mp H
  obtain ⟨⟨t1594, t1595⟩, A200, H⟩ := H
  (try dsimp only at H)
  have A20 := Aside0.mk A200
  clear A200
  replace H := Option.bind_eq_some_iff.mp H
  obtain ⟨t1596, A210, H⟩ := H
  (try dsimp only at H)
  have A21 := Aside0.mk A210
  clear A210
  by_cases c22 : t1596 < 0
  · rw [if_pos c22] at H
    exact absurd (H.trans (congrArg some HRT.out)) (by simp)
  rw [if_neg c22] at H
  have c22b0 : decide (t1596 < 0) = false := decide_eq_false c22
  clear c22
  by_cases c23 : t1596 = t1594
  rotate_left
  · rw [if_neg c23] at H
    exact absurd (H.trans (congrArg some HRT.out)) (by simp)
  rw [if_pos c23] at H
  have c23b0 : (t1596 == t1594) = true := beq_iff_eq.mpr c23
  have c23b1 : (t1596 != t1594) = false := bne_eq_false_iff_eq.mpr c23
  clear c23
  replace H := Option.bind_eq_some_iff.mp H
  obtain ⟨⟨t1597, t1600, t1603, t1604⟩, A240, H⟩ := H
  (try dsimp only at H)
  have A24 := Aside0.mk A240
  clear A240
  replace H := Option.bind_eq_some_iff.mp H
  obtain ⟨t1605, A250, H⟩ := H
  (try dsimp only at H)
  have A25 := Aside0.mk A250
  clear A250
  replace H := Option.bind_eq_some_iff.mp H
  obtain ⟨t1608, A260, H⟩ := H
  (try dsimp only at H)
  have A26 := Aside0.mk A260
  clear A260
  by_cases c27 : t1608 = true
  rotate_left
  · replace c27 := Bool.eq_false_iff.mpr c27
    subst c27
    have H1 : (some false) = some r := by rw [if_neg (show ¬ (false = true) by decide)] at H; exact H
    clear H
    have H := H1
    clear H1
    exact absurd (H.trans (congrArg some HRT.out)) (by simp)
  subst c27
  have H1 : ((laws_heldByteS.f k t1595 1).bind fun t1609 => (if t1609 < 0 then (some false) else (if t1609 = t1594 then (some true) else (some false)))) = some r := by rw [if_pos rfl] at H; exact H
  clear H
  have H := H1
  clear H1
  replace H := Option.bind_eq_some_iff.mp H
  obtain ⟨t1609, A280, H⟩ := H
  replace H : (if t1609 < 0 then (some false) else (if t1609 = t1594 then (some true) else (some false))) = some r := H
  have A28 := Aside0.mk A280
  clear A280
  by_cases c29 : t1609 < 0
  · rw [if_pos c29] at H
    exact absurd (H.trans (congrArg some HRT.out)) (by simp)
  rw [if_neg c29] at H
  have c29b0 : decide (t1609 < 0) = false := decide_eq_false c29
  clear c29
  by_cases c30 : t1609 = t1594
  rotate_left
  · rw [if_neg c30] at H
    exact absurd (H.trans (congrArg some HRT.out)) (by simp)
  rw [if_pos c30] at H
  have c30b0 : (t1609 == t1594) = true := beq_iff_eq.mpr c30
  have c30b1 : (t1609 != t1594) = false := bne_eq_false_iff_eq.mpr c30
  clear c30
  obtain rfl := Option.some.inj H
  go_enter Try.func7, Try.ntmps7
  try go_wp2_with (first | ((with_reducible refine gate_dst (N := 1) rfl ?_); refine box_event ?hg (N := 1) ?hd (cs := #[.slice A0_0 l0_0.length c0_0, .slice A0_1 l0_1.length c0_1, .int .i64 a0_2, .int .i64 a0_3]) (t := 50) ?hr ?_; (case hd => rfl); (case hg => rfl); (case hr => first | (go_simp; done) | (go_simp; rfl)); intro gb1555 hg w31 hbox hb; have n0_ := Aside0.mk Z49_14; have n1_ := Aside0.mk (hbox); have n2_ := Aside0.mk Z49_11; have n3_ := Aside0.mk Z49_11; clear HB; have HB := n0_; have BK1555 := n1_; have GW1555 := n2_; have GE1555 := n3_; clear n0_ n1_ n2_ n3_; clear hb hbox hg; obtain ⟨⟨hcz32_0, hcz32_1, hcz32_2, hcz32_3⟩, hfz32_0, hfz32_1, hfz32_2, hfz32_3⟩ := C49_4 BK1555.out) | ((with_reducible refine gate_callee (f := 35) rfl ?_); refine goesL_ (some 13) rfl rfl Try.func35 (by kernel_rfl) rfl #[.agg #[.slice A0_0 l0_0.length c0_0, .slice A0_1 l0_1.length c0_1, .int .i64 a0_2, .int .i64 a0_3], .int .i64 1048576] rfl Z49_15 ?_; (with_reducible refine (laws_szState.calls _ _ l0_0 _ _ l0_1 a0_2 a0_3 1048576 t1556 _ ?side1 ?side2 ?side3 ?side4 A2.out).mono ?_); (case side1 => repeat (first | exact (Kd.C_below HR0_0.out HB.out) | (with_reducible refine Kd.C_alloc ?_ _) | (with_reducible refine Kd.C_drewN ?_ _) | (with_reducible refine Kd.C_drew ?_))); (case side2 => exact HC0_0.out); (case side3 => repeat (first | exact (Kd.C_below HR0_1.out HB.out) | (with_reducible refine Kd.C_alloc ?_ _) | (with_reducible refine Kd.C_drewN ?_ _) | (with_reducible refine Kd.C_drew ?_))); (case side4 => exact HC0_1.out); rintro e w33 ⟨rfl, hb⟩; refine ⟨_, rfl, ?_⟩; have n0_ := Aside0.mk Z49_5; have n1_ := Aside0.mk Z49_12; clear BK1555; clear HB; have BK1555 := n0_; have HB := n1_; clear n0_ n1_; (try clear hb); (try clear hb2); (try clear hk); (try clear hi); obtain ⟨⟨hcz34_0, hcz34_1, hcz34_2, hcz34_3⟩, hfz34_0, hfz34_1, hfz34_2, hfz34_3⟩ := C49_4 BK1555.out) | ((with_reducible refine gate_callee (f := 37) rfl ?_); refine goesL_ (some 17) rfl rfl Try.func37 (by kernel_rfl) rfl #[.agg #[.slice A0_0 l0_0.length c0_0, .slice A0_1 l0_1.length c0_1, .int .i64 a0_2, .int .i64 a0_3]] rfl Z49_15 ?_; (with_reducible refine (laws_toState.calls k _ _ l0_0 _ _ l0_1 a0_2 a0_3 t1557 t1560 t1563 t1564 _ ?side1 ?side2 ?side3 ?side4 A7.out).mono ?_); (case side1 => repeat (first | exact (Kd.C_below HR0_0.out HB.out) | (with_reducible refine Kd.C_alloc ?_ _) | (with_reducible refine Kd.C_drewN ?_ _) | (with_reducible refine Kd.C_drew ?_))); (case side2 => exact HC0_0.out); (case side3 => repeat (first | exact (Kd.C_below HR0_1.out HB.out) | (with_reducible refine Kd.C_alloc ?_ _) | (with_reducible refine Kd.C_drewN ?_ _) | (with_reducible refine Kd.C_drew ?_))); (case side4 => exact HC0_1.out); rintro e w35 ⟨v1558, v1561, rfl, ho0, ho1, hb⟩; refine ⟨_, rfl, ?_⟩; have n0_ := Aside0.mk Z49_10; have n1_ := Aside0.mk (Kd.R_lower ho1 (below_size Z49_13)); have n2_ := Aside0.mk Z49_5; have n3_ := Aside0.mk Z49_12; clear BK1555; clear HB; have HO1559 := n0_; have HO1562 := n1_; have BK1555 := n2_; have HB := n3_; clear n0_ n1_ n2_ n3_; (try clear hb); (try clear hb2); (try clear hk); (try clear hi); (try clear ho0); (try clear ho1); obtain ⟨Ao36, co36, eo36⟩ := Kd.R_slice HO1559.out; subst eo36; obtain ⟨Ao37, co37, eo37⟩ := Kd.R_slice HO1562.out; subst eo37; clear A7) | ((with_reducible refine gate_callee (f := 52) rfl ?_); refine goesL_ (some 18) rfl rfl Try.func52 (by kernel_rfl) rfl #[.agg #[.slice Ao36 t1557.length co36, .slice Ao37 t1560.length co37, .int .i64 t1563, .int .i64 t1564]] rfl Z49_15 ?_; (with_reducible refine (spec_PutState.calls k _ _ t1557 _ _ t1560 t1563 t1564 t1565 _ ?side1 ?side2 ?side3 ?side4 A8.out).mono ?_); (case side1 => repeat (first | exact (Kd.R_reads' HO1559.out).2.2 | (with_reducible refine Kd.C_alloc ?_ _) | (with_reducible refine Kd.C_drewN ?_ _) | (with_reducible refine Kd.C_drew ?_))); (case side2 => exact (Kd.R_reads' HO1559.out).2.1); (case side3 => repeat (first | exact (Kd.R_reads' HO1562.out).2.2 | (with_reducible refine Kd.C_alloc ?_ _) | (with_reducible refine Kd.C_drewN ?_ _) | (with_reducible refine Kd.C_drew ?_))); (case side4 => exact (Kd.R_reads' HO1562.out).2.1); rintro e w38 ⟨v1566, rfl, ho0, hb⟩; refine ⟨_, rfl, ?_⟩; have n0_ := Aside0.mk Z49_20; have n1_ := Aside0.mk Z49_21; have n2_ := Aside0.mk Z49_10; have n3_ := Aside0.mk Z49_5; have n4_ := Aside0.mk Z49_12; clear HO1559; clear HO1562; clear BK1555; clear HB; have HO1559 := n0_; have HO1562 := n1_; have HO1567 := n2_; have BK1555 := n3_; have HB := n4_; clear n0_ n1_ n2_ n3_ n4_; (try clear hb); (try clear hb2); (try clear hk); (try clear hi); (try clear ho0); obtain ⟨⟨hcz39_0, hcz39_1, hcz39_2, hcz39_3⟩, hfz39_0, hfz39_1, hfz39_2, hfz39_3⟩ := C49_4 BK1555.out) | ((with_reducible refine gate_callee (f := 37) rfl ?_); refine goesL_ (some 20) rfl rfl Try.func37 (by kernel_rfl) rfl #[.agg #[.slice A0_0 l0_0.length c0_0, .slice A0_1 l0_1.length c0_1, .int .i64 a0_2, .int .i64 a0_3]] rfl Z49_15 ?_; (with_reducible refine (laws_toState.calls k _ _ l0_0 _ _ l0_1 a0_2 a0_3 t1568 t1571 t1574 t1575 _ ?side1 ?side2 ?side3 ?side4 A9.out).mono ?_); (case side1 => repeat (first | exact (Kd.C_below HR0_0.out HB.out) | (with_reducible refine Kd.C_alloc ?_ _) | (with_reducible refine Kd.C_drewN ?_ _) | (with_reducible refine Kd.C_drew ?_))); (case side2 => exact HC0_0.out); (case side3 => repeat (first | exact (Kd.C_below HR0_1.out HB.out) | (with_reducible refine Kd.C_alloc ?_ _) | (with_reducible refine Kd.C_drewN ?_ _) | (with_reducible refine Kd.C_drew ?_))); (case side4 => exact HC0_1.out); rintro e w40 ⟨v1569, v1572, rfl, ho0, ho1, hb⟩; refine ⟨_, rfl, ?_⟩; have n0_ := Aside0.mk Z49_16; have n1_ := Aside0.mk Z49_17; have n2_ := Aside0.mk Z49_22; have n3_ := Aside0.mk (Kd.R_lower (Kd.R_new' ho0 (Kd.R_lt Z49_31)) (below_size Z49_13)); have n4_ := Aside0.mk (Kd.R_lower (Kd.R_new' ho1 (Kd.R_lt Z49_32)) (below_size Z49_13)); have n5_ := Aside0.mk Z49_5; have n6_ := Aside0.mk Z49_12; clear HO1559; clear HO1562; clear HO1567; clear BK1555; clear HB; have HO1559 := n0_; have HO1562 := n1_; have HO1567 := n2_; have HO1570 := n3_; have HO1573 := n4_; have BK1555 := n5_; have HB := n6_; clear n0_ n1_ n2_ n3_ n4_ n5_ n6_; (try clear hb); (try clear hb2); (try clear hk); (try clear hi); (try clear ho0); (try clear ho1); clear A9) | ((with_reducible refine gate_dst (N := 5) rfl ?_); refine box_event ?hg (N := 5) ?hd (cs := #[.slice none 0 0, .slice none 0 0, .int .i64 0, .int .i64 0]) (t := 56) ?hr ?_; (case hd => rfl); (case hg => rfl); (case hr => first | (go_simp; done) | (go_simp; rfl)); intro gb1576 hg w41 hbox hb; have n0_ := Aside0.mk Z49_20; have n1_ := Aside0.mk Z49_21; have n2_ := Aside0.mk Z49_22; have n3_ := Aside0.mk Z49_23; have n4_ := Aside0.mk Z49_24; have n5_ := Aside0.mk Z49_5; have n6_ := Aside0.mk Z49_12; have n7_ := Aside0.mk (hbox); have n8_ := Aside0.mk Z49_7; have n9_ := Aside0.mk Z49_7; have n10_ := Aside0.mk ((by rw [hg]; exact Nat.ne_of_lt (blk_lt (g := gb1555) (o := .cells #[.slice A0_0 l0_0.length c0_0, .slice A0_1 l0_1.length c0_1, .int .i64 a0_2, .int .i64 a0_3] 50 (0, 0)) Z49_28) : gb1555 ≠ gb1576)); have n11_ := Aside0.mk ((by rw [hg]; exact Nat.ne_of_gt (blk_lt (g := gb1555) (o := .cells #[.slice A0_0 l0_0.length c0_0, .slice A0_1 l0_1.length c0_1, .int .i64 a0_2, .int .i64 a0_3] 50 (0, 0)) Z49_28) : gb1576 ≠ gb1555)); clear HO1559; clear HO1562; clear HO1567; clear HO1570; clear HO1573; clear BK1555; clear HB; have HO1559 := n0_; have HO1562 := n1_; have HO1567 := n2_; have HO1570 := n3_; have HO1573 := n4_; have BK1555 := n5_; have HB := n6_; have BK1576 := n7_; have GW1576 := n8_; have GE1576 := n9_; have NB1555_1576 := n10_; have NB1576_1555 := n11_; clear n0_ n1_ n2_ n3_ n4_ n5_ n6_ n7_ n8_ n9_ n10_ n11_; clear hb hbox hg; obtain ⟨Ao42, co42, eo42⟩ := Kd.R_slice HO1570.out; subst eo42; have hnb43 := NB1576_1555.out; have hnc43 := NB1555_1576.out; obtain ⟨⟨hcz44_0, hcz44_1, hcz44_2, hcz44_3⟩, hfz44_0, hfz44_1, hfz44_2, hfz44_3⟩ := C49_4 BK1576.out; obtain ⟨Ao45, co45, eo45⟩ := Kd.R_slice HO1573.out; subst eo45) | ((with_reducible refine gate_callee (f := 53) rfl ?_); refine goesL_ (some 22) rfl rfl Try.func53 (by kernel_rfl) rfl #[.agg #[.slice Ao42 t1568.length co42, .slice Ao45 t1571.length co45, .int .i64 t1574, .int .i64 t1575]] rfl Z49_15 ?_; (with_reducible refine (impl_PutState.calls k _ _ t1568 _ _ t1571 t1574 t1575 t1577 _ ?side1 ?side2 ?side3 ?side4 A10.out).mono ?_); (case side1 => refine (Kd.R_reads' (e := 25) (base := w.heap.size) (ok := fun k_ => (True ∧ some k_ ≠ (.slice Ao36 t1557.length co36 : Value).ownBlock)) (n := t1568.length) (c := co42) ?_).2.2; exact Z49_1); (case side2 => exact (Kd.R_reads' HO1570.out).2.1); (case side3 => refine (Kd.R_reads' (e := 71) (base := w.heap.size) (ok := fun k_ => (True ∧ some k_ ≠ (.slice Ao37 t1560.length co37 : Value).ownBlock)) (n := t1571.length) (c := co45) ?_).2.2; exact Z49_2); (case side4 => exact (Kd.R_reads' HO1573.out).2.1); rintro e w46 ⟨v1578, rfl, ho0, hb⟩; refine ⟨_, rfl, ?_⟩; have n0_ := Aside0.mk (Kd.R_below (by (with_reducible repeat (first | apply Kd.R_alloc | apply Kd.R_drewN | apply Kd.R_drew)); exact (Kd.R_mono (Kd.R_far (p := ⟨gb1576, 3, none⟩) (Kd.R_far (p := ⟨gb1576, 2, none⟩) (Kd.R_far (p := ⟨gb1576, 1, none⟩) (Kd.R_far (p := ⟨gb1576, 0, none⟩) (Kd.R_types HO1559.out BK1576.out (by decide)) (fun _ hk => hk.2) (.slice Ao42 t1568.length co42)) (fun _ hk => hk.2) (.slice Ao45 t1571.length co45)) (fun _ hk => hk.2) (.int .i64 t1574)) (fun _ hk => hk.2) (.int .i64 t1575)) (fun _ h_ => h_.1))) hb); have n1_ := Aside0.mk (Kd.R_below (by (with_reducible repeat (first | apply Kd.R_alloc | apply Kd.R_drewN | apply Kd.R_drew)); exact (Kd.R_mono (Kd.R_far (p := ⟨gb1576, 3, none⟩) (Kd.R_far (p := ⟨gb1576, 2, none⟩) (Kd.R_far (p := ⟨gb1576, 1, none⟩) (Kd.R_far (p := ⟨gb1576, 0, none⟩) (Kd.R_types HO1562.out BK1576.out (by decide)) (fun _ hk => hk.2) (.slice Ao42 t1568.length co42)) (fun _ hk => hk.2) (.slice Ao45 t1571.length co45)) (fun _ hk => hk.2) (.int .i64 t1574)) (fun _ hk => hk.2) (.int .i64 t1575)) (fun _ h_ => h_.1))) hb); have n2_ := Aside0.mk (Kd.R_elder' Z49_3 (Kd.R_base ho0) hb); have n3_ := Aside0.mk (Kd.R_below Z49_1 hb); have n4_ := Aside0.mk (Kd.R_below Z49_2 hb); have n5_ := Aside0.mk (Kd.R_lower (Kd.R_new' ho0 (Kd.R_lt Z49_3)) (below_size Z49_9)); have n6_ := Aside0.mk (blk_below (g := gb1555) (o := .cells #[.slice A0_0 l0_0.length c0_0, .slice A0_1 l0_1.length c0_1, .int .i64 a0_2, .int .i64 a0_3] 50 (0, 0)) (by (with_reducible repeat (first | refine blk_drewN ?_ _ | refine blk_drew ?_ | refine blk_alloc ?_ _)); refine blk_far ?_ NB1555_1576.out _; (with_reducible repeat (first | refine blk_drewN ?_ _ | refine blk_drew ?_ | refine blk_alloc ?_ _)); refine blk_far ?_ NB1555_1576.out _; (with_reducible repeat (first | refine blk_drewN ?_ _ | refine blk_drew ?_ | refine blk_alloc ?_ _)); refine blk_far ?_ NB1555_1576.out _; (with_reducible repeat (first | refine blk_drewN ?_ _ | refine blk_drew ?_ | refine blk_alloc ?_ _)); refine blk_far ?_ NB1555_1576.out _; (with_reducible repeat (first | refine blk_drewN ?_ _ | refine blk_drew ?_ | refine blk_alloc ?_ _)); exact BK1555.out) hb); have n7_ := Aside0.mk (blk_below (g := gb1576) (o := .cells #[.slice Ao42 t1568.length co42, .slice Ao45 t1571.length co45, .int .i64 t1574, .int .i64 t1575] 56 (0, 0)) (by (with_reducible repeat (first | refine blk_drewN ?_ _ | refine blk_drew ?_ | refine blk_alloc ?_ _)); apply E49_4; (with_reducible repeat (first | refine blk_drewN ?_ _ | refine blk_drew ?_ | refine blk_alloc ?_ _)); exact BK1576.out) hb); have n8_ := Aside0.mk Z49_8; clear HO1559; clear HO1562; clear HO1567; clear HO1570; clear HO1573; clear BK1555; clear BK1576; clear HB; have HO1559 := n0_; have HO1562 := n1_; have HO1567 := n2_; have HO1570 := n3_; have HO1573 := n4_; have HO1579 := n5_; have BK1555 := n6_; have BK1576 := n7_; have HB := n8_; clear n0_ n1_ n2_ n3_ n4_ n5_ n6_ n7_ n8_; (try clear hb); (try clear hb2); (try clear hk); (try clear hi); (try clear ho0); obtain ⟨Ao47, co47, eo47⟩ := Kd.R_slice HO1579.out; subst eo47; obtain ⟨Ao48, co48, eo48⟩ := Kd.R_slice HO1567.out; subst eo48) | ((with_reducible refine gate_callee (f := 54) rfl ?_); refine goesL_ (some 25) rfl rfl Try.func54 (by kernel_rfl) rfl #[.slice Ao47 t1577.length co47, .slice Ao48 t1565.length co48] rfl Z49_15 ?_; (with_reducible refine (laws_eqByteS.calls k _ _ t1577 _ _ t1565 true _ ?side1 ?side2 ?side3 ?side4 A11.out).mono ?_); (case side1 => repeat (first | exact (Kd.R_reads' HO1579.out).2.2 | (with_reducible refine Kd.C_alloc ?_ _) | (with_reducible refine Kd.C_drewN ?_ _) | (with_reducible refine Kd.C_drew ?_))); (case side2 => exact (Kd.R_reads' HO1579.out).2.1); (case side3 => repeat (first | exact (Kd.R_reads' HO1567.out).2.2 | (with_reducible refine Kd.C_alloc ?_ _) | (with_reducible refine Kd.C_drewN ?_ _) | (with_reducible refine Kd.C_drew ?_))); (case side4 => exact (Kd.R_reads' HO1567.out).2.1); rintro e w' ⟨rfl, ⟨nd, rfl⟩⟩; refine ⟨_, rfl, ?_⟩))
  (try (rw [drewN_self w46]; generalize hq_ : World.drewN w46 _ = w46; have n0_ : Aside0 (Kd.R k25 25 w46 w.heap.size (fun k_ => some k_ ≠ (.slice Ao42 t1568.length co42 : Value).ownBlock) (.slice Ao36 t1557.length co36) t1557) := ⟨(by rw [← hq_]; exact (by (with_reducible repeat (first | apply Kd.R_alloc | apply Kd.R_drewN | apply Kd.R_drew)); exact Kd.R_mono HO1559.out (fun _ hk => hk.2)))⟩; have n1_ : Aside0 (Kd.R k71 71 w46 w.heap.size (fun k_ => some k_ ≠ (.slice Ao45 t1571.length co45 : Value).ownBlock) (.slice Ao37 t1560.length co37) t1560) := ⟨(by rw [← hq_]; exact (by (with_reducible repeat (first | apply Kd.R_alloc | apply Kd.R_drewN | apply Kd.R_drew)); exact Kd.R_mono HO1562.out (fun _ hk => hk.2)))⟩; have n2_ : Aside0 (Kd.R (Kd.int .u8) 5 w46 w.heap.size (fun k_ => some k_ ≠ (.slice Ao47 t1577.length co47 : Value).ownBlock) (.slice Ao48 t1565.length co48) t1565) := ⟨(by rw [← hq_]; exact (by (with_reducible repeat (first | apply Kd.R_alloc | apply Kd.R_drewN | apply Kd.R_drew)); exact Kd.R_mono HO1567.out (fun _ hk => hk.2)))⟩; have n3_ : Aside0 (Kd.R k25 25 w46 w.heap.size (fun k_ => some k_ ≠ (.slice Ao36 t1557.length co36 : Value).ownBlock) (.slice Ao42 t1568.length co42) t1568) := ⟨(by rw [← hq_]; exact (by (with_reducible repeat (first | apply Kd.R_alloc | apply Kd.R_drewN | apply Kd.R_drew)); exact Kd.R_mono HO1570.out (fun _ hk => hk.2)))⟩; have n4_ : Aside0 (Kd.R k71 71 w46 w.heap.size (fun k_ => some k_ ≠ (.slice Ao37 t1560.length co37 : Value).ownBlock) (.slice Ao45 t1571.length co45) t1571) := ⟨(by rw [← hq_]; exact (by (with_reducible repeat (first | apply Kd.R_alloc | apply Kd.R_drewN | apply Kd.R_drew)); exact Kd.R_mono HO1573.out (fun _ hk => hk.2)))⟩; have n5_ : Aside0 (Kd.R (Kd.int .u8) 5 w46 w.heap.size (fun k_ => some k_ ≠ (.slice Ao48 t1565.length co48 : Value).ownBlock) (.slice Ao47 t1577.length co47) t1577) := ⟨(by rw [← hq_]; exact (by (with_reducible repeat (first | apply Kd.R_alloc | apply Kd.R_drewN | apply Kd.R_drew)); exact Kd.R_mono HO1579.out (fun _ hk => hk.2)))⟩; have n6_ : Aside0 (w46.heap[gb1555]? = some (.cells #[.slice A0_0 l0_0.length c0_0, .slice A0_1 l0_1.length c0_1, .int .i64 a0_2, .int .i64 a0_3] 50 (0, 0))) := ⟨(by rw [← hq_]; exact Z49_28)⟩; have n7_ : Aside0 (w46.heap[gb1576]? = some (.cells #[.slice Ao42 t1568.length co42, .slice Ao45 t1571.length co45, .int .i64 t1574, .int .i64 t1575] 56 (0, 0))) := ⟨(by rw [← hq_]; exact Z49_29)⟩; have n8_ : Aside0 (Below w.heap.size w w46) := ⟨(by rw [← hq_]; exact Z49_9)⟩; clear HO1559 HO1562 HO1567 HO1570 HO1573 HO1579 BK1555 BK1576 HB hq_; have HO1559 := n0_; have HO1562 := n1_; have HO1567 := n2_; have HO1570 := n3_; have HO1573 := n4_; have HO1579 := n5_; have BK1555 := n6_; have BK1576 := n7_; have HB := n8_; clear n0_ n1_ n2_ n3_ n4_ n5_ n6_ n7_ n8_))
  have n0_ := Aside0.mk (Kd.R_drew HO1559.out)
  have n1_ := Aside0.mk (Kd.R_drew HO1562.out)
  have n2_ := Aside0.mk (Kd.R_drew HO1567.out)
  have n3_ := Aside0.mk (Kd.R_drew HO1570.out)
  have n4_ := Aside0.mk (Kd.R_drew HO1573.out)
  have n5_ := Aside0.mk (Kd.R_drew HO1579.out)
  have n6_ := Aside0.mk (blk_drew BK1555.out)
  have n7_ := Aside0.mk (blk_drew BK1576.out)
  have n8_ := Aside0.mk (below_drew1 HB.out)
  clear HO1559
  clear HO1562
  clear HO1567
  clear HO1570
  clear HO1573
  clear HO1579
  clear BK1555
  clear BK1576
  clear HB
  have HO1559 := n0_
  have HO1562 := n1_
  have HO1567 := n2_
  have HO1570 := n3_
  have HO1573 := n4_
  have HO1579 := n5_
  have BK1555 := n6_
  have BK1576 := n7_
  have HB := n8_
  clear n0_ n1_ n2_ n3_ n4_ n5_ n6_ n7_ n8_
  as_aux_lemma =>
   refine start_ (n := 5) (S := fun w' => w'.cell? ⟨gb1576, 0, none⟩ = some (.slice Ao42 t1568.length co42) ∧ w'.cell? ⟨gb1576, 1, none⟩ = some (.slice Ao45 t1571.length co45) ∧ w'.cell? ⟨gb1576, 2, none⟩ = some (.int .i64 t1574) ∧ w'.cell? ⟨gb1576, 3, none⟩ = some (.int .i64 t1575) ∧ w'.cell? ⟨gb1555, 0, none⟩ = some (.slice A0_0 l0_0.length c0_0) ∧ w'.cell? ⟨gb1555, 1, none⟩ = some (.slice A0_1 l0_1.length c0_1) ∧ w'.cell? ⟨gb1555, 2, none⟩ = some (.int .i64 a0_2) ∧ w'.cell? ⟨gb1555, 3, none⟩ = some (.int .i64 a0_3)) (ds := []) #[false, false, false, false, false] (by kernel_rfl) rfl rfl ⟨(blk_cell BK1576.out 0).trans rfl, (blk_cell BK1576.out 1).trans rfl, (blk_cell BK1576.out 2).trans rfl, (blk_cell BK1576.out 3).trans rfl, (blk_cell BK1555.out 0).trans rfl, (blk_cell BK1555.out 1).trans rfl, (blk_cell BK1555.out 2).trans rfl, (blk_cell BK1555.out 3).trans rfl⟩ (fun hHeld => ?_)
   generalize w46.drew = w49 at HO1559 HO1562 HO1567 HO1570 HO1573 HO1579 BK1555 BK1576 HB hHeld ⊢
   refine take_ (i := 0) (N := some 27) (v := _) (a' := _) #[true, false, false, false, false] rfl rfl (by kernel_rfl) (fun _ _ _ h => h) (Or.inl ⟨(by rfl), (by rintro w' ⟨s0, s1, s2, s3, s4, s5, s6, s7⟩; go_simp; with_reducible rfl)⟩) hHeld Z49_30 ?_
   refine take_ (i := 1) (N := some 28) (v := _) (a' := _) #[true, true, false, false, false] rfl rfl (by kernel_rfl) (fun _ _ _ h => h) (Or.inl ⟨(by rfl), (by rintro w' ⟨s0, s1, s2, s3, s4, s5, s6, s7⟩; go_simp; with_reducible rfl)⟩) hHeld Z49_30 ?_
   refine one_ (i := 2) (N := some 29) #[true, true, true, false, false] rfl rfl (by kernel_rfl) (by decide) (fun K hK => ?_)
   refine goes_ Try.func37 (by kernel_rfl) rfl #[.agg #[.slice A0_0 l0_0.length c0_0, .slice A0_1 l0_1.length c0_1, .int .i64 a0_2, .int .i64 a0_3]] (by rfl) rfl rfl Z49_15 ?_
   with_reducible refine (laws_toState.calls k _ _ l0_0 _ _ l0_1 a0_2 a0_3 t1581 t1584 t1587 t1588 _ ?side1 ?side2 ?side3 ?side4 A13.out).mono ?_
   (case side1 => repeat (first | exact (Kd.C_below HR0_0.out HB.out) | (with_reducible refine Kd.C_alloc ?_ _) | (with_reducible refine Kd.C_drewN ?_ _) | (with_reducible refine Kd.C_drew ?_)))
   (case side2 => exact HC0_0.out)
   (case side3 => repeat (first | exact (Kd.C_below HR0_1.out HB.out) | (with_reducible refine Kd.C_alloc ?_ _) | (with_reducible refine Kd.C_drewN ?_ _) | (with_reducible refine Kd.C_drew ?_)))
   (case side4 => exact HC0_1.out)
   rintro e w50 ⟨v1582, v1585, rfl, ho0, ho1, hb⟩
   refine ⟨_, rfl, ?_⟩
   have n0_ := Aside0.mk Z49_16
   have n1_ := Aside0.mk Z49_17
   have n2_ := Aside0.mk Z49_22
   have n3_ := Aside0.mk Z49_18
   have n4_ := Aside0.mk Z49_19
   have n5_ := Aside0.mk Z49_25
   have n6_ := Aside0.mk (Kd.R_lower (Kd.R_new' (Kd.R_new' ho0 (Kd.R_lt Z49_31)) (Kd.R_lt Z49_34)) (below_size Z49_9))
   have n7_ := Aside0.mk (Kd.R_lower (Kd.R_new' (Kd.R_new' ho1 (Kd.R_lt Z49_32)) (Kd.R_lt Z49_35)) (below_size Z49_9))
   have n8_ := Aside0.mk Z49_5
   have n9_ := Aside0.mk Z49_4
   have n10_ := Aside0.mk Z49_8
   clear HO1559
   clear HO1562
   clear HO1567
   clear HO1570
   clear HO1573
   clear HO1579
   clear BK1555
   clear BK1576
   clear HB
   have HO1559 := n0_
   have HO1562 := n1_
   have HO1567 := n2_
   have HO1570 := n3_
   have HO1573 := n4_
   have HO1579 := n5_
   have HO1583 := n6_
   have HO1586 := n7_
   have BK1555 := n8_
   have BK1576 := n9_
   have HB := n10_
   clear n0_ n1_ n2_ n3_ n4_ n5_ n6_ n7_ n8_ n9_ n10_
   (try clear hb)
   (try clear hb2)
   (try clear hk)
   (try clear hi)
   (try clear ho0)
   (try clear ho1)
   obtain ⟨Ao51, co51, eo51⟩ := Kd.R_slice HO1583.out
   (first | subst eo51 | (injection eo51 with f1_ f2_ f3_; have f4_ := f1_.symm; have f5_ := f3_.symm; clear f1_ f2_ f3_; subst f4_; subst f5_))
   obtain ⟨Ao52, co52, eo52⟩ := Kd.R_slice HO1586.out
   (first | subst eo52 | (injection eo52 with f1_ f2_ f3_; have f4_ := f1_.symm; have f5_ := f3_.symm; clear f1_ f2_ f3_; subst f4_; subst f5_))
   refine hK.out _ _ (D49_4 BK1576.out (C49_4 BK1555.out).1) (fun hHeld => ?_)
   clear hK K
   refine norm_ (a' := ?_) ?_ ?_
   rotate_left
   · show Act.put _ (some 29) _ = _
     simp only [Act.put, List.setIfInBounds_toArray, List.set_cons_zero, List.set_cons_succ, i64_w, i32_w]
     rfl
   refine one_ (i := 3) (N := some 30) #[true, true, true, true, false] rfl rfl (by kernel_rfl) (by decide) (fun K hK => ?_)
   refine goes_ Try.func39 (by kernel_rfl) rfl #[.agg #[.slice Ao42 t1568.length co42, .slice Ao45 t1571.length co45, .int .i64 t1574, .int .i64 t1575], .agg #[.slice Ao51 t1581.length co51, .slice Ao52 t1584.length co52, .int .i64 t1587, .int .i64 t1588]] (by rfl) rfl rfl Z49_15 ?_
   with_reducible refine (laws_eqState.calls k _ _ t1568 _ _ t1571 t1574 t1575 _ _ t1581 _ _ t1584 t1587 t1588 true _ ?side1 ?side2 ?side3 ?side4 ?side5 ?side6 ?side7 ?side8 A14.out).mono ?_
   (case side1 => repeat (first | exact (Kd.R_reads' HO1570.out).2.2 | (with_reducible refine Kd.C_alloc ?_ _) | (with_reducible refine Kd.C_drewN ?_ _) | (with_reducible refine Kd.C_drew ?_)))
   (case side2 => exact (Kd.R_reads' HO1570.out).2.1)
   (case side3 => repeat (first | exact (Kd.R_reads' HO1573.out).2.2 | (with_reducible refine Kd.C_alloc ?_ _) | (with_reducible refine Kd.C_drewN ?_ _) | (with_reducible refine Kd.C_drew ?_)))
   (case side4 => exact (Kd.R_reads' HO1573.out).2.1)
   (case side5 => repeat (first | exact (Kd.R_reads' HO1583.out).2.2 | (with_reducible refine Kd.C_alloc ?_ _) | (with_reducible refine Kd.C_drewN ?_ _) | (with_reducible refine Kd.C_drew ?_)))
   (case side6 => exact (Kd.R_reads' HO1583.out).2.1)
   (case side7 => repeat (first | exact (Kd.R_reads' HO1586.out).2.2 | (with_reducible refine Kd.C_alloc ?_ _) | (with_reducible refine Kd.C_drewN ?_ _) | (with_reducible refine Kd.C_drew ?_)))
   (case side8 => exact (Kd.R_reads' HO1586.out).2.1)
   rintro e w53 ⟨rfl, hb⟩
   refine ⟨_, rfl, ?_⟩
   have n0_ := Aside0.mk Z49_20
   have n1_ := Aside0.mk Z49_21
   have n2_ := Aside0.mk Z49_22
   have n3_ := Aside0.mk Z49_23
   have n4_ := Aside0.mk Z49_24
   have n5_ := Aside0.mk Z49_25
   have n6_ := Aside0.mk Z49_26
   have n7_ := Aside0.mk Z49_27
   have n8_ := Aside0.mk Z49_5
   have n9_ := Aside0.mk Z49_4
   have n10_ := Aside0.mk Z49_8
   clear HO1559
   clear HO1562
   clear HO1567
   clear HO1570
   clear HO1573
   clear HO1579
   clear HO1583
   clear HO1586
   clear BK1555
   clear BK1576
   clear HB
   have HO1559 := n0_
   have HO1562 := n1_
   have HO1567 := n2_
   have HO1570 := n3_
   have HO1573 := n4_
   have HO1579 := n5_
   have HO1583 := n6_
   have HO1586 := n7_
   have BK1555 := n8_
   have BK1576 := n9_
   have HB := n10_
   clear n0_ n1_ n2_ n3_ n4_ n5_ n6_ n7_ n8_ n9_ n10_
   (try clear hb)
   (try clear hb2)
   (try clear hk)
   (try clear hi)
   refine hK.out _ _ (D49_4 BK1576.out (C49_4 BK1555.out).1) (fun hHeld => ?_)
   clear hK K
   refine norm_ (a' := ?_) ?_ ?_
   rotate_left
   · show Act.put _ (some 30) _ = _
     simp only [Act.put, List.setIfInBounds_toArray, List.set_cons_zero, List.set_cons_succ, i64_w, i32_w]
     rfl
   refine pure_ (i := 4) (N := some 31) (v := _) (a' := _) #[true, true, true, true, true] rfl rfl (by kernel_rfl) (fun _ _ _ h => h) (Or.inl ⟨(by rfl), (by intro w'; go_simp; with_reducible rfl)⟩) Z49_30 ?_
   refine done_ (by kernel_rfl) ?_
   obtain ⟨⟨hcz54_0, hcz54_1, hcz54_2, hcz54_3⟩, hfz54_0, hfz54_1, hfz54_2, hfz54_3⟩ := C49_4 BK1576.out
   try go_wp2_with (first | ((with_reducible refine gate_callee (f := 55) rfl ?_); refine goesL_ (some 34) rfl rfl Try.func55 (by kernel_rfl) rfl #[.agg #[.slice Ao42 t1568.length co42, .slice Ao45 t1571.length co45, .int .i64 t1574, .int .i64 t1575], .int .i64 1] rfl Z49_15 ?_; (with_reducible refine (laws_markState.calls k (fun k_ => some k_ = (.slice Ao42 t1568.length co42 : Value).ownBlock) (.slice Ao42 t1568.length co42) t1568 (fun k_ => some k_ = (.slice Ao45 t1571.length co45 : Value).ownBlock) (.slice Ao45 t1571.length co45) t1571 t1574 t1575 1 t1590 t1591 t1592 w _ ?side1 ?side2 ?side3 A16.out).mono ?_); (case side1 => repeat (first | (with_reducible first | exact HB.out | apply below_alloc | apply pw_below_drewN | apply below_drew1 | refine below_set ?_ GE1555.out | refine below_set ?_ GE1576.out) | exact HB.out)); (case side2 => exact Kd.R_tight rfl HO1570.out); (case side3 => exact Kd.R_tight rfl HO1573.out); rintro e w55 ⟨rfl, hy0, hy1, hb, hkp⟩; refine ⟨_, rfl, ?_⟩; have n0_ := Aside0.mk (blk_kept Z49_28 hkp (fun hs_ => Or.elim hs_ (fun e_ => (fun e_ => (Kd.R_ne HO1570.out BK1555.out (by decide)) e_) e_) (fun e_ => (fun e_ => (Kd.R_ne HO1573.out BK1555.out (by decide)) e_) e_))); have n1_ := Aside0.mk (Kd.R_mono (ok' := fun k_ => some k_ ≠ (.slice Ao42 t1568.length co42 : Value).ownBlock ∧ some k_ ≠ (.slice Ao51 t1581.length co51 : Value).ownBlock) (Kd.R_keptB ((Kd.R_apart' HO1559.out (Kd.R_typed HO1573.out) (by decide))) hkp (fun k_ hk_ hs_ => Or.elim hs_ (fun e_ => (by first | exact hk_.1.1.2 e_ | exact hk_.2 e_ | exact hk_.1.2 e_ | exact hk_.1.1.1.2 e_ | exact hk_.1.1.1.1.2 e_ | exact hk_.1.1.1.1.1.2 e_ | exact hk_.1 e_ | exact hk_.1.1 e_ | exact hk_.1.1.1 e_ | exact hk_.1.1.1.1 e_ | exact hk_.1.1.1.1.1 e_)) (fun e_ => (by first | exact hk_.2 e_ | exact hk_.1.2 e_ | exact hk_.1.1.2 e_ | exact hk_.1.1.1.2 e_ | exact hk_.1.1.1.1.2 e_ | exact hk_.1.1.1.1.1.2 e_ | exact hk_.1 e_ | exact hk_.1.1 e_ | exact hk_.1.1.1 e_ | exact hk_.1.1.1.1 e_ | exact hk_.1.1.1.1.1 e_)))) (fun k_ hk_ => ⟨(by first | exact hk_.1.1.1.2 | exact hk_.2 | exact hk_.1.2 | exact hk_.1.1.2 | exact hk_.1.1.1.1.2 | exact hk_.1.1.1.1.1.2 | exact hk_.1 | exact hk_.1.1 | exact hk_.1.1.1 | exact hk_.1.1.1.1 | exact hk_.1.1.1.1.1), (by first | exact hk_.1.1.2 | exact hk_.2 | exact hk_.1.2 | exact hk_.1.1.1.2 | exact hk_.1.1.1.1.2 | exact hk_.1.1.1.1.1.2 | exact hk_.1 | exact hk_.1.1 | exact hk_.1.1.1 | exact hk_.1.1.1.1 | exact hk_.1.1.1.1.1)⟩)); have n2_ := Aside0.mk (Kd.R_mono (ok' := fun k_ => some k_ ≠ (.slice Ao45 t1571.length co45 : Value).ownBlock ∧ some k_ ≠ (.slice Ao52 t1584.length co52 : Value).ownBlock) (Kd.R_keptB ((Kd.R_apart' HO1562.out (Kd.R_typed HO1570.out) (by decide))) hkp (fun k_ hk_ hs_ => Or.elim hs_ (fun e_ => (by first | exact hk_.2 e_ | exact hk_.1.2 e_ | exact hk_.1.1.2 e_ | exact hk_.1.1.1.2 e_ | exact hk_.1.1.1.1.2 e_ | exact hk_.1.1.1.1.1.2 e_ | exact hk_.1 e_ | exact hk_.1.1 e_ | exact hk_.1.1.1 e_ | exact hk_.1.1.1.1 e_ | exact hk_.1.1.1.1.1 e_)) (fun e_ => (by first | exact hk_.1.1.2 e_ | exact hk_.2 e_ | exact hk_.1.2 e_ | exact hk_.1.1.1.2 e_ | exact hk_.1.1.1.1.2 e_ | exact hk_.1.1.1.1.1.2 e_ | exact hk_.1 e_ | exact hk_.1.1 e_ | exact hk_.1.1.1 e_ | exact hk_.1.1.1.1 e_ | exact hk_.1.1.1.1.1 e_)))) (fun k_ hk_ => ⟨(by first | exact hk_.1.1.1.2 | exact hk_.2 | exact hk_.1.2 | exact hk_.1.1.2 | exact hk_.1.1.1.1.2 | exact hk_.1.1.1.1.1.2 | exact hk_.1 | exact hk_.1.1 | exact hk_.1.1.1 | exact hk_.1.1.1.1 | exact hk_.1.1.1.1.1), (by first | exact hk_.1.1.2 | exact hk_.2 | exact hk_.1.2 | exact hk_.1.1.1.2 | exact hk_.1.1.1.1.2 | exact hk_.1.1.1.1.1.2 | exact hk_.1 | exact hk_.1.1 | exact hk_.1.1.1 | exact hk_.1.1.1.1 | exact hk_.1.1.1.1.1)⟩)); have n3_ := Aside0.mk (Kd.R_mono (ok' := fun k_ => some k_ ≠ (.slice Ao47 t1577.length co47 : Value).ownBlock) (Kd.R_keptB ((Kd.R_apart' (Kd.R_apart' HO1567.out (Kd.R_typed HO1570.out) (by decide)) (Kd.R_typed HO1573.out) (by decide))) hkp (fun k_ hk_ hs_ => Or.elim hs_ (fun e_ => (by first | exact hk_.1.2 e_ | exact hk_.2 e_ | exact hk_.1.1.2 e_ | exact hk_.1.1.1.2 e_ | exact hk_.1.1.1.1.2 e_ | exact hk_.1.1.1.1.1.2 e_ | exact hk_.1 e_ | exact hk_.1.1 e_ | exact hk_.1.1.1 e_ | exact hk_.1.1.1.1 e_ | exact hk_.1.1.1.1.1 e_)) (fun e_ => (by first | exact hk_.2 e_ | exact hk_.1.2 e_ | exact hk_.1.1.2 e_ | exact hk_.1.1.1.2 e_ | exact hk_.1.1.1.1.2 e_ | exact hk_.1.1.1.1.1.2 e_ | exact hk_.1 e_ | exact hk_.1.1 e_ | exact hk_.1.1.1 e_ | exact hk_.1.1.1.1 e_ | exact hk_.1.1.1.1.1 e_)))) (fun k_ hk_ => (by first | exact hk_.1.1.1.2 | exact hk_.2 | exact hk_.1.2 | exact hk_.1.1.2 | exact hk_.1.1.1.1.2 | exact hk_.1.1.1.1.1.2 | exact hk_.1 | exact hk_.1.1 | exact hk_.1.1.1 | exact hk_.1.1.1.1 | exact hk_.1.1.1.1.1))); have n4_ := Aside0.mk (Kd.R_reok rfl hy0 (fun k_ e_ => HO1570.out.1 k_ e_)); have n5_ := Aside0.mk (Kd.R_reok rfl hy1 (fun k_ e_ => HO1573.out.1 k_ e_)); have n6_ := Aside0.mk (blk_kept Z49_29 hkp (fun hs_ => Or.elim hs_ (fun e_ => (fun e_ => (Kd.R_ne HO1570.out BK1576.out (by decide)) e_) e_) (fun e_ => (fun e_ => (Kd.R_ne HO1573.out BK1576.out (by decide)) e_) e_))); have n7_ := Aside0.mk (Kd.R_mono (ok' := fun k_ => some k_ ≠ (.slice Ao48 t1565.length co48 : Value).ownBlock) (Kd.R_keptB ((Kd.R_apart' (Kd.R_apart' HO1579.out (Kd.R_typed HO1570.out) (by decide)) (Kd.R_typed HO1573.out) (by decide))) hkp (fun k_ hk_ hs_ => Or.elim hs_ (fun e_ => (by first | exact hk_.1.2 e_ | exact hk_.2 e_ | exact hk_.1.1.2 e_ | exact hk_.1.1.1.2 e_ | exact hk_.1.1.1.1.2 e_ | exact hk_.1.1.1.1.1.2 e_ | exact hk_.1 e_ | exact hk_.1.1 e_ | exact hk_.1.1.1 e_ | exact hk_.1.1.1.1 e_ | exact hk_.1.1.1.1.1 e_)) (fun e_ => (by first | exact hk_.2 e_ | exact hk_.1.2 e_ | exact hk_.1.1.2 e_ | exact hk_.1.1.1.2 e_ | exact hk_.1.1.1.1.2 e_ | exact hk_.1.1.1.1.1.2 e_ | exact hk_.1 e_ | exact hk_.1.1 e_ | exact hk_.1.1.1 e_ | exact hk_.1.1.1.1 e_ | exact hk_.1.1.1.1.1 e_)))) (fun k_ hk_ => (by first | exact hk_.1.1.1.2 | exact hk_.2 | exact hk_.1.2 | exact hk_.1.1.2 | exact hk_.1.1.1.1.2 | exact hk_.1.1.1.1.1.2 | exact hk_.1 | exact hk_.1.1 | exact hk_.1.1.1 | exact hk_.1.1.1.1 | exact hk_.1.1.1.1.1))); have n8_ := Aside0.mk (Kd.R_mono (ok' := fun k_ => some k_ ≠ (.slice Ao36 t1557.length co36 : Value).ownBlock ∧ some k_ ≠ (.slice Ao42 t1568.length co42 : Value).ownBlock) (Kd.R_keptB ((Kd.R_apart' HO1583.out (Kd.R_typed HO1573.out) (by decide))) hkp (fun k_ hk_ hs_ => Or.elim hs_ (fun e_ => (by first | exact hk_.1.2 e_ | exact hk_.2 e_ | exact hk_.1.1.2 e_ | exact hk_.1.1.1.2 e_ | exact hk_.1.1.1.1.2 e_ | exact hk_.1.1.1.1.1.2 e_ | exact hk_.1 e_ | exact hk_.1.1 e_ | exact hk_.1.1.1 e_ | exact hk_.1.1.1.1 e_ | exact hk_.1.1.1.1.1 e_)) (fun e_ => (by first | exact hk_.2 e_ | exact hk_.1.2 e_ | exact hk_.1.1.2 e_ | exact hk_.1.1.1.2 e_ | exact hk_.1.1.1.1.2 e_ | exact hk_.1.1.1.1.1.2 e_ | exact hk_.1 e_ | exact hk_.1.1 e_ | exact hk_.1.1.1 e_ | exact hk_.1.1.1.1 e_ | exact hk_.1.1.1.1.1 e_)))) (fun k_ hk_ => ⟨(by first | exact hk_.1.1.1.2 | exact hk_.2 | exact hk_.1.2 | exact hk_.1.1.2 | exact hk_.1.1.1.1.2 | exact hk_.1.1.1.1.1.2 | exact hk_.1 | exact hk_.1.1 | exact hk_.1.1.1 | exact hk_.1.1.1.1 | exact hk_.1.1.1.1.1), (by first | exact hk_.1.1.2 | exact hk_.2 | exact hk_.1.2 | exact hk_.1.1.1.2 | exact hk_.1.1.1.1.2 | exact hk_.1.1.1.1.1.2 | exact hk_.1 | exact hk_.1.1 | exact hk_.1.1.1 | exact hk_.1.1.1.1 | exact hk_.1.1.1.1.1)⟩)); have n9_ := Aside0.mk (Kd.R_mono (ok' := fun k_ => some k_ ≠ (.slice Ao37 t1560.length co37 : Value).ownBlock ∧ some k_ ≠ (.slice Ao45 t1571.length co45 : Value).ownBlock) (Kd.R_keptB ((Kd.R_apart' HO1586.out (Kd.R_typed HO1570.out) (by decide))) hkp (fun k_ hk_ hs_ => Or.elim hs_ (fun e_ => (by first | exact hk_.2 e_ | exact hk_.1.2 e_ | exact hk_.1.1.2 e_ | exact hk_.1.1.1.2 e_ | exact hk_.1.1.1.1.2 e_ | exact hk_.1.1.1.1.1.2 e_ | exact hk_.1 e_ | exact hk_.1.1 e_ | exact hk_.1.1.1 e_ | exact hk_.1.1.1.1 e_ | exact hk_.1.1.1.1.1 e_)) (fun e_ => (by first | exact hk_.1.2 e_ | exact hk_.2 e_ | exact hk_.1.1.2 e_ | exact hk_.1.1.1.2 e_ | exact hk_.1.1.1.1.2 e_ | exact hk_.1.1.1.1.1.2 e_ | exact hk_.1 e_ | exact hk_.1.1 e_ | exact hk_.1.1.1 e_ | exact hk_.1.1.1.1 e_ | exact hk_.1.1.1.1.1 e_)))) (fun k_ hk_ => ⟨(by first | exact hk_.1.1.1.2 | exact hk_.2 | exact hk_.1.2 | exact hk_.1.1.2 | exact hk_.1.1.1.1.2 | exact hk_.1.1.1.1.1.2 | exact hk_.1 | exact hk_.1.1 | exact hk_.1.1.1 | exact hk_.1.1.1.1 | exact hk_.1.1.1.1.1), (by first | exact hk_.1.1.2 | exact hk_.2 | exact hk_.1.2 | exact hk_.1.1.1.2 | exact hk_.1.1.1.1.2 | exact hk_.1.1.1.1.1.2 | exact hk_.1 | exact hk_.1.1 | exact hk_.1.1.1 | exact hk_.1.1.1.1 | exact hk_.1.1.1.1.1)⟩)); have n10_ := Aside0.mk (hb); clear BK1555; clear HO1559; clear HO1562; clear HO1567; clear HO1570; clear HO1573; clear BK1576; clear HO1579; clear HO1583; clear HO1586; clear HB; have BK1555 := n0_; have HO1559 := n1_; have HO1562 := n2_; have HO1567 := n3_; have HO1570 := n4_; have HO1573 := n5_; have BK1576 := n6_; have HO1579 := n7_; have HO1583 := n8_; have HO1586 := n9_; have HB := n10_; clear n0_ n1_ n2_ n3_ n4_ n5_ n6_ n7_ n8_ n9_ n10_; (try clear hb); (try clear hkp); (try clear hy0); (try clear hy1)) | (go_at_call 54; (with_reducible refine (laws_eqByteS.calls k _ _ t1577 _ _ t1565 true _ ?side1 ?side2 ?side3 ?side4 A18.out).mono ?_); (case side1 => repeat (first | exact (Kd.R_reads' HO1579.out).2.2 | (with_reducible refine Kd.C_alloc ?_ _) | (with_reducible refine Kd.C_drewN ?_ _) | (with_reducible refine Kd.C_drew ?_))); (case side2 => exact (Kd.R_reads' HO1579.out).2.1); (case side3 => repeat (first | exact (Kd.R_reads' HO1567.out).2.2 | (with_reducible refine Kd.C_alloc ?_ _) | (with_reducible refine Kd.C_drewN ?_ _) | (with_reducible refine Kd.C_drew ?_))); (case side4 => exact (Kd.R_reads' HO1567.out).2.1); rintro e w' ⟨rfl, ⟨nd, rfl⟩⟩) | ((with_reducible refine gate_callee (f := 56) rfl ?_); refine goesL_ (some 45) rfl rfl Try.func56 (by kernel_rfl) rfl #[.slice Ao47 t1577.length co47, .int .i64 1] rfl Z49_15 ?_; (with_reducible refine (laws_markByteS.calls k (fun k_ => some k_ = (.slice Ao47 t1577.length co47 : Value).ownBlock) (.slice Ao47 t1577.length co47) t1577 1 t1594 t1595 w _ ?side1 ?side2 A20.out).mono ?_); (case side1 => repeat (first | (with_reducible first | exact HB.out | apply below_alloc | apply pw_below_drewN | apply below_drew1 | refine below_set ?_ GE1555.out | refine below_set ?_ GE1576.out) | exact HB.out)); (case side2 => exact Kd.R_tight rfl HO1579.out); rintro e w56 ⟨rfl, hy0, hb, hkp⟩; refine ⟨_, rfl, ?_⟩; have n0_ := Aside0.mk (blk_kept Z49_28 hkp (fun hs_ => (fun e_ => (Kd.R_ne HO1579.out BK1555.out (by decide)) e_) hs_)); have n1_ := Aside0.mk (Kd.R_mono (ok' := fun k_ => some k_ ≠ (.slice Ao42 t1568.length co42 : Value).ownBlock ∧ some k_ ≠ (.slice Ao51 t1581.length co51 : Value).ownBlock) (Kd.R_keptB ((Kd.R_apart' HO1559.out (Kd.R_typed HO1579.out) (by decide))) hkp (fun k_ hk_ hs_ => (by first | exact hk_.2 hs_ | exact hk_.1.2 hs_ | exact hk_.1.1.2 hs_ | exact hk_.1.1.1.2 hs_ | exact hk_.1.1.1.1.2 hs_ | exact hk_.1.1.1.1.1.2 hs_ | exact hk_.1 hs_ | exact hk_.1.1 hs_ | exact hk_.1.1.1 hs_ | exact hk_.1.1.1.1 hs_ | exact hk_.1.1.1.1.1 hs_))) (fun k_ hk_ => ⟨(by first | exact hk_.1.1.1 | exact hk_.2 | exact hk_.1.2 | exact hk_.1.1.2 | exact hk_.1.1.1.2 | exact hk_.1.1.1.1.2 | exact hk_.1.1.1.1.1.2 | exact hk_.1 | exact hk_.1.1 | exact hk_.1.1.1.1 | exact hk_.1.1.1.1.1), (by first | exact hk_.1.1.2 | exact hk_.2 | exact hk_.1.2 | exact hk_.1.1.1.2 | exact hk_.1.1.1.1.2 | exact hk_.1.1.1.1.1.2 | exact hk_.1 | exact hk_.1.1 | exact hk_.1.1.1 | exact hk_.1.1.1.1 | exact hk_.1.1.1.1.1)⟩)); have n2_ := Aside0.mk (Kd.R_mono (ok' := fun k_ => some k_ ≠ (.slice Ao45 t1571.length co45 : Value).ownBlock ∧ some k_ ≠ (.slice Ao52 t1584.length co52 : Value).ownBlock) (Kd.R_keptB ((Kd.R_apart' HO1562.out (Kd.R_typed HO1579.out) (by decide))) hkp (fun k_ hk_ hs_ => (by first | exact hk_.2 hs_ | exact hk_.1.2 hs_ | exact hk_.1.1.2 hs_ | exact hk_.1.1.1.2 hs_ | exact hk_.1.1.1.1.2 hs_ | exact hk_.1.1.1.1.1.2 hs_ | exact hk_.1 hs_ | exact hk_.1.1 hs_ | exact hk_.1.1.1 hs_ | exact hk_.1.1.1.1 hs_ | exact hk_.1.1.1.1.1 hs_))) (fun k_ hk_ => ⟨(by first | exact hk_.1.1.1 | exact hk_.2 | exact hk_.1.2 | exact hk_.1.1.2 | exact hk_.1.1.1.2 | exact hk_.1.1.1.1.2 | exact hk_.1.1.1.1.1.2 | exact hk_.1 | exact hk_.1.1 | exact hk_.1.1.1.1 | exact hk_.1.1.1.1.1), (by first | exact hk_.1.1.2 | exact hk_.2 | exact hk_.1.2 | exact hk_.1.1.1.2 | exact hk_.1.1.1.1.2 | exact hk_.1.1.1.1.1.2 | exact hk_.1 | exact hk_.1.1 | exact hk_.1.1.1 | exact hk_.1.1.1.1 | exact hk_.1.1.1.1.1)⟩)); have n3_ := Aside0.mk (Kd.R_mono (ok' := fun k_ => some k_ ≠ (.slice Ao47 t1577.length co47 : Value).ownBlock) (Kd.R_keptB (HO1567.out) hkp (fun k_ hk_ hs_ => (hk_) hs_)) (fun k_ hk_ => (by first | exact hk_.1 | exact hk_.2 | exact hk_.1.2 | exact hk_.1.1.2 | exact hk_.1.1.1.2 | exact hk_.1.1.1.1.2 | exact hk_.1.1.1.1.1.2 | exact hk_.1.1 | exact hk_.1.1.1 | exact hk_.1.1.1.1 | exact hk_.1.1.1.1.1))); have n4_ := Aside0.mk (Kd.R_mono (ok' := fun k_ => some k_ ≠ (.slice Ao36 t1557.length co36 : Value).ownBlock ∧ some k_ ≠ (.slice Ao51 t1581.length co51 : Value).ownBlock) (Kd.R_keptB ((Kd.R_apart' HO1570.out (Kd.R_typed HO1579.out) (by decide))) hkp (fun k_ hk_ hs_ => (by first | exact hk_.2 hs_ | exact hk_.1.2 hs_ | exact hk_.1.1.2 hs_ | exact hk_.1.1.1.2 hs_ | exact hk_.1.1.1.1.2 hs_ | exact hk_.1.1.1.1.1.2 hs_ | exact hk_.1 hs_ | exact hk_.1.1 hs_ | exact hk_.1.1.1 hs_ | exact hk_.1.1.1.1 hs_ | exact hk_.1.1.1.1.1 hs_))) (fun k_ hk_ => ⟨(by first | exact hk_.1.1.1.2 | exact hk_.2 | exact hk_.1.2 | exact hk_.1.1.2 | exact hk_.1.1.1.1.2 | exact hk_.1.1.1.1.1.2 | exact hk_.1 | exact hk_.1.1 | exact hk_.1.1.1 | exact hk_.1.1.1.1 | exact hk_.1.1.1.1.1), (by first | exact hk_.1.1.2 | exact hk_.2 | exact hk_.1.2 | exact hk_.1.1.1.2 | exact hk_.1.1.1.1.2 | exact hk_.1.1.1.1.1.2 | exact hk_.1 | exact hk_.1.1 | exact hk_.1.1.1 | exact hk_.1.1.1.1 | exact hk_.1.1.1.1.1)⟩)); have n5_ := Aside0.mk (Kd.R_mono (ok' := fun k_ => some k_ ≠ (.slice Ao37 t1560.length co37 : Value).ownBlock ∧ some k_ ≠ (.slice Ao52 t1584.length co52 : Value).ownBlock) (Kd.R_keptB ((Kd.R_apart' HO1573.out (Kd.R_typed HO1579.out) (by decide))) hkp (fun k_ hk_ hs_ => (by first | exact hk_.2 hs_ | exact hk_.1.2 hs_ | exact hk_.1.1.2 hs_ | exact hk_.1.1.1.2 hs_ | exact hk_.1.1.1.1.2 hs_ | exact hk_.1.1.1.1.1.2 hs_ | exact hk_.1 hs_ | exact hk_.1.1 hs_ | exact hk_.1.1.1 hs_ | exact hk_.1.1.1.1 hs_ | exact hk_.1.1.1.1.1 hs_))) (fun k_ hk_ => ⟨(by first | exact hk_.1.1.1.2 | exact hk_.2 | exact hk_.1.2 | exact hk_.1.1.2 | exact hk_.1.1.1.1.2 | exact hk_.1.1.1.1.1.2 | exact hk_.1 | exact hk_.1.1 | exact hk_.1.1.1 | exact hk_.1.1.1.1 | exact hk_.1.1.1.1.1), (by first | exact hk_.1.1.2 | exact hk_.2 | exact hk_.1.2 | exact hk_.1.1.1.2 | exact hk_.1.1.1.1.2 | exact hk_.1.1.1.1.1.2 | exact hk_.1 | exact hk_.1.1 | exact hk_.1.1.1 | exact hk_.1.1.1.1 | exact hk_.1.1.1.1.1)⟩)); have n6_ := Aside0.mk (blk_kept Z49_29 hkp (fun hs_ => (fun e_ => (Kd.R_ne HO1579.out BK1576.out (by decide)) e_) hs_)); have n7_ := Aside0.mk (Kd.R_reok rfl hy0 (fun k_ e_ => HO1579.out.1 k_ e_)); have n8_ := Aside0.mk (Kd.R_mono (ok' := fun k_ => some k_ ≠ (.slice Ao36 t1557.length co36 : Value).ownBlock ∧ some k_ ≠ (.slice Ao42 t1568.length co42 : Value).ownBlock) (Kd.R_keptB ((Kd.R_apart' HO1583.out (Kd.R_typed HO1579.out) (by decide))) hkp (fun k_ hk_ hs_ => (by first | exact hk_.2 hs_ | exact hk_.1.2 hs_ | exact hk_.1.1.2 hs_ | exact hk_.1.1.1.2 hs_ | exact hk_.1.1.1.1.2 hs_ | exact hk_.1.1.1.1.1.2 hs_ | exact hk_.1 hs_ | exact hk_.1.1 hs_ | exact hk_.1.1.1 hs_ | exact hk_.1.1.1.1 hs_ | exact hk_.1.1.1.1.1 hs_))) (fun k_ hk_ => ⟨(by first | exact hk_.1.1.1 | exact hk_.2 | exact hk_.1.2 | exact hk_.1.1.2 | exact hk_.1.1.1.2 | exact hk_.1.1.1.1.2 | exact hk_.1.1.1.1.1.2 | exact hk_.1 | exact hk_.1.1 | exact hk_.1.1.1.1 | exact hk_.1.1.1.1.1), (by first | exact hk_.1.1.2 | exact hk_.2 | exact hk_.1.2 | exact hk_.1.1.1.2 | exact hk_.1.1.1.1.2 | exact hk_.1.1.1.1.1.2 | exact hk_.1 | exact hk_.1.1 | exact hk_.1.1.1 | exact hk_.1.1.1.1 | exact hk_.1.1.1.1.1)⟩)); have n9_ := Aside0.mk (Kd.R_mono (ok' := fun k_ => some k_ ≠ (.slice Ao37 t1560.length co37 : Value).ownBlock ∧ some k_ ≠ (.slice Ao45 t1571.length co45 : Value).ownBlock) (Kd.R_keptB ((Kd.R_apart' HO1586.out (Kd.R_typed HO1579.out) (by decide))) hkp (fun k_ hk_ hs_ => (by first | exact hk_.2 hs_ | exact hk_.1.2 hs_ | exact hk_.1.1.2 hs_ | exact hk_.1.1.1.2 hs_ | exact hk_.1.1.1.1.2 hs_ | exact hk_.1.1.1.1.1.2 hs_ | exact hk_.1 hs_ | exact hk_.1.1 hs_ | exact hk_.1.1.1 hs_ | exact hk_.1.1.1.1 hs_ | exact hk_.1.1.1.1.1 hs_))) (fun k_ hk_ => ⟨(by first | exact hk_.1.1.1 | exact hk_.2 | exact hk_.1.2 | exact hk_.1.1.2 | exact hk_.1.1.1.2 | exact hk_.1.1.1.1.2 | exact hk_.1.1.1.1.1.2 | exact hk_.1 | exact hk_.1.1 | exact hk_.1.1.1.1 | exact hk_.1.1.1.1.1), (by first | exact hk_.1.1.2 | exact hk_.2 | exact hk_.1.2 | exact hk_.1.1.1.2 | exact hk_.1.1.1.1.2 | exact hk_.1.1.1.1.1.2 | exact hk_.1 | exact hk_.1.1 | exact hk_.1.1.1 | exact hk_.1.1.1.1 | exact hk_.1.1.1.1.1)⟩)); have n10_ := Aside0.mk (hb); clear BK1555; clear HO1559; clear HO1562; clear HO1567; clear HO1570; clear HO1573; clear BK1576; clear HO1579; clear HO1583; clear HO1586; clear HB; have BK1555 := n0_; have HO1559 := n1_; have HO1562 := n2_; have HO1567 := n3_; have HO1570 := n4_; have HO1573 := n5_; have BK1576 := n6_; have HO1579 := n7_; have HO1583 := n8_; have HO1586 := n9_; have HB := n10_; clear n0_ n1_ n2_ n3_ n4_ n5_ n6_ n7_ n8_ n9_ n10_; (try clear hb); (try clear hkp); (try clear hy0)) | ((with_reducible refine gate_callee (f := 57) rfl ?_); refine goesL_ (some 48) rfl rfl Try.func57 (by kernel_rfl) rfl #[.slice Ao47 t1595.length co47, .int .i64 1] rfl Z49_6 ?_; (with_reducible refine (laws_heldByteS.calls k _ _ t1595 1 t1596 _ ?side1 ?side2 A21.out).mono ?_); (case side1 => repeat (first | exact (Kd.R_reads' HO1579.out).2.2 | (with_reducible refine Kd.C_alloc ?_ _) | (with_reducible refine Kd.C_drewN ?_ _) | (with_reducible refine Kd.C_drew ?_))); (case side2 => rw [show t1595.length = t1577.length from (Kd.R_reads' HO1579.out).1.symm]; exact (Kd.R_reads' HO1579.out).2.1); rintro e w' ⟨rfl, ⟨nd, rfl⟩⟩; refine ⟨_, rfl, ?_⟩; obtain ⟨⟨hcz57_0, hcz57_1, hcz57_2, hcz57_3⟩, hfz57_0, hfz57_1, hfz57_2, hfz57_3⟩ := C49_4 BK1555.out) | ((with_reducible refine gate_callee (f := 37) rfl ?_); refine goesL_ (some 55) rfl rfl Try.func37 (by kernel_rfl) rfl #[.agg #[.slice A0_0 l0_0.length c0_0, .slice A0_1 l0_1.length c0_1, .int .i64 a0_2, .int .i64 a0_3]] rfl Z49_15 ?_; (with_reducible refine (laws_toState.calls k _ _ l0_0 _ _ l0_1 a0_2 a0_3 t1597 t1600 t1603 t1604 _ ?side1 ?side2 ?side3 ?side4 A24.out).mono ?_); (case side1 => repeat (first | exact (Kd.C_below HR0_0.out Z49_9) | (with_reducible refine Kd.C_alloc ?_ _) | (with_reducible refine Kd.C_drewN ?_ _) | (with_reducible refine Kd.C_drew ?_))); (case side2 => exact HC0_0.out); (case side3 => repeat (first | exact (Kd.C_below HR0_1.out Z49_9) | (with_reducible refine Kd.C_alloc ?_ _) | (with_reducible refine Kd.C_drewN ?_ _) | (with_reducible refine Kd.C_drew ?_))); (case side4 => exact HC0_1.out); rintro e w58 ⟨v1598, v1601, rfl, ho0, ho1, hb⟩; refine ⟨_, rfl, ?_⟩; have n0_ := Aside0.mk Z49_16; have n1_ := Aside0.mk Z49_17; have n2_ := Aside0.mk Z49_22; have n3_ := Aside0.mk Z49_18; have n4_ := Aside0.mk Z49_19; have n5_ := Aside0.mk Z49_25; have n6_ := Aside0.mk (Kd.R_elder' Z49_37 (Kd.R_base ho0) hb); have n7_ := Aside0.mk (Kd.R_elder' Z49_38 (Kd.R_base ho1) hb); have n8_ := Aside0.mk (Kd.R_lower (Kd.R_new' (Kd.R_new' (Kd.R_new' ho0 (Kd.R_lt Z49_31)) (Kd.R_lt Z49_34)) (Kd.R_lt Z49_37)) (below_size Z49_9)); have n9_ := Aside0.mk (Kd.R_lower (Kd.R_new' (Kd.R_new' (Kd.R_new' ho1 (Kd.R_lt Z49_32)) (Kd.R_lt Z49_35)) (Kd.R_lt Z49_38)) (below_size Z49_9)); have n10_ := Aside0.mk Z49_5; have n11_ := Aside0.mk Z49_4; have n12_ := Aside0.mk Z49_8; clear HO1559; clear HO1562; clear HO1567; clear HO1570; clear HO1573; clear HO1579; clear HO1583; clear HO1586; clear BK1555; clear BK1576; clear HB; have HO1559 := n0_; have HO1562 := n1_; have HO1567 := n2_; have HO1570 := n3_; have HO1573 := n4_; have HO1579 := n5_; have HO1583 := n6_; have HO1586 := n7_; have HO1599 := n8_; have HO1602 := n9_; have BK1555 := n10_; have BK1576 := n11_; have HB := n12_; clear n0_ n1_ n2_ n3_ n4_ n5_ n6_ n7_ n8_ n9_ n10_ n11_ n12_; (try clear hb); (try clear hb2); (try clear hk); (try clear hi); (try clear ho0); (try clear ho1); obtain ⟨Ao59, co59, eo59⟩ := Kd.R_slice HO1599.out; subst eo59; obtain ⟨Ao60, co60, eo60⟩ := Kd.R_slice HO1602.out; subst eo60) | ((with_reducible refine gate_callee (f := 53) rfl ?_); refine goesL_ (some 56) rfl rfl Try.func53 (by kernel_rfl) rfl #[.agg #[.slice Ao59 t1597.length co59, .slice Ao60 t1600.length co60, .int .i64 t1603, .int .i64 t1604]] rfl Z49_15 ?_; (with_reducible refine (impl_PutState.calls k _ _ t1597 _ _ t1600 t1603 t1604 t1605 _ ?side1 ?side2 ?side3 ?side4 A25.out).mono ?_); (case side1 => repeat (first | exact (Kd.R_reads' HO1599.out).2.2 | (with_reducible refine Kd.C_alloc ?_ _) | (with_reducible refine Kd.C_drewN ?_ _) | (with_reducible refine Kd.C_drew ?_))); (case side2 => exact (Kd.R_reads' HO1599.out).2.1); (case side3 => repeat (first | exact (Kd.R_reads' HO1602.out).2.2 | (with_reducible refine Kd.C_alloc ?_ _) | (with_reducible refine Kd.C_drewN ?_ _) | (with_reducible refine Kd.C_drew ?_))); (case side4 => exact (Kd.R_reads' HO1602.out).2.1); rintro e w61 ⟨v1606, rfl, ho0, hb⟩; refine ⟨_, rfl, ?_⟩; have n0_ := Aside0.mk Z49_20; have n1_ := Aside0.mk Z49_21; have n2_ := Aside0.mk (Kd.R_elder' Z49_33 (Kd.R_base ho0) hb); have n3_ := Aside0.mk Z49_23; have n4_ := Aside0.mk Z49_24; have n5_ := Aside0.mk (Kd.R_elder' Z49_36 (Kd.R_base ho0) hb); have n6_ := Aside0.mk Z49_26; have n7_ := Aside0.mk Z49_27; have n8_ := Aside0.mk (Kd.R_below (by (with_reducible repeat (first | apply Kd.R_alloc | apply Kd.R_drewN | apply Kd.R_drew)); exact HO1599.out) hb); have n9_ := Aside0.mk (Kd.R_below (by (with_reducible repeat (first | apply Kd.R_alloc | apply Kd.R_drewN | apply Kd.R_drew)); exact HO1602.out) hb); have n10_ := Aside0.mk (Kd.R_lower (Kd.R_new' (Kd.R_new' ho0 (Kd.R_lt Z49_33)) (Kd.R_lt Z49_36)) (below_size Z49_9)); have n11_ := Aside0.mk Z49_5; have n12_ := Aside0.mk Z49_4; have n13_ := Aside0.mk Z49_8; clear HO1559; clear HO1562; clear HO1567; clear HO1570; clear HO1573; clear HO1579; clear HO1583; clear HO1586; clear HO1599; clear HO1602; clear BK1555; clear BK1576; clear HB; have HO1559 := n0_; have HO1562 := n1_; have HO1567 := n2_; have HO1570 := n3_; have HO1573 := n4_; have HO1579 := n5_; have HO1583 := n6_; have HO1586 := n7_; have HO1599 := n8_; have HO1602 := n9_; have HO1607 := n10_; have BK1555 := n11_; have BK1576 := n12_; have HB := n13_; clear n0_ n1_ n2_ n3_ n4_ n5_ n6_ n7_ n8_ n9_ n10_ n11_ n12_ n13_; (try clear hb); (try clear hb2); (try clear hk); (try clear hi); (try clear ho0); obtain ⟨Ao62, co62, eo62⟩ := Kd.R_slice HO1607.out; subst eo62) | ((with_reducible refine gate_callee (f := 54) rfl ?_); refine goesL_ (some 59) rfl rfl Try.func54 (by kernel_rfl) rfl #[.slice Ao62 t1605.length co62, .slice Ao48 t1565.length co48] rfl Z49_15 ?_; (with_reducible refine (laws_eqByteS.calls k _ _ t1605 _ _ t1565 true _ ?side1 ?side2 ?side3 ?side4 A26.out).mono ?_); (case side1 => repeat (first | exact (Kd.R_reads' HO1607.out).2.2 | (with_reducible refine Kd.C_alloc ?_ _) | (with_reducible refine Kd.C_drewN ?_ _) | (with_reducible refine Kd.C_drew ?_))); (case side2 => exact (Kd.R_reads' HO1607.out).2.1); (case side3 => repeat (first | exact (Kd.R_reads' HO1567.out).2.2 | (with_reducible refine Kd.C_alloc ?_ _) | (with_reducible refine Kd.C_drewN ?_ _) | (with_reducible refine Kd.C_drew ?_))); (case side4 => exact (Kd.R_reads' HO1567.out).2.1); rintro e w' ⟨rfl, ⟨nd, rfl⟩⟩; refine ⟨_, rfl, ?_⟩) | ((with_reducible refine gate_callee (f := 57) rfl ?_); refine goesL_ (some 63) rfl rfl Try.func57 (by kernel_rfl) rfl #[.slice Ao47 t1595.length co47, .int .i64 1] rfl Z49_6 ?_; (with_reducible refine (laws_heldByteS.calls k _ _ t1595 1 t1609 _ ?side1 ?side2 A28.out).mono ?_); (case side1 => repeat (first | exact (Kd.R_reads' HO1579.out).2.2 | (with_reducible refine Kd.C_alloc ?_ _) | (with_reducible refine Kd.C_drewN ?_ _) | (with_reducible refine Kd.C_drew ?_))); (case side2 => rw [show t1595.length = t1577.length from (Kd.R_reads' HO1579.out).1.symm]; exact (Kd.R_reads' HO1579.out).2.1); rintro e w' ⟨rfl, ⟨nd, rfl⟩⟩; refine ⟨_, rfl, ?_⟩))
   go_ret
   exact ⟨(by first | rfl | (simp [errW_none, errW_some] <;> rfl) | (simp [*, errW_none, errW_some] <;> rfl)), Z49_9⟩

/-- THE ONE PURE STATEMENT of laws_FnExactPutState: yours. -/
def laws_FnExactPutState.Pure : Prop := ∀ (l0_0 : List (S75)) (l0_1 : List (S124)) (a0_2 : Int) (a0_3 : Int), l0_0.length ≤ maxLen → (∀ x ∈ l0_0, (Lit.int .i64 x.f0).wf = true ∧ (Lit.int .i64 x.f1).wf = true ∧ (Lit.int .i64 x.f2).wf = true ∧ (Lit.int .i64 x.f3).wf = true ∧ (Lit.int .i64 x.f4).wf = true ∧ (Lit.int .i64 x.f5).wf = true ∧ (Lit.int .i64 x.f6).wf = true ∧ (Lit.int .i64 x.f7).wf = true ∧ (Lit.int .i64 x.f8).wf = true ∧ (Lit.int .i64 x.f9).wf = true ∧ (Lit.int .i64 x.f10).wf = true) → l0_1.length ≤ maxLen → (∀ x ∈ l0_1, (Lit.int .i64 x.f0).wf = true ∧ (Lit.int .i64 x.f1).wf = true) → (Lit.int .i64 a0_2).wf = true → (Lit.int .i64 a0_3).wf = true → ∃ k, laws_FnExactPutState.f k l0_0 l0_1 a0_2 a0_3 = some true
theorem laws_FnExactPutState.walk (P : laws_FnExactPutState.Pure) (A0_0 : Option Addr) (c0_0 : Nat) (l0_0 : List (S75)) (A0_1 : Option Addr) (c0_1 : Nat) (l0_1 : List (S124)) (a0_2 : Int) (a0_3 : Int) (w : World) (hr0_0 : Kd.C k75 w A0_0 l0_0.length l0_0) (hc0_0 : l0_0.length ≤ c0_0) (hm0_0 : l0_0.length ≤ maxLen) (hw0_0 : ∀ x ∈ l0_0, (Lit.int .i64 x.f0).wf = true ∧ (Lit.int .i64 x.f1).wf = true ∧ (Lit.int .i64 x.f2).wf = true ∧ (Lit.int .i64 x.f3).wf = true ∧ (Lit.int .i64 x.f4).wf = true ∧ (Lit.int .i64 x.f5).wf = true ∧ (Lit.int .i64 x.f6).wf = true ∧ (Lit.int .i64 x.f7).wf = true ∧ (Lit.int .i64 x.f8).wf = true ∧ (Lit.int .i64 x.f9).wf = true ∧ (Lit.int .i64 x.f10).wf = true) (hr0_1 : Kd.C k124 w A0_1 l0_1.length l0_1) (hc0_1 : l0_1.length ≤ c0_1) (hm0_1 : l0_1.length ≤ maxLen) (hw0_1 : ∀ x ∈ l0_1, (Lit.int .i64 x.f0).wf = true ∧ (Lit.int .i64 x.f1).wf = true) (w0_2 : (Lit.int .i64 a0_2).wf = true) (w0_3 : (Lit.int .i64 a0_3).wf = true) :
    Calls Try.prog 7 #[.agg #[.slice A0_0 l0_0.length c0_0, .slice A0_1 l0_1.length c0_1, .int .i64 a0_2, .int .i64 a0_3]] w fun e w' => e = .returned (.bool true) ∧ Below w.heap.size w w' := by
  obtain ⟨k, h⟩ := P l0_0 l0_1 a0_2 a0_3 hm0_0 hw0_0 hm0_1 hw0_1 w0_2 w0_3
  refine (laws_FnExactPutState.calls k _ _ l0_0 _ _ l0_1 a0_2 a0_3 true w hr0_0 hc0_0 hr0_1 hc0_1 rfl h).mono ?_
  rintro e w' ⟨rfl, hd⟩
  exact ⟨rfl, hd⟩


end Go.Proofs.Ytfkidiagmekleaa.QAll
