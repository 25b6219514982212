-- Written by a program of this session (patch_print.py over the print).
import Derived.Test.YtfkidiagmekleaaQAllx0
namespace Go.Proofs.Ytfkidiagmekleaa.QAll
open Go.RowKit Go.Proofs.YtfkidiagmekleaaW.PrintWords Go.Proofs.YtfkidiagmekleaaW.PrintLast Go.Proofs.YtfkidiagmekleaaW.PrintMore
attribute [local go_sem] max2_int min2_int max_two min_two max_three min_three max_four min_four   -- for this text's walks alone
set_option linter.unusedVariables false
set_option linter.unusedSimpArgs false

theorem C24To_3 {W : World} {g : Nat} {T : TypeId} {v0 v1 v2 : Value} (h : W.heap[g]? = some (.cells #[v0, v1, v2] T (0, 0))) : (W.cell? ⟨g, 0, none⟩ = some v0 ∧ W.cell? ⟨g, 1, none⟩ = some v1 ∧ W.cell? ⟨g, 2, none⟩ = some v2) ∧ W.frozen? ⟨g, 0, none⟩ = false ∧ W.frozen? ⟨g, 1, none⟩ = false ∧ W.frozen? ⟨g, 2, none⟩ = false := ⟨⟨(blk_cell h 0).trans rfl, (blk_cell h 1).trans rfl, (blk_cell h 2).trans rfl⟩, blk_frozen h 0, blk_frozen h 1, blk_frozen h 2⟩
theorem E24To_3 {W : World} {g : Nat} {T : TypeId} {v0 v1 v2 o0 o1 o2 : Value} (h : W.heap[g]? = some (.cells #[o0, o1, o2] T (0, 0))) : (((W.setCell ⟨g, 0, none⟩ v0).setCell ⟨g, 1, none⟩ v1).setCell ⟨g, 2, none⟩ v2).heap[g]? = some (.cells #[v0, v1, v2] T (0, 0)) := (blk_put (cs := #[v0, v1, o2]) (blk_put (cs := #[v0, o1, o2]) (blk_put (cs := #[o0, o1, o2]) h 0 _ rfl) 1 _ rfl) 2 _ rfl)
theorem C24To_4 {W : World} {g : Nat} {T : TypeId} {v0 v1 v2 v3 : Value} (h : W.heap[g]? = some (.cells #[v0, v1, v2, v3] T (0, 0))) : (W.cell? ⟨g, 0, none⟩ = some v0 ∧ W.cell? ⟨g, 1, none⟩ = some v1 ∧ W.cell? ⟨g, 2, none⟩ = some v2 ∧ W.cell? ⟨g, 3, none⟩ = some v3) ∧ W.frozen? ⟨g, 0, none⟩ = false ∧ W.frozen? ⟨g, 1, none⟩ = false ∧ W.frozen? ⟨g, 2, none⟩ = false ∧ W.frozen? ⟨g, 3, none⟩ = false := ⟨⟨(blk_cell h 0).trans rfl, (blk_cell h 1).trans rfl, (blk_cell h 2).trans rfl, (blk_cell h 3).trans rfl⟩, blk_frozen h 0, blk_frozen h 1, blk_frozen h 2, blk_frozen h 3⟩
theorem E24To_4 {W : World} {g : Nat} {T : TypeId} {v0 v1 v2 v3 o0 o1 o2 o3 : Value} (h : W.heap[g]? = some (.cells #[o0, o1, o2, o3] T (0, 0))) : ((((W.setCell ⟨g, 0, none⟩ v0).setCell ⟨g, 1, none⟩ v1).setCell ⟨g, 2, none⟩ v2).setCell ⟨g, 3, none⟩ v3).heap[g]? = some (.cells #[v0, v1, v2, v3] T (0, 0)) := (blk_put (cs := #[v0, v1, v2, o3]) (blk_put (cs := #[v0, v1, o2, o3]) (blk_put (cs := #[v0, o1, o2, o3]) (blk_put (cs := #[o0, o1, o2, o3]) h 0 _ rfl) 1 _ rfl) 2 _ rfl) 3 _ rfl)
theorem C24To_13 {W : World} {g : Nat} {T : TypeId} {v0 v1 v2 v3 v4 v5 v6 v7 v8 v9 v10 v11 v12 : Value} (h : W.heap[g]? = some (.cells #[v0, v1, v2, v3, v4, v5, v6, v7, v8, v9, v10, v11, v12] T (0, 0))) : (W.cell? ⟨g, 0, none⟩ = some v0 ∧ W.cell? ⟨g, 1, none⟩ = some v1 ∧ W.cell? ⟨g, 2, none⟩ = some v2 ∧ W.cell? ⟨g, 3, none⟩ = some v3 ∧ W.cell? ⟨g, 4, none⟩ = some v4 ∧ W.cell? ⟨g, 5, none⟩ = some v5 ∧ W.cell? ⟨g, 6, none⟩ = some v6 ∧ W.cell? ⟨g, 7, none⟩ = some v7 ∧ W.cell? ⟨g, 8, none⟩ = some v8 ∧ W.cell? ⟨g, 9, none⟩ = some v9 ∧ W.cell? ⟨g, 10, none⟩ = some v10 ∧ W.cell? ⟨g, 11, none⟩ = some v11 ∧ W.cell? ⟨g, 12, none⟩ = some v12) ∧ W.frozen? ⟨g, 0, none⟩ = false ∧ W.frozen? ⟨g, 1, none⟩ = false ∧ W.frozen? ⟨g, 2, none⟩ = false ∧ W.frozen? ⟨g, 3, none⟩ = false ∧ W.frozen? ⟨g, 4, none⟩ = false ∧ W.frozen? ⟨g, 5, none⟩ = false ∧ W.frozen? ⟨g, 6, none⟩ = false ∧ W.frozen? ⟨g, 7, none⟩ = false ∧ W.frozen? ⟨g, 8, none⟩ = false ∧ W.frozen? ⟨g, 9, none⟩ = false ∧ W.frozen? ⟨g, 10, none⟩ = false ∧ W.frozen? ⟨g, 11, none⟩ = false ∧ W.frozen? ⟨g, 12, none⟩ = false := ⟨⟨(blk_cell h 0).trans rfl, (blk_cell h 1).trans rfl, (blk_cell h 2).trans rfl, (blk_cell h 3).trans rfl, (blk_cell h 4).trans rfl, (blk_cell h 5).trans rfl, (blk_cell h 6).trans rfl, (blk_cell h 7).trans rfl, (blk_cell h 8).trans rfl, (blk_cell h 9).trans rfl, (blk_cell h 10).trans rfl, (blk_cell h 11).trans rfl, (blk_cell h 12).trans rfl⟩, blk_frozen h 0, blk_frozen h 1, blk_frozen h 2, blk_frozen h 3, blk_frozen h 4, blk_frozen h 5, blk_frozen h 6, blk_frozen h 7, blk_frozen h 8, blk_frozen h 9, blk_frozen h 10, blk_frozen h 11, blk_frozen h 12⟩
theorem E24To_13 {W : World} {g : Nat} {T : TypeId} {v0 v1 v2 v3 v4 v5 v6 v7 v8 v9 v10 v11 v12 o0 o1 o2 o3 o4 o5 o6 o7 o8 o9 o10 o11 o12 : Value} (h : W.heap[g]? = some (.cells #[o0, o1, o2, o3, o4, o5, o6, o7, o8, o9, o10, o11, o12] T (0, 0))) : (((((((((((((W.setCell ⟨g, 0, none⟩ v0).setCell ⟨g, 1, none⟩ v1).setCell ⟨g, 2, none⟩ v2).setCell ⟨g, 3, none⟩ v3).setCell ⟨g, 4, none⟩ v4).setCell ⟨g, 5, none⟩ v5).setCell ⟨g, 6, none⟩ v6).setCell ⟨g, 7, none⟩ v7).setCell ⟨g, 8, none⟩ v8).setCell ⟨g, 9, none⟩ v9).setCell ⟨g, 10, none⟩ v10).setCell ⟨g, 11, none⟩ v11).setCell ⟨g, 12, none⟩ v12).heap[g]? = some (.cells #[v0, v1, v2, v3, v4, v5, v6, v7, v8, v9, v10, v11, v12] T (0, 0)) := (blk_put (cs := #[v0, v1, v2, v3, v4, v5, v6, v7, v8, v9, v10, v11, o12]) (blk_put (cs := #[v0, v1, v2, v3, v4, v5, v6, v7, v8, v9, v10, o11, o12]) (blk_put (cs := #[v0, v1, v2, v3, v4, v5, v6, v7, v8, v9, o10, o11, o12]) (blk_put (cs := #[v0, v1, v2, v3, v4, v5, v6, v7, v8, o9, o10, o11, o12]) (blk_put (cs := #[v0, v1, v2, v3, v4, v5, v6, v7, o8, o9, o10, o11, o12]) (blk_put (cs := #[v0, v1, v2, v3, v4, v5, v6, o7, o8, o9, o10, o11, o12]) (blk_put (cs := #[v0, v1, v2, v3, v4, v5, o6, o7, o8, o9, o10, o11, o12]) (blk_put (cs := #[v0, v1, v2, v3, v4, o5, o6, o7, o8, o9, o10, o11, o12]) (blk_put (cs := #[v0, v1, v2, v3, o4, o5, o6, o7, o8, o9, o10, o11, o12]) (blk_put (cs := #[v0, v1, v2, o3, o4, o5, o6, o7, o8, o9, o10, o11, o12]) (blk_put (cs := #[v0, v1, o2, o3, o4, o5, o6, o7, o8, o9, o10, o11, o12]) (blk_put (cs := #[v0, o1, o2, o3, o4, o5, o6, o7, o8, o9, o10, o11, o12]) (blk_put (cs := #[o0, o1, o2, o3, o4, o5, o6, o7, o8, o9, o10, o11, o12]) h 0 _ rfl) 1 _ rfl) 2 _ rfl) 3 _ rfl) 4 _ rfl) 5 _ rfl) 6 _ rfl) 7 _ rfl) 8 _ rfl) 9 _ rfl) 10 _ rfl) 11 _ rfl) 12 _ rfl)
theorem Z24To_23 {p : Prop} (h : p := by (with_reducible repeat (first | refine blk_drewN ?_ _ | refine blk_drew ?_ | refine blk_alloc ?_ _)); exact BK705.out) : p := h
theorem Z24To_1 {p : Prop} (h : p := by exact (blk_below (g := gb705) (o := .cells #[.int .i64 a0_0, .int .i64 a0_1, .int .i64 a0_2, .int .i64 a0_3, .int .i64 a0_4, .int .i64 a0_5, .int .i64 a0_6, .int .i64 a0_7, .int .i64 a0_8, .int .i64 a0_9, .int .i64 a0_10, .bool a0_11, .bool a0_12] 75 (0, 0)) Z24To_23 hb)) : p := h
theorem Z24To_27 {p : Prop} (h : p := by (with_reducible repeat (first | refine blk_drewN ?_ _ | refine blk_drew ?_ | refine blk_alloc ?_ _)); exact BK737.out) : p := h
theorem Z24To_2 {p : Prop} (h : p := by exact (blk_below (g := gb737) (o := .cells #[.slice A0_0 l0_0.length c0_0, .slice A0_1 l0_1.length c0_1, .int .i64 a0_2, .int .i64 a0_3] 50 (0, 0)) Z24To_27 hb)) : p := h
theorem Z24To_9 {p : Prop} (h : p := by repeat (first | (with_reducible first | exact HB.out | apply below_alloc | apply pw_below_drewN | apply below_drew1 | refine below_set ?_ GE737.out | refine below_set ?_ GE738.out | refine below_set ?_ GE739.out) | exact HB.out)) : p := h
theorem Z24To_3 {p : Prop} (h : p := by exact (Kd.R_lower ho0 (below_size Z24To_9))) : p := h
theorem Z24To_4 {p : Prop} (h : p := by exact ((by rw [hg]; exact (below_size (by repeat (first | (with_reducible first | exact HB.out | apply below_alloc | apply pw_below_drewN | apply below_drew1 | refine below_set ?_ GE705.out | refine below_set ?_ GE706.out) | exact HB.out))) : w.heap.size ≤ gb707))) : p := h
theorem Z24To_5 {p : Prop} (h : p := by exact ((by rw [hg]; exact (below_size (by repeat (first | (with_reducible first | exact HB.out | apply below_alloc | apply pw_below_drewN | apply below_drew1 | refine below_set ?_ GE726.out | refine below_set ?_ GE727.out) | exact HB.out))) : w.heap.size ≤ gb728))) : p := h
theorem Z24To_6 {p : Prop} (h : p := by exact ((by rw [hg]; exact (below_size (by repeat (first | (with_reducible first | exact HB.out | apply below_alloc | apply pw_below_drewN | apply below_drew1 | refine below_set ?_ GE737.out | refine below_set ?_ GE738.out) | exact HB.out))) : w.heap.size ≤ gb739))) : p := h
theorem Z24To_7 {p : Prop} (h : p := by exact (below_step Z24To_9 hb)) : p := h
theorem Z24To_28 {p : Prop} (h : p := by (with_reducible repeat (first | refine blk_drewN ?_ _ | refine blk_drew ?_ | refine blk_alloc ?_ _)); exact BK738.out) : p := h
theorem Z24To_8 {p : Prop} (h : p := by exact (blk_below (g := gb738) (o := .cells #[.slice none 0 0, .slice none 0 0, .int .i64 0, .int .i64 0] 56 (0, 0)) Z24To_28 hb)) : p := h
theorem Z24To_10 {p : Prop} (h : p := by exact ((by rw [hg]; exact (below_size (by repeat (first | (with_reducible first | exact HB.out | apply below_alloc | apply pw_below_drewN | apply below_drew1 | refine below_set ?_ GE705.out) | exact HB.out))) : w.heap.size ≤ gb706))) : p := h
theorem Z24To_11 {p : Prop} (h : p := by exact ((by rw [hg]; exact (below_size (by repeat (first | (with_reducible first | exact HB.out | apply below_alloc | apply pw_below_drewN | apply below_drew1 | refine below_set ?_ GE726.out) | exact HB.out))) : w.heap.size ≤ gb727))) : p := h
theorem Z24To_12 {p : Prop} (h : p := by exact ((by rw [hg]; exact (below_size (by repeat (first | (with_reducible first | exact HB.out | apply below_alloc | apply pw_below_drewN | apply below_drew1 | refine below_set ?_ GE737.out) | exact HB.out))) : w.heap.size ≤ gb738))) : p := h
theorem Z24To_25 {p : Prop} (h : p := by (with_reducible repeat (first | refine blk_drewN ?_ _ | refine blk_drew ?_ | refine blk_alloc ?_ _)); exact BK726.out) : p := h
theorem Z24To_13 {p : Prop} (h : p := by exact (blk_below (g := gb726) (o := .cells #[.int .i64 a0_0, .int .i64 a0_1, .bool a0_2] 124 (0, 0)) Z24To_25 hb)) : p := h
theorem Z24To_21 {p : Prop} (h : p := by repeat (first | (with_reducible first | exact HB.out | apply below_alloc | apply pw_below_drewN | apply below_drew1) | exact HB.out)) : p := h
theorem Z24To_14 {p : Prop} (h : p := by exact ((by rw [hg]; exact (below_size Z24To_21) : w.heap.size ≤ gb705))) : p := h
theorem Z24To_15 {p : Prop} (h : p := by exact ((by rw [hg]; exact (below_size Z24To_21) : w.heap.size ≤ gb726))) : p := h
theorem Z24To_16 {p : Prop} (h : p := by exact ((by rw [hg]; exact (below_size Z24To_21) : w.heap.size ≤ gb737))) : p := h
theorem Z24To_18 {p : Prop} (h : p := by exact (Kd.R_lower ho5 (below_size Z24To_21))) : p := h
theorem Z24To_19 {p : Prop} (h : p := by exact (below_step Z24To_21 hb)) : p := h
theorem Z24To_20 {p : Prop} (h : p := by (try simp only [List.map_toArray, List.map_cons, List.map_nil]); first | done | rfl | (simp only [List.length_drop, List.length_take]; rfl)) : p := h
theorem Z24To_29 {p : Prop} (h : p := by (with_reducible repeat (first | apply Kd.R_alloc | apply Kd.R_drewN | apply Kd.R_drew)); exact HO_3.out) : p := h
theorem Z24To_22 {p : Prop} (h : p := by exact (Kd.R_below Z24To_29 hb)) : p := h
theorem Z24To_24 {p : Prop} (h : p := by (with_reducible repeat (first | refine blk_drewN ?_ _ | refine blk_drew ?_ | refine blk_alloc ?_ _)); exact BK706.out) : p := h
theorem Z24To_26 {p : Prop} (h : p := by (with_reducible repeat (first | refine blk_drewN ?_ _ | refine blk_drew ?_ | refine blk_alloc ?_ _)); exact BK727.out) : p := h
theorem Z24To_30 {p : Prop} (h : p := by first | rfl | (simp [errW_none, errW_some] <;> rfl) | (simp [*, errW_none, errW_some] <;> rfl)) : p := h
theorem Z24To_31 {p : Prop} (h : p := by first | (with_reducible assumption) | assumption) : p := h
theorem Z24To_32 {p : Prop} (h : p := by first | rfl | (simp; done) | (simp [*]; done)) : p := h
/-! ### laws_szPieceS: function 97 -/
def laws_szPieceS.f (l0 : List (S75)) (a1 : Int) : Option (Int) := if (wrap64 (a1 - (l0.length : Int))) < 0 then (some (-1)) else (some (wrap64 (a1 - (l0.length : Int))))
set_option maxHeartbeats 8000000 in
set_option maxRecDepth 100000 in
theorem laws_szPieceS.calls (A0 : Option Addr) (c0 : Nat) (l0 : List (S75)) (a1 : Int) (r : Int) (w : World) (hr0 : Kd.C k75 w A0 l0.length l0) (hc0 : l0.length ≤ c0) (h : laws_szPieceS.f l0 a1 = some r) :
    Calls Try.prog 97 #[.slice A0 l0.length c0, .int .i64 a1] w fun e w' => e = .returned (.int .i64 r) ∧ Drawn0 w w' := by
  have HR0 := Aside0.mk hr0
  have HC0 := Aside0.mk hc0
  clear hr0 hc0
  have H : (if (wrap64 (a1 - (l0.length : Int))) < 0 then (some (-1)) else (some (wrap64 (a1 - (l0.length : Int))))) = some r := h
  clear h
  by_cases c3 : (wrap64 (a1 - (l0.length : Int))) < 0
  · rw [if_pos c3] at H
    have c3b0 : decide ((wrap64 (a1 - (l0.length : Int))) < 0) = true := decide_eq_true c3
    clear c3
    obtain rfl := Option.some.inj H
    go_enter Try.func97, Try.ntmps97
    go_wp2
    go_ret
    exact ⟨by first | rfl | (simp; done) | (simp [*]; done), by repeat (first | exact Drawn0.refl _ | apply Drawn0.step)⟩
  · rw [if_neg c3] at H
    have c3b0 : decide ((wrap64 (a1 - (l0.length : Int))) < 0) = false := decide_eq_false c3
    clear c3
    obtain rfl := Option.some.inj H
    go_enter Try.func97, Try.ntmps97
    go_wp2
    go_ret
    exact ⟨by first | rfl | (simp; done) | (simp [*]; done), by repeat (first | exact Drawn0.refl _ | apply Drawn0.step)⟩

/-! ### laws_szSideS: function 98 -/
def laws_szSideS.f (l0 : List (S124)) (a1 : Int) : Option (Int) := if (wrap64 (a1 - (l0.length : Int))) < 0 then (some (-1)) else (some (wrap64 (a1 - (l0.length : Int))))
set_option maxHeartbeats 8000000 in
set_option maxRecDepth 100000 in
theorem laws_szSideS.calls (A0 : Option Addr) (c0 : Nat) (l0 : List (S124)) (a1 : Int) (r : Int) (w : World) (hr0 : Kd.C k124 w A0 l0.length l0) (hc0 : l0.length ≤ c0) (h : laws_szSideS.f l0 a1 = some r) :
    Calls Try.prog 98 #[.slice A0 l0.length c0, .int .i64 a1] w fun e w' => e = .returned (.int .i64 r) ∧ Drawn0 w w' := by
  have HR0 := Aside0.mk hr0
  have HC0 := Aside0.mk hc0
  clear hr0 hc0
  have H : (if (wrap64 (a1 - (l0.length : Int))) < 0 then (some (-1)) else (some (wrap64 (a1 - (l0.length : Int))))) = some r := h
  clear h
  by_cases c3 : (wrap64 (a1 - (l0.length : Int))) < 0
  · rw [if_pos c3] at H
    have c3b0 : decide ((wrap64 (a1 - (l0.length : Int))) < 0) = true := decide_eq_true c3
    clear c3
    obtain rfl := Option.some.inj H
    go_enter Try.func98, Try.ntmps98
    go_wp2
    go_ret
    exact ⟨by first | rfl | (simp; done) | (simp [*]; done), by repeat (first | exact Drawn0.refl _ | apply Drawn0.step)⟩
  · rw [if_neg c3] at H
    have c3b0 : decide ((wrap64 (a1 - (l0.length : Int))) < 0) = false := decide_eq_false c3
    clear c3
    obtain rfl := Option.some.inj H
    go_enter Try.func98, Try.ntmps98
    go_wp2
    go_ret
    exact ⟨by first | rfl | (simp; done) | (simp [*]; done), by repeat (first | exact Drawn0.refl _ | apply Drawn0.step)⟩

/-! ### laws_szState: function 35 -/
def laws_szState.f (l0_0 : List (S75)) (l0_1 : List (S124)) (a0_2 : Int) (a0_3 : Int) (a1 : Int) : Option (Int) := (laws_szPieceS.f l0_0 a1).bind fun t690 => (if t690 < 0 then (some (-1)) else ((laws_szSideS.f l0_1 t690).bind fun t691 => (if t691 < 0 then (some (-1)) else (some t691))))
set_option maxHeartbeats 8000000 in
set_option maxRecDepth 100000 in
theorem laws_szState.calls (A0_0 : Option Addr) (c0_0 : Nat) (l0_0 : List (S75)) (A0_1 : Option Addr) (c0_1 : Nat) (l0_1 : List (S124)) (a0_2 : Int) (a0_3 : Int) (a1 : Int) (r : Int) (w : World) (hr0_0 : Kd.C k75 w A0_0 l0_0.length l0_0) (hc0_0 : l0_0.length ≤ c0_0) (hr0_1 : Kd.C k124 w A0_1 l0_1.length l0_1) (hc0_1 : l0_1.length ≤ c0_1) (h : laws_szState.f l0_0 l0_1 a0_2 a0_3 a1 = some r) :
    Calls Try.prog 35 #[.agg #[.slice A0_0 l0_0.length c0_0, .slice A0_1 l0_1.length c0_1, .int .i64 a0_2, .int .i64 a0_3], .int .i64 a1] w fun e w' => e = .returned (.int .i64 r) ∧ Below w.heap.size w w' := by
  have hu50 := Try.underlying50
  have HR0_0 := Aside0.mk hr0_0
  have HC0_0 := Aside0.mk hc0_0
  clear hr0_0 hc0_0
  have HR0_1 := Aside0.mk hr0_1
  have HC0_1 := Aside0.mk hc0_1
  clear hr0_1 hc0_1
  have HB := Aside0.mk (Below.refl w.heap.size w)
  have H : ((laws_szPieceS.f l0_0 a1).bind fun t690 => (if t690 < 0 then (some (-1)) else ((laws_szSideS.f l0_1 t690).bind fun t691 => (if t691 < 0 then (some (-1)) else (some t691))))) = some r := h
  clear h
  replace H := Option.bind_eq_some_iff.mp H
  obtain ⟨t690, A30, H⟩ := H
  replace H : (if t690 < 0 then (some (-1)) else ((laws_szSideS.f l0_1 t690).bind fun t691 => (if t691 < 0 then (some (-1)) else (some t691)))) = some r := H
  have A3 := Aside0.mk A30
  clear A30
  by_cases c4 : t690 < 0
  · rw [if_pos c4] at H
    have c4b0 : decide (t690 < 0) = true := decide_eq_true c4
    clear c4
    obtain rfl := Option.some.inj H
    go_enter Try.func35, Try.ntmps35
    go_wp2_with (first | ((with_reducible refine gate_dst (N := 2) rfl ?_); refine box_event ?hg (N := 2) ?hd (cs := #[.slice A0_0 l0_0.length c0_0, .slice A0_1 l0_1.length c0_1, .int .i64 a0_2, .int .i64 a0_3]) (t := 50) ?hr ?_; (case hd => rfl); (case hg => rfl); (case hr => first | (go_simp; done) | (go_simp; rfl)); intro gb689 hg w5 hbox hb; have n0_ := Aside0.mk (below_step (by repeat (first | (with_reducible first | exact HB.out | apply below_alloc | apply pw_below_drewN | apply below_drew1) | exact HB.out)) hb); have n1_ := Aside0.mk (hbox); have n2_ := Aside0.mk ((by rw [hg]; exact (below_size (by repeat (first | (with_reducible first | exact HB.out | apply below_alloc | apply pw_below_drewN | apply below_drew1) | exact HB.out))) : w.heap.size ≤ gb689)); have n3_ := Aside0.mk ((by rw [hg]; exact (below_size (by repeat (first | (with_reducible first | exact HB.out | apply below_alloc | apply pw_below_drewN | apply below_drew1) | exact HB.out))) : w.heap.size ≤ gb689)); clear HB; have HB := n0_; have BK689 := n1_; have GW689 := n2_; have GE689 := n3_; clear n0_ n1_ n2_ n3_; clear hb hbox hg; have hcz6_0 : w5.cell? ⟨gb689, 0, none⟩ = some (.slice A0_0 l0_0.length c0_0) := (blk_cell BK689.out 0).trans rfl; have hcz6_1 : w5.cell? ⟨gb689, 1, none⟩ = some (.slice A0_1 l0_1.length c0_1) := (blk_cell BK689.out 1).trans rfl; have hcz6_2 : w5.cell? ⟨gb689, 2, none⟩ = some (.int .i64 a0_2) := (blk_cell BK689.out 2).trans rfl; have hcz6_3 : w5.cell? ⟨gb689, 3, none⟩ = some (.int .i64 a0_3) := (blk_cell BK689.out 3).trans rfl; have hfz6_0 := blk_frozen BK689.out 0; have hfz6_1 := blk_frozen BK689.out 1; have hfz6_2 := blk_frozen BK689.out 2; have hfz6_3 := blk_frozen BK689.out 3) | ((with_reducible refine gate_callee (f := 97) rfl ?_); refine goesL_ (some 8) rfl rfl Try.func97 (by kernel_rfl) rfl #[.slice A0_0 l0_0.length c0_0, .int .i64 a1] rfl (by (try simp only [List.map_toArray, List.map_cons, List.map_nil]); first | done | rfl | (simp only [List.length_drop, List.length_take]; rfl)) ?_; (with_reducible refine (laws_szPieceS.calls _ _ l0_0 a1 t690 _ ?side1 ?side2 A3.out).mono ?_); (case side1 => repeat (first | exact (Kd.C_below HR0_0.out HB.out) | (with_reducible refine Kd.C_alloc ?_ _) | (with_reducible refine Kd.C_drewN ?_ _) | (with_reducible refine Kd.C_drew ?_))); (case side2 => exact HC0_0.out); rintro e w' ⟨rfl, ⟨nd, rfl⟩⟩; refine ⟨_, rfl, ?_⟩))
    go_ret
    exact ⟨by first | rfl | (simp [errW_none, errW_some] <;> rfl) | (simp [*, errW_none, errW_some] <;> rfl), by repeat (first | (with_reducible first | exact HB.out | apply below_alloc | apply pw_below_drewN | apply below_drew1 | refine below_set ?_ GE689.out) | exact HB.out)⟩
  · rw [if_neg c4] at H
    have c4b0 : decide (t690 < 0) = false := decide_eq_false c4
    clear c4
    replace H := Option.bind_eq_some_iff.mp H
    obtain ⟨t691, A70, H⟩ := H
    replace H : (if t691 < 0 then (some (-1)) else (some t691)) = some r := H
    have A7 := Aside0.mk A70
    clear A70
    by_cases c8 : t691 < 0
    · rw [if_pos c8] at H
      have c8b0 : decide (t691 < 0) = true := decide_eq_true c8
      clear c8
      obtain rfl := Option.some.inj H
      go_enter Try.func35, Try.ntmps35
      go_wp2_with (first | ((with_reducible refine gate_dst (N := 2) rfl ?_); refine box_event ?hg (N := 2) ?hd (cs := #[.slice A0_0 l0_0.length c0_0, .slice A0_1 l0_1.length c0_1, .int .i64 a0_2, .int .i64 a0_3]) (t := 50) ?hr ?_; (case hd => rfl); (case hg => rfl); (case hr => first | (go_simp; done) | (go_simp; rfl)); intro gb689 hg w9 hbox hb; have n0_ := Aside0.mk (below_step (by repeat (first | (with_reducible first | exact HB.out | apply below_alloc | apply pw_below_drewN | apply below_drew1) | exact HB.out)) hb); have n1_ := Aside0.mk (hbox); have n2_ := Aside0.mk ((by rw [hg]; exact (below_size (by repeat (first | (with_reducible first | exact HB.out | apply below_alloc | apply pw_below_drewN | apply below_drew1) | exact HB.out))) : w.heap.size ≤ gb689)); have n3_ := Aside0.mk ((by rw [hg]; exact (below_size (by repeat (first | (with_reducible first | exact HB.out | apply below_alloc | apply pw_below_drewN | apply below_drew1) | exact HB.out))) : w.heap.size ≤ gb689)); clear HB; have HB := n0_; have BK689 := n1_; have GW689 := n2_; have GE689 := n3_; clear n0_ n1_ n2_ n3_; clear hb hbox hg; have hcz10_0 : w9.cell? ⟨gb689, 0, none⟩ = some (.slice A0_0 l0_0.length c0_0) := (blk_cell BK689.out 0).trans rfl; have hcz10_1 : w9.cell? ⟨gb689, 1, none⟩ = some (.slice A0_1 l0_1.length c0_1) := (blk_cell BK689.out 1).trans rfl; have hcz10_2 : w9.cell? ⟨gb689, 2, none⟩ = some (.int .i64 a0_2) := (blk_cell BK689.out 2).trans rfl; have hcz10_3 : w9.cell? ⟨gb689, 3, none⟩ = some (.int .i64 a0_3) := (blk_cell BK689.out 3).trans rfl; have hfz10_0 := blk_frozen BK689.out 0; have hfz10_1 := blk_frozen BK689.out 1; have hfz10_2 := blk_frozen BK689.out 2; have hfz10_3 := blk_frozen BK689.out 3) | ((with_reducible refine gate_callee (f := 97) rfl ?_); refine goesL_ (some 8) rfl rfl Try.func97 (by kernel_rfl) rfl #[.slice A0_0 l0_0.length c0_0, .int .i64 a1] rfl (by (try simp only [List.map_toArray, List.map_cons, List.map_nil]); first | done | rfl | (simp only [List.length_drop, List.length_take]; rfl)) ?_; (with_reducible refine (laws_szPieceS.calls _ _ l0_0 a1 t690 _ ?side1 ?side2 A3.out).mono ?_); (case side1 => repeat (first | exact (Kd.C_below HR0_0.out HB.out) | (with_reducible refine Kd.C_alloc ?_ _) | (with_reducible refine Kd.C_drewN ?_ _) | (with_reducible refine Kd.C_drew ?_))); (case side2 => exact HC0_0.out); rintro e w' ⟨rfl, ⟨nd, rfl⟩⟩; refine ⟨_, rfl, ?_⟩) | ((with_reducible refine gate_callee (f := 98) rfl ?_); refine goesL_ (some 14) rfl rfl Try.func98 (by kernel_rfl) rfl #[.slice A0_1 l0_1.length c0_1, .int .i64 t690] rfl (by (try simp only [List.map_toArray, List.map_cons, List.map_nil]); first | done | rfl | (simp only [List.length_drop, List.length_take]; rfl)) ?_; (with_reducible refine (laws_szSideS.calls _ _ l0_1 t690 t691 _ ?side1 ?side2 A7.out).mono ?_); (case side1 => repeat (first | exact (Kd.C_below HR0_1.out (by repeat (first | (with_reducible first | exact HB.out | apply below_alloc | apply pw_below_drewN | apply below_drew1 | refine below_set ?_ GE689.out) | exact HB.out))) | (with_reducible refine Kd.C_alloc ?_ _) | (with_reducible refine Kd.C_drewN ?_ _) | (with_reducible refine Kd.C_drew ?_))); (case side2 => exact HC0_1.out); rintro e w' ⟨rfl, ⟨nd, rfl⟩⟩; refine ⟨_, rfl, ?_⟩))
      go_ret
      exact ⟨by first | rfl | (simp [errW_none, errW_some] <;> rfl) | (simp [*, errW_none, errW_some] <;> rfl), by repeat (first | (with_reducible first | exact HB.out | apply below_alloc | apply pw_below_drewN | apply below_drew1 | refine below_set ?_ GE689.out) | exact HB.out)⟩
    · rw [if_neg c8] at H
      have c8b0 : decide (t691 < 0) = false := decide_eq_false c8
      clear c8
      obtain rfl := Option.some.inj H
      go_enter Try.func35, Try.ntmps35
      go_wp2_with (first | ((with_reducible refine gate_dst (N := 2) rfl ?_); refine box_event ?hg (N := 2) ?hd (cs := #[.slice A0_0 l0_0.length c0_0, .slice A0_1 l0_1.length c0_1, .int .i64 a0_2, .int .i64 a0_3]) (t := 50) ?hr ?_; (case hd => rfl); (case hg => rfl); (case hr => first | (go_simp; done) | (go_simp; rfl)); intro gb689 hg w11 hbox hb; have n0_ := Aside0.mk (below_step (by repeat (first | (with_reducible first | exact HB.out | apply below_alloc | apply pw_below_drewN | apply below_drew1) | exact HB.out)) hb); have n1_ := Aside0.mk (hbox); have n2_ := Aside0.mk ((by rw [hg]; exact (below_size (by repeat (first | (with_reducible first | exact HB.out | apply below_alloc | apply pw_below_drewN | apply below_drew1) | exact HB.out))) : w.heap.size ≤ gb689)); have n3_ := Aside0.mk ((by rw [hg]; exact (below_size (by repeat (first | (with_reducible first | exact HB.out | apply below_alloc | apply pw_below_drewN | apply below_drew1) | exact HB.out))) : w.heap.size ≤ gb689)); clear HB; have HB := n0_; have BK689 := n1_; have GW689 := n2_; have GE689 := n3_; clear n0_ n1_ n2_ n3_; clear hb hbox hg; have hcz12_0 : w11.cell? ⟨gb689, 0, none⟩ = some (.slice A0_0 l0_0.length c0_0) := (blk_cell BK689.out 0).trans rfl; have hcz12_1 : w11.cell? ⟨gb689, 1, none⟩ = some (.slice A0_1 l0_1.length c0_1) := (blk_cell BK689.out 1).trans rfl; have hcz12_2 : w11.cell? ⟨gb689, 2, none⟩ = some (.int .i64 a0_2) := (blk_cell BK689.out 2).trans rfl; have hcz12_3 : w11.cell? ⟨gb689, 3, none⟩ = some (.int .i64 a0_3) := (blk_cell BK689.out 3).trans rfl; have hfz12_0 := blk_frozen BK689.out 0; have hfz12_1 := blk_frozen BK689.out 1; have hfz12_2 := blk_frozen BK689.out 2; have hfz12_3 := blk_frozen BK689.out 3) | ((with_reducible refine gate_callee (f := 97) rfl ?_); refine goesL_ (some 8) rfl rfl Try.func97 (by kernel_rfl) rfl #[.slice A0_0 l0_0.length c0_0, .int .i64 a1] rfl (by (try simp only [List.map_toArray, List.map_cons, List.map_nil]); first | done | rfl | (simp only [List.length_drop, List.length_take]; rfl)) ?_; (with_reducible refine (laws_szPieceS.calls _ _ l0_0 a1 t690 _ ?side1 ?side2 A3.out).mono ?_); (case side1 => repeat (first | exact (Kd.C_below HR0_0.out HB.out) | (with_reducible refine Kd.C_alloc ?_ _) | (with_reducible refine Kd.C_drewN ?_ _) | (with_reducible refine Kd.C_drew ?_))); (case side2 => exact HC0_0.out); rintro e w' ⟨rfl, ⟨nd, rfl⟩⟩; refine ⟨_, rfl, ?_⟩) | ((with_reducible refine gate_callee (f := 98) rfl ?_); refine goesL_ (some 14) rfl rfl Try.func98 (by kernel_rfl) rfl #[.slice A0_1 l0_1.length c0_1, .int .i64 t690] rfl (by (try simp only [List.map_toArray, List.map_cons, List.map_nil]); first | done | rfl | (simp only [List.length_drop, List.length_take]; rfl)) ?_; (with_reducible refine (laws_szSideS.calls _ _ l0_1 t690 t691 _ ?side1 ?side2 A7.out).mono ?_); (case side1 => repeat (first | exact (Kd.C_below HR0_1.out (by repeat (first | (with_reducible first | exact HB.out | apply below_alloc | apply pw_below_drewN | apply below_drew1 | refine below_set ?_ GE689.out) | exact HB.out))) | (with_reducible refine Kd.C_alloc ?_ _) | (with_reducible refine Kd.C_drewN ?_ _) | (with_reducible refine Kd.C_drew ?_))); (case side2 => exact HC0_1.out); rintro e w' ⟨rfl, ⟨nd, rfl⟩⟩; refine ⟨_, rfl, ?_⟩))
      go_ret
      exact ⟨by first | rfl | (simp [errW_none, errW_some] <;> rfl) | (simp [*, errW_none, errW_some] <;> rfl), by repeat (first | (with_reducible first | exact HB.out | apply below_alloc | apply pw_below_drewN | apply below_drew1 | refine below_set ?_ GE689.out) | exact HB.out)⟩

/-! ### laws_toPiece: function 59 -/
def laws_toPiece.f (a0_0 : Int) (a0_1 : Int) (a0_2 : Int) (a0_3 : Int) (a0_4 : Int) (a0_5 : Int) (a0_6 : Int) (a0_7 : Int) (a0_8 : Int) (a0_9 : Int) (a0_10 : Int) (a0_11 : Bool) (a0_12 : Bool) : Option (Int × Int × Int × Int × Int × Int × Int × Int × Int × Int × Int × Bool × Bool) := some (a0_0, a0_1, a0_2, a0_3, a0_4, a0_5, a0_6, a0_7, a0_8, a0_9, a0_10, a0_11, a0_12)
set_option maxHeartbeats 8000000 in
set_option maxRecDepth 100000 in
theorem laws_toPiece.calls (a0_0 : Int) (a0_1 : Int) (a0_2 : Int) (a0_3 : Int) (a0_4 : Int) (a0_5 : Int) (a0_6 : Int) (a0_7 : Int) (a0_8 : Int) (a0_9 : Int) (a0_10 : Int) (a0_11 : Bool) (a0_12 : Bool) (r1 : Int) (r2 : Int) (r3 : Int) (r4 : Int) (r5 : Int) (r6 : Int) (r7 : Int) (r8 : Int) (r9 : Int) (r10 : Int) (r11 : Int) (r12 : Bool) (r13 : Bool) (w : World) (h : laws_toPiece.f a0_0 a0_1 a0_2 a0_3 a0_4 a0_5 a0_6 a0_7 a0_8 a0_9 a0_10 a0_11 a0_12 = some (r1, r2, r3, r4, r5, r6, r7, r8, r9, r10, r11, r12, r13)) :
    Calls Try.prog 59 #[.agg #[.int .i64 a0_0, .int .i64 a0_1, .int .i64 a0_2, .int .i64 a0_3, .int .i64 a0_4, .int .i64 a0_5, .int .i64 a0_6, .int .i64 a0_7, .int .i64 a0_8, .int .i64 a0_9, .int .i64 a0_10, .bool a0_11, .bool a0_12]] w fun e w' => e = .returned (.agg #[.int .i64 r1, .int .i64 r2, .int .i64 r3, .int .i64 r4, .int .i64 r5, .int .i64 r6, .int .i64 r7, .int .i64 r8, .int .i64 r9, .int .i64 r10, .int .i64 r11, .bool r12, .bool r13]) ∧ Below w.heap.size w w' := by
  have hu75 := Try.underlying75
  have hu25 := Try.underlying25
  have HB := Aside0.mk (Below.refl w.heap.size w)
  have H : (some (a0_0, a0_1, a0_2, a0_3, a0_4, a0_5, a0_6, a0_7, a0_8, a0_9, a0_10, a0_11, a0_12)) = some (r1, r2, r3, r4, r5, r6, r7, r8, r9, r10, r11, r12, r13) := h
  clear h
  simp only [Option.some.injEq, Prod.mk.injEq] at H
  obtain ⟨rfl, rfl, rfl, rfl, rfl, rfl, rfl, rfl, rfl, rfl, rfl, rfl, rfl⟩ := H
  go_enter Try.func59, Try.ntmps59
  go_wp2_with (first | ((with_reducible refine gate_dst (N := 1) rfl ?_); refine box_event ?hg (N := 1) ?hd (cs := #[.int .i64 a0_0, .int .i64 a0_1, .int .i64 a0_2, .int .i64 a0_3, .int .i64 a0_4, .int .i64 a0_5, .int .i64 a0_6, .int .i64 a0_7, .int .i64 a0_8, .int .i64 a0_9, .int .i64 a0_10, .bool a0_11, .bool a0_12]) (t := 75) ?hr ?_; (case hd => rfl); (case hg => rfl); (case hr => first | (go_simp; done) | (go_simp; rfl)); intro gb705 hg w2 hbox hb; have n0_ := Aside0.mk Z24To_19; have n1_ := Aside0.mk (hbox); have n2_ := Aside0.mk Z24To_14; have n3_ := Aside0.mk Z24To_14; clear HB; have HB := n0_; have BK705 := n1_; have GW705 := n2_; have GE705 := n3_; clear n0_ n1_ n2_ n3_; clear hb hbox hg) | ((with_reducible refine gate_dst (N := 2) rfl ?_); refine box_event ?hg (N := 2) ?hd (cs := #[.int .i64 0, .int .i64 0, .int .i64 0, .int .i64 0, .int .i64 0, .int .i64 0, .int .i64 0, .int .i64 0, .int .i64 0, .int .i64 0, .int .i64 0, .bool false, .bool false]) (t := 25) ?hr ?_; (case hd => rfl); (case hg => rfl); (case hr => first | (go_simp; done) | (go_simp; rfl)); intro gb706 hg w3 hbox hb; have n0_ := Aside0.mk Z24To_1; have n1_ := Aside0.mk (below_step (by repeat (first | (with_reducible first | exact HB.out | apply below_alloc | apply pw_below_drewN | apply below_drew1 | refine below_set ?_ GE705.out) | exact HB.out)) hb); have n2_ := Aside0.mk (hbox); have n3_ := Aside0.mk Z24To_10; have n4_ := Aside0.mk Z24To_10; have n5_ := Aside0.mk ((by rw [hg]; exact Nat.ne_of_lt (blk_lt (g := gb705) (o := .cells #[.int .i64 a0_0, .int .i64 a0_1, .int .i64 a0_2, .int .i64 a0_3, .int .i64 a0_4, .int .i64 a0_5, .int .i64 a0_6, .int .i64 a0_7, .int .i64 a0_8, .int .i64 a0_9, .int .i64 a0_10, .bool a0_11, .bool a0_12] 75 (0, 0)) Z24To_23) : gb705 ≠ gb706)); have n6_ := Aside0.mk ((by rw [hg]; exact Nat.ne_of_gt (blk_lt (g := gb705) (o := .cells #[.int .i64 a0_0, .int .i64 a0_1, .int .i64 a0_2, .int .i64 a0_3, .int .i64 a0_4, .int .i64 a0_5, .int .i64 a0_6, .int .i64 a0_7, .int .i64 a0_8, .int .i64 a0_9, .int .i64 a0_10, .bool a0_11, .bool a0_12] 75 (0, 0)) Z24To_23) : gb706 ≠ gb705)); clear BK705; clear HB; have BK705 := n0_; have HB := n1_; have BK706 := n2_; have GW706 := n3_; have GE706 := n4_; have NB705_706 := n5_; have NB706_705 := n6_; clear n0_ n1_ n2_ n3_ n4_ n5_ n6_; clear hb hbox hg) | ((with_reducible refine gate_dst (N := 3) rfl ?_); refine box_event ?hg (N := 3) ?hd (cs := #[.int .i64 0, .int .i64 0, .int .i64 0, .int .i64 0, .int .i64 0, .int .i64 0, .int .i64 0, .int .i64 0, .int .i64 0, .int .i64 0, .int .i64 0, .bool false, .bool false]) (t := 25) ?hr ?_; (case hd => rfl); (case hg => rfl); (case hr => first | (go_simp; done) | (go_simp; rfl)); intro gb707 hg w4 hbox hb; have n0_ := Aside0.mk Z24To_1; have n1_ := Aside0.mk (blk_below (g := gb706) (o := .cells #[.int .i64 0, .int .i64 0, .int .i64 0, .int .i64 0, .int .i64 0, .int .i64 0, .int .i64 0, .int .i64 0, .int .i64 0, .int .i64 0, .int .i64 0, .bool false, .bool false] 25 (0, 0)) Z24To_24 hb); have n2_ := Aside0.mk (below_step (by repeat (first | (with_reducible first | exact HB.out | apply below_alloc | apply pw_below_drewN | apply below_drew1 | refine below_set ?_ GE705.out | refine below_set ?_ GE706.out) | exact HB.out)) hb); have n3_ := Aside0.mk (hbox); have n4_ := Aside0.mk Z24To_4; have n5_ := Aside0.mk Z24To_4; have n6_ := Aside0.mk ((by rw [hg]; exact Nat.ne_of_lt (blk_lt (g := gb705) (o := .cells #[.int .i64 a0_0, .int .i64 a0_1, .int .i64 a0_2, .int .i64 a0_3, .int .i64 a0_4, .int .i64 a0_5, .int .i64 a0_6, .int .i64 a0_7, .int .i64 a0_8, .int .i64 a0_9, .int .i64 a0_10, .bool a0_11, .bool a0_12] 75 (0, 0)) Z24To_23) : gb705 ≠ gb707)); have n7_ := Aside0.mk ((by rw [hg]; exact Nat.ne_of_gt (blk_lt (g := gb705) (o := .cells #[.int .i64 a0_0, .int .i64 a0_1, .int .i64 a0_2, .int .i64 a0_3, .int .i64 a0_4, .int .i64 a0_5, .int .i64 a0_6, .int .i64 a0_7, .int .i64 a0_8, .int .i64 a0_9, .int .i64 a0_10, .bool a0_11, .bool a0_12] 75 (0, 0)) Z24To_23) : gb707 ≠ gb705)); have n8_ := Aside0.mk ((by rw [hg]; exact Nat.ne_of_lt (blk_lt (g := gb706) (o := .cells #[.int .i64 0, .int .i64 0, .int .i64 0, .int .i64 0, .int .i64 0, .int .i64 0, .int .i64 0, .int .i64 0, .int .i64 0, .int .i64 0, .int .i64 0, .bool false, .bool false] 25 (0, 0)) Z24To_24) : gb706 ≠ gb707)); have n9_ := Aside0.mk ((by rw [hg]; exact Nat.ne_of_gt (blk_lt (g := gb706) (o := .cells #[.int .i64 0, .int .i64 0, .int .i64 0, .int .i64 0, .int .i64 0, .int .i64 0, .int .i64 0, .int .i64 0, .int .i64 0, .int .i64 0, .int .i64 0, .bool false, .bool false] 25 (0, 0)) Z24To_24) : gb707 ≠ gb706)); clear BK705; clear BK706; clear HB; have BK705 := n0_; have BK706 := n1_; have HB := n2_; have BK707 := n3_; have GW707 := n4_; have GE707 := n5_; have NB705_707 := n6_; have NB707_705 := n7_; have NB706_707 := n8_; have NB707_706 := n9_; clear n0_ n1_ n2_ n3_ n4_ n5_ n6_ n7_ n8_ n9_; clear hb hbox hg; have hnb5 := NB705_706.out; have hnc5 := NB706_705.out; have hnb6 := NB705_707.out; have hnc6 := NB707_705.out; obtain ⟨⟨hcz7_0, hcz7_1, hcz7_2, hcz7_3, hcz7_4, hcz7_5, hcz7_6, hcz7_7, hcz7_8, hcz7_9, hcz7_10, hcz7_11, hcz7_12⟩, hfz7_0, hfz7_1, hfz7_2, hfz7_3, hfz7_4, hfz7_5, hfz7_6, hfz7_7, hfz7_8, hfz7_9, hfz7_10, hfz7_11, hfz7_12⟩ := C24To_13 BK705.out; have hnb8 := NB707_706.out; have hnc8 := NB706_707.out; obtain ⟨⟨hcz9_0, hcz9_1, hcz9_2, hcz9_3, hcz9_4, hcz9_5, hcz9_6, hcz9_7, hcz9_8, hcz9_9, hcz9_10, hcz9_11, hcz9_12⟩, hfz9_0, hfz9_1, hfz9_2, hfz9_3, hfz9_4, hfz9_5, hfz9_6, hfz9_7, hfz9_8, hfz9_9, hfz9_10, hfz9_11, hfz9_12⟩ := C24To_13 BK707.out; obtain ⟨⟨hcz10_0, hcz10_1, hcz10_2, hcz10_3, hcz10_4, hcz10_5, hcz10_6, hcz10_7, hcz10_8, hcz10_9, hcz10_10, hcz10_11, hcz10_12⟩, hfz10_0, hfz10_1, hfz10_2, hfz10_3, hfz10_4, hfz10_5, hfz10_6, hfz10_7, hfz10_8, hfz10_9, hfz10_10, hfz10_11, hfz10_12⟩ := C24To_13 BK706.out))
  refine bodyPost_ret (results_cell_row rfl _ _ gb706 25 #[.int .i64 a0_0, .int .i64 a0_1, .int .i64 a0_2, .int .i64 a0_3, .int .i64 a0_4, .int .i64 a0_5, .int .i64 a0_6, .int .i64 a0_7, .int .i64 a0_8, .int .i64 a0_9, .int .i64 a0_10, .bool a0_11, .bool a0_12] (0, 0) _ rfl (by (with_reducible repeat (first | refine blk_drewN ?_ _ | refine blk_drew ?_ | refine blk_alloc ?_ _)); apply E24To_13; (with_reducible repeat (first | refine blk_drewN ?_ _ | refine blk_drew ?_ | refine blk_alloc ?_ _)); refine blk_far ?_ NB706_707.out _; (with_reducible repeat (first | refine blk_drewN ?_ _ | refine blk_drew ?_ | refine blk_alloc ?_ _)); refine blk_far ?_ NB706_707.out _; (with_reducible repeat (first | refine blk_drewN ?_ _ | refine blk_drew ?_ | refine blk_alloc ?_ _)); refine blk_far ?_ NB706_707.out _; (with_reducible repeat (first | refine blk_drewN ?_ _ | refine blk_drew ?_ | refine blk_alloc ?_ _)); refine blk_far ?_ NB706_707.out _; (with_reducible repeat (first | refine blk_drewN ?_ _ | refine blk_drew ?_ | refine blk_alloc ?_ _)); refine blk_far ?_ NB706_707.out _; (with_reducible repeat (first | refine blk_drewN ?_ _ | refine blk_drew ?_ | refine blk_alloc ?_ _)); refine blk_far ?_ NB706_707.out _; (with_reducible repeat (first | refine blk_drewN ?_ _ | refine blk_drew ?_ | refine blk_alloc ?_ _)); refine blk_far ?_ NB706_707.out _; (with_reducible repeat (first | refine blk_drewN ?_ _ | refine blk_drew ?_ | refine blk_alloc ?_ _)); refine blk_far ?_ NB706_707.out _; (with_reducible repeat (first | refine blk_drewN ?_ _ | refine blk_drew ?_ | refine blk_alloc ?_ _)); refine blk_far ?_ NB706_707.out _; (with_reducible repeat (first | refine blk_drewN ?_ _ | refine blk_drew ?_ | refine blk_alloc ?_ _)); refine blk_far ?_ NB706_707.out _; (with_reducible repeat (first | refine blk_drewN ?_ _ | refine blk_drew ?_ | refine blk_alloc ?_ _)); refine blk_far ?_ NB706_707.out _; (with_reducible repeat (first | refine blk_drewN ?_ _ | refine blk_drew ?_ | refine blk_alloc ?_ _)); refine blk_far ?_ NB706_707.out _; (with_reducible repeat (first | refine blk_drewN ?_ _ | refine blk_drew ?_ | refine blk_alloc ?_ _)); refine blk_far ?_ NB706_707.out _; (with_reducible repeat (first | refine blk_drewN ?_ _ | refine blk_drew ?_ | refine blk_alloc ?_ _)); exact BK706.out) Try.underlying25 rfl (by kernel_rfl)) rfl ?_
  exact ⟨Z24To_30, (by repeat (first | (with_reducible first | exact HB.out | apply below_alloc | apply pw_below_drewN | apply below_drew1 | refine below_set ?_ GE705.out | refine below_set ?_ GE706.out | refine below_set ?_ GE707.out) | exact HB.out))⟩

/-! ### laws_toPieceS: function 100 -/
def laws_toPieceS.l0 : Nat → List (S75) → List (S25) → Int → Option ((List (S25)))
  | 0, _, _, _ => none
  | k + 1, x0, x3, x4 => if x4 < (x0.length : Int) then (if 0 ≤ x4 then ((laws_toPiece.f ((rd_T75 x0 x4).f0) ((rd_T75 x0 x4).f1) ((rd_T75 x0 x4).f2) ((rd_T75 x0 x4).f3) ((rd_T75 x0 x4).f4) ((rd_T75 x0 x4).f5) ((rd_T75 x0 x4).f6) ((rd_T75 x0 x4).f7) ((rd_T75 x0 x4).f8) ((rd_T75 x0 x4).f9) ((rd_T75 x0 x4).f10) ((rd_T75 x0 x4).f11) ((rd_T75 x0 x4).f12)).bind fun bt712 => (if x4 < (x3.length : Int) then (laws_toPieceS.l0 k x0 (x3.set (x4 : Int).toNat (⟨bt712.1, bt712.2.1, bt712.2.2.1, bt712.2.2.2.1, bt712.2.2.2.2.1, bt712.2.2.2.2.2.1, bt712.2.2.2.2.2.2.1, bt712.2.2.2.2.2.2.2.1, bt712.2.2.2.2.2.2.2.2.1, bt712.2.2.2.2.2.2.2.2.2.1, bt712.2.2.2.2.2.2.2.2.2.2.1, bt712.2.2.2.2.2.2.2.2.2.2.2.1, bt712.2.2.2.2.2.2.2.2.2.2.2.2⟩ : S25)) (wrap64 (x4 + 1))) else (none))) else (none)) else (some x3)
def laws_toPieceS.f (k : Nat) (l0 : List (S75)) : Option ((List (S25))) := if 0 ≤ (l0.length : Int) then (if ((l0.length : Int) : Int).toNat ≤ 2932031007402 then (laws_toPieceS.l0 k l0 (List.replicate ((l0.length : Int) : Int).toNat z25) 0) else (none)) else (none)
theorem laws_toPieceS.mono_l : ∀ k, (∀ y0 y1 y2, LeO (laws_toPieceS.l0 k y0 y1 y2) (laws_toPieceS.l0 (k + 1) y0 y1 y2))
  | 0 => fun _ _ _ r h => by simp [laws_toPieceS.l0] at h
  | k + 1 => by
    have ih0 := laws_toPieceS.mono_l k
    · intro y0 y1 y2
      unfold laws_toPieceS.l0
      repeat' first
      | (with_reducible exact ih0 _ _ _)
      | (with_reducible exact LeO.refl _)
      | (with_reducible exact LeO.none _)
      | (with_reducible refine LeO.ite ?_ ?_)
      | (with_reducible refine LeO.bind ?_ (fun _ => ?_))
      | exact ih0 _ _ _
      | exact LeO.none _
      | refine LeO.ite ?_ ?_
      | refine LeO.bind ?_ (fun _ => ?_)
theorem laws_toPieceS.mono : ∀ a0 k, LeO (laws_toPieceS.f k a0) (laws_toPieceS.f (k + 1) a0) := by
  intro a0 k
  have ih0 := laws_toPieceS.mono_l k
  unfold laws_toPieceS.f
  repeat' first
      | (with_reducible exact ih0 _ _ _)
      | (with_reducible exact LeO.refl _)
      | (with_reducible exact LeO.none _)
      | (with_reducible refine LeO.ite ?_ ?_)
      | (with_reducible refine LeO.bind ?_ (fun _ => ?_))
      | exact ih0 _ _ _
      | exact LeO.none _
      | refine LeO.ite ?_ ?_
      | refine LeO.bind ?_ (fun _ => ?_)
set_option maxHeartbeats 8000000 in
set_option maxRecDepth 100000 in
theorem laws_toPieceS.calls (k : Nat) (A0 : Option Addr) (c0 : Nat) (l0 : List (S75)) (r : List (S25)) (w : World) (hr0 : Kd.C k75 w A0 l0.length l0) (hc0 : l0.length ≤ c0) (h : laws_toPieceS.f k l0 = some r) :
    Calls Try.prog 100 #[.slice A0 l0.length c0] w fun e w' => ∃ v0_ : Value, e = .returned (v0_) ∧ Kd.R k25 25 w' w.heap.size (fun _ => True) v0_ r ∧ Below w.heap.size w w' := by
  have hu75 := Try.underlying75
  have hu25 := Try.underlying25
  have HR0 := Aside0.mk hr0
  have HC0 := Aside0.mk hc0
  clear hr0 hc0
  have HB := Aside0.mk (Below.refl w.heap.size w)
  have H : (if 0 ≤ (l0.length : Int) then (if ((l0.length : Int) : Int).toNat ≤ 2932031007402 then (laws_toPieceS.l0 k l0 (List.replicate ((l0.length : Int) : Int).toNat z25) 0) else (none)) else (none)) = some r := h
  clear h
  by_cases c2 : 0 ≤ (l0.length : Int)
  rotate_left
  · rw [if_neg c2] at H
    exact absurd H (by simp)
  rw [if_pos c2] at H
  have c2b0 := eq_true c2
  have c2b1 : decide (0 ≤ (l0.length : Int)) = true := decide_eq_true c2
  clear c2
  by_cases c3 : ((l0.length : Int) : Int).toNat ≤ 2932031007402
  rotate_left
  · rw [if_neg c3] at H
    exact absurd H (by simp)
  rw [if_pos c3] at H
  have c3b0 := eq_true c3
  have c3b1 : decide (((l0.length : Int) : Int).toNat ≤ 2932031007402) = true := decide_eq_true c3
  clear c3
  obtain ⟨y708, hy708⟩ : ∃ y_ : List (S25), y_ = (List.replicate ((l0.length : Int) : Int).toNat z25) := ⟨_, rfl⟩
  replace H : (laws_toPieceS.l0 k l0 y708 0) = some r := by first | (rw [hy708]; with_reducible exact H) | (have H2_ := (Option.bind_some _ _).symm.trans H; rw [hy708]; with_reducible exact H2_) | (have H2_ := (Option.bind_some _ _).symm.trans H; with_reducible exact H2_) | with_reducible exact H | (rw [hy708]; exact H) | exact H
  have Ny708 := Aside0.mk hy708
  clear hy708
  have H' := Aside0.mk H
  clear H
  go_enter Try.func100, Try.ntmps100
  go_wp2_with (first | ((with_reducible refine gate_dst (N := 7) rfl ?_); refine Kd.R_make k25 _ 25 rfl (N := 7) rfl 53 _ _ rfl (l0.length : Int) rfl rfl Try.underlying53 (.agg #[(.int .i64 0), (.int .i64 0), (.int .i64 0), (.int .i64 0), (.int .i64 0), (.int .i64 0), (.int .i64 0), (.int .i64 0), (.int .i64 0), (.int .i64 0), (.int .i64 0), (.bool false), (.bool false)]) 96 info25 rfl (by decide) (by omega) z25 (ok := fun _ => True) (okp := fun _ => True) (k25_mkM _ _ _ z25 ) (fun _ hk => hk) trivial (of_decide_eq_true Z24To_31) (Nat.le_trans (Nat.mul_le_mul_right _ (of_decide_eq_true Z24To_31 : (l0.length : Int).toNat ≤ 2932031007402)) (by omega)) (Below.refl _ _) (Nat.le_refl _) ?_; intro v709 w4 ho5 hb hg_ hnew_; clear hg_ hnew_; (first | rw [← Ny708.out] at ho5 | (simp only [Int.reduceToNat] at ho5; rw [← Ny708.out] at ho5)); have n0_ := Aside0.mk Z24To_18; have n1_ := Aside0.mk Z24To_19; clear HB; have HO710 := n0_; have HB := n1_; clear n0_ n1_; clear hb ho5))
  go_loopg [4] k (fun kq v4 w' => ∃ (x3_1 : List (S25)) (x4_1 : Int), v4 = .int .i64 x4_1 ∧ Aside0 (laws_toPieceS.l0 kq l0 x3_1 x4_1 = some r) ∧ Aside0 (kq ≤ k) ∧ Aside0 (Kd.R k25 25 w' w.heap.size (fun _ => True) v709 x3_1) ∧ Aside0 (Below w.heap.size w w'))
  case atStart => exact ⟨(y708), (0), Z24To_32, H', ⟨Nat.le_refl _⟩, ⟨(by (with_reducible repeat (first | apply Kd.R_alloc | apply Kd.R_drewN | apply Kd.R_drew)); exact HO710.out)⟩, ⟨Z24To_21⟩⟩
  case round =>
    clear H'
    try clear c1
    try clear c2
    try clear c2b0
    try clear c2b1
    try clear p2
    try clear c3
    try clear c3b0
    try clear c3b1
    obtain ⟨x3_1, x4_1, rfl, HA, HK1, HO_3, HB⟩ := hrel
    cases gk with
    | zero => exact absurd HA.out (by simp [laws_toPieceS.l0])
    | succ k1 =>
      have H := HA.out
      clear HA
      simp only [laws_toPieceS.l0] at H
      by_cases c6 : x4_1 < (l0.length : Int)
      rotate_left
      · rw [if_neg c6] at H
        have c6b0 : decide (x4_1 < (l0.length : Int)) = false := decide_eq_false c6
        clear c6
        obtain rfl := Option.some.inj H
        go_wp2
        go_ret
        exact ⟨_, Z24To_30, Z24To_29, Z24To_21⟩
      rw [if_pos c6] at H
      have c6b0 : decide (x4_1 < (l0.length : Int)) = true := decide_eq_true c6
      clear c6
      by_cases c7 : 0 ≤ x4_1
      rotate_left
      · rw [if_neg c7] at H
        exact absurd H (by simp)
      rw [if_pos c7] at H
      have c7b0 : decide (0 ≤ x4_1) = true := decide_eq_true c7
      clear c7
      replace H := Option.bind_eq_some_iff.mp H
      obtain ⟨⟨t712, t713, t714, t715, t716, t717, t718, t719, t720, t721, t722, t723, t724⟩, A80, H⟩ := H
      (try dsimp only at H)
      have A8 := Aside0.mk A80
      clear A80
      by_cases c9 : x4_1 < (x3_1.length : Int)
      rotate_left
      · rw [if_neg c9] at H
        exact absurd H (by simp)
      rw [if_pos c9] at H
      have c9b0 : decide (x4_1 < (x3_1.length : Int)) = true := decide_eq_true c9
      clear c9
      obtain ⟨y725, hy725⟩ : ∃ y_ : List (S25), y_ = (x3_1.set (x4_1 : Int).toNat (⟨t712, t713, t714, t715, t716, t717, t718, t719, t720, t721, t722, t723, t724⟩ : S25)) := ⟨_, rfl⟩
      replace H : (laws_toPieceS.l0 k1 l0 y725 (wrap64 (x4_1 + 1))) = some r := by first | (rw [hy725]; with_reducible exact H) | (have H2_ := (Option.bind_some _ _).symm.trans H; rw [hy725]; with_reducible exact H2_) | (have H2_ := (Option.bind_some _ _).symm.trans H; with_reducible exact H2_) | with_reducible exact H | (rw [hy725]; exact H) | exact H
      have Ny725 := Aside0.mk hy725
      clear hy725
      have H' := Aside0.mk H
      clear H
      have p711 : 0 ≤ (x4_1 : Int) := of_decide_eq_true Z24To_31
      have q711 : x4_1 < (l0.length : Int) := of_decide_eq_true Z24To_31
      obtain ⟨ad711, e711, hx711_0, hx711_1, hx711_2, hx711_3, hx711_4, hx711_5, hx711_6, hx711_7, hx711_8, hx711_9, hx711_10, hx711_11, hx711_12⟩ := at_T75 HR0.out x4_1 p711 q711
      cases e711
      replace hx711_0 := (HB.out.cell (World.block_lt_of_cell? w _ hx711_0)).trans hx711_0
      replace hx711_1 := (HB.out.cell (World.block_lt_of_cell? w _ hx711_1)).trans hx711_1
      replace hx711_2 := (HB.out.cell (World.block_lt_of_cell? w _ hx711_2)).trans hx711_2
      replace hx711_3 := (HB.out.cell (World.block_lt_of_cell? w _ hx711_3)).trans hx711_3
      replace hx711_4 := (HB.out.cell (World.block_lt_of_cell? w _ hx711_4)).trans hx711_4
      replace hx711_5 := (HB.out.cell (World.block_lt_of_cell? w _ hx711_5)).trans hx711_5
      replace hx711_6 := (HB.out.cell (World.block_lt_of_cell? w _ hx711_6)).trans hx711_6
      replace hx711_7 := (HB.out.cell (World.block_lt_of_cell? w _ hx711_7)).trans hx711_7
      replace hx711_8 := (HB.out.cell (World.block_lt_of_cell? w _ hx711_8)).trans hx711_8
      replace hx711_9 := (HB.out.cell (World.block_lt_of_cell? w _ hx711_9)).trans hx711_9
      replace hx711_10 := (HB.out.cell (World.block_lt_of_cell? w _ hx711_10)).trans hx711_10
      replace hx711_11 := (HB.out.cell (World.block_lt_of_cell? w _ hx711_11)).trans hx711_11
      replace hx711_12 := (HB.out.cell (World.block_lt_of_cell? w _ hx711_12)).trans hx711_12
      replace p711 := eq_true p711
      replace q711 := eq_true q711
      go_wp2_with (first | ((with_reducible refine gate_callee (f := 59) rfl ?_); refine goesL_ (some 20) rfl rfl Try.func59 (by kernel_rfl) rfl #[.agg #[.int .i64 ((rd_T75 l0 x4_1).f0), .int .i64 ((rd_T75 l0 x4_1).f1), .int .i64 ((rd_T75 l0 x4_1).f2), .int .i64 ((rd_T75 l0 x4_1).f3), .int .i64 ((rd_T75 l0 x4_1).f4), .int .i64 ((rd_T75 l0 x4_1).f5), .int .i64 ((rd_T75 l0 x4_1).f6), .int .i64 ((rd_T75 l0 x4_1).f7), .int .i64 ((rd_T75 l0 x4_1).f8), .int .i64 ((rd_T75 l0 x4_1).f9), .int .i64 ((rd_T75 l0 x4_1).f10), .bool ((rd_T75 l0 x4_1).f11), .bool ((rd_T75 l0 x4_1).f12)]] rfl Z24To_20 ?_; (with_reducible refine (laws_toPiece.calls ((rd_T75 l0 x4_1).f0) ((rd_T75 l0 x4_1).f1) ((rd_T75 l0 x4_1).f2) ((rd_T75 l0 x4_1).f3) ((rd_T75 l0 x4_1).f4) ((rd_T75 l0 x4_1).f5) ((rd_T75 l0 x4_1).f6) ((rd_T75 l0 x4_1).f7) ((rd_T75 l0 x4_1).f8) ((rd_T75 l0 x4_1).f9) ((rd_T75 l0 x4_1).f10) ((rd_T75 l0 x4_1).f11) ((rd_T75 l0 x4_1).f12) t712 t713 t714 t715 t716 t717 t718 t719 t720 t721 t722 t723 t724 _ A8.out).mono ?_); rintro e w11 ⟨rfl, hb⟩; refine ⟨_, rfl, ?_⟩; have n0_ := Aside0.mk Z24To_22; have n1_ := Aside0.mk Z24To_19; clear HO_3; clear HB; have HO_3 := n0_; have HB := n1_; clear n0_ n1_; (try clear hb); (try clear hb2); (try clear hk); (try clear hi); have p10 : 0 ≤ (x4_1 : Int) := of_decide_eq_true Z24To_31; have q10 : (x4_1 : Int) < ((x3_1.length : Int) : Int) := of_decide_eq_true Z24To_31; obtain ⟨go10, co10, eo10, gb10, gl10, cl10, HG10⟩ := Kd.R_form HO_3.out (by omega); (first | cases eo10 | (injection eo10 with ea_ en_ ec_; (first | subst ea_ | (injection ea_ with ea_; subst ea_)); subst ec_; clear en_)); have GB10 := Aside0.mk gb10; have GG10 := Aside0.mk HG10; clear gb10 gl10 HG10; obtain ⟨ce10, hcl10, hM10, hcc10, hfr10⟩ := Kd.R_elem HO_3.out z25 (x4_1 : Int) p10 q10; obtain rfl := k25_openM hM10; have hx10_0 : w11.cell? ⟨go10, (x4_1 : Int).toNat * 13, none⟩ = some (.int .i64 ((rd_T25 x3_1 x4_1).f0)) := hcc10 0 _ rfl; have hx10_1 : w11.cell? ⟨go10, (x4_1 : Int).toNat * 13 + 1, none⟩ = some (.int .i64 ((rd_T25 x3_1 x4_1).f1)) := hcc10 1 _ rfl; have hx10_2 : w11.cell? ⟨go10, (x4_1 : Int).toNat * 13 + 2, none⟩ = some (.int .i64 ((rd_T25 x3_1 x4_1).f2)) := hcc10 2 _ rfl; have hx10_3 : w11.cell? ⟨go10, (x4_1 : Int).toNat * 13 + 3, none⟩ = some (.int .i64 ((rd_T25 x3_1 x4_1).f3)) := hcc10 3 _ rfl; have hx10_4 : w11.cell? ⟨go10, (x4_1 : Int).toNat * 13 + 4, none⟩ = some (.int .i64 ((rd_T25 x3_1 x4_1).f4)) := hcc10 4 _ rfl; have hx10_5 : w11.cell? ⟨go10, (x4_1 : Int).toNat * 13 + 5, none⟩ = some (.int .i64 ((rd_T25 x3_1 x4_1).f5)) := hcc10 5 _ rfl; have hx10_6 : w11.cell? ⟨go10, (x4_1 : Int).toNat * 13 + 6, none⟩ = some (.int .i64 ((rd_T25 x3_1 x4_1).f6)) := hcc10 6 _ rfl; have hx10_7 : w11.cell? ⟨go10, (x4_1 : Int).toNat * 13 + 7, none⟩ = some (.int .i64 ((rd_T25 x3_1 x4_1).f7)) := hcc10 7 _ rfl; have hx10_8 : w11.cell? ⟨go10, (x4_1 : Int).toNat * 13 + 8, none⟩ = some (.int .i64 ((rd_T25 x3_1 x4_1).f8)) := hcc10 8 _ rfl; have hx10_9 : w11.cell? ⟨go10, (x4_1 : Int).toNat * 13 + 9, none⟩ = some (.int .i64 ((rd_T25 x3_1 x4_1).f9)) := hcc10 9 _ rfl; have hx10_10 : w11.cell? ⟨go10, (x4_1 : Int).toNat * 13 + 10, none⟩ = some (.int .i64 ((rd_T25 x3_1 x4_1).f10)) := hcc10 10 _ rfl; have hx10_11 : w11.cell? ⟨go10, (x4_1 : Int).toNat * 13 + 11, none⟩ = some (.bool ((rd_T25 x3_1 x4_1).f11)) := hcc10 11 _ rfl; have hx10_12 : w11.cell? ⟨go10, (x4_1 : Int).toNat * 13 + 12, none⟩ = some (.bool ((rd_T25 x3_1 x4_1).f12)) := hcc10 12 _ rfl; have hf10_0 : w11.frozen? ⟨go10, (x4_1 : Int).toNat * 13, none⟩ = false := hfr10 0; have hf10_1 : w11.frozen? ⟨go10, (x4_1 : Int).toNat * 13 + 1, none⟩ = false := hfr10 1; have hf10_2 : w11.frozen? ⟨go10, (x4_1 : Int).toNat * 13 + 2, none⟩ = false := hfr10 2; have hf10_3 : w11.frozen? ⟨go10, (x4_1 : Int).toNat * 13 + 3, none⟩ = false := hfr10 3; have hf10_4 : w11.frozen? ⟨go10, (x4_1 : Int).toNat * 13 + 4, none⟩ = false := hfr10 4; have hf10_5 : w11.frozen? ⟨go10, (x4_1 : Int).toNat * 13 + 5, none⟩ = false := hfr10 5; have hf10_6 : w11.frozen? ⟨go10, (x4_1 : Int).toNat * 13 + 6, none⟩ = false := hfr10 6; have hf10_7 : w11.frozen? ⟨go10, (x4_1 : Int).toNat * 13 + 7, none⟩ = false := hfr10 7; have hf10_8 : w11.frozen? ⟨go10, (x4_1 : Int).toNat * 13 + 8, none⟩ = false := hfr10 8; have hf10_9 : w11.frozen? ⟨go10, (x4_1 : Int).toNat * 13 + 9, none⟩ = false := hfr10 9; have hf10_10 : w11.frozen? ⟨go10, (x4_1 : Int).toNat * 13 + 10, none⟩ = false := hfr10 10; have hf10_11 : w11.frozen? ⟨go10, (x4_1 : Int).toNat * 13 + 11, none⟩ = false := hfr10 11; have hf10_12 : w11.frozen? ⟨go10, (x4_1 : Int).toNat * 13 + 12, none⟩ = false := hfr10 12; clear hcl10 hcc10 hfr10 hM10; replace p10 := eq_true p10; replace q10 := eq_true q10; have HX12 := Aside0.mk (show Kd.R k25 25 w11 w.heap.size (fun _ => True) (.slice (some ⟨go10, 0, none⟩) x3_1.length co10) x3_1 from Z24To_29); obtain ⟨ce12, hcl12, hM12, hcc12, hfr12⟩ := Kd.R_elem HX12.out z25 (x4_1 : Int) (of_decide_eq_true Z24To_31) (by have h_ : (x4_1 : Int) < ((x3_1.length : Int) : Int) := of_decide_eq_true Z24To_31; first | exact h_ | (have e_ := (Kd.R_reads' HO_3.out).1; omega) | simpa using h_); obtain rfl := k25_openM hM12; have HP12 := Kd.R_seg HX12.out (x4_1 : Int) (of_decide_eq_true Z24To_31) (by have h_ : (x4_1 : Int) < ((x3_1.length : Int) : Int) := of_decide_eq_true Z24To_31; first | exact h_ | (have e_ := (Kd.R_reads' HO_3.out).1; omega) | simpa using h_) (seg := [.int .i64 t712, .int .i64 t713, .int .i64 t714, .int .i64 t715, .int .i64 t716, .int .i64 t717, .int .i64 t718, .int .i64 t719, .int .i64 t720, .int .i64 t721, .int .i64 t722, .bool t723, .bool t724]) (j := 0) hcl12 hcc12 (show 13 ≤ 13 from by decide) (x' := (⟨t712, t713, t714, t715, t716, t717, t718, t719, t720, t721, t722, t723, t724⟩ : S25)) (k25_mkM _ _ _ (⟨t712, t713, t714, t715, t716, t717, t718, t719, t720, t721, t722, t723, t724⟩ : S25) ) (fun _ hk => hk); have hx12_0 := hcc12 0 _ rfl; (try simp only [show (k25).sz = 13 from rfl, Nat.mul_one, Nat.add_zero] at hx12_0); have hf12_0 := hfr12 0; (try simp only [show (k25).sz = 13 from rfl, Nat.mul_one, Nat.add_zero] at hf12_0); have hx12_1 := hcc12 1 _ rfl; (try simp only [show (k25).sz = 13 from rfl, Nat.mul_one, Nat.add_zero] at hx12_1); have hf12_1 := hfr12 1; (try simp only [show (k25).sz = 13 from rfl, Nat.mul_one, Nat.add_zero] at hf12_1); have hx12_2 := hcc12 2 _ rfl; (try simp only [show (k25).sz = 13 from rfl, Nat.mul_one, Nat.add_zero] at hx12_2); have hf12_2 := hfr12 2; (try simp only [show (k25).sz = 13 from rfl, Nat.mul_one, Nat.add_zero] at hf12_2); have hx12_3 := hcc12 3 _ rfl; (try simp only [show (k25).sz = 13 from rfl, Nat.mul_one, Nat.add_zero] at hx12_3); have hf12_3 := hfr12 3; (try simp only [show (k25).sz = 13 from rfl, Nat.mul_one, Nat.add_zero] at hf12_3); have hx12_4 := hcc12 4 _ rfl; (try simp only [show (k25).sz = 13 from rfl, Nat.mul_one, Nat.add_zero] at hx12_4); have hf12_4 := hfr12 4; (try simp only [show (k25).sz = 13 from rfl, Nat.mul_one, Nat.add_zero] at hf12_4); have hx12_5 := hcc12 5 _ rfl; (try simp only [show (k25).sz = 13 from rfl, Nat.mul_one, Nat.add_zero] at hx12_5); have hf12_5 := hfr12 5; (try simp only [show (k25).sz = 13 from rfl, Nat.mul_one, Nat.add_zero] at hf12_5); have hx12_6 := hcc12 6 _ rfl; (try simp only [show (k25).sz = 13 from rfl, Nat.mul_one, Nat.add_zero] at hx12_6); have hf12_6 := hfr12 6; (try simp only [show (k25).sz = 13 from rfl, Nat.mul_one, Nat.add_zero] at hf12_6); have hx12_7 := hcc12 7 _ rfl; (try simp only [show (k25).sz = 13 from rfl, Nat.mul_one, Nat.add_zero] at hx12_7); have hf12_7 := hfr12 7; (try simp only [show (k25).sz = 13 from rfl, Nat.mul_one, Nat.add_zero] at hf12_7); have hx12_8 := hcc12 8 _ rfl; (try simp only [show (k25).sz = 13 from rfl, Nat.mul_one, Nat.add_zero] at hx12_8); have hf12_8 := hfr12 8; (try simp only [show (k25).sz = 13 from rfl, Nat.mul_one, Nat.add_zero] at hf12_8); have hx12_9 := hcc12 9 _ rfl; (try simp only [show (k25).sz = 13 from rfl, Nat.mul_one, Nat.add_zero] at hx12_9); have hf12_9 := hfr12 9; (try simp only [show (k25).sz = 13 from rfl, Nat.mul_one, Nat.add_zero] at hf12_9); have hx12_10 := hcc12 10 _ rfl; (try simp only [show (k25).sz = 13 from rfl, Nat.mul_one, Nat.add_zero] at hx12_10); have hf12_10 := hfr12 10; (try simp only [show (k25).sz = 13 from rfl, Nat.mul_one, Nat.add_zero] at hf12_10); have hx12_11 := hcc12 11 _ rfl; (try simp only [show (k25).sz = 13 from rfl, Nat.mul_one, Nat.add_zero] at hx12_11); have hf12_11 := hfr12 11; (try simp only [show (k25).sz = 13 from rfl, Nat.mul_one, Nat.add_zero] at hf12_11); have hx12_12 := hcc12 12 _ rfl; (try simp only [show (k25).sz = 13 from rfl, Nat.mul_one, Nat.add_zero] at hx12_12); have hf12_12 := hfr12 12; (try simp only [show (k25).sz = 13 from rfl, Nat.mul_one, Nat.add_zero] at hf12_12); clear hcl12 hcc12 hfr12 hM12) | ((with_reducible refine gate_store (t := 25) (p := 21) rfl ?_); refine store_event (t := 25) (p := 21) (v := ?vo_w13) (w1 := (((((((((((((w11.setCell ⟨go10, (x4_1 : Int).toNat * 13, none⟩ (.int .i64 t712)).setCell ⟨go10, (x4_1 : Int).toNat * 13 + 1, none⟩ (.int .i64 t713)).setCell ⟨go10, (x4_1 : Int).toNat * 13 + 2, none⟩ (.int .i64 t714)).setCell ⟨go10, (x4_1 : Int).toNat * 13 + 3, none⟩ (.int .i64 t715)).setCell ⟨go10, (x4_1 : Int).toNat * 13 + 4, none⟩ (.int .i64 t716)).setCell ⟨go10, (x4_1 : Int).toNat * 13 + 5, none⟩ (.int .i64 t717)).setCell ⟨go10, (x4_1 : Int).toNat * 13 + 6, none⟩ (.int .i64 t718)).setCell ⟨go10, (x4_1 : Int).toNat * 13 + 7, none⟩ (.int .i64 t719)).setCell ⟨go10, (x4_1 : Int).toNat * 13 + 8, none⟩ (.int .i64 t720)).setCell ⟨go10, (x4_1 : Int).toNat * 13 + 9, none⟩ (.int .i64 t721)).setCell ⟨go10, (x4_1 : Int).toNat * 13 + 10, none⟩ (.int .i64 t722)).setCell ⟨go10, (x4_1 : Int).toNat * 13 + 11, none⟩ (.bool t723)).setCell ⟨go10, (x4_1 : Int).toNat * 13 + 12, none⟩ (.bool t724))) ?hg ?ho ?hn ?hr ?_; (case ho => rfl); (case hg => rfl); (case hn => rfl); (case hr => first | (go_simp; done) | (go_simp; rfl)); intro w13 hw; have hg : w11.grownBy w13 (some go10) := (by rw [hw]; exact HP12.2); have hp_ : Kd.R k25 25 w13 w.heap.size (fun _ => True) (.slice (some ⟨go10, 0, none⟩) x3_1.length co10) y725 := (by rw [hw, Ny725.out]; exact HP12.1); clear HP12; have n0_ := Aside0.mk (hp_); have n1_ := Aside0.mk ((by rw [hw]; exact below_set (below_set (below_set (below_set (below_set (below_set (below_set (below_set (below_set (below_set (below_set (below_set (below_set (HB.out) GB10.out) GB10.out) GB10.out) GB10.out) GB10.out) GB10.out) GB10.out) GB10.out) GB10.out) GB10.out) GB10.out) GB10.out) GB10.out : Below w.heap.size w w13)); clear HO_3; clear HB; have HO_3 := n0_; have HB := n1_; clear n0_ n1_; clear hg hw hp_))
      go_roundg k1
      case measure => have := HK1.out; omega
      case rel => exact ⟨(y725), (wrap64 (x4_1 + 1)), Z24To_32, H', ⟨(by have := HK1.out; omega)⟩, ⟨Z24To_29⟩, ⟨Z24To_21⟩⟩

/-! ### laws_toSide: function 130 -/
def laws_toSide.f (a0_0 : Int) (a0_1 : Int) (a0_2 : Bool) : Option (Int × Int × Bool) := some (a0_0, a0_1, a0_2)
set_option maxHeartbeats 8000000 in
set_option maxRecDepth 100000 in
theorem laws_toSide.calls (a0_0 : Int) (a0_1 : Int) (a0_2 : Bool) (r1 : Int) (r2 : Int) (r3 : Bool) (w : World) (h : laws_toSide.f a0_0 a0_1 a0_2 = some (r1, r2, r3)) :
    Calls Try.prog 130 #[.agg #[.int .i64 a0_0, .int .i64 a0_1, .bool a0_2]] w fun e w' => e = .returned (.agg #[.int .i64 r1, .int .i64 r2, .bool r3]) ∧ Below w.heap.size w w' := by
  have hu124 := Try.underlying124
  have hu71 := Try.underlying71
  have HB := Aside0.mk (Below.refl w.heap.size w)
  have H : (some (a0_0, a0_1, a0_2)) = some (r1, r2, r3) := h
  clear h
  simp only [Option.some.injEq, Prod.mk.injEq] at H
  obtain ⟨rfl, rfl, rfl⟩ := H
  go_enter Try.func130, Try.ntmps130
  go_wp2_with (first | ((with_reducible refine gate_dst (N := 1) rfl ?_); refine box_event ?hg (N := 1) ?hd (cs := #[.int .i64 a0_0, .int .i64 a0_1, .bool a0_2]) (t := 124) ?hr ?_; (case hd => rfl); (case hg => rfl); (case hr => first | (go_simp; done) | (go_simp; rfl)); intro gb726 hg w2 hbox hb; have n0_ := Aside0.mk Z24To_19; have n1_ := Aside0.mk (hbox); have n2_ := Aside0.mk Z24To_15; have n3_ := Aside0.mk Z24To_15; clear HB; have HB := n0_; have BK726 := n1_; have GW726 := n2_; have GE726 := n3_; clear n0_ n1_ n2_ n3_; clear hb hbox hg) | ((with_reducible refine gate_dst (N := 2) rfl ?_); refine box_event ?hg (N := 2) ?hd (cs := #[.int .i64 0, .int .i64 0, .bool false]) (t := 71) ?hr ?_; (case hd => rfl); (case hg => rfl); (case hr => first | (go_simp; done) | (go_simp; rfl)); intro gb727 hg w3 hbox hb; have n0_ := Aside0.mk Z24To_13; have n1_ := Aside0.mk (below_step (by repeat (first | (with_reducible first | exact HB.out | apply below_alloc | apply pw_below_drewN | apply below_drew1 | refine below_set ?_ GE726.out) | exact HB.out)) hb); have n2_ := Aside0.mk (hbox); have n3_ := Aside0.mk Z24To_11; have n4_ := Aside0.mk Z24To_11; have n5_ := Aside0.mk ((by rw [hg]; exact Nat.ne_of_lt (blk_lt (g := gb726) (o := .cells #[.int .i64 a0_0, .int .i64 a0_1, .bool a0_2] 124 (0, 0)) Z24To_25) : gb726 ≠ gb727)); have n6_ := Aside0.mk ((by rw [hg]; exact Nat.ne_of_gt (blk_lt (g := gb726) (o := .cells #[.int .i64 a0_0, .int .i64 a0_1, .bool a0_2] 124 (0, 0)) Z24To_25) : gb727 ≠ gb726)); clear BK726; clear HB; have BK726 := n0_; have HB := n1_; have BK727 := n2_; have GW727 := n3_; have GE727 := n4_; have NB726_727 := n5_; have NB727_726 := n6_; clear n0_ n1_ n2_ n3_ n4_ n5_ n6_; clear hb hbox hg) | ((with_reducible refine gate_dst (N := 3) rfl ?_); refine box_event ?hg (N := 3) ?hd (cs := #[.int .i64 0, .int .i64 0, .bool false]) (t := 71) ?hr ?_; (case hd => rfl); (case hg => rfl); (case hr => first | (go_simp; done) | (go_simp; rfl)); intro gb728 hg w4 hbox hb; have n0_ := Aside0.mk Z24To_13; have n1_ := Aside0.mk (blk_below (g := gb727) (o := .cells #[.int .i64 0, .int .i64 0, .bool false] 71 (0, 0)) Z24To_26 hb); have n2_ := Aside0.mk (below_step (by repeat (first | (with_reducible first | exact HB.out | apply below_alloc | apply pw_below_drewN | apply below_drew1 | refine below_set ?_ GE726.out | refine below_set ?_ GE727.out) | exact HB.out)) hb); have n3_ := Aside0.mk (hbox); have n4_ := Aside0.mk Z24To_5; have n5_ := Aside0.mk Z24To_5; have n6_ := Aside0.mk ((by rw [hg]; exact Nat.ne_of_lt (blk_lt (g := gb726) (o := .cells #[.int .i64 a0_0, .int .i64 a0_1, .bool a0_2] 124 (0, 0)) Z24To_25) : gb726 ≠ gb728)); have n7_ := Aside0.mk ((by rw [hg]; exact Nat.ne_of_gt (blk_lt (g := gb726) (o := .cells #[.int .i64 a0_0, .int .i64 a0_1, .bool a0_2] 124 (0, 0)) Z24To_25) : gb728 ≠ gb726)); have n8_ := Aside0.mk ((by rw [hg]; exact Nat.ne_of_lt (blk_lt (g := gb727) (o := .cells #[.int .i64 0, .int .i64 0, .bool false] 71 (0, 0)) Z24To_26) : gb727 ≠ gb728)); have n9_ := Aside0.mk ((by rw [hg]; exact Nat.ne_of_gt (blk_lt (g := gb727) (o := .cells #[.int .i64 0, .int .i64 0, .bool false] 71 (0, 0)) Z24To_26) : gb728 ≠ gb727)); clear BK726; clear BK727; clear HB; have BK726 := n0_; have BK727 := n1_; have HB := n2_; have BK728 := n3_; have GW728 := n4_; have GE728 := n5_; have NB726_728 := n6_; have NB728_726 := n7_; have NB727_728 := n8_; have NB728_727 := n9_; clear n0_ n1_ n2_ n3_ n4_ n5_ n6_ n7_ n8_ n9_; clear hb hbox hg; have hnb5 := NB726_727.out; have hnc5 := NB727_726.out; have hnb6 := NB726_728.out; have hnc6 := NB728_726.out; obtain ⟨⟨hcz7_0, hcz7_1, hcz7_2⟩, hfz7_0, hfz7_1, hfz7_2⟩ := C24To_3 BK726.out; have hnb8 := NB728_727.out; have hnc8 := NB727_728.out; obtain ⟨⟨hcz9_0, hcz9_1, hcz9_2⟩, hfz9_0, hfz9_1, hfz9_2⟩ := C24To_3 BK728.out; obtain ⟨⟨hcz10_0, hcz10_1, hcz10_2⟩, hfz10_0, hfz10_1, hfz10_2⟩ := C24To_3 BK727.out))
  refine bodyPost_ret (results_cell_row rfl _ _ gb727 71 #[.int .i64 a0_0, .int .i64 a0_1, .bool a0_2] (0, 0) _ rfl (by (with_reducible repeat (first | refine blk_drewN ?_ _ | refine blk_drew ?_ | refine blk_alloc ?_ _)); apply E24To_3; (with_reducible repeat (first | refine blk_drewN ?_ _ | refine blk_drew ?_ | refine blk_alloc ?_ _)); refine blk_far ?_ NB727_728.out _; (with_reducible repeat (first | refine blk_drewN ?_ _ | refine blk_drew ?_ | refine blk_alloc ?_ _)); refine blk_far ?_ NB727_728.out _; (with_reducible repeat (first | refine blk_drewN ?_ _ | refine blk_drew ?_ | refine blk_alloc ?_ _)); refine blk_far ?_ NB727_728.out _; (with_reducible repeat (first | refine blk_drewN ?_ _ | refine blk_drew ?_ | refine blk_alloc ?_ _)); exact BK727.out) Try.underlying71 rfl (by kernel_rfl)) rfl ?_
  exact ⟨Z24To_30, (by repeat (first | (with_reducible first | exact HB.out | apply below_alloc | apply pw_below_drewN | apply below_drew1 | refine below_set ?_ GE726.out | refine below_set ?_ GE727.out | refine below_set ?_ GE728.out) | exact HB.out))⟩

/-! ### laws_toSideS: function 101 -/
def laws_toSideS.l0 : Nat → List (S124) → List (S71) → Int → Option ((List (S71)))
  | 0, _, _, _ => none
  | k + 1, x0, x3, x4 => if x4 < (x0.length : Int) then (if 0 ≤ x4 then ((laws_toSide.f ((rd_T124 x0 x4).f0) ((rd_T124 x0 x4).f1) ((rd_T124 x0 x4).f2)).bind fun bt733 => (if x4 < (x3.length : Int) then (laws_toSideS.l0 k x0 (x3.set (x4 : Int).toNat (⟨bt733.1, bt733.2.1, bt733.2.2⟩ : S71)) (wrap64 (x4 + 1))) else (none))) else (none)) else (some x3)
def laws_toSideS.f (k : Nat) (l0 : List (S124)) : Option ((List (S71))) := if 0 ≤ (l0.length : Int) then (if ((l0.length : Int) : Int).toNat ≤ 11728124029610 then (laws_toSideS.l0 k l0 (List.replicate ((l0.length : Int) : Int).toNat z71) 0) else (none)) else (none)
theorem laws_toSideS.mono_l : ∀ k, (∀ y0 y1 y2, LeO (laws_toSideS.l0 k y0 y1 y2) (laws_toSideS.l0 (k + 1) y0 y1 y2))
  | 0 => fun _ _ _ r h => by simp [laws_toSideS.l0] at h
  | k + 1 => by
    have ih0 := laws_toSideS.mono_l k
    · intro y0 y1 y2
      unfold laws_toSideS.l0
      repeat' first
      | (with_reducible exact ih0 _ _ _)
      | (with_reducible exact LeO.refl _)
      | (with_reducible exact LeO.none _)
      | (with_reducible refine LeO.ite ?_ ?_)
      | (with_reducible refine LeO.bind ?_ (fun _ => ?_))
      | exact ih0 _ _ _
      | exact LeO.none _
      | refine LeO.ite ?_ ?_
      | refine LeO.bind ?_ (fun _ => ?_)
theorem laws_toSideS.mono : ∀ a0 k, LeO (laws_toSideS.f k a0) (laws_toSideS.f (k + 1) a0) := by
  intro a0 k
  have ih0 := laws_toSideS.mono_l k
  unfold laws_toSideS.f
  repeat' first
      | (with_reducible exact ih0 _ _ _)
      | (with_reducible exact LeO.refl _)
      | (with_reducible exact LeO.none _)
      | (with_reducible refine LeO.ite ?_ ?_)
      | (with_reducible refine LeO.bind ?_ (fun _ => ?_))
      | exact ih0 _ _ _
      | exact LeO.none _
      | refine LeO.ite ?_ ?_
      | refine LeO.bind ?_ (fun _ => ?_)
set_option maxHeartbeats 8000000 in
set_option maxRecDepth 100000 in
theorem laws_toSideS.calls (k : Nat) (A0 : Option Addr) (c0 : Nat) (l0 : List (S124)) (r : List (S71)) (w : World) (hr0 : Kd.C k124 w A0 l0.length l0) (hc0 : l0.length ≤ c0) (h : laws_toSideS.f k l0 = some r) :
    Calls Try.prog 101 #[.slice A0 l0.length c0] w fun e w' => ∃ v0_ : Value, e = .returned (v0_) ∧ Kd.R k71 71 w' w.heap.size (fun _ => True) v0_ r ∧ Below w.heap.size w w' := by
  have hu124 := Try.underlying124
  have hu71 := Try.underlying71
  have HR0 := Aside0.mk hr0
  have HC0 := Aside0.mk hc0
  clear hr0 hc0
  have HB := Aside0.mk (Below.refl w.heap.size w)
  have H : (if 0 ≤ (l0.length : Int) then (if ((l0.length : Int) : Int).toNat ≤ 11728124029610 then (laws_toSideS.l0 k l0 (List.replicate ((l0.length : Int) : Int).toNat z71) 0) else (none)) else (none)) = some r := h
  clear h
  by_cases c2 : 0 ≤ (l0.length : Int)
  rotate_left
  · rw [if_neg c2] at H
    exact absurd H (by simp)
  rw [if_pos c2] at H
  have c2b0 := eq_true c2
  have c2b1 : decide (0 ≤ (l0.length : Int)) = true := decide_eq_true c2
  clear c2
  by_cases c3 : ((l0.length : Int) : Int).toNat ≤ 11728124029610
  rotate_left
  · rw [if_neg c3] at H
    exact absurd H (by simp)
  rw [if_pos c3] at H
  have c3b0 := eq_true c3
  have c3b1 : decide (((l0.length : Int) : Int).toNat ≤ 11728124029610) = true := decide_eq_true c3
  clear c3
  obtain ⟨y729, hy729⟩ : ∃ y_ : List (S71), y_ = (List.replicate ((l0.length : Int) : Int).toNat z71) := ⟨_, rfl⟩
  replace H : (laws_toSideS.l0 k l0 y729 0) = some r := by first | (rw [hy729]; with_reducible exact H) | (have H2_ := (Option.bind_some _ _).symm.trans H; rw [hy729]; with_reducible exact H2_) | (have H2_ := (Option.bind_some _ _).symm.trans H; with_reducible exact H2_) | with_reducible exact H | (rw [hy729]; exact H) | exact H
  have Ny729 := Aside0.mk hy729
  clear hy729
  have H' := Aside0.mk H
  clear H
  go_enter Try.func101, Try.ntmps101
  go_wp2_with (first | ((with_reducible refine gate_dst (N := 7) rfl ?_); refine Kd.R_make k71 _ 71 rfl (N := 7) rfl 54 _ _ rfl (l0.length : Int) rfl rfl Try.underlying54 (.agg #[(.int .i64 0), (.int .i64 0), (.bool false)]) 24 info71 rfl (by decide) (by omega) z71 (ok := fun _ => True) (okp := fun _ => True) (k71_mkM _ _ _ z71 ) (fun _ hk => hk) trivial (of_decide_eq_true Z24To_31) (Nat.le_trans (Nat.mul_le_mul_right _ (of_decide_eq_true Z24To_31 : (l0.length : Int).toNat ≤ 11728124029610)) (by omega)) (Below.refl _ _) (Nat.le_refl _) ?_; intro v730 w4 ho5 hb hg_ hnew_; clear hg_ hnew_; (first | rw [← Ny729.out] at ho5 | (simp only [Int.reduceToNat] at ho5; rw [← Ny729.out] at ho5)); have n0_ := Aside0.mk Z24To_18; have n1_ := Aside0.mk Z24To_19; clear HB; have HO731 := n0_; have HB := n1_; clear n0_ n1_; clear hb ho5))
  go_loopg [4] k (fun kq v4 w' => ∃ (x3_1 : List (S71)) (x4_1 : Int), v4 = .int .i64 x4_1 ∧ Aside0 (laws_toSideS.l0 kq l0 x3_1 x4_1 = some r) ∧ Aside0 (kq ≤ k) ∧ Aside0 (Kd.R k71 71 w' w.heap.size (fun _ => True) v730 x3_1) ∧ Aside0 (Below w.heap.size w w'))
  case atStart => exact ⟨(y729), (0), Z24To_32, H', ⟨Nat.le_refl _⟩, ⟨(by (with_reducible repeat (first | apply Kd.R_alloc | apply Kd.R_drewN | apply Kd.R_drew)); exact HO731.out)⟩, ⟨Z24To_21⟩⟩
  case round =>
    clear H'
    try clear c1
    try clear c2
    try clear c2b0
    try clear c2b1
    try clear p2
    try clear c3
    try clear c3b0
    try clear c3b1
    obtain ⟨x3_1, x4_1, rfl, HA, HK1, HO_3, HB⟩ := hrel
    cases gk with
    | zero => exact absurd HA.out (by simp [laws_toSideS.l0])
    | succ k1 =>
      have H := HA.out
      clear HA
      simp only [laws_toSideS.l0] at H
      by_cases c6 : x4_1 < (l0.length : Int)
      rotate_left
      · rw [if_neg c6] at H
        have c6b0 : decide (x4_1 < (l0.length : Int)) = false := decide_eq_false c6
        clear c6
        obtain rfl := Option.some.inj H
        go_wp2
        go_ret
        exact ⟨_, Z24To_30, Z24To_29, Z24To_21⟩
      rw [if_pos c6] at H
      have c6b0 : decide (x4_1 < (l0.length : Int)) = true := decide_eq_true c6
      clear c6
      by_cases c7 : 0 ≤ x4_1
      rotate_left
      · rw [if_neg c7] at H
        exact absurd H (by simp)
      rw [if_pos c7] at H
      have c7b0 : decide (0 ≤ x4_1) = true := decide_eq_true c7
      clear c7
      replace H := Option.bind_eq_some_iff.mp H
      obtain ⟨⟨t733, t734, t735⟩, A80, H⟩ := H
      replace H : (if x4_1 < (x3_1.length : Int) then (laws_toSideS.l0 k1 l0 (x3_1.set (x4_1 : Int).toNat (⟨t733, t734, t735⟩ : S71)) (wrap64 (x4_1 + 1))) else (none)) = some r := H
      have A8 := Aside0.mk A80
      clear A80
      by_cases c9 : x4_1 < (x3_1.length : Int)
      rotate_left
      · rw [if_neg c9] at H
        exact absurd H (by simp)
      rw [if_pos c9] at H
      have c9b0 : decide (x4_1 < (x3_1.length : Int)) = true := decide_eq_true c9
      clear c9
      obtain ⟨y736, hy736⟩ : ∃ y_ : List (S71), y_ = (x3_1.set (x4_1 : Int).toNat (⟨t733, t734, t735⟩ : S71)) := ⟨_, rfl⟩
      replace H : (laws_toSideS.l0 k1 l0 y736 (wrap64 (x4_1 + 1))) = some r := by first | (rw [hy736]; with_reducible exact H) | (have H2_ := (Option.bind_some _ _).symm.trans H; rw [hy736]; with_reducible exact H2_) | (have H2_ := (Option.bind_some _ _).symm.trans H; with_reducible exact H2_) | with_reducible exact H | (rw [hy736]; exact H) | exact H
      have Ny736 := Aside0.mk hy736
      clear hy736
      have H' := Aside0.mk H
      clear H
      have p732 : 0 ≤ (x4_1 : Int) := of_decide_eq_true Z24To_31
      have q732 : x4_1 < (l0.length : Int) := of_decide_eq_true Z24To_31
      obtain ⟨ad732, e732, hx732_0, hx732_1, hx732_2⟩ := at_T124 HR0.out x4_1 p732 q732
      cases e732
      replace hx732_0 := (HB.out.cell (World.block_lt_of_cell? w _ hx732_0)).trans hx732_0
      replace hx732_1 := (HB.out.cell (World.block_lt_of_cell? w _ hx732_1)).trans hx732_1
      replace hx732_2 := (HB.out.cell (World.block_lt_of_cell? w _ hx732_2)).trans hx732_2
      replace p732 := eq_true p732
      replace q732 := eq_true q732
      go_wp2_with (first | ((with_reducible refine gate_callee (f := 130) rfl ?_); refine goesL_ (some 20) rfl rfl Try.func130 (by kernel_rfl) rfl #[.agg #[.int .i64 ((rd_T124 l0 x4_1).f0), .int .i64 ((rd_T124 l0 x4_1).f1), .bool ((rd_T124 l0 x4_1).f2)]] rfl Z24To_20 ?_; (with_reducible refine (laws_toSide.calls ((rd_T124 l0 x4_1).f0) ((rd_T124 l0 x4_1).f1) ((rd_T124 l0 x4_1).f2) t733 t734 t735 _ A8.out).mono ?_); rintro e w11 ⟨rfl, hb⟩; refine ⟨_, rfl, ?_⟩; have n0_ := Aside0.mk Z24To_22; have n1_ := Aside0.mk Z24To_19; clear HO_3; clear HB; have HO_3 := n0_; have HB := n1_; clear n0_ n1_; (try clear hb); (try clear hb2); (try clear hk); (try clear hi); have p10 : 0 ≤ (x4_1 : Int) := of_decide_eq_true Z24To_31; have q10 : (x4_1 : Int) < ((x3_1.length : Int) : Int) := of_decide_eq_true Z24To_31; obtain ⟨go10, co10, eo10, gb10, gl10, cl10, HG10⟩ := Kd.R_form HO_3.out (by omega); (first | cases eo10 | (injection eo10 with ea_ en_ ec_; (first | subst ea_ | (injection ea_ with ea_; subst ea_)); subst ec_; clear en_)); have GB10 := Aside0.mk gb10; have GG10 := Aside0.mk HG10; clear gb10 gl10 HG10; obtain ⟨ce10, hcl10, hM10, hcc10, hfr10⟩ := Kd.R_elem HO_3.out z71 (x4_1 : Int) p10 q10; obtain rfl := k71_openM hM10; have hx10_0 : w11.cell? ⟨go10, (x4_1 : Int).toNat * 3, none⟩ = some (.int .i64 ((rd_T71 x3_1 x4_1).f0)) := hcc10 0 _ rfl; have hx10_1 : w11.cell? ⟨go10, (x4_1 : Int).toNat * 3 + 1, none⟩ = some (.int .i64 ((rd_T71 x3_1 x4_1).f1)) := hcc10 1 _ rfl; have hx10_2 : w11.cell? ⟨go10, (x4_1 : Int).toNat * 3 + 2, none⟩ = some (.bool ((rd_T71 x3_1 x4_1).f2)) := hcc10 2 _ rfl; have hf10_0 : w11.frozen? ⟨go10, (x4_1 : Int).toNat * 3, none⟩ = false := hfr10 0; have hf10_1 : w11.frozen? ⟨go10, (x4_1 : Int).toNat * 3 + 1, none⟩ = false := hfr10 1; have hf10_2 : w11.frozen? ⟨go10, (x4_1 : Int).toNat * 3 + 2, none⟩ = false := hfr10 2; clear hcl10 hcc10 hfr10 hM10; replace p10 := eq_true p10; replace q10 := eq_true q10; have HX12 := Aside0.mk (show Kd.R k71 71 w11 w.heap.size (fun _ => True) (.slice (some ⟨go10, 0, none⟩) x3_1.length co10) x3_1 from Z24To_29); obtain ⟨ce12, hcl12, hM12, hcc12, hfr12⟩ := Kd.R_elem HX12.out z71 (x4_1 : Int) (of_decide_eq_true Z24To_31) (by have h_ : (x4_1 : Int) < ((x3_1.length : Int) : Int) := of_decide_eq_true Z24To_31; first | exact h_ | (have e_ := (Kd.R_reads' HO_3.out).1; omega) | simpa using h_); obtain rfl := k71_openM hM12; have HP12 := Kd.R_seg HX12.out (x4_1 : Int) (of_decide_eq_true Z24To_31) (by have h_ : (x4_1 : Int) < ((x3_1.length : Int) : Int) := of_decide_eq_true Z24To_31; first | exact h_ | (have e_ := (Kd.R_reads' HO_3.out).1; omega) | simpa using h_) (seg := [.int .i64 t733, .int .i64 t734, .bool t735]) (j := 0) hcl12 hcc12 (show 3 ≤ 3 from by decide) (x' := (⟨t733, t734, t735⟩ : S71)) (k71_mkM _ _ _ (⟨t733, t734, t735⟩ : S71) ) (fun _ hk => hk); have hx12_0 := hcc12 0 _ rfl; (try simp only [show (k71).sz = 3 from rfl, Nat.mul_one, Nat.add_zero] at hx12_0); have hf12_0 := hfr12 0; (try simp only [show (k71).sz = 3 from rfl, Nat.mul_one, Nat.add_zero] at hf12_0); have hx12_1 := hcc12 1 _ rfl; (try simp only [show (k71).sz = 3 from rfl, Nat.mul_one, Nat.add_zero] at hx12_1); have hf12_1 := hfr12 1; (try simp only [show (k71).sz = 3 from rfl, Nat.mul_one, Nat.add_zero] at hf12_1); have hx12_2 := hcc12 2 _ rfl; (try simp only [show (k71).sz = 3 from rfl, Nat.mul_one, Nat.add_zero] at hx12_2); have hf12_2 := hfr12 2; (try simp only [show (k71).sz = 3 from rfl, Nat.mul_one, Nat.add_zero] at hf12_2); clear hcl12 hcc12 hfr12 hM12) | ((with_reducible refine gate_store (t := 71) (p := 21) rfl ?_); refine store_event (t := 71) (p := 21) (v := ?vo_w13) (w1 := (((w11.setCell ⟨go10, (x4_1 : Int).toNat * 3, none⟩ (.int .i64 t733)).setCell ⟨go10, (x4_1 : Int).toNat * 3 + 1, none⟩ (.int .i64 t734)).setCell ⟨go10, (x4_1 : Int).toNat * 3 + 2, none⟩ (.bool t735))) ?hg ?ho ?hn ?hr ?_; (case ho => rfl); (case hg => rfl); (case hn => rfl); (case hr => first | (go_simp; done) | (go_simp; rfl)); intro w13 hw; have hg : w11.grownBy w13 (some go10) := (by rw [hw]; exact HP12.2); have hp_ : Kd.R k71 71 w13 w.heap.size (fun _ => True) (.slice (some ⟨go10, 0, none⟩) x3_1.length co10) y736 := (by rw [hw, Ny736.out]; exact HP12.1); clear HP12; have n0_ := Aside0.mk (hp_); have n1_ := Aside0.mk ((by rw [hw]; exact below_set (below_set (below_set (HB.out) GB10.out) GB10.out) GB10.out : Below w.heap.size w w13)); clear HO_3; clear HB; have HO_3 := n0_; have HB := n1_; clear n0_ n1_; clear hg hw hp_))
      go_roundg k1
      case measure => have := HK1.out; omega
      case rel => exact ⟨(y736), (wrap64 (x4_1 + 1)), Z24To_32, H', ⟨(by have := HK1.out; omega)⟩, ⟨Z24To_29⟩, ⟨Z24To_21⟩⟩

/-! ### laws_toState: function 37 -/
def laws_toState.f (k : Nat) (l0_0 : List (S75)) (l0_1 : List (S124)) (a0_2 : Int) (a0_3 : Int) : Option ((List (S25)) × (List (S71)) × Int × Int) := (laws_toPieceS.f k l0_0).bind fun t740 => ((laws_toSideS.f k l0_1).bind fun t743 => (some (t740, t743, a0_2, a0_3)))
theorem laws_toState.mono : ∀ a0 a1 a2 a3 k, LeO (laws_toState.f k a0 a1 a2 a3) (laws_toState.f (k + 1) a0 a1 a2 a3) := by
  intro a0 a1 a2 a3 k
  unfold laws_toState.f
  repeat' first
      | (with_reducible exact laws_toPieceS.mono _ _)
      | (with_reducible exact laws_toSideS.mono _ _)
      | (with_reducible exact LeO.refl _)
      | (with_reducible exact LeO.none _)
      | (with_reducible refine LeO.ite ?_ ?_)
      | (with_reducible refine LeO.bind ?_ (fun _ => ?_))
      | exact laws_toPieceS.mono _ _
      | exact laws_toSideS.mono _ _
      | exact LeO.none _
      | refine LeO.ite ?_ ?_
      | refine LeO.bind ?_ (fun _ => ?_)
set_option maxHeartbeats 8000000 in
set_option maxRecDepth 100000 in
theorem laws_toState.calls (k : Nat) (A0_0 : Option Addr) (c0_0 : Nat) (l0_0 : List (S75)) (A0_1 : Option Addr) (c0_1 : Nat) (l0_1 : List (S124)) (a0_2 : Int) (a0_3 : Int) (r1 : List (S25)) (r2 : List (S71)) (r3 : Int) (r4 : Int) (w : World) (hr0_0 : Kd.C k75 w A0_0 l0_0.length l0_0) (hc0_0 : l0_0.length ≤ c0_0) (hr0_1 : Kd.C k124 w A0_1 l0_1.length l0_1) (hc0_1 : l0_1.length ≤ c0_1) (h : laws_toState.f k l0_0 l0_1 a0_2 a0_3 = some (r1, r2, r3, r4)) :
    Calls Try.prog 37 #[.agg #[.slice A0_0 l0_0.length c0_0, .slice A0_1 l0_1.length c0_1, .int .i64 a0_2, .int .i64 a0_3]] w fun e w' => ∃ v0_ v1_ : Value, e = .returned (.agg #[v0_, v1_, .int .i64 r3, .int .i64 r4]) ∧ Kd.R k25 25 w' w.heap.size (fun _ => True) v0_ r1 ∧ Kd.R k71 71 w' w.heap.size (fun _ => True) v1_ r2 ∧ Below w.heap.size w w' := by
  have hu50 := Try.underlying50
  have hu56 := Try.underlying56
  have HR0_0 := Aside0.mk hr0_0
  have HC0_0 := Aside0.mk hc0_0
  clear hr0_0 hc0_0
  have HR0_1 := Aside0.mk hr0_1
  have HC0_1 := Aside0.mk hc0_1
  clear hr0_1 hc0_1
  have HB := Aside0.mk (Below.refl w.heap.size w)
  have H : ((laws_toPieceS.f k l0_0).bind fun t740 => ((laws_toSideS.f k l0_1).bind fun t743 => (some (t740, t743, a0_2, a0_3)))) = some (r1, r2, r3, r4) := h
  clear h
  replace H := Option.bind_eq_some_iff.mp H
  obtain ⟨t740, A20, H⟩ := H
  replace H : ((laws_toSideS.f k l0_1).bind fun t743 => (some (t740, t743, a0_2, a0_3))) = some (r1, r2, r3, r4) := H
  have A2 := Aside0.mk A20
  clear A20
  replace H := Option.bind_eq_some_iff.mp H
  obtain ⟨t743, A30, H⟩ := H
  replace H : (some (t740, t743, a0_2, a0_3)) = some (r1, r2, r3, r4) := H
  have A3 := Aside0.mk A30
  clear A30
  simp only [Option.some.injEq, Prod.mk.injEq] at H
  obtain ⟨rfl, rfl, rfl, rfl⟩ := H
  go_enter Try.func37, Try.ntmps37
  go_wp2_with (first | ((with_reducible refine gate_dst (N := 1) rfl ?_); refine box_event ?hg (N := 1) ?hd (cs := #[.slice A0_0 l0_0.length c0_0, .slice A0_1 l0_1.length c0_1, .int .i64 a0_2, .int .i64 a0_3]) (t := 50) ?hr ?_; (case hd => rfl); (case hg => rfl); (case hr => first | (go_simp; done) | (go_simp; rfl)); intro gb737 hg w4 hbox hb; have n0_ := Aside0.mk Z24To_19; have n1_ := Aside0.mk (hbox); have n2_ := Aside0.mk Z24To_16; have n3_ := Aside0.mk Z24To_16; clear HB; have HB := n0_; have BK737 := n1_; have GW737 := n2_; have GE737 := n3_; clear n0_ n1_ n2_ n3_; clear hb hbox hg) | ((with_reducible refine gate_dst (N := 2) rfl ?_); refine box_event ?hg (N := 2) ?hd (cs := #[.slice none 0 0, .slice none 0 0, .int .i64 0, .int .i64 0]) (t := 56) ?hr ?_; (case hd => rfl); (case hg => rfl); (case hr => first | (go_simp; done) | (go_simp; rfl)); intro gb738 hg w5 hbox hb; have n0_ := Aside0.mk Z24To_2; have n1_ := Aside0.mk (below_step (by repeat (first | (with_reducible first | exact HB.out | apply below_alloc | apply pw_below_drewN | apply below_drew1 | refine below_set ?_ GE737.out) | exact HB.out)) hb); have n2_ := Aside0.mk (hbox); have n3_ := Aside0.mk Z24To_12; have n4_ := Aside0.mk Z24To_12; have n5_ := Aside0.mk ((by rw [hg]; exact Nat.ne_of_lt (blk_lt (g := gb737) (o := .cells #[.slice A0_0 l0_0.length c0_0, .slice A0_1 l0_1.length c0_1, .int .i64 a0_2, .int .i64 a0_3] 50 (0, 0)) Z24To_27) : gb737 ≠ gb738)); have n6_ := Aside0.mk ((by rw [hg]; exact Nat.ne_of_gt (blk_lt (g := gb737) (o := .cells #[.slice A0_0 l0_0.length c0_0, .slice A0_1 l0_1.length c0_1, .int .i64 a0_2, .int .i64 a0_3] 50 (0, 0)) Z24To_27) : gb738 ≠ gb737)); clear BK737; clear HB; have BK737 := n0_; have HB := n1_; have BK738 := n2_; have GW738 := n3_; have GE738 := n4_; have NB737_738 := n5_; have NB738_737 := n6_; clear n0_ n1_ n2_ n3_ n4_ n5_ n6_; clear hb hbox hg) | ((with_reducible refine gate_dst (N := 3) rfl ?_); refine box_event ?hg (N := 3) ?hd (cs := #[.slice none 0 0, .slice none 0 0, .int .i64 0, .int .i64 0]) (t := 56) ?hr ?_; (case hd => rfl); (case hg => rfl); (case hr => first | (go_simp; done) | (go_simp; rfl)); intro gb739 hg w6 hbox hb; have n0_ := Aside0.mk Z24To_2; have n1_ := Aside0.mk Z24To_8; have n2_ := Aside0.mk (below_step (by repeat (first | (with_reducible first | exact HB.out | apply below_alloc | apply pw_below_drewN | apply below_drew1 | refine below_set ?_ GE737.out | refine below_set ?_ GE738.out) | exact HB.out)) hb); have n3_ := Aside0.mk (hbox); have n4_ := Aside0.mk Z24To_6; have n5_ := Aside0.mk Z24To_6; have n6_ := Aside0.mk ((by rw [hg]; exact Nat.ne_of_lt (blk_lt (g := gb737) (o := .cells #[.slice A0_0 l0_0.length c0_0, .slice A0_1 l0_1.length c0_1, .int .i64 a0_2, .int .i64 a0_3] 50 (0, 0)) Z24To_27) : gb737 ≠ gb739)); have n7_ := Aside0.mk ((by rw [hg]; exact Nat.ne_of_gt (blk_lt (g := gb737) (o := .cells #[.slice A0_0 l0_0.length c0_0, .slice A0_1 l0_1.length c0_1, .int .i64 a0_2, .int .i64 a0_3] 50 (0, 0)) Z24To_27) : gb739 ≠ gb737)); have n8_ := Aside0.mk ((by rw [hg]; exact Nat.ne_of_lt (blk_lt (g := gb738) (o := .cells #[.slice none 0 0, .slice none 0 0, .int .i64 0, .int .i64 0] 56 (0, 0)) Z24To_28) : gb738 ≠ gb739)); have n9_ := Aside0.mk ((by rw [hg]; exact Nat.ne_of_gt (blk_lt (g := gb738) (o := .cells #[.slice none 0 0, .slice none 0 0, .int .i64 0, .int .i64 0] 56 (0, 0)) Z24To_28) : gb739 ≠ gb738)); clear BK737; clear BK738; clear HB; have BK737 := n0_; have BK738 := n1_; have HB := n2_; have BK739 := n3_; have GW739 := n4_; have GE739 := n5_; have NB737_739 := n6_; have NB739_737 := n7_; have NB738_739 := n8_; have NB739_738 := n9_; clear n0_ n1_ n2_ n3_ n4_ n5_ n6_ n7_ n8_ n9_; clear hb hbox hg; have hnb7 := NB737_738.out; have hnc7 := NB738_737.out; have hnb8 := NB737_739.out; have hnc8 := NB739_737.out; obtain ⟨⟨hcz9_0, hcz9_1, hcz9_2, hcz9_3⟩, hfz9_0, hfz9_1, hfz9_2, hfz9_3⟩ := C24To_4 BK737.out) | ((with_reducible refine gate_callee (f := 100) rfl ?_); refine goesL_ (some 6) rfl rfl Try.func100 (by kernel_rfl) rfl #[.slice A0_0 l0_0.length c0_0] rfl Z24To_20 ?_; (with_reducible refine (laws_toPieceS.calls k _ _ l0_0 t740 _ ?side1 ?side2 A2.out).mono ?_); (case side1 => repeat (first | exact (Kd.C_below HR0_0.out HB.out) | (with_reducible refine Kd.C_alloc ?_ _) | (with_reducible refine Kd.C_drewN ?_ _) | (with_reducible refine Kd.C_drew ?_))); (case side2 => exact HC0_0.out); rintro e w10 ⟨v741, rfl, ho0, hb⟩; refine ⟨_, rfl, ?_⟩; have n0_ := Aside0.mk Z24To_3; have n1_ := Aside0.mk Z24To_2; have n2_ := Aside0.mk Z24To_8; have n3_ := Aside0.mk (blk_below (g := gb739) (o := .cells #[.slice none 0 0, .slice none 0 0, .int .i64 0, .int .i64 0] 56 (0, 0)) (by (with_reducible repeat (first | refine blk_drewN ?_ _ | refine blk_drew ?_ | refine blk_alloc ?_ _)); exact BK739.out) hb); have n4_ := Aside0.mk Z24To_7; clear BK737; clear BK738; clear BK739; clear HB; have HO742 := n0_; have BK737 := n1_; have BK738 := n2_; have BK739 := n3_; have HB := n4_; clear n0_ n1_ n2_ n3_ n4_; (try clear hb); (try clear hb2); (try clear hk); (try clear hi); (try clear ho0); obtain ⟨Ao11, co11, eo11⟩ := Kd.R_slice HO742.out; subst eo11; have hnb12 := NB739_738.out; have hnc12 := NB738_739.out; obtain ⟨⟨hcz13_0, hcz13_1, hcz13_2, hcz13_3⟩, hfz13_0, hfz13_1, hfz13_2, hfz13_3⟩ := C24To_4 BK739.out; obtain ⟨⟨hcz14_0, hcz14_1, hcz14_2, hcz14_3⟩, hfz14_0, hfz14_1, hfz14_2, hfz14_3⟩ := C24To_4 BK737.out) | ((with_reducible refine gate_callee (f := 101) rfl ?_); refine goesL_ (some 10) rfl rfl Try.func101 (by kernel_rfl) rfl #[.slice A0_1 l0_1.length c0_1] rfl Z24To_20 ?_; (with_reducible refine (laws_toSideS.calls k _ _ l0_1 t743 _ ?side1 ?side2 A3.out).mono ?_); (case side1 => exact Kd.C_below HR0_1.out Z24To_9); (case side2 => exact HC0_1.out); rintro e w15 ⟨v744, rfl, ho0, hb⟩; refine ⟨_, rfl, ?_⟩; have n0_ := Aside0.mk (Kd.R_below (by (with_reducible repeat (first | apply Kd.R_alloc | apply Kd.R_drewN | apply Kd.R_drew)); exact (Kd.R_mono (Kd.R_far (p := ⟨gb739, 0, none⟩) (Kd.R_types HO742.out BK739.out (by decide)) (fun _ hk => hk.2) (.slice Ao11 t740.length co11)) (fun _ h_ => h_.1))) hb); have n1_ := Aside0.mk Z24To_3; have n2_ := Aside0.mk (blk_below (g := gb737) (o := .cells #[.slice A0_0 l0_0.length c0_0, .slice A0_1 l0_1.length c0_1, .int .i64 a0_2, .int .i64 a0_3] 50 (0, 0)) (by (with_reducible repeat (first | refine blk_drewN ?_ _ | refine blk_drew ?_ | refine blk_alloc ?_ _)); refine blk_far ?_ NB737_739.out _; (with_reducible repeat (first | refine blk_drewN ?_ _ | refine blk_drew ?_ | refine blk_alloc ?_ _)); exact BK737.out) hb); have n3_ := Aside0.mk (blk_below (g := gb738) (o := .cells #[.slice none 0 0, .slice none 0 0, .int .i64 0, .int .i64 0] 56 (0, 0)) (by (with_reducible repeat (first | refine blk_drewN ?_ _ | refine blk_drew ?_ | refine blk_alloc ?_ _)); refine blk_far ?_ NB738_739.out _; (with_reducible repeat (first | refine blk_drewN ?_ _ | refine blk_drew ?_ | refine blk_alloc ?_ _)); exact BK738.out) hb); have n4_ := Aside0.mk (blk_below (g := gb739) (o := .cells #[.slice Ao11 t740.length co11, .slice none 0 0, .int .i64 0, .int .i64 0] 56 (0, 0)) (by (with_reducible repeat (first | refine blk_drewN ?_ _ | refine blk_drew ?_ | refine blk_alloc ?_ _)); refine blk_put (cs := #[.slice none 0 0, .slice none 0 0, .int .i64 0, .int .i64 0]) ?_ 0 _ rfl; (with_reducible repeat (first | refine blk_drewN ?_ _ | refine blk_drew ?_ | refine blk_alloc ?_ _)); exact BK739.out) hb); have n5_ := Aside0.mk Z24To_7; clear HO742; clear BK737; clear BK738; clear BK739; clear HB; have HO742 := n0_; have HO745 := n1_; have BK737 := n2_; have BK738 := n3_; have BK739 := n4_; have HB := n5_; clear n0_ n1_ n2_ n3_ n4_ n5_; (try clear hb); (try clear hb2); (try clear hk); (try clear hi); (try clear ho0); obtain ⟨Ao16, co16, eo16⟩ := Kd.R_slice HO745.out; subst eo16; obtain ⟨⟨hcz17_0, hcz17_1, hcz17_2, hcz17_3⟩, hfz17_0, hfz17_1, hfz17_2, hfz17_3⟩ := C24To_4 BK739.out; obtain ⟨⟨hcz18_0, hcz18_1, hcz18_2, hcz18_3⟩, hfz18_0, hfz18_1, hfz18_2, hfz18_3⟩ := C24To_4 BK737.out; obtain ⟨⟨hcz19_0, hcz19_1, hcz19_2, hcz19_3⟩, hfz19_0, hfz19_1, hfz19_2, hfz19_3⟩ := C24To_4 BK738.out))
  refine bodyPost_ret (results_cell_row rfl _ _ gb738 56 #[.slice Ao11 t740.length co11, .slice Ao16 t743.length co16, .int .i64 a0_2, .int .i64 a0_3] (0, 0) _ rfl (by (with_reducible repeat (first | refine blk_drewN ?_ _ | refine blk_drew ?_ | refine blk_alloc ?_ _)); apply E24To_4; (with_reducible repeat (first | refine blk_drewN ?_ _ | refine blk_drew ?_ | refine blk_alloc ?_ _)); refine blk_far ?_ NB738_739.out _; (with_reducible repeat (first | refine blk_drewN ?_ _ | refine blk_drew ?_ | refine blk_alloc ?_ _)); refine blk_far ?_ NB738_739.out _; (with_reducible repeat (first | refine blk_drewN ?_ _ | refine blk_drew ?_ | refine blk_alloc ?_ _)); refine blk_far ?_ NB738_739.out _; (with_reducible repeat (first | refine blk_drewN ?_ _ | refine blk_drew ?_ | refine blk_alloc ?_ _)); exact BK738.out) Try.underlying56 rfl (by kernel_rfl)) rfl ?_
  exact ⟨_, _, Z24To_30, (by (with_reducible repeat (first | apply Kd.R_alloc | apply Kd.R_drewN | apply Kd.R_drew)); exact Kd.R_mono (Kd.R_far (p := ⟨gb738, 3, none⟩) (Kd.R_far (p := ⟨gb738, 2, none⟩) (Kd.R_far (p := ⟨gb738, 1, none⟩) (Kd.R_far (p := ⟨gb738, 0, none⟩) (Kd.R_far (p := ⟨gb739, 3, none⟩) (Kd.R_far (p := ⟨gb739, 2, none⟩) (Kd.R_far (p := ⟨gb739, 1, none⟩) (Kd.R_types (Kd.R_types HO742.out BK739.out (by decide)) BK738.out (by decide)) (fun _ hk => hk.1.2) (.slice Ao16 t743.length co16)) (fun _ hk => hk.1.2) (.int .i64 a0_2)) (fun _ hk => hk.1.2) (.int .i64 a0_3)) (fun _ hk => hk.2) (.slice Ao11 t740.length co11)) (fun _ hk => hk.2) (.slice Ao16 t743.length co16)) (fun _ hk => hk.2) (.int .i64 a0_2)) (fun _ hk => hk.2) (.int .i64 a0_3)) (fun _ hk => trivial)), (by (with_reducible repeat (first | apply Kd.R_alloc | apply Kd.R_drewN | apply Kd.R_drew)); exact Kd.R_mono (Kd.R_far (p := ⟨gb738, 3, none⟩) (Kd.R_far (p := ⟨gb738, 2, none⟩) (Kd.R_far (p := ⟨gb738, 1, none⟩) (Kd.R_far (p := ⟨gb738, 0, none⟩) (Kd.R_far (p := ⟨gb739, 3, none⟩) (Kd.R_far (p := ⟨gb739, 2, none⟩) (Kd.R_far (p := ⟨gb739, 1, none⟩) (Kd.R_types (Kd.R_types HO745.out BK739.out (by decide)) BK738.out (by decide)) (fun _ hk => hk.1.2) (.slice Ao16 t743.length co16)) (fun _ hk => hk.1.2) (.int .i64 a0_2)) (fun _ hk => hk.1.2) (.int .i64 a0_3)) (fun _ hk => hk.2) (.slice Ao11 t740.length co11)) (fun _ hk => hk.2) (.slice Ao16 t743.length co16)) (fun _ hk => hk.2) (.int .i64 a0_2)) (fun _ hk => hk.2) (.int .i64 a0_3)) (fun _ hk => trivial)), Z24To_9⟩


end Go.Proofs.Ytfkidiagmekleaa.QAll
