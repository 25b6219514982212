/- impl.SetPiece: the state that it returns, and that it owns it (no further condition but a bound of the state's length). -/
import Derived.Test.YtfkidiagmekleaaHInsR
import Derived.Test.YtfkidiagmekleaaRICp
import Derived.Test.YtfkidiagmekleaaRIAt
import Derived.Test.YtfkidiagmekleaaHBase
namespace Go.Proofs.Ytfkidiagmekleaa.QAll
open Go.RowKit Go.Lib Go.Proofs.YtfkidiagmekleaaW.PrintWords Go.Proofs.YtfkidiagmekleaaW.PrintLast Go.Proofs.YtfkidiagmekleaaW.PrintMore
set_option linter.unusedVariables false
set_option linter.unusedSimpArgs false
/-- Where a piece with that number stands, or -1. -/
def atP (ps : List S25) (q : Int) : Int := idx25 (fun x => x.f0 == q) ps 0
/-- The first piece with a greater number, or -1. -/
def gtP (ps : List S25) (q : Int) : Int := idx25 (fun x => decide (q < x.f0)) ps 0
def gapP (ps : List S25) (q : Int) : Nat := if 0 ≤ gtP ps q then (gtP ps q).toNat else ps.length
/-- The pieces, with this one set. -/
def setP (ps : List S25) (p : S25) : List S25 := if 0 ≤ atP ps p.f0 then ps.set (atP ps p.f0).toNat p else ps.take (gapP ps p.f0) ++ [p] ++ ps.drop (gapP ps p.f0)
theorem Rbx {α : Type} {d : Kd α} {e x t base : Nat} {W W1 : World} {ok : Nat → Prop} {v : Value} {xs : List α} {cells : Array Value} (h : d.R e W base ok v xs) (hb : W.heap[x]? = some (.cells cells t (0, 0))) (ht : ∀ q, q ∈ e :: d.E → q ≠ t) (hg : W.grownBy W1 (some x)) : d.R e W1 base ok v xs :=
  Kd.R_mono (Kd.R_grown (Kd.R_types h hb ht) hg (fun k hk he => hk.2 (Option.some.inj he))) (fun _ hk => hk.1)
theorem idx25_cases (f : S25 → Bool) (zs : List S25) : (idx25 f zs 0 = -1 ∧ ∀ j (hj : j < zs.length), f zs[j] = false) ∨ ∃ (j : Nat) (hj : j < zs.length), idx25 f zs 0 = (j : Int) ∧ f zs[j] = true ∧ ∀ i (hi : i < zs.length), i < j → f zs[i] = false := by
  by_cases h : ∃ j, ∃ hj : j < zs.length, f zs[j] = true
  · have h2 : ∃ j, ∃ hj : j < zs.length, f zs[j] = true ∧ ∀ i (hi : i < zs.length), i < j → f zs[i] = false := by
      obtain ⟨j, hj, ht⟩ := h
      induction j using Nat.strongRecOn with
      | _ j ih =>
        by_cases hm : ∃ i, ∃ hi : i < zs.length, i < j ∧ f zs[i] = true
        · obtain ⟨i, hi, hij, hf⟩ := hm
          exact ih i hij hi hf
        · refine ⟨j, hj, ht, fun i hi hij => ?_⟩
          cases hq : f zs[i] with
          | false => rfl
          | true => exact absurd ⟨i, hi, hij, hq⟩ hm
    obtain ⟨j, hj, ht, hn⟩ := h2
    refine .inr ⟨j, hj, ?_, ht, hn⟩
    rw [idx25_hit f zs j 0 hj ht hn, Int.zero_add]
  · refine .inl ⟨?_, ?_⟩
    · exact idx25_miss f zs 0 (fun j hj => by
        cases hq : f zs[j] with
        | false => rfl
        | true => exact absurd ⟨j, hj, hq⟩ h)
    · intro j hj
      cases hq : f zs[j] with
      | false => rfl
      | true => exact absurd ⟨j, hj, hq⟩ h
theorem atP_cases (ps : List S25) (q : Int) : atP ps q = -1 ∨ ∃ j : Nat, j < ps.length ∧ atP ps q = (j : Int) := (idx25_cases _ ps).imp (fun h => h.1) (fun ⟨j, hj, h, _⟩ => ⟨j, hj, h⟩)
theorem gtP_cases (ps : List S25) (q : Int) : gtP ps q = -1 ∨ ∃ j : Nat, j < ps.length ∧ gtP ps q = (j : Int) := (idx25_cases _ ps).imp (fun h => h.1) (fun ⟨j, hj, h, _⟩ => ⟨j, hj, h⟩)
theorem pieceAt_f (ps : List S25) (ss : List S71) (a c q r : Int) (h : atP ps q = r) : impl_PieceAt.f ps ss a c q = some r := by
  subst h
  rfl
theorem copyState_f (ps : List S25) (ss : List S71) (a c : Int) (h0 : ps.length < 1466015503701) (h1 : ss.length < 1000000000000) : impl_copyState.f ps ss a c = some (ps, ss, a, c) := by
  unfold impl_copyState.f impl_Piece_136.f impl_Side_137.f
  simp only [Option.bind_some, List.nil_append, List.length_nil, Nat.zero_add]
  rw [if_pos h0]
  simp only [Option.bind_some]
  rw [if_pos (by omega)]
  rfl
theorem pcells {W : World} {g : Nat} {p : S25} (h : W.heap[g]? = some (.cells (pl p).toArray 25 (0, 0))) : W.cell? ⟨g, 0, none⟩ = some (.int .i64 p.f0) ∧ W.cell? ⟨g, 1, none⟩ = some (.int .i64 p.f1) ∧ W.cell? ⟨g, 2, none⟩ = some (.int .i64 p.f2) ∧ W.cell? ⟨g, 3, none⟩ = some (.int .i64 p.f3) ∧ W.cell? ⟨g, 4, none⟩ = some (.int .i64 p.f4) ∧ W.cell? ⟨g, 5, none⟩ = some (.int .i64 p.f5) ∧ W.cell? ⟨g, 6, none⟩ = some (.int .i64 p.f6) ∧ W.cell? ⟨g, 7, none⟩ = some (.int .i64 p.f7) ∧ W.cell? ⟨g, 8, none⟩ = some (.int .i64 p.f8) ∧ W.cell? ⟨g, 9, none⟩ = some (.int .i64 p.f9) ∧ W.cell? ⟨g, 10, none⟩ = some (.int .i64 p.f10) ∧ W.cell? ⟨g, 11, none⟩ = some (.bool p.f11) ∧ W.cell? ⟨g, 12, none⟩ = some (.bool p.f12) := ⟨(blk_cell h 0).trans rfl, (blk_cell h 1).trans rfl, (blk_cell h 2).trans rfl, (blk_cell h 3).trans rfl, (blk_cell h 4).trans rfl, (blk_cell h 5).trans rfl, (blk_cell h 6).trans rfl, (blk_cell h 7).trans rfl, (blk_cell h 8).trans rfl, (blk_cell h 9).trans rfl, (blk_cell h 10).trans rfl, (blk_cell h 11).trans rfl, (blk_cell h 12).trans rfl⟩
/-- What the walk of SetPiece holds: its three boxes, the copies of the two rows. -/
structure Hp (w W : World) (g2 g3 g4 : Nat) (u0 u1 v0 v1 : Value) (a c : Int) (p : S25) (qs : List S25) (ss : List S71) : Prop where
  k : Below w.heap.size w W
  l2 : w.heap.size ≤ g2
  l3 : w.heap.size ≤ g3
  l4 : w.heap.size ≤ g4
  n23 : g2 ≠ g3
  n24 : g2 ≠ g4
  n34 : g3 ≠ g4
  b2 : W.heap[g2]? = some (.cells #[u0, u1, .int .i64 a, .int .i64 c] 56 (0, 0))
  b3 : W.heap[g3]? = some (.cells (pl p).toArray 25 (0, 0))
  b4 : W.heap[g4]? = some (.cells #[.slice none 0 0, .slice none 0 0, .int .i64 0, .int .i64 0] 56 (0, 0))
  r0 : Kd.R k25 25 W w.heap.size (fun _ => True) v0 qs
  r1 : Kd.R k71 71 W w.heap.size (fun _ => True) v1 ss
  far : ∀ k, v0.ownBlock = some k → k ≠ g2 ∧ k ≠ g3 ∧ k ≠ g4
namespace Hp
variable {w W W1 : World} {g2 g3 g4 : Nat} {u0 u1 v0 v1 : Value} {a c : Int} {p : S25} {qs : List S25} {ss : List S71}
theorem below (h : Hp w W g2 g3 g4 u0 u1 v0 v1 a c p qs ss) (hb : Below W.heap.size W W1) : Hp w W1 g2 g3 g4 u0 u1 v0 v1 a c p qs ss :=
  ⟨below_then h.k h.k.size hb, h.l2, h.l3, h.l4, h.n23, h.n24, h.n34, blk_below h.b2 hb, blk_below h.b3 hb, blk_below h.b4 hb, Kd.R_below h.r0 hb, Kd.R_below h.r1 hb, h.far⟩
theorem put2 (h : Hp w W g2 g3 g4 u0 u1 v0 v1 a c p qs ss) {u0' u1' : Value} (hb : W1.heap[g2]? = some (.cells #[u0', u1', .int .i64 a, .int .i64 c] 56 (0, 0))) (hg : W.grownBy W1 (some g2)) : Hp w W1 g2 g3 g4 u0' u1' v0 v1 a c p qs ss :=
  ⟨below_put hg h.l2 h.k.size h.k, h.l2, h.l3, h.l4, h.n23, h.n24, h.n34, hb, blk_step hg h.n23.symm h.b3, blk_step hg h.n24.symm h.b4, Rbx h.r0 h.b2 (by decide) hg, Rbx h.r1 h.b2 (by decide) hg, h.far⟩
theorem row (h : Hp w W g2 g3 g4 u0 u1 v0 v1 a c p qs ss) {v0' : Value} {qs' : List S25} (hg : W.grownBy W1 v0.ownBlock) (hr : Kd.R k25 25 W1 w.heap.size (fun _ => True) v0' qs') (hf : ∀ k, v0'.ownBlock = some k → v0.ownBlock = some k ∨ W.heap.size ≤ k) : Hp w W1 g2 g3 g4 u0 u1 v0' v1 a c p qs' ss := by
  have f2 : ∀ g, (∀ k, v0.ownBlock = some k → k ≠ g) → some g ≠ v0.ownBlock := fun g hk e => hk g e.symm rfl
  refine ⟨pw_below_grown h.k _ h.k.size hg (fun k hk => Kd.R_base h.r0 k hk), h.l2, h.l3, h.l4, h.n23, h.n24, h.n34, blk_grown h.b2 hg (f2 _ (fun k hk => (h.far k hk).1)), blk_grown h.b3 hg (f2 _ (fun k hk => (h.far k hk).2.1)), blk_grown h.b4 hg (f2 _ (fun k hk => (h.far k hk).2.2)), hr, Kd.R_over h.r1 h.r0 (by decide) hg, fun k hk => ?_⟩
  rcases hf k hk with hv | hv
  · exact h.far k hv
  · have := blk_lt h.b2
    have := blk_lt h.b3
    have := blk_lt h.b4
    exact ⟨by omega, by omega, by omega⟩
end Hp
set_option maxHeartbeats 4000000 in
set_option maxRecDepth 100000 in
theorem setPiece_closure (q : Int) (gi : Nat) (w : World) (hc : w.cell? ⟨gi, 0, none⟩ = some (.int .i64 q)) (W : World) (x : S25) (hB : Below w.heap.size w W) :
    Calls Try.prog 119 (#[.agg #[.int .i64 x.f0, .int .i64 x.f1, .int .i64 x.f2, .int .i64 x.f3, .int .i64 x.f4, .int .i64 x.f5, .int .i64 x.f6, .int .i64 x.f7, .int .i64 x.f8, .int .i64 x.f9, .int .i64 x.f10, .bool x.f11, .bool x.f12]] ++ #[.pointer (some ⟨gi, 0, none⟩)]) W fun e w' => e = .returned (.bool (decide (q < x.f0))) ∧ Below w.heap.size w w' := by
  have hi : W.cell? ⟨gi, 0, none⟩ = some (.int .i64 q) := pw_cell_below hB hc
  have HB := Aside0.mk hB
  have hlt : gi < W.heap.size := World.block_lt_of_cell? W _ hi
  have hu := Try.underlying25
  clear hB hc
  go_enter Try.func119, Try.ntmps119
  go_wp2
  go_ret
  exact ⟨rfl, below_alloc HB.out _⟩
theorem cells_of25 {w : World} {g n : Nat} {ps : List S25} {j : Nat} (h : Kd.C k25 w (some ⟨g, 0, none⟩) n ps) (hj : j < n) : ∀ (q : Nat) (u : Value), (pl (rd_T25 ps (j : Int)))[q]? = some u → w.cell? ⟨g, (j : Int).toNat * 13 + q, none⟩ = some u := by
  obtain ⟨ad, hA, h0, h1, h2, h3, h4, h5, h6, h7, h8, h9, h10, h11, h12⟩ := at_T25 h (j : Int) (by omega) (by omega)
  injection hA with hA
  subst hA
  simp only [Addr.add_lit, Nat.zero_add] at h0 h1 h2 h3 h4 h5 h6 h7 h8 h9 h10 h11 h12
  intro q u hq
  have hq13 : q < 13 := by
    have := (List.getElem?_eq_some_iff.1 hq).1
    rwa [pl_length] at this
  rcases q with _ | _ | _ | _ | _ | _ | _ | _ | _ | _ | _ | _ | _ | q
  · rw [← hq]; exact h0
  · rw [← hq]; exact h1
  · rw [← hq]; exact h2
  · rw [← hq]; exact h3
  · rw [← hq]; exact h4
  · rw [← hq]; exact h5
  · rw [← hq]; exact h6
  · rw [← hq]; exact h7
  · rw [← hq]; exact h8
  · rw [← hq]; exact h9
  · rw [← hq]; exact h10
  · rw [← hq]; exact h11
  · rw [← hq]; exact h12
  · omega
set_option maxHeartbeats 8000000 in
set_option maxRecDepth 100000 in
theorem setPiece_old (A0 : Option Addr) (c0 : Nat) (ps : List S25) (A1 : Option Addr) (c1 : Nat) (ss : List S71) (a c : Int) (p : S25) (w : World) (hr0 : Kd.C k25 w A0 ps.length ps) (hc0 : ps.length ≤ c0) (hr1 : Kd.C k71 w A1 ss.length ss) (hc1 : ss.length ≤ c1) (hl : ps.length < 1466015503700 ∧ ss.length < 1000000000000) (j : Nat) (hj : j < ps.length) (hk : atP ps p.f0 = (j : Int)) :
    Calls Try.prog 60 #[.agg #[.slice A0 ps.length c0, .slice A1 ss.length c1, .int .i64 a, .int .i64 c], .agg #[.int .i64 p.f0, .int .i64 p.f1, .int .i64 p.f2, .int .i64 p.f3, .int .i64 p.f4, .int .i64 p.f5, .int .i64 p.f6, .int .i64 p.f7, .int .i64 p.f8, .int .i64 p.f9, .int .i64 p.f10, .bool p.f11, .bool p.f12]] w fun e w' => ∃ (v0 v1 : Value), e = .returned (.agg #[v0, v1, .int .i64 a, .int .i64 c]) ∧ Kd.R k25 25 w' w.heap.size (fun _ => True) v0 (ps.set (j : Int).toNat p) ∧ Kd.R k71 71 w' w.heap.size (fun _ => True) v1 ss ∧ Below w.heap.size w w' := by
  have hu56 := Try.underlying56
  have hu25 := Try.underlying25
  have HR0 := Aside0.mk hr0
  have HC0 := Aside0.mk hc0
  have HR1 := Aside0.mk hr1
  have HC1 := Aside0.mk hc1
  have HL := Aside0.mk hl
  clear hr0 hc0 hr1 hc1 hl
  have HJ := Aside0.mk hj
  have HK := Aside0.mk hk
  have hj0 : (0 : Int) ≤ (j : Int) := by omega
  have hjl : (j : Int) < (ps.length : Int) := by omega
  clear hk
  go_enter Try.func60, Try.ntmps60
  go_wp2_with (first
    | ((with_reducible refine gate_dst (N := 2) rfl ?_); refine box_event (N := 2) rfl rfl (cs := #[.slice A0 ps.length c0, .slice A1 ss.length c1, .int .i64 a, .int .i64 c]) (t := 56) ?hr ?_; (case hr => first | (go_simp; done) | (go_simp; rfl)); intro g2 hg w2 hn hbb; have L2 := Aside0.mk (show w.heap.size ≤ g2 by rw [hg]; exact Nat.le_refl _); have B2 := Aside0.mk hn; have K2 := Aside0.mk hbb; clear hg hn hbb)
    | ((with_reducible refine gate_dst (N := 3) rfl ?_); refine box_event (N := 3) rfl rfl (cs := #[.int .i64 p.f0, .int .i64 p.f1, .int .i64 p.f2, .int .i64 p.f3, .int .i64 p.f4, .int .i64 p.f5, .int .i64 p.f6, .int .i64 p.f7, .int .i64 p.f8, .int .i64 p.f9, .int .i64 p.f10, .bool p.f11, .bool p.f12]) (t := 25) ?hr ?_; (case hr => first | (go_simp; done) | (go_simp; rfl)); intro g3 hg w3 hn hbb; have L3 := Aside0.mk (show w.heap.size ≤ g3 by rw [hg]; exact K2.out.size); have N23 := Aside0.mk (show g2 ≠ g3 by have := blk_lt B2.out; omega); have B3 := Aside0.mk hn; have B2a := Aside0.mk (blk_below B2.out hbb); have K3 := Aside0.mk (below_then K2.out K2.out.size hbb); clear hg hn hbb)
    | ((with_reducible refine gate_dst (N := 4) rfl ?_); refine box_event (N := 4) rfl rfl (cs := #[.slice none 0 0, .slice none 0 0, .int .i64 0, .int .i64 0]) (t := 56) ?hr ?_; (case hr => first | (go_simp; done) | (go_simp; rfl)); intro g4 hg w4 hn hbb; have L4 := Aside0.mk (show w.heap.size ≤ g4 by rw [hg]; exact K3.out.size); have N24 := Aside0.mk (show g2 ≠ g4 by have := blk_lt B2a.out; omega); have N34 := Aside0.mk (show g3 ≠ g4 by have := blk_lt B3.out; omega); have B4 := Aside0.mk hn; have B2b := Aside0.mk (blk_below B2a.out hbb); have B3b := Aside0.mk (blk_below B3.out hbb); have K4 := Aside0.mk (below_then K3.out K3.out.size hbb); obtain ⟨q0, q1, q2, q3⟩ := cells4 B2b.out; clear hg hn hbb)
    | (go_at_call 117; ((with_reducible refine (impl_copyState.calls A0 c0 ps A1 c1 ss a c ps ss a c w4 (Kd.C_below HR0.out K4.out) HC0.out (Kd.C_below HR1.out K4.out) HC1.out (copyState_f ps ss a c (by have := HL.out.1; omega) HL.out.2)).mono ?_); rintro e w5 ⟨v0, v1, rfl, hr0, hr1, hb⟩; obtain ⟨D0, d0, rfl⟩ := Kd.R_slice hr0; obtain ⟨D1, d1, rfl⟩ := Kd.R_slice hr1; have HQ := Aside0.mk (show Hp w w5 g2 g3 g4 (.slice A0 ps.length c0) (.slice A1 ss.length c1) (.slice D0 ps.length d0) (.slice D1 ss.length d1) a c p ps ss from ⟨below_then K4.out K4.out.size hb, L2.out, L3.out, L4.out, N23.out, N24.out, N34.out, blk_below B2b.out hb, blk_below B3b.out hb, blk_below B4.out hb, Kd.R_lower hr0 K4.out.size, Kd.R_lower hr1 K4.out.size, fun k hk => by have h1 := Kd.R_base hr0 k hk; have := blk_lt B2b.out; have := blk_lt B3b.out; have := blk_lt B4.out; exact ⟨by omega, by omega, by omega⟩⟩); clear hr0 hr1 hb B2 B2a B2b B3 B3b B4 K2 K3 K4 L2 L3 L4 N23 N24 N34))
    | ((with_reducible refine gate_store (t := 56) (p := 2) (v := .tmp 8) rfl ?_); refine put_event rfl rfl rfl 56 g2 0 _ #[.slice D0 ps.length d0, .slice D1 ss.length d1, .int .i64 a, .int .i64 c] (.agg #[.slice D0 ps.length d0, .slice D1 ss.length d1, .int .i64 a, .int .i64 c]) [.slice D0 ps.length d0, .slice D1 ss.length d1, .int .i64 a, .int .i64 c] rfl rfl HQ.out.b2 rfl (by kernel_rfl) (by simp) (by simp [Value.oneCell']) rfl ?_; intro w6 hb6 hg6; have HS := Aside0.mk (HQ.out.put2 hb6 hg6); obtain ⟨s0, s1, s2, s3⟩ := cells4 HS.out.b2; obtain ⟨t0, -⟩ := pcells HS.out.b3; clear hb6 hg6 HQ)
    | (go_at_call 66; ((with_reducible refine (impl_PieceAt.calls D0 d0 ps D1 d1 ss a c p.f0 (j : Int) w6 (Kd.R_reads' HS.out.r0).2.2 (Kd.R_reads' HS.out.r0).2.1 (Kd.R_reads' HS.out.r1).2.2 (Kd.R_reads' HS.out.r1).2.1 (pieceAt_f ps ss a c p.f0 _ HK.out)).mono ?_); rintro e w7 ⟨rfl, hb⟩; have HT := Aside0.mk (HS.out.below hb); obtain ⟨gp, cp, e0, -, -, -⟩ := Kd.R_form HT.out.r0 (by have := HJ.out; omega); injection e0 with e1 _ e3; subst e1 e3; clear hb; obtain ⟨x0, x1, x2, x3⟩ := cells4 HT.out.b2; obtain ⟨y0, y1, y2, y3, y4, y5, y6, y7, y8, y9, y10, y11, y12⟩ := pcells HT.out.b3; clear HS))
    | ((with_reducible refine gate_store (t := 25) (p := 19) (v := .tmp 18) rfl ?_); refine Kd.R_store k25 (w0 := w) w.heap.size rfl rfl 25 (.tmp 19) (.tmp 18) rfl 25 (g := gp) (n := ps.length) (cap := d0) (o' := j * 13) (j : Int) 0 ps p (.agg #[.int .i64 p.f0, .int .i64 p.f1, .int .i64 p.f2, .int .i64 p.f3, .int .i64 p.f4, .int .i64 p.f5, .int .i64 p.f6, .int .i64 p.f7, .int .i64 p.f8, .int .i64 p.f9, .int .i64 p.f10, .bool p.f11, .bool p.f12]) (pl p) (pl (rd_T25 ps (j : Int))) (fun _ => True) (fun _ => False) (by first | rfl | (go_simp; done) | (go_simp; rfl)) (by rw [Int.toNat_natCast]; rfl) rfl rfl (by kernel_rfl) (pl_one p) HT.out.r0 (by omega) (by have := HJ.out; omega) rfl (cells_of25 (Kd.R_reads' HT.out.r0).2.2 HJ.out) (Nat.le_refl _) (k25_mkM _ _ _ p) (fun _ hk => hk.elim) HT.out.k ?_; intro w8 hr8 hb8 hg8; have HU := Aside0.mk (HT.out.row hg8 hr8 (fun k hk => .inl hk)); obtain ⟨z0, z1, z2, z3⟩ := cells4 HU.out.b2; clear hr8 hb8 hg8 HT)
    | ((with_reducible refine gate_store (t := 56) (p := 4) (v := .tmp 20) rfl ?_); refine put_event rfl rfl rfl 56 g4 0 _ #[.slice (some ⟨gp, 0, none⟩) ps.length d0, .slice D1 ss.length d1, .int .i64 a, .int .i64 c] (.agg #[.slice (some ⟨gp, 0, none⟩) ps.length d0, .slice D1 ss.length d1, .int .i64 a, .int .i64 c]) [.slice (some ⟨gp, 0, none⟩) ps.length d0, .slice D1 ss.length d1, .int .i64 a, .int .i64 c] rfl rfl HU.out.b4 rfl (by kernel_rfl) (by simp) (by simp [Value.oneCell']) rfl ?_; intro wz hbz hgz; have BZ := Aside0.mk hbz; have HZ := Aside0.mk hgz; clear hbz hgz))
  refine bodyPost_ret (results_cell_row rfl _ _ g4 56 _ (0, 0) _ rfl BZ.out Try.underlying56 rfl (by kernel_rfl)) rfl ?_
  exact ⟨_, _, rfl, Rbx HU.out.r0 HU.out.b4 (by decide) HZ.out, Rbx HU.out.r1 HU.out.b4 (by decide) HZ.out, below_put HZ.out HU.out.l4 HU.out.k.size HU.out.k⟩
set_option maxHeartbeats 8000000 in
set_option maxRecDepth 100000 in
theorem setPiece_mid (A0 : Option Addr) (c0 : Nat) (ps : List S25) (A1 : Option Addr) (c1 : Nat) (ss : List S71) (a c : Int) (p : S25) (w : World) (hr0 : Kd.C k25 w A0 ps.length ps) (hc0 : ps.length ≤ c0) (hr1 : Kd.C k71 w A1 ss.length ss) (hc1 : ss.length ≤ c1) (hl : ps.length < 1466015503700 ∧ ss.length < 1000000000000) (m : Nat) (hm : m < ps.length) (hk : atP ps p.f0 = -1) (hg : gtP ps p.f0 = (m : Int)) :
    Calls Try.prog 60 #[.agg #[.slice A0 ps.length c0, .slice A1 ss.length c1, .int .i64 a, .int .i64 c], .agg #[.int .i64 p.f0, .int .i64 p.f1, .int .i64 p.f2, .int .i64 p.f3, .int .i64 p.f4, .int .i64 p.f5, .int .i64 p.f6, .int .i64 p.f7, .int .i64 p.f8, .int .i64 p.f9, .int .i64 p.f10, .bool p.f11, .bool p.f12]] w fun e w' => ∃ (v0 v1 : Value), e = .returned (.agg #[v0, v1, .int .i64 a, .int .i64 c]) ∧ Kd.R k25 25 w' w.heap.size (fun _ => True) v0 (ps.take m ++ [p] ++ ps.drop m) ∧ Kd.R k71 71 w' w.heap.size (fun _ => True) v1 ss ∧ Below w.heap.size w w' := by
  have hu56 := Try.underlying56
  have hu25 := Try.underlying25
  have HR0 := Aside0.mk hr0
  have HC0 := Aside0.mk hc0
  have HR1 := Aside0.mk hr1
  have HC1 := Aside0.mk hc1
  have HL := Aside0.mk hl
  clear hr0 hc0 hr1 hc1 hl
  have HJ := Aside0.mk hm
  have HK := Aside0.mk hk
  have HG := Aside0.mk hg
  have hm0 : (0 : Int) ≤ (m : Int) := by omega
  have hm1 : ¬ (m : Int) < 0 := by omega
  clear hk hg
  go_enter Try.func60, Try.ntmps60
  go_wp2_with (first
    | ((with_reducible refine gate_dst (N := 2) rfl ?_); refine box_event (N := 2) rfl rfl (cs := #[.slice A0 ps.length c0, .slice A1 ss.length c1, .int .i64 a, .int .i64 c]) (t := 56) ?hr ?_; (case hr => first | (go_simp; done) | (go_simp; rfl)); intro g2 hg w2 hn hbb; have L2 := Aside0.mk (show w.heap.size ≤ g2 by rw [hg]; exact Nat.le_refl _); have B2 := Aside0.mk hn; have K2 := Aside0.mk hbb; clear hg hn hbb)
    | ((with_reducible refine gate_dst (N := 3) rfl ?_); refine box_event (N := 3) rfl rfl (cs := #[.int .i64 p.f0, .int .i64 p.f1, .int .i64 p.f2, .int .i64 p.f3, .int .i64 p.f4, .int .i64 p.f5, .int .i64 p.f6, .int .i64 p.f7, .int .i64 p.f8, .int .i64 p.f9, .int .i64 p.f10, .bool p.f11, .bool p.f12]) (t := 25) ?hr ?_; (case hr => first | (go_simp; done) | (go_simp; rfl)); intro g3 hg w3 hn hbb; have L3 := Aside0.mk (show w.heap.size ≤ g3 by rw [hg]; exact K2.out.size); have N23 := Aside0.mk (show g2 ≠ g3 by have := blk_lt B2.out; omega); have B3 := Aside0.mk hn; have B2a := Aside0.mk (blk_below B2.out hbb); have K3 := Aside0.mk (below_then K2.out K2.out.size hbb); clear hg hn hbb)
    | ((with_reducible refine gate_dst (N := 4) rfl ?_); refine box_event (N := 4) rfl rfl (cs := #[.slice none 0 0, .slice none 0 0, .int .i64 0, .int .i64 0]) (t := 56) ?hr ?_; (case hr => first | (go_simp; done) | (go_simp; rfl)); intro g4 hg w4 hn hbb; have L4 := Aside0.mk (show w.heap.size ≤ g4 by rw [hg]; exact K3.out.size); have N24 := Aside0.mk (show g2 ≠ g4 by have := blk_lt B2a.out; omega); have N34 := Aside0.mk (show g3 ≠ g4 by have := blk_lt B3.out; omega); have B4 := Aside0.mk hn; have B2b := Aside0.mk (blk_below B2a.out hbb); have B3b := Aside0.mk (blk_below B3.out hbb); have K4 := Aside0.mk (below_then K3.out K3.out.size hbb); obtain ⟨q0, q1, q2, q3⟩ := cells4 B2b.out; clear hg hn hbb)
    | (go_at_call 117; ((with_reducible refine (impl_copyState.calls A0 c0 ps A1 c1 ss a c ps ss a c w4 (Kd.C_below HR0.out K4.out) HC0.out (Kd.C_below HR1.out K4.out) HC1.out (copyState_f ps ss a c (by have := HL.out.1; omega) HL.out.2)).mono ?_); rintro e w5 ⟨v0, v1, rfl, hr0, hr1, hb⟩; obtain ⟨D0, d0, rfl⟩ := Kd.R_slice hr0; obtain ⟨D1, d1, rfl⟩ := Kd.R_slice hr1; have HQ := Aside0.mk (show Hp w w5 g2 g3 g4 (.slice A0 ps.length c0) (.slice A1 ss.length c1) (.slice D0 ps.length d0) (.slice D1 ss.length d1) a c p ps ss from ⟨below_then K4.out K4.out.size hb, L2.out, L3.out, L4.out, N23.out, N24.out, N34.out, blk_below B2b.out hb, blk_below B3b.out hb, blk_below B4.out hb, Kd.R_lower hr0 K4.out.size, Kd.R_lower hr1 K4.out.size, fun k hk => by have h1 := Kd.R_base hr0 k hk; have := blk_lt B2b.out; have := blk_lt B3b.out; have := blk_lt B4.out; exact ⟨by omega, by omega, by omega⟩⟩); clear hr0 hr1 hb B2 B2a B2b B3 B3b B4 K2 K3 K4 L2 L3 L4 N23 N24 N34))
    | ((with_reducible refine gate_store (t := 56) (p := 2) (v := .tmp 8) rfl ?_); refine put_event rfl rfl rfl 56 g2 0 _ #[.slice D0 ps.length d0, .slice D1 ss.length d1, .int .i64 a, .int .i64 c] (.agg #[.slice D0 ps.length d0, .slice D1 ss.length d1, .int .i64 a, .int .i64 c]) [.slice D0 ps.length d0, .slice D1 ss.length d1, .int .i64 a, .int .i64 c] rfl rfl HQ.out.b2 rfl (by kernel_rfl) (by simp) (by simp [Value.oneCell']) rfl ?_; intro w6 hb6 hg6; have HS := Aside0.mk (HQ.out.put2 hb6 hg6); obtain ⟨s0, s1, s2, s3⟩ := cells4 HS.out.b2; obtain ⟨t0, -⟩ := pcells HS.out.b3; clear hb6 hg6 HQ)
    | (go_at_call 66; ((with_reducible refine (impl_PieceAt.calls D0 d0 ps D1 d1 ss a c p.f0 (-1) w6 (Kd.R_reads' HS.out.r0).2.2 (Kd.R_reads' HS.out.r0).2.1 (Kd.R_reads' HS.out.r1).2.2 (Kd.R_reads' HS.out.r1).2.1 (pieceAt_f ps ss a c p.f0 _ HK.out)).mono ?_); rintro e w7 ⟨rfl, hb⟩; have HT := Aside0.mk (HS.out.below hb); obtain ⟨x0, x1, x2, x3⟩ := cells4 HT.out.b2; obtain ⟨y0, y1, y2, y3, y4, y5, y6, y7, y8, y9, y10, y11, y12⟩ := pcells HT.out.b3; clear hb HS))
    | (go_at_call 118; ((with_reducible refine (indexfunc25 (fun x => decide (p.f0 < x.f0)) 119 #[.pointer (some ⟨g3, 0, none⟩)] (fun args w => enters_ Try.func119 (by kernel_rfl) (by kernel_rfl) args w) D0 d0 ps w7 (Kd.R_reads' HT.out.r0).2.2 (fun W x hB => setPiece_closure p.f0 g3 w7 (pcells HT.out.b3).1 W x hB)).mono ?_); rintro e w8 ⟨rfl, hb⟩; rw [show idx25 (fun x => decide (p.f0 < x.f0)) ps 0 = (m : Int) from HG.out]; have HV := Aside0.mk (HT.out.below hb); obtain ⟨a0, a1, a2, a3⟩ := cells4 HV.out.b2; obtain ⟨b0, b1, b2, b3, b4, b5, b6, b7, b8, b9, b10, b11, b12⟩ := pcells HV.out.b3; clear hb HT))
    | ((with_reducible refine gate_dst (N := 34) rfl ?_); refine lit_event (N := 34) rfl rfl (cs := #[.int .i64 p.f0, .int .i64 p.f1, .int .i64 p.f2, .int .i64 p.f3, .int .i64 p.f4, .int .i64 p.f5, .int .i64 p.f6, .int .i64 p.f7, .int .i64 p.f8, .int .i64 p.f9, .int .i64 p.f10, .bool p.f11, .bool p.f12]) (t := 25) ?hr ?_; (case hr => first | (go_simp; done) | (go_simp; rfl)); intro gl hgl w9 hbl hb; have HX := Aside0.mk (HV.out.below hb); have HLf := Aside0.mk (show ∀ ad, D0 = some ad → ad.block ≠ gl from fun ad e => by subst e; rw [hgl]; exact Nat.ne_of_lt (own_lt (Kd.R_own HV.out.r0).choose_spec _ rfl)); have BL := Aside0.mk (show w9.heap[gl]? = some (.cells (pl p).toArray 25 (0, 0)) from hbl); clear hgl hbl hb HV)
    | (go_at_call 120; ((with_reducible refine (insert25 w.heap.size D0 d0 ps m p gl w9 HX.out.r0 HX.out.k.size (by have := HJ.out; omega) BL.out HLf.out HL.out.1).mono ?_); rintro e w10 ⟨b', d', rfl, hr, hg, hat⟩; have HY := Aside0.mk (HX.out.row (by rw [own_map]; exact hg) hr (fun k hk => by injection hk with hk; subst hk; exact hat.imp (fun ⟨ad, e1, e2⟩ => by rw [e1, ← e2]; rfl) id)); obtain ⟨f0, f1, f2, f3⟩ := cells4 HY.out.b2; clear hr hg hat HX BL HLf))
    | ((with_reducible refine gate_store (t := 53) (p := 36) (v := .tmp 35) rfl ?_); refine put_event rfl rfl rfl 56 g2 0 _ #[.slice (some ⟨b', 0, none⟩) (ps.length + 1) d', .slice D1 ss.length d1, .int .i64 a, .int .i64 c] (.slice (some ⟨b', 0, none⟩) (ps.length + 1) d') [.slice (some ⟨b', 0, none⟩) (ps.length + 1) d'] (by first | rfl | (go_simp; done)) (by first | rfl | (go_simp; done)) HY.out.b2 rfl (by kernel_rfl) (by simp) (by simp [Value.oneCell']) rfl ?_; intro w11 hb6 hg6; have HU := Aside0.mk (HY.out.put2 hb6 hg6); obtain ⟨z0, z1, z2, z3⟩ := cells4 HU.out.b2; clear hb6 hg6 HY)
    | ((with_reducible refine gate_store (t := 56) (p := 4) (v := .tmp 37) rfl ?_); refine put_event rfl rfl rfl 56 g4 0 _ #[.slice (some ⟨b', 0, none⟩) (ps.length + 1) d', .slice D1 ss.length d1, .int .i64 a, .int .i64 c] (.agg #[.slice (some ⟨b', 0, none⟩) (ps.length + 1) d', .slice D1 ss.length d1, .int .i64 a, .int .i64 c]) [.slice (some ⟨b', 0, none⟩) (ps.length + 1) d', .slice D1 ss.length d1, .int .i64 a, .int .i64 c] rfl rfl HU.out.b4 rfl (by kernel_rfl) (by simp) (by simp [Value.oneCell']) rfl ?_; intro wz hbz hgz; have BZ := Aside0.mk hbz; have HZ := Aside0.mk hgz; clear hbz hgz))
  refine bodyPost_ret (results_cell_row rfl _ _ g4 56 _ (0, 0) _ rfl BZ.out Try.underlying56 rfl (by kernel_rfl)) rfl ?_
  exact ⟨_, _, rfl, Rbx HU.out.r0 HU.out.b4 (by decide) HZ.out, Rbx HU.out.r1 HU.out.b4 (by decide) HZ.out, below_put HZ.out HU.out.l4 HU.out.k.size HU.out.k⟩
set_option maxHeartbeats 8000000 in
set_option maxRecDepth 100000 in
theorem setPiece_end (A0 : Option Addr) (c0 : Nat) (ps : List S25) (A1 : Option Addr) (c1 : Nat) (ss : List S71) (a c : Int) (p : S25) (w : World) (hr0 : Kd.C k25 w A0 ps.length ps) (hc0 : ps.length ≤ c0) (hr1 : Kd.C k71 w A1 ss.length ss) (hc1 : ss.length ≤ c1) (hl : ps.length < 1466015503700 ∧ ss.length < 1000000000000) (hk : atP ps p.f0 = -1) (hg : gtP ps p.f0 = -1) :
    Calls Try.prog 60 #[.agg #[.slice A0 ps.length c0, .slice A1 ss.length c1, .int .i64 a, .int .i64 c], .agg #[.int .i64 p.f0, .int .i64 p.f1, .int .i64 p.f2, .int .i64 p.f3, .int .i64 p.f4, .int .i64 p.f5, .int .i64 p.f6, .int .i64 p.f7, .int .i64 p.f8, .int .i64 p.f9, .int .i64 p.f10, .bool p.f11, .bool p.f12]] w fun e w' => ∃ (v0 v1 : Value), e = .returned (.agg #[v0, v1, .int .i64 a, .int .i64 c]) ∧ Kd.R k25 25 w' w.heap.size (fun _ => True) v0 (ps.take ps.length ++ [p] ++ ps.drop ps.length) ∧ Kd.R k71 71 w' w.heap.size (fun _ => True) v1 ss ∧ Below w.heap.size w w' := by
  have hu56 := Try.underlying56
  have hu25 := Try.underlying25
  have HR0 := Aside0.mk hr0
  have HC0 := Aside0.mk hc0
  have HR1 := Aside0.mk hr1
  have HC1 := Aside0.mk hc1
  have HL := Aside0.mk hl
  clear hr0 hc0 hr1 hc1 hl
  have HJ := Aside0.mk (Nat.le_refl ps.length)
  have HK := Aside0.mk hk
  have HG := Aside0.mk hg
  clear hk hg
  go_enter Try.func60, Try.ntmps60
  go_wp2_with (first
    | ((with_reducible refine gate_dst (N := 2) rfl ?_); refine box_event (N := 2) rfl rfl (cs := #[.slice A0 ps.length c0, .slice A1 ss.length c1, .int .i64 a, .int .i64 c]) (t := 56) ?hr ?_; (case hr => first | (go_simp; done) | (go_simp; rfl)); intro g2 hg w2 hn hbb; have L2 := Aside0.mk (show w.heap.size ≤ g2 by rw [hg]; exact Nat.le_refl _); have B2 := Aside0.mk hn; have K2 := Aside0.mk hbb; clear hg hn hbb)
    | ((with_reducible refine gate_dst (N := 3) rfl ?_); refine box_event (N := 3) rfl rfl (cs := #[.int .i64 p.f0, .int .i64 p.f1, .int .i64 p.f2, .int .i64 p.f3, .int .i64 p.f4, .int .i64 p.f5, .int .i64 p.f6, .int .i64 p.f7, .int .i64 p.f8, .int .i64 p.f9, .int .i64 p.f10, .bool p.f11, .bool p.f12]) (t := 25) ?hr ?_; (case hr => first | (go_simp; done) | (go_simp; rfl)); intro g3 hg w3 hn hbb; have L3 := Aside0.mk (show w.heap.size ≤ g3 by rw [hg]; exact K2.out.size); have N23 := Aside0.mk (show g2 ≠ g3 by have := blk_lt B2.out; omega); have B3 := Aside0.mk hn; have B2a := Aside0.mk (blk_below B2.out hbb); have K3 := Aside0.mk (below_then K2.out K2.out.size hbb); clear hg hn hbb)
    | ((with_reducible refine gate_dst (N := 4) rfl ?_); refine box_event (N := 4) rfl rfl (cs := #[.slice none 0 0, .slice none 0 0, .int .i64 0, .int .i64 0]) (t := 56) ?hr ?_; (case hr => first | (go_simp; done) | (go_simp; rfl)); intro g4 hg w4 hn hbb; have L4 := Aside0.mk (show w.heap.size ≤ g4 by rw [hg]; exact K3.out.size); have N24 := Aside0.mk (show g2 ≠ g4 by have := blk_lt B2a.out; omega); have N34 := Aside0.mk (show g3 ≠ g4 by have := blk_lt B3.out; omega); have B4 := Aside0.mk hn; have B2b := Aside0.mk (blk_below B2a.out hbb); have B3b := Aside0.mk (blk_below B3.out hbb); have K4 := Aside0.mk (below_then K3.out K3.out.size hbb); obtain ⟨q0, q1, q2, q3⟩ := cells4 B2b.out; clear hg hn hbb)
    | (go_at_call 117; ((with_reducible refine (impl_copyState.calls A0 c0 ps A1 c1 ss a c ps ss a c w4 (Kd.C_below HR0.out K4.out) HC0.out (Kd.C_below HR1.out K4.out) HC1.out (copyState_f ps ss a c (by have := HL.out.1; omega) HL.out.2)).mono ?_); rintro e w5 ⟨v0, v1, rfl, hr0, hr1, hb⟩; obtain ⟨D0, d0, rfl⟩ := Kd.R_slice hr0; obtain ⟨D1, d1, rfl⟩ := Kd.R_slice hr1; have HQ := Aside0.mk (show Hp w w5 g2 g3 g4 (.slice A0 ps.length c0) (.slice A1 ss.length c1) (.slice D0 ps.length d0) (.slice D1 ss.length d1) a c p ps ss from ⟨below_then K4.out K4.out.size hb, L2.out, L3.out, L4.out, N23.out, N24.out, N34.out, blk_below B2b.out hb, blk_below B3b.out hb, blk_below B4.out hb, Kd.R_lower hr0 K4.out.size, Kd.R_lower hr1 K4.out.size, fun k hk => by have h1 := Kd.R_base hr0 k hk; have := blk_lt B2b.out; have := blk_lt B3b.out; have := blk_lt B4.out; exact ⟨by omega, by omega, by omega⟩⟩); clear hr0 hr1 hb B2 B2a B2b B3 B3b B4 K2 K3 K4 L2 L3 L4 N23 N24 N34))
    | ((with_reducible refine gate_store (t := 56) (p := 2) (v := .tmp 8) rfl ?_); refine put_event rfl rfl rfl 56 g2 0 _ #[.slice D0 ps.length d0, .slice D1 ss.length d1, .int .i64 a, .int .i64 c] (.agg #[.slice D0 ps.length d0, .slice D1 ss.length d1, .int .i64 a, .int .i64 c]) [.slice D0 ps.length d0, .slice D1 ss.length d1, .int .i64 a, .int .i64 c] rfl rfl HQ.out.b2 rfl (by kernel_rfl) (by simp) (by simp [Value.oneCell']) rfl ?_; intro w6 hb6 hg6; have HS := Aside0.mk (HQ.out.put2 hb6 hg6); obtain ⟨s0, s1, s2, s3⟩ := cells4 HS.out.b2; obtain ⟨t0, -⟩ := pcells HS.out.b3; clear hb6 hg6 HQ)
    | (go_at_call 66; ((with_reducible refine (impl_PieceAt.calls D0 d0 ps D1 d1 ss a c p.f0 (-1) w6 (Kd.R_reads' HS.out.r0).2.2 (Kd.R_reads' HS.out.r0).2.1 (Kd.R_reads' HS.out.r1).2.2 (Kd.R_reads' HS.out.r1).2.1 (pieceAt_f ps ss a c p.f0 _ HK.out)).mono ?_); rintro e w7 ⟨rfl, hb⟩; have HT := Aside0.mk (HS.out.below hb); obtain ⟨x0, x1, x2, x3⟩ := cells4 HT.out.b2; obtain ⟨y0, y1, y2, y3, y4, y5, y6, y7, y8, y9, y10, y11, y12⟩ := pcells HT.out.b3; clear hb HS))
    | (go_at_call 118; ((with_reducible refine (indexfunc25 (fun x => decide (p.f0 < x.f0)) 119 #[.pointer (some ⟨g3, 0, none⟩)] (fun args w => enters_ Try.func119 (by kernel_rfl) (by kernel_rfl) args w) D0 d0 ps w7 (Kd.R_reads' HT.out.r0).2.2 (fun W x hB => setPiece_closure p.f0 g3 w7 (pcells HT.out.b3).1 W x hB)).mono ?_); rintro e w8 ⟨rfl, hb⟩; rw [show idx25 (fun x => decide (p.f0 < x.f0)) ps 0 = -1 from HG.out]; have HV := Aside0.mk (HT.out.below hb); obtain ⟨a0, a1, a2, a3⟩ := cells4 HV.out.b2; obtain ⟨b0, b1, b2, b3, b4, b5, b6, b7, b8, b9, b10, b11, b12⟩ := pcells HV.out.b3; clear hb HT))
    | ((with_reducible refine gate_dst (N := 34) rfl ?_); refine lit_event (N := 34) rfl rfl (cs := #[.int .i64 p.f0, .int .i64 p.f1, .int .i64 p.f2, .int .i64 p.f3, .int .i64 p.f4, .int .i64 p.f5, .int .i64 p.f6, .int .i64 p.f7, .int .i64 p.f8, .int .i64 p.f9, .int .i64 p.f10, .bool p.f11, .bool p.f12]) (t := 25) ?hr ?_; (case hr => first | (go_simp; done) | (go_simp; rfl)); intro gl hgl w9 hbl hb; have HX := Aside0.mk (HV.out.below hb); have HLf := Aside0.mk (show ∀ ad, D0 = some ad → ad.block ≠ gl from fun ad e => by subst e; rw [hgl]; exact Nat.ne_of_lt (own_lt (Kd.R_own HV.out.r0).choose_spec _ rfl)); have BL := Aside0.mk (show w9.heap[gl]? = some (.cells (pl p).toArray 25 (0, 0)) from hbl); clear hgl hbl hb HV)
    | (go_at_call 120; ((with_reducible refine (insert25 w.heap.size D0 d0 ps ps.length p gl w9 HX.out.r0 HX.out.k.size (by have := HJ.out; omega) BL.out HLf.out HL.out.1).mono ?_); rintro e w10 ⟨b', d', rfl, hr, hg, hat⟩; have HY := Aside0.mk (HX.out.row (by rw [own_map]; exact hg) hr (fun k hk => by injection hk with hk; subst hk; exact hat.imp (fun ⟨ad, e1, e2⟩ => by rw [e1, ← e2]; rfl) id)); obtain ⟨f0, f1, f2, f3⟩ := cells4 HY.out.b2; clear hr hg hat HX BL HLf))
    | ((with_reducible refine gate_store (t := 53) (p := 36) (v := .tmp 35) rfl ?_); refine put_event rfl rfl rfl 56 g2 0 _ #[.slice (some ⟨b', 0, none⟩) (ps.length + 1) d', .slice D1 ss.length d1, .int .i64 a, .int .i64 c] (.slice (some ⟨b', 0, none⟩) (ps.length + 1) d') [.slice (some ⟨b', 0, none⟩) (ps.length + 1) d'] (by first | rfl | (go_simp; done)) (by first | rfl | (go_simp; done)) HY.out.b2 rfl (by kernel_rfl) (by simp) (by simp [Value.oneCell']) rfl ?_; intro w11 hb6 hg6; have HU := Aside0.mk (HY.out.put2 hb6 hg6); obtain ⟨z0, z1, z2, z3⟩ := cells4 HU.out.b2; clear hb6 hg6 HY)
    | ((with_reducible refine gate_store (t := 56) (p := 4) (v := .tmp 37) rfl ?_); refine put_event rfl rfl rfl 56 g4 0 _ #[.slice (some ⟨b', 0, none⟩) (ps.length + 1) d', .slice D1 ss.length d1, .int .i64 a, .int .i64 c] (.agg #[.slice (some ⟨b', 0, none⟩) (ps.length + 1) d', .slice D1 ss.length d1, .int .i64 a, .int .i64 c]) [.slice (some ⟨b', 0, none⟩) (ps.length + 1) d', .slice D1 ss.length d1, .int .i64 a, .int .i64 c] rfl rfl HU.out.b4 rfl (by kernel_rfl) (by simp) (by simp [Value.oneCell']) rfl ?_; intro wz hbz hgz; have BZ := Aside0.mk hbz; have HZ := Aside0.mk hgz; clear hbz hgz))
  refine bodyPost_ret (results_cell_row rfl _ _ g4 56 _ (0, 0) _ rfl BZ.out Try.underlying56 rfl (by kernel_rfl)) rfl ?_
  exact ⟨_, _, rfl, Rbx HU.out.r0 HU.out.b4 (by decide) HZ.out, Rbx HU.out.r1 HU.out.b4 (by decide) HZ.out, below_put HZ.out HU.out.l4 HU.out.k.size HU.out.k⟩
theorem setPiece_x (A0 : Option Addr) (c0 : Nat) (ps : List S25) (A1 : Option Addr) (c1 : Nat) (ss : List S71) (a c : Int) (p : S25) (w : World) (hr0 : Kd.C k25 w A0 ps.length ps) (hc0 : ps.length ≤ c0) (hr1 : Kd.C k71 w A1 ss.length ss) (hc1 : ss.length ≤ c1) (hl : ps.length < 1466015503700 ∧ ss.length < 1000000000000) :
    Calls Try.prog 60 #[.agg #[.slice A0 ps.length c0, .slice A1 ss.length c1, .int .i64 a, .int .i64 c], .agg #[.int .i64 p.f0, .int .i64 p.f1, .int .i64 p.f2, .int .i64 p.f3, .int .i64 p.f4, .int .i64 p.f5, .int .i64 p.f6, .int .i64 p.f7, .int .i64 p.f8, .int .i64 p.f9, .int .i64 p.f10, .bool p.f11, .bool p.f12]] w fun e w' => ∃ (v0 v1 : Value), e = .returned (.agg #[v0, v1, .int .i64 a, .int .i64 c]) ∧ Kd.R k25 25 w' w.heap.size (fun _ => True) v0 (setP ps p) ∧ Kd.R k71 71 w' w.heap.size (fun _ => True) v1 ss ∧ Below w.heap.size w w' := by
  rcases atP_cases ps p.f0 with hk | ⟨j, hj, hk⟩
  · rcases gtP_cases ps p.f0 with hg | ⟨m, hm, hg⟩
    · have e : setP ps p = ps.take ps.length ++ [p] ++ ps.drop ps.length := by
        unfold setP gapP
        rw [hk, hg]
        rfl
      rw [e]
      exact setPiece_end A0 c0 ps A1 c1 ss a c p w hr0 hc0 hr1 hc1 hl hk hg
    · have e : setP ps p = ps.take m ++ [p] ++ ps.drop m := by
        unfold setP gapP
        rw [hk, hg, if_neg (by decide), if_pos (by omega), Int.toNat_natCast]
      rw [e]
      exact setPiece_mid A0 c0 ps A1 c1 ss a c p w hr0 hc0 hr1 hc1 hl m hm hk hg
  · have e : setP ps p = ps.set (j : Int).toNat p := by
      unfold setP
      rw [hk, if_pos (by omega)]
    rw [e]
    exact setPiece_old A0 c0 ps A1 c1 ss a c p w hr0 hc0 hr1 hc1 hl j hj hk
end Go.Proofs.Ytfkidiagmekleaa.QAll
