/- The reference's StateOk, walked by hand: it answers just stOk, a plain function of the lists and numbers (no condition but that the rows are read). -/
import Derived.Test.YtfkidiagmekleaaHBase
import Derived.Test.YtfkidiagmekleaaQAllx0
import Derived.Test.YtfkidiagmekleaaRBas
import Derived.Test.YtfkidiagmekleaaRSOk
import Derived.Test.YtfkidiagmekleaaRSds
namespace Go.Proofs.Ytfkidiagmekleaa.QAll
open Go.RowKit Go.Proofs.YtfkidiagmekleaaW.PrintWords Go.Proofs.YtfkidiagmekleaaW.PrintLast Go.Proofs.YtfkidiagmekleaaW.PrintMore
set_option linter.unusedVariables false
set_option linter.unusedSimpArgs false
def inr (a lo hi : Int) : Bool := decide (lo ≤ a ∧ a ≤ hi)
theorem inr_if (a lo hi : Int) : (if a ≥ lo then (some (decide (a ≤ hi))) else (some false)) = some (inr a lo hi) := by
  unfold inr
  by_cases h : a ≥ lo
  · rw [if_pos h]; congr 1; simp [show lo ≤ a from h]
  · rw [if_neg h]; congr 1; simp; omega
theorem spec_in (a lo hi : Int) : spec_l1In.f a lo hi = some (inr a lo hi) := inr_if a lo hi
theorem in_b (a lo hi : Int) (w : World) : Calls Try.prog 84 #[.int .i64 a, .int .i64 lo, .int .i64 hi] w fun e w' => e = .returned (.bool (inr a lo hi)) ∧ Drawn0 w w' := spec_l1In.calls a lo hi _ w (spec_in a lo hi)
def sideOk (x : S71) : Bool := inr x.f0 (-2147483647) 2147483647 && inr x.f1 0 2147483647
def pok (a0 a1 a2 a3 a4 a5 a6 a7 a8 a9 a10 : Int) (a11 a12 : Bool) : Bool :=
  inr a0 1 99 && (inr a1 0 2 && (inr a2 0 2 && (inr a3 1 4 && (inr a4 0 9999 && (inr a5 0 999 && (inr a6 0 999 && (inr a7 0 63 && (inr a8 0 2147483647 && (inr a9 0 2147483647 && (inr a10 0 2147483647 && (decide (a3 = 2) || (decide (a2 = a1) && (decide (a8 = 0) && (decide (a9 = 0) && (decide (a10 = 0) && (!a11 && !a12))))))))))))))))
def pokS (x : S25) : Bool := pok x.f0 x.f1 x.f2 x.f3 x.f4 x.f5 x.f6 x.f7 x.f8 x.f9 x.f10 x.f11 x.f12
theorem spec_pieceok (k : Nat) (a0 a1 a2 a3 a4 a5 a6 a7 a8 a9 a10 : Int) (a11 a12 : Bool) (hk : 1 ≤ k) : spec_PieceOk.f k a0 a1 a2 a3 a4 a5 a6 a7 a8 a9 a10 a11 a12 = some (pok a0 a1 a2 a3 a4 a5 a6 a7 a8 a9 a10 a11 a12) := by
  obtain ⟨k, rfl⟩ : ∃ q, k = q + 1 := ⟨k - 1, by omega⟩
  have hj : spec_PieceOk.j0 (k + 1) true a0 a1 a2 a3 a4 a5 a6 a7 a8 a9 a10 a11 a12 = some false := by simp only [spec_PieceOk.j0, if_true]
  unfold spec_PieceOk.f pok
  simp only [spec_in, Option.bind_some, hj]
  cases inr a0 1 99
  · simp only [Bool.false_eq_true, if_false, Bool.false_and]
  cases inr a1 0 2
  · simp only [Bool.false_eq_true, if_false, if_true, Bool.false_and, Bool.true_and]
  cases inr a2 0 2
  · simp only [Bool.false_eq_true, if_false, if_true, Bool.false_and, Bool.true_and]
  cases inr a3 1 4
  · simp only [Bool.false_eq_true, if_false, if_true, Bool.false_and, Bool.true_and]
  cases inr a4 0 9999
  · simp only [Bool.false_eq_true, if_false, if_true, Bool.false_and, Bool.true_and]
  cases inr a5 0 999
  · simp only [Bool.false_eq_true, if_false, if_true, Bool.false_and, Bool.true_and]
  cases inr a6 0 999
  · simp only [Bool.false_eq_true, if_false, if_true, Bool.false_and, Bool.true_and]
  cases inr a7 0 63
  · simp only [if_true, Bool.false_and, Bool.true_and, Bool.not_false, hj]
  simp only [spec_PieceOk.j0, spec_in, Option.bind_some, if_true, Bool.true_and, Bool.not_true, Bool.false_eq_true, if_false]
  cases inr a8 0 2147483647
  · simp only [Bool.false_eq_true, if_false, Bool.false_and]
  cases inr a9 0 2147483647
  · simp only [Bool.false_eq_true, if_false, if_true, Bool.false_and, Bool.true_and]
  cases inr a10 0 2147483647
  · simp only [Bool.false_eq_true, if_false, if_true, Bool.false_and, Bool.true_and]
  simp only [if_true, Bool.true_and]
  by_cases h3 : a3 = 2
  · simp [h3]
  by_cases h2 : a2 = a1
  · by_cases h8 : a8 = 0
    · by_cases h9 : a9 = 0
      · by_cases h10 : a10 = 0
        · cases a11 <;> simp [h3, h2, h8, h9, h10]
        · simp [h3, h2, h8, h9, h10]
      · simp [h3, h2, h8, h9]
    · simp [h3, h2, h8]
  · simp [h3, h2]
theorem pok_spec (y : S25) (w : World) : Calls Try.prog 19 #[.agg #[.int .i64 y.f0, .int .i64 y.f1, .int .i64 y.f2, .int .i64 y.f3, .int .i64 y.f4, .int .i64 y.f5, .int .i64 y.f6, .int .i64 y.f7, .int .i64 y.f8, .int .i64 y.f9, .int .i64 y.f10, .bool y.f11, .bool y.f12]] w fun e w' => e = .returned (.bool (pokS y)) ∧ Below w.heap.size w w' := spec_PieceOk.calls 1 _ _ _ _ _ _ _ _ _ _ _ _ _ _ w (spec_pieceok 1 _ _ _ _ _ _ _ _ _ _ _ _ _ (Nat.le_refl _))
def goodAt (ps : List S25) (ns c : Int) (i : Nat) (p : S25) : Bool :=
  pokS p && (!(decide (0 < i) && decide (p.f0 ≤ (ps.getD (i - 1) z25).f0)) && (decide (p.f1 < ns) && (decide (p.f2 < ns) && decide (p.f4 ≤ c))))
def goodFrom (ps : List S25) (ns c : Int) : Nat → List S25 → Bool
  | _, [] => true
  | i, p :: r => goodAt ps ns c i p && goodFrom ps ns c (i + 1) r
def stOk (ps : List S25) (ss : List S71) (a c : Int) : Bool :=
  decide (ps.length ≤ 8) && (inr ss.length 2 3 && (inr a 0 (ss.length - 1) && (inr c 0 9999 && (goodFrom ps ss.length c 0 ps && ss.all sideOk))))
theorem side_spec (y : S71) (w : World) : Calls Try.prog 99 #[.agg #[.int .i64 y.f0, .int .i64 y.f1, .bool y.f2]] w fun e w' => e = .returned (.bool (sideOk y)) ∧ Below w.heap.size w w' := spec_l5Side.calls _ _ _ _ w (by
  unfold spec_l5Side.f sideOk
  simp only [spec_in, Option.bind_some]
  cases inr y.f0 (-2147483647) 2147483647 <;> simp)
theorem bad_at {ps : List S25} {ns c : Int} {k : Nat} {y : S25} {r : List S25} {q b : Bool} (h : q = (goodFrom ps ns c k r && b)) {t : List S25} (e : r = y :: t) (hg : goodAt ps ns c k y = false) : q = false := by
  subst e
  rw [h, goodFrom, hg, Bool.false_and, Bool.false_and]
theorem good_at {ps : List S25} {ns c : Int} {k : Nat} {y : S25} {r : List S25} {q b : Bool} (h : q = (goodFrom ps ns c k r && b)) {t : List S25} (e : r = y :: t) (hg : goodAt ps ns c k y = true) : q = (goodFrom ps ns c (k + 1) t && b) := by
  subst e
  rw [h, goodFrom, hg, Bool.true_and]
def MK42 (k : Nat) : Array Bool := ((List.range 42).map fun j => k.testBit j).toArray
theorem PUT_ {p : Prop} (h : p := by simp only [Act.put, List.setIfInBounds_toArray, List.set_cons_zero, List.set_cons_succ, i64_w, i32_w]; rfl) : p := h
def spec_StateOk.T7 : Bool × List (List Nat × List Nat) := (true, [([], []), ([0], [0]), ([1], [1]), ([2, 1], [2]), ([3], [3]), ([4, 3], [3, 4]), ([5, 3, 3], [3, 5]), ([6], [6]), ([7, 6], [6, 7]), ([6], [6]), ([9, 6], [6, 9]), ([8, 10, 6], [6, 8, 10]), ([11, 6], [6, 11]), ([12, 6], [6, 12]), ([6], [6]), ([14, 6], [6, 14]), ([13, 15, 6], [6, 13, 15]), ([6, 16, 3], [3, 6, 16]), ([3, 17], [3, 17]), ([18, 6], [18]), ([19], [19]), ([20, 19], [19, 20]), ([19], [19]), ([22, 19], [19, 22]), ([23, 19], [19, 23]), ([21, 24, 19], [19, 21, 24]), ([19, 25], [19, 25]), ([26, 19], [26]), ([27], [27]), ([28, 27], [27, 28]), ([27], [27]), ([30, 27], [27, 30]), ([31, 27], [27, 31]), ([29, 32, 27], [27, 29, 32]), ([27, 33], [27, 33]), ([34, 27], [34]), ([35], [35]), ([36, 35], [35, 36]), ([35], [35]), ([38, 35], [35, 38]), ([37, 39, 35], [35, 37, 39]), ([35, 40], [35, 40])])
def spec_StateOk.B7 : List Nat := [0, 1, 3, 7, 15, 31, 63, 127, 255, 127, 639, 2047, 4095, 8191, 127, 16511, 65535, 131071, 262143, 524287, 1048575, 2097151, 1048575, 5242879, 13631487, 33554431, 67108863, 134217727, 268435455, 536870911, 268435455, 1342177279, 3489660927, 8589934591, 17179869183, 34359738367, 68719476735, 137438953471, 68719476735, 343597383679, 1099511627775, 2199023255551]
theorem spec_StateOk.tab7 : rtab .any (opsOf Try.f36 7) = spec_StateOk.T7 := by kernel_rfl
theorem spec_StateOk.bits7 : waitsOk spec_StateOk.T7.2 spec_StateOk.B7 = true := by kernel_rfl
set_option maxHeartbeats 4000000 in
set_option maxRecDepth 100000 in
theorem spec_StateOk.calls0 (A0 : Option Addr) (c0 : Nat) (ps : List S25) (A1 : Option Addr) (c1 : Nat) (ss : List S71) (a c : Int) (w : World) (hr0 : Kd.C k25 w A0 ps.length ps) (hr1 : Kd.C k71 w A1 ss.length ss) :
    Calls Try.prog 36 #[.agg #[.slice A0 ps.length c0, .slice A1 ss.length c1, .int .i64 a, .int .i64 c]] w fun e w' => e = .returned (.bool (stOk ps ss a c)) ∧ Below w.heap.size w w' := by
  have hu56 := Try.underlying56
  have hu25 := Try.underlying25
  have HR0 := Aside0.mk hr0
  have HR1 := Aside0.mk hr1
  have hb0 : ps.length ≤ 9223372036854775807 := hr0.2.1
  have hb1 : ss.length ≤ 9223372036854775807 := hr1.2.1
  clear hr0 hr1
  by_cases g1 : 8 < ps.length
  · have HX := Aside0.mk (show stOk ps ss a c = false by unfold stOk; rw [decide_eq_false (by omega)]; rfl)
    go_enter Try.func36, Try.ntmps36
    go_wp2
    go_ret
    rw [HX.out]
    exact ⟨rfl, below_alloc (Below.refl _ _) _⟩
  have g1' : decide (ps.length ≤ 8) = true := decide_eq_true (by omega)
  cases g2 : inr (ss.length : Int) 2 3 with
  | false =>
    have HX := Aside0.mk (show stOk ps ss a c = false by unfold stOk; rw [g1', g2]; rfl)
    go_enter Try.func36, Try.ntmps36
    go_wp2_with (go_at_call 84; ((with_reducible refine (in_b _ _ _ _).mono ?_); rintro e w1 ⟨rfl, ⟨n, rfl⟩⟩))
    go_ret
    rw [HX.out]
    exact ⟨rfl, pw_below_drewN (below_alloc (Below.refl _ _) _) _⟩
  | true =>
  have hs2 : 2 ≤ (ss.length : Int) ∧ (ss.length : Int) ≤ 3 := by simpa [inr] using g2
  cases g3 : inr a 0 ((ss.length : Int) - 1) with
  | false =>
    have HX := Aside0.mk (show stOk ps ss a c = false by unfold stOk; rw [g1', g2, g3]; rfl)
    go_enter Try.func36, Try.ntmps36
    go_wp2_with (go_at_call 84; ((with_reducible refine (in_b _ _ _ _).mono ?_); rintro e w1 ⟨rfl, ⟨n, rfl⟩⟩))
    go_ret
    rw [HX.out]
    exact ⟨rfl, pw_below_drewN (below_alloc (Below.refl _ _) _) _⟩
  | true =>
  cases g4 : inr c 0 9999 with
  | false =>
    have HX := Aside0.mk (show stOk ps ss a c = false by unfold stOk; rw [g1', g2, g3, g4]; rfl)
    go_enter Try.func36, Try.ntmps36
    go_wp2_with (go_at_call 84; ((with_reducible refine (in_b _ _ _ _).mono ?_); rintro e w1 ⟨rfl, ⟨n, rfl⟩⟩))
    go_ret
    rw [HX.out]
    exact ⟨rfl, pw_below_drewN (below_alloc (Below.refl _ _) _) _⟩
  | true =>
  have HX := Aside0.mk (show stOk ps ss a c = (goodFrom ps ss.length c 0 ps && ss.all sideOk) by unfold stOk; rw [g1', g2, g3, g4]; rfl)
  go_enter Try.func36, Try.ntmps36
  go_wp2_with (go_at_call 84; ((with_reducible refine (in_b _ _ _ _).mono ?_); rintro e w1 ⟨rfl, ⟨n, rfl⟩⟩))
  go_loopw [3] (fun i wr => ∃ k : Nat, k ≤ ps.length ∧ i = .int .i64 k ∧ Aside0 (Below w.heap.size w wr) ∧ Aside0 (wr.heap[w.heap.size]? = some (.cells #[.slice A0 ps.length c0, .slice A1 ss.length c1, .int .i64 a, .int .i64 c] 56 (0, 0))) ∧ Aside0 (stOk ps ss a c = (goodFrom ps ss.length c k (ps.drop k) && ss.all sideOk))) (fun i _ => ps.length - (intOf i).toNat)
  case atStart => exact ⟨0, Nat.zero_le _, rfl, ⟨pw_below_drewN (below_alloc (Below.refl _ _) _) _⟩, ⟨blk_new _ _⟩, HX⟩
  case round =>
    obtain ⟨k, hk, rfl, BW, HS, HE⟩ := hrel
    by_cases hlt : k < ps.length
    · have hltz : (k : Int) < (ps.length : Int) := by omega
      obtain ⟨ad, hA, hx0, hx1, hx2, hx3, hx4, hx5, hx6, hx7, hx8, hx9, hx10, hx11, hx12⟩ := at_T25 (Kd.C_below HR0.out BW.out) (k : Int) (by omega) hltz
      simp only [Int.toNat_natCast] at hx0 hx1 hx2 hx3 hx4 hx5 hx6 hx7 hx8 hx9 hx10 hx11 hx12
      subst hA
      have HY := Aside0.mk (show ps.drop k = rd_T25 ps (k : Int) :: ps.drop (k + 1) by rw [List.drop_eq_getElem_cons hlt]; simp [rd_T25, hlt])
      generalize rd_T25 ps (k : Int) = y at hx0 hx1 hx2 hx3 hx4 hx5 hx6 hx7 hx8 hx9 hx10 hx11 hx12 HY
      have hs0 : wr.cell? ⟨w.heap.size, 0, none⟩ = some (.slice (some ad) ps.length c0) := (blk_cell HS.out 0).trans rfl
      have hs1 : wr.cell? ⟨w.heap.size, 1, none⟩ = some (.slice A1 ss.length c1) := (blk_cell HS.out 1).trans rfl
      have hs3 : wr.cell? ⟨w.heap.size, 3, none⟩ = some (.int .i64 c) := (blk_cell HS.out 3).trans rfl
      have hkz : (0 : Int) ≤ (k : Int) := by omega
      go_wp2_with (first
        | ((with_reducible refine gate_dst (N := 4) rfl ?_); refine box_event (N := 4) rfl rfl (cs := #[.int .i64 0, .int .i64 0, .int .i64 0, .int .i64 0, .int .i64 0, .int .i64 0, .int .i64 0, .int .i64 0, .int .i64 0, .int .i64 0, .int .i64 0, .bool false, .bool false]) (t := 25) ?hr ?_; (case hr => first | (go_simp; done) | (go_simp; rfl)); intro gp hgp w2 hbox hb; have GP := Aside0.mk (show w.heap.size ≤ gp by rw [hgp]; exact BW.out.size); have NE := Aside0.mk (show w.heap.size ≠ gp by have := blk_lt HS.out; omega); have HS2 := Aside0.mk (blk_below HS.out hb); have HB2 := Aside0.mk (below_step BW.out hb); have BX := Aside0.mk hbox; clear hgp hbox hb)
        | ((with_reducible refine gate_store (t := 25) (p := 4) (v := .tmp 44) rfl ?_); refine put_event rfl rfl rfl 25 gp 0 _ #[.int .i64 y.f0, .int .i64 y.f1, .int .i64 y.f2, .int .i64 y.f3, .int .i64 y.f4, .int .i64 y.f5, .int .i64 y.f6, .int .i64 y.f7, .int .i64 y.f8, .int .i64 y.f9, .int .i64 y.f10, .bool y.f11, .bool y.f12] (.agg #[.int .i64 y.f0, .int .i64 y.f1, .int .i64 y.f2, .int .i64 y.f3, .int .i64 y.f4, .int .i64 y.f5, .int .i64 y.f6, .int .i64 y.f7, .int .i64 y.f8, .int .i64 y.f9, .int .i64 y.f10, .bool y.f11, .bool y.f12]) [.int .i64 y.f0, .int .i64 y.f1, .int .i64 y.f2, .int .i64 y.f3, .int .i64 y.f4, .int .i64 y.f5, .int .i64 y.f6, .int .i64 y.f7, .int .i64 y.f8, .int .i64 y.f9, .int .i64 y.f10, .bool y.f11, .bool y.f12] rfl rfl BX.out rfl (by kernel_rfl) (by simp) (by simp [Value.oneCell']) rfl ?_; intro w3 hbox3 hg3; have HS3 := Aside0.mk (blk_step hg3 NE.out HS2.out); have HB3 := Aside0.mk (below_put hg3 GP.out (below_sz HB2.out) HB2.out); have BX3 := Aside0.mk hbox3; clear hbox3 hg3))
      cases hk0 : decide ((0 : Int) < (k : Int)) with
      | false =>
        have hkp : ¬ 0 < k := by have := of_decide_eq_false hk0; omega
        have HBd := Aside0.mk (below_drew1 HB3.out)
        have HSd := Aside0.mk (blk_drew HS3.out)
        have BXd := Aside0.mk (blk_drew BX3.out)
        refine start_ (n := 42) (S := fun w' => w'.cell? ⟨gp, 0, none⟩ = some (.int .i64 y.f0) ∧ w'.cell? ⟨gp, 1, none⟩ = some (.int .i64 y.f1) ∧ w'.cell? ⟨gp, 2, none⟩ = some (.int .i64 y.f2) ∧ w'.cell? ⟨gp, 3, none⟩ = some (.int .i64 y.f3) ∧ w'.cell? ⟨gp, 4, none⟩ = some (.int .i64 y.f4) ∧ w'.cell? ⟨gp, 5, none⟩ = some (.int .i64 y.f5) ∧ w'.cell? ⟨gp, 6, none⟩ = some (.int .i64 y.f6) ∧ w'.cell? ⟨gp, 7, none⟩ = some (.int .i64 y.f7) ∧ w'.cell? ⟨gp, 8, none⟩ = some (.int .i64 y.f8) ∧ w'.cell? ⟨gp, 9, none⟩ = some (.int .i64 y.f9) ∧ w'.cell? ⟨gp, 10, none⟩ = some (.int .i64 y.f10) ∧ w'.cell? ⟨gp, 11, none⟩ = some (.bool y.f11) ∧ w'.cell? ⟨gp, 12, none⟩ = some (.bool y.f12) ∧ w'.cell? ⟨w.heap.size, 0, none⟩ = some (.slice (some ad) ps.length c0) ∧ w'.cell? ⟨w.heap.size, 1, none⟩ = some (.slice A1 ss.length c1) ∧ w'.cell? ⟨w.heap.size, 2, none⟩ = some (.int .i64 a) ∧ w'.cell? ⟨w.heap.size, 3, none⟩ = some (.int .i64 c)) (ds := []) #[false, false, false, false, false, false, false, false, false, false, false, false, false, false, false, false, false, false, false, false, false, false, false, false, false, false, false, false, false, false, false, false, false, false, false, false, false, false, false, false, false, false] (by kernel_rfl) rfl rfl ⟨(blk_cell BXd.out 0).trans rfl, (blk_cell BXd.out 1).trans rfl, (blk_cell BXd.out 2).trans rfl, (blk_cell BXd.out 3).trans rfl, (blk_cell BXd.out 4).trans rfl, (blk_cell BXd.out 5).trans rfl, (blk_cell BXd.out 6).trans rfl, (blk_cell BXd.out 7).trans rfl, (blk_cell BXd.out 8).trans rfl, (blk_cell BXd.out 9).trans rfl, (blk_cell BXd.out 10).trans rfl, (blk_cell BXd.out 11).trans rfl, (blk_cell BXd.out 12).trans rfl, (blk_cell HSd.out 0).trans rfl, (blk_cell HSd.out 1).trans rfl, (blk_cell HSd.out 2).trans rfl, (blk_cell HSd.out 3).trans rfl⟩ (fun hHeld => ?_); refine with_tabW spec_StateOk.tab7 spec_StateOk.bits7 (fun HT_ HW_ => ?_)
        generalize w3.drew = w4 at HBd HSd BXd hHeld ⊢
        refine get_ (i := 0) (N := some 45) (MK42 1) hHeld rfl rfl (fun _ _ _ h => h) (take_ofW HT_.out HW_.out (by kernel_rfl)) (by rfl) (by rintro w' ⟨s0, s1, s2, s3, s4, s5, s6, s7, s8, s9, s10, s11, s12, s13, s14, s15, s16⟩; go_simp; with_reducible rfl) PUT_ ?_
        refine one_ (i := 1) (N := some 46) (MK42 3) rfl rfl (one_of HT_.out (by kernel_rfl)) (by decide) (fun K hK => ?_)
        refine goes_ Try.func19 (by kernel_rfl) rfl #[.agg #[.int .i64 y.f0, .int .i64 y.f1, .int .i64 y.f2, .int .i64 y.f3, .int .i64 y.f4, .int .i64 y.f5, .int .i64 y.f6, .int .i64 y.f7, .int .i64 y.f8, .int .i64 y.f9, .int .i64 y.f10, .bool y.f11, .bool y.f12]] (by rfl) rfl rfl (by (try simp only [List.map_toArray, List.map_cons, List.map_nil]); first | done | rfl) ?_
        with_reducible refine (pok_spec y _).mono ?_
        rintro e w5 ⟨rfl, hb⟩
        refine ⟨_, rfl, ?_⟩
        have HB4 := Aside0.mk (below_step HBd.out hb)
        have HS4 := Aside0.mk (blk_below HSd.out hb)
        have BX4 := Aside0.mk (blk_below BXd.out hb)
        clear hb
        refine hK.out _ _ ⟨(blk_cell BX4.out 0).trans rfl, (blk_cell BX4.out 1).trans rfl, (blk_cell BX4.out 2).trans rfl, (blk_cell BX4.out 3).trans rfl, (blk_cell BX4.out 4).trans rfl, (blk_cell BX4.out 5).trans rfl, (blk_cell BX4.out 6).trans rfl, (blk_cell BX4.out 7).trans rfl, (blk_cell BX4.out 8).trans rfl, (blk_cell BX4.out 9).trans rfl, (blk_cell BX4.out 10).trans rfl, (blk_cell BX4.out 11).trans rfl, (blk_cell BX4.out 12).trans rfl, (blk_cell HS4.out 0).trans rfl, (blk_cell HS4.out 1).trans rfl, (blk_cell HS4.out 2).trans rfl, (blk_cell HS4.out 3).trans rfl⟩ (fun hHeld => ?_)
        clear hK K
        refine norm_ (a' := ?_) ?_ ?_
        rotate_left
        · show Act.put _ (some 46) _ = _
          simp only [Act.put, List.setIfInBounds_toArray, List.set_cons_zero, List.set_cons_succ, i64_w, i32_w]
          rfl
        cases hp : pokS y with
        | true =>
          as_aux_lemma =>
            refine on_ (i := 2) (N := some 47) (MK42 7) rfl rfl (fun _ _ _ h => h) (any_of HT_.out (by kernel_rfl)) (by rfl) (by intro w'; go_simp; with_reducible rfl) PUT_ ?_
            refine on_ (i := 3) (N := some 48) (MK42 15) rfl rfl (fun _ _ _ h => h) (any_of HT_.out (by kernel_rfl)) (by rfl) (by intro w'; go_simp; with_reducible rfl) PUT_ ?_
            refine on_ (i := 4) (N := some 49) (MK42 31) rfl rfl (fun _ _ _ h => h) (any_of HT_.out (by kernel_rfl)) (by rfl) (by intro w'; go_simp; with_reducible rfl) PUT_ ?_
            refine on_ (i := 5) (N := some 50) (MK42 63) rfl rfl (fun _ _ _ h => h) (any_of HT_.out (by kernel_rfl)) (by rfl) (by intro w'; go_simp; with_reducible rfl) PUT_ ?_
            refine on_ (i := 6) (N := some 51) (MK42 127) rfl rfl (fun _ _ _ h => h) (any_of HT_.out (by kernel_rfl)) (by rfl) (by intro w'; go_simp; with_reducible rfl) PUT_ ?_
            refine off_row (i := 7) (N := some 52) (MK42 255) rfl rfl (fun _ _ _ h => h) (any_of HT_.out (by kernel_rfl)) (by rfl) PUT_ ?_
            refine off_row (i := 8) (N := some 53) (MK42 511) rfl rfl (fun _ _ _ h => h) (any_of HT_.out (by kernel_rfl)) (by rfl) PUT_ ?_
            refine off_row (i := 9) (N := some 54) (MK42 1023) rfl rfl (fun _ _ _ h => h) (any_of HT_.out (by kernel_rfl)) (by rfl) PUT_ ?_
            refine off_row (i := 10) (N := some 55) (MK42 2047) rfl rfl (fun _ _ _ h => h) (any_of HT_.out (by kernel_rfl)) (by rfl) PUT_ ?_
            refine off_row (i := 11) (N := some 56) (MK42 4095) rfl rfl (fun _ _ _ h => h) (any_of HT_.out (by kernel_rfl)) (by rfl) PUT_ ?_
            refine off_row (i := 12) (N := some 57) (MK42 8191) rfl rfl (fun _ _ _ h => h) (any_of HT_.out (by kernel_rfl)) (by rfl) PUT_ ?_
            refine off_row (i := 13) (N := some 58) (MK42 16383) rfl rfl (fun _ _ _ h => h) (any_of HT_.out (by kernel_rfl)) (by rfl) PUT_ ?_
            refine off_row (i := 14) (N := some 59) (MK42 32767) rfl rfl (fun _ _ _ h => h) (any_of HT_.out (by kernel_rfl)) (by rfl) PUT_ ?_
            refine off_row (i := 15) (N := some 60) (MK42 65535) rfl rfl (fun _ _ _ h => h) (any_of HT_.out (by kernel_rfl)) (by rfl) PUT_ ?_
            refine off_row (i := 16) (N := some 61) (MK42 131071) rfl rfl (fun _ _ _ h => h) (any_of HT_.out (by kernel_rfl)) (by rfl) PUT_ ?_
            refine on_ (i := 17) (N := some 62) (MK42 262143) rfl rfl (fun _ _ _ h => h) (any_of HT_.out (by kernel_rfl)) (by rfl) (by intro w'; go_simp; with_reducible rfl) PUT_ ?_
            refine on_ (i := 18) (N := some 63) (MK42 524287) rfl rfl (fun _ _ _ h => h) (any_of HT_.out (by kernel_rfl)) (by rfl) (by intro w'; go_simp; with_reducible rfl) PUT_ ?_
            refine on_ (i := 19) (N := some 64) (MK42 1048575) rfl rfl (fun _ _ _ h => h) (any_of HT_.out (by kernel_rfl)) (by rfl) (by intro w'; go_simp; with_reducible rfl) PUT_ ?_
            refine on_ (i := 20) (N := some 65) (MK42 2097151) rfl rfl (fun _ _ _ h => h) (any_of HT_.out (by kernel_rfl)) (by rfl) (by intro w'; go_simp; with_reducible rfl) PUT_ ?_
            refine get_ (i := 21) (N := some 66) (MK42 4194303) hHeld rfl rfl (fun _ _ _ h => h) (take_ofW HT_.out HW_.out (by kernel_rfl)) (by rfl) (by rintro w' ⟨s0, s1, s2, s3, s4, s5, s6, s7, s8, s9, s10, s11, s12, s13, s14, s15, s16⟩; go_simp; with_reducible rfl) PUT_ ?_
            refine on_ (i := 22) (N := some 67) (MK42 8388607) rfl rfl (fun _ _ _ h => h) (any_of HT_.out (by kernel_rfl)) (by rfl) (by intro w'; go_simp; with_reducible rfl) PUT_ ?_
            refine get_ (i := 23) (N := some 68) (MK42 16777215) hHeld rfl rfl (fun _ _ _ h => h) (take_ofW HT_.out HW_.out (by kernel_rfl)) (by rfl) (by rintro w' ⟨s0, s1, s2, s3, s4, s5, s6, s7, s8, s9, s10, s11, s12, s13, s14, s15, s16⟩; go_simp; with_reducible rfl) PUT_ ?_
            refine on_ (i := 24) (N := some 69) (MK42 33554431) rfl rfl (fun _ _ _ h => h) (any_of HT_.out (by kernel_rfl)) (by rfl) (by intro w'; go_simp; with_reducible rfl) PUT_ ?_
            cases ho : decide ((ss.length : Int) ≤ y.f1) with
            | true =>
              as_aux_lemma =>
                have ho_ : ¬ y.f1 < (ss.length : Int) := by have := of_decide_eq_true ho; omega
                refine on_ (i := 25) (N := some 70) (MK42 67108863) rfl rfl (fun _ _ _ h => h) (any_of HT_.out (by kernel_rfl)) (by rfl) (by intro w'; go_simp; with_reducible rfl) PUT_ ?_
                refine on_ (i := 26) (N := some 71) (MK42 134217727) rfl rfl (fun _ _ _ h => h) (any_of HT_.out (by kernel_rfl)) (by rfl) (by intro w'; go_simp; with_reducible rfl) PUT_ ?_
                refine on_ (i := 27) (N := some 72) (MK42 268435455) rfl rfl (fun _ _ _ h => h) (any_of HT_.out (by kernel_rfl)) (by rfl) (by intro w'; go_simp; with_reducible rfl) PUT_ ?_
                refine off_row (i := 28) (N := some 73) (MK42 536870911) rfl rfl (fun _ _ _ h => h) (any_of HT_.out (by kernel_rfl)) (by rfl) PUT_ ?_
                refine off_row (i := 29) (N := some 74) (MK42 1073741823) rfl rfl (fun _ _ _ h => h) (any_of HT_.out (by kernel_rfl)) (by rfl) PUT_ ?_
                refine off_row (i := 30) (N := some 75) (MK42 2147483647) rfl rfl (fun _ _ _ h => h) (any_of HT_.out (by kernel_rfl)) (by rfl) PUT_ ?_
                refine off_row (i := 31) (N := some 76) (MK42 4294967295) rfl rfl (fun _ _ _ h => h) (any_of HT_.out (by kernel_rfl)) (by rfl) PUT_ ?_
                refine off_row (i := 32) (N := some 77) (MK42 8589934591) rfl rfl (fun _ _ _ h => h) (any_of HT_.out (by kernel_rfl)) (by rfl) PUT_ ?_
                refine off_row (i := 33) (N := some 78) (MK42 17179869183) rfl rfl (fun _ _ _ h => h) (any_of HT_.out (by kernel_rfl)) (by rfl) PUT_ ?_
                refine on_ (i := 34) (N := some 79) (MK42 34359738367) rfl rfl (fun _ _ _ h => h) (any_of HT_.out (by kernel_rfl)) (by rfl) (by intro w'; go_simp; with_reducible rfl) PUT_ ?_
                refine on_ (i := 35) (N := some 80) (MK42 68719476735) rfl rfl (fun _ _ _ h => h) (any_of HT_.out (by kernel_rfl)) (by rfl) (by intro w'; go_simp; with_reducible rfl) PUT_ ?_
                refine off_row (i := 36) (N := some 81) (MK42 137438953471) rfl rfl (fun _ _ _ h => h) (any_of HT_.out (by kernel_rfl)) (by rfl) PUT_ ?_
                refine off_row (i := 37) (N := some 82) (MK42 274877906943) rfl rfl (fun _ _ _ h => h) (any_of HT_.out (by kernel_rfl)) (by rfl) PUT_ ?_
                refine off_row (i := 38) (N := some 83) (MK42 549755813887) rfl rfl (fun _ _ _ h => h) (any_of HT_.out (by kernel_rfl)) (by rfl) PUT_ ?_
                refine off_row (i := 39) (N := some 84) (MK42 1099511627775) rfl rfl (fun _ _ _ h => h) (any_of HT_.out (by kernel_rfl)) (by rfl) PUT_ ?_
                refine off_row (i := 40) (N := some 85) (MK42 2199023255551) rfl rfl (fun _ _ _ h => h) (any_of HT_.out (by kernel_rfl)) (by rfl) PUT_ ?_
                refine on_ (i := 41) (N := some 86) (MK42 4398046511103) rfl rfl (fun _ _ _ h => h) (any_of HT_.out (by kernel_rfl)) (by rfl) (by intro w'; go_simp; with_reducible rfl) PUT_ ?_
                have HG := Aside0.mk (show goodAt ps ss.length c k y = false by unfold goodAt; simp [hkp, hp, ho_])
                refine done_ (done_of HT_.out (by kernel_rfl)) ?_
                (try go_wp2)
                go_ret
                rw [bad_at HE.out HY.out HG.out]
                exact ⟨rfl, HB4.out⟩
            | false =>
              as_aux_lemma =>
                have ho_ : y.f1 < (ss.length : Int) := by have := of_decide_eq_false ho; omega
                refine on_ (i := 25) (N := some 70) (MK42 67108863) rfl rfl (fun _ _ _ h => h) (any_of HT_.out (by kernel_rfl)) (by rfl) (by intro w'; go_simp; with_reducible rfl) PUT_ ?_
                refine on_ (i := 26) (N := some 71) (MK42 134217727) rfl rfl (fun _ _ _ h => h) (any_of HT_.out (by kernel_rfl)) (by rfl) (by intro w'; go_simp; with_reducible rfl) PUT_ ?_
                refine on_ (i := 27) (N := some 72) (MK42 268435455) rfl rfl (fun _ _ _ h => h) (any_of HT_.out (by kernel_rfl)) (by rfl) (by intro w'; go_simp; with_reducible rfl) PUT_ ?_
                refine on_ (i := 28) (N := some 73) (MK42 536870911) rfl rfl (fun _ _ _ h => h) (any_of HT_.out (by kernel_rfl)) (by rfl) (by intro w'; go_simp; with_reducible rfl) PUT_ ?_
                refine get_ (i := 29) (N := some 74) (MK42 1073741823) hHeld rfl rfl (fun _ _ _ h => h) (take_ofW HT_.out HW_.out (by kernel_rfl)) (by rfl) (by rintro w' ⟨s0, s1, s2, s3, s4, s5, s6, s7, s8, s9, s10, s11, s12, s13, s14, s15, s16⟩; go_simp; with_reducible rfl) PUT_ ?_
                refine on_ (i := 30) (N := some 75) (MK42 2147483647) rfl rfl (fun _ _ _ h => h) (any_of HT_.out (by kernel_rfl)) (by rfl) (by intro w'; go_simp; with_reducible rfl) PUT_ ?_
                refine get_ (i := 31) (N := some 76) (MK42 4294967295) hHeld rfl rfl (fun _ _ _ h => h) (take_ofW HT_.out HW_.out (by kernel_rfl)) (by rfl) (by rintro w' ⟨s0, s1, s2, s3, s4, s5, s6, s7, s8, s9, s10, s11, s12, s13, s14, s15, s16⟩; go_simp; with_reducible rfl) PUT_ ?_
                refine on_ (i := 32) (N := some 77) (MK42 8589934591) rfl rfl (fun _ _ _ h => h) (any_of HT_.out (by kernel_rfl)) (by rfl) (by intro w'; go_simp; with_reducible rfl) PUT_ ?_
                cases hs : decide ((ss.length : Int) ≤ y.f2) with
                | true =>
                  as_aux_lemma =>
                    have hs_ : ¬ y.f2 < (ss.length : Int) := by have := of_decide_eq_true hs; omega
                    refine on_ (i := 33) (N := some 78) (MK42 17179869183) rfl rfl (fun _ _ _ h => h) (any_of HT_.out (by kernel_rfl)) (by rfl) (by intro w'; go_simp; with_reducible rfl) PUT_ ?_
                    refine on_ (i := 34) (N := some 79) (MK42 34359738367) rfl rfl (fun _ _ _ h => h) (any_of HT_.out (by kernel_rfl)) (by rfl) (by intro w'; go_simp; with_reducible rfl) PUT_ ?_
                    refine on_ (i := 35) (N := some 80) (MK42 68719476735) rfl rfl (fun _ _ _ h => h) (any_of HT_.out (by kernel_rfl)) (by rfl) (by intro w'; go_simp; with_reducible rfl) PUT_ ?_
                    refine off_row (i := 36) (N := some 81) (MK42 137438953471) rfl rfl (fun _ _ _ h => h) (any_of HT_.out (by kernel_rfl)) (by rfl) PUT_ ?_
                    refine off_row (i := 37) (N := some 82) (MK42 274877906943) rfl rfl (fun _ _ _ h => h) (any_of HT_.out (by kernel_rfl)) (by rfl) PUT_ ?_
                    refine off_row (i := 38) (N := some 83) (MK42 549755813887) rfl rfl (fun _ _ _ h => h) (any_of HT_.out (by kernel_rfl)) (by rfl) PUT_ ?_
                    refine off_row (i := 39) (N := some 84) (MK42 1099511627775) rfl rfl (fun _ _ _ h => h) (any_of HT_.out (by kernel_rfl)) (by rfl) PUT_ ?_
                    refine off_row (i := 40) (N := some 85) (MK42 2199023255551) rfl rfl (fun _ _ _ h => h) (any_of HT_.out (by kernel_rfl)) (by rfl) PUT_ ?_
                    refine on_ (i := 41) (N := some 86) (MK42 4398046511103) rfl rfl (fun _ _ _ h => h) (any_of HT_.out (by kernel_rfl)) (by rfl) (by intro w'; go_simp; with_reducible rfl) PUT_ ?_
                    have HG := Aside0.mk (show goodAt ps ss.length c k y = false by unfold goodAt; simp [hkp, hp, ho_, hs_])
                    refine done_ (done_of HT_.out (by kernel_rfl)) ?_
                    (try go_wp2)
                    go_ret
                    rw [bad_at HE.out HY.out HG.out]
                    exact ⟨rfl, HB4.out⟩
                | false =>
                  as_aux_lemma =>
                    have hs_ : y.f2 < (ss.length : Int) := by have := of_decide_eq_false hs; omega
                    refine on_ (i := 33) (N := some 78) (MK42 17179869183) rfl rfl (fun _ _ _ h => h) (any_of HT_.out (by kernel_rfl)) (by rfl) (by intro w'; go_simp; with_reducible rfl) PUT_ ?_
                    refine on_ (i := 34) (N := some 79) (MK42 34359738367) rfl rfl (fun _ _ _ h => h) (any_of HT_.out (by kernel_rfl)) (by rfl) (by intro w'; go_simp; with_reducible rfl) PUT_ ?_
                    refine on_ (i := 35) (N := some 80) (MK42 68719476735) rfl rfl (fun _ _ _ h => h) (any_of HT_.out (by kernel_rfl)) (by rfl) (by intro w'; go_simp; with_reducible rfl) PUT_ ?_
                    refine on_ (i := 36) (N := some 81) (MK42 137438953471) rfl rfl (fun _ _ _ h => h) (any_of HT_.out (by kernel_rfl)) (by rfl) (by intro w'; go_simp; with_reducible rfl) PUT_ ?_
                    refine get_ (i := 37) (N := some 82) (MK42 274877906943) hHeld rfl rfl (fun _ _ _ h => h) (take_ofW HT_.out HW_.out (by kernel_rfl)) (by rfl) (by rintro w' ⟨s0, s1, s2, s3, s4, s5, s6, s7, s8, s9, s10, s11, s12, s13, s14, s15, s16⟩; go_simp; with_reducible rfl) PUT_ ?_
                    refine on_ (i := 38) (N := some 83) (MK42 549755813887) rfl rfl (fun _ _ _ h => h) (any_of HT_.out (by kernel_rfl)) (by rfl) (by intro w'; go_simp; with_reducible rfl) PUT_ ?_
                    refine get_ (i := 39) (N := some 84) (MK42 1099511627775) hHeld rfl rfl (fun _ _ _ h => h) (take_ofW HT_.out HW_.out (by kernel_rfl)) (by rfl) (by rintro w' ⟨s0, s1, s2, s3, s4, s5, s6, s7, s8, s9, s10, s11, s12, s13, s14, s15, s16⟩; go_simp; with_reducible rfl) PUT_ ?_
                    cases ht : decide (c < y.f4) with
                    | true =>
                      as_aux_lemma =>
                        have ht_ : ¬ y.f4 ≤ c := by have := of_decide_eq_true ht; omega
                        refine on_ (i := 40) (N := some 85) (MK42 2199023255551) rfl rfl (fun _ _ _ h => h) (any_of HT_.out (by kernel_rfl)) (by rfl) (by intro w'; go_simp; with_reducible rfl) PUT_ ?_
                        refine on_ (i := 41) (N := some 86) (MK42 4398046511103) rfl rfl (fun _ _ _ h => h) (any_of HT_.out (by kernel_rfl)) (by rfl) (by intro w'; go_simp; with_reducible rfl) PUT_ ?_
                        have HG := Aside0.mk (show goodAt ps ss.length c k y = false by unfold goodAt; simp [hkp, hp, ho_, hs_, ht_])
                        refine done_ (done_of HT_.out (by kernel_rfl)) ?_
                        (try go_wp2)
                        go_ret
                        rw [bad_at HE.out HY.out HG.out]
                        exact ⟨rfl, HB4.out⟩
                    | false =>
                      as_aux_lemma =>
                        have ht_ : y.f4 ≤ c := by have := of_decide_eq_false ht; omega
                        refine on_ (i := 40) (N := some 85) (MK42 2199023255551) rfl rfl (fun _ _ _ h => h) (any_of HT_.out (by kernel_rfl)) (by rfl) (by intro w'; go_simp; with_reducible rfl) PUT_ ?_
                        refine on_ (i := 41) (N := some 86) (MK42 4398046511103) rfl rfl (fun _ _ _ h => h) (any_of HT_.out (by kernel_rfl)) (by rfl) (by intro w'; go_simp; with_reducible rfl) PUT_ ?_
                        have HG := Aside0.mk (show goodAt ps ss.length c k y = true by unfold goodAt; simp [hkp, hp, ho_, hs_, ht_])
                        refine done_ (done_of HT_.out (by kernel_rfl)) ?_
                        (try go_wp2)
                        go_roundw
                        case rel => exact ⟨k + 1, by omega, by go_num, HB4, HS4, ⟨good_at HE.out HY.out HG.out⟩⟩
                        case measure => simp [intOf]; omega
        | false =>
          as_aux_lemma =>
            refine on_ (i := 2) (N := some 47) (MK42 7) rfl rfl (fun _ _ _ h => h) (any_of HT_.out (by kernel_rfl)) (by rfl) (by intro w'; go_simp; with_reducible rfl) PUT_ ?_
            refine on_ (i := 3) (N := some 48) (MK42 15) rfl rfl (fun _ _ _ h => h) (any_of HT_.out (by kernel_rfl)) (by rfl) (by intro w'; go_simp; with_reducible rfl) PUT_ ?_
            refine off_row (i := 4) (N := some 49) (MK42 31) rfl rfl (fun _ _ _ h => h) (any_of HT_.out (by kernel_rfl)) (by rfl) PUT_ ?_
            refine off_row (i := 5) (N := some 50) (MK42 63) rfl rfl (fun _ _ _ h => h) (any_of HT_.out (by kernel_rfl)) (by rfl) PUT_ ?_
            refine off_row (i := 6) (N := some 51) (MK42 127) rfl rfl (fun _ _ _ h => h) (any_of HT_.out (by kernel_rfl)) (by rfl) PUT_ ?_
            refine off_row (i := 7) (N := some 52) (MK42 255) rfl rfl (fun _ _ _ h => h) (any_of HT_.out (by kernel_rfl)) (by rfl) PUT_ ?_
            refine off_row (i := 8) (N := some 53) (MK42 511) rfl rfl (fun _ _ _ h => h) (any_of HT_.out (by kernel_rfl)) (by rfl) PUT_ ?_
            refine off_row (i := 9) (N := some 54) (MK42 1023) rfl rfl (fun _ _ _ h => h) (any_of HT_.out (by kernel_rfl)) (by rfl) PUT_ ?_
            refine off_row (i := 10) (N := some 55) (MK42 2047) rfl rfl (fun _ _ _ h => h) (any_of HT_.out (by kernel_rfl)) (by rfl) PUT_ ?_
            refine off_row (i := 11) (N := some 56) (MK42 4095) rfl rfl (fun _ _ _ h => h) (any_of HT_.out (by kernel_rfl)) (by rfl) PUT_ ?_
            refine off_row (i := 12) (N := some 57) (MK42 8191) rfl rfl (fun _ _ _ h => h) (any_of HT_.out (by kernel_rfl)) (by rfl) PUT_ ?_
            refine off_row (i := 13) (N := some 58) (MK42 16383) rfl rfl (fun _ _ _ h => h) (any_of HT_.out (by kernel_rfl)) (by rfl) PUT_ ?_
            refine off_row (i := 14) (N := some 59) (MK42 32767) rfl rfl (fun _ _ _ h => h) (any_of HT_.out (by kernel_rfl)) (by rfl) PUT_ ?_
            refine off_row (i := 15) (N := some 60) (MK42 65535) rfl rfl (fun _ _ _ h => h) (any_of HT_.out (by kernel_rfl)) (by rfl) PUT_ ?_
            refine off_row (i := 16) (N := some 61) (MK42 131071) rfl rfl (fun _ _ _ h => h) (any_of HT_.out (by kernel_rfl)) (by rfl) PUT_ ?_
            refine off_row (i := 17) (N := some 62) (MK42 262143) rfl rfl (fun _ _ _ h => h) (any_of HT_.out (by kernel_rfl)) (by rfl) PUT_ ?_
            refine on_ (i := 18) (N := some 63) (MK42 524287) rfl rfl (fun _ _ _ h => h) (any_of HT_.out (by kernel_rfl)) (by rfl) (by intro w'; go_simp; with_reducible rfl) PUT_ ?_
            refine on_ (i := 19) (N := some 64) (MK42 1048575) rfl rfl (fun _ _ _ h => h) (any_of HT_.out (by kernel_rfl)) (by rfl) (by intro w'; go_simp; with_reducible rfl) PUT_ ?_
            refine off_row (i := 20) (N := some 65) (MK42 2097151) rfl rfl (fun _ _ _ h => h) (any_of HT_.out (by kernel_rfl)) (by rfl) PUT_ ?_
            refine off_row (i := 21) (N := some 66) (MK42 4194303) rfl rfl (fun _ _ _ h => h) (any_of HT_.out (by kernel_rfl)) (by rfl) PUT_ ?_
            refine off_row (i := 22) (N := some 67) (MK42 8388607) rfl rfl (fun _ _ _ h => h) (any_of HT_.out (by kernel_rfl)) (by rfl) PUT_ ?_
            refine off_row (i := 23) (N := some 68) (MK42 16777215) rfl rfl (fun _ _ _ h => h) (any_of HT_.out (by kernel_rfl)) (by rfl) PUT_ ?_
            refine off_row (i := 24) (N := some 69) (MK42 33554431) rfl rfl (fun _ _ _ h => h) (any_of HT_.out (by kernel_rfl)) (by rfl) PUT_ ?_
            refine off_row (i := 25) (N := some 70) (MK42 67108863) rfl rfl (fun _ _ _ h => h) (any_of HT_.out (by kernel_rfl)) (by rfl) PUT_ ?_
            refine on_ (i := 26) (N := some 71) (MK42 134217727) rfl rfl (fun _ _ _ h => h) (any_of HT_.out (by kernel_rfl)) (by rfl) (by intro w'; go_simp; with_reducible rfl) PUT_ ?_
            refine on_ (i := 27) (N := some 72) (MK42 268435455) rfl rfl (fun _ _ _ h => h) (any_of HT_.out (by kernel_rfl)) (by rfl) (by intro w'; go_simp; with_reducible rfl) PUT_ ?_
            refine off_row (i := 28) (N := some 73) (MK42 536870911) rfl rfl (fun _ _ _ h => h) (any_of HT_.out (by kernel_rfl)) (by rfl) PUT_ ?_
            refine off_row (i := 29) (N := some 74) (MK42 1073741823) rfl rfl (fun _ _ _ h => h) (any_of HT_.out (by kernel_rfl)) (by rfl) PUT_ ?_
            refine off_row (i := 30) (N := some 75) (MK42 2147483647) rfl rfl (fun _ _ _ h => h) (any_of HT_.out (by kernel_rfl)) (by rfl) PUT_ ?_
            refine off_row (i := 31) (N := some 76) (MK42 4294967295) rfl rfl (fun _ _ _ h => h) (any_of HT_.out (by kernel_rfl)) (by rfl) PUT_ ?_
            refine off_row (i := 32) (N := some 77) (MK42 8589934591) rfl rfl (fun _ _ _ h => h) (any_of HT_.out (by kernel_rfl)) (by rfl) PUT_ ?_
            refine off_row (i := 33) (N := some 78) (MK42 17179869183) rfl rfl (fun _ _ _ h => h) (any_of HT_.out (by kernel_rfl)) (by rfl) PUT_ ?_
            refine on_ (i := 34) (N := some 79) (MK42 34359738367) rfl rfl (fun _ _ _ h => h) (any_of HT_.out (by kernel_rfl)) (by rfl) (by intro w'; go_simp; with_reducible rfl) PUT_ ?_
            refine on_ (i := 35) (N := some 80) (MK42 68719476735) rfl rfl (fun _ _ _ h => h) (any_of HT_.out (by kernel_rfl)) (by rfl) (by intro w'; go_simp; with_reducible rfl) PUT_ ?_
            refine off_row (i := 36) (N := some 81) (MK42 137438953471) rfl rfl (fun _ _ _ h => h) (any_of HT_.out (by kernel_rfl)) (by rfl) PUT_ ?_
            refine off_row (i := 37) (N := some 82) (MK42 274877906943) rfl rfl (fun _ _ _ h => h) (any_of HT_.out (by kernel_rfl)) (by rfl) PUT_ ?_
            refine off_row (i := 38) (N := some 83) (MK42 549755813887) rfl rfl (fun _ _ _ h => h) (any_of HT_.out (by kernel_rfl)) (by rfl) PUT_ ?_
            refine off_row (i := 39) (N := some 84) (MK42 1099511627775) rfl rfl (fun _ _ _ h => h) (any_of HT_.out (by kernel_rfl)) (by rfl) PUT_ ?_
            refine off_row (i := 40) (N := some 85) (MK42 2199023255551) rfl rfl (fun _ _ _ h => h) (any_of HT_.out (by kernel_rfl)) (by rfl) PUT_ ?_
            refine on_ (i := 41) (N := some 86) (MK42 4398046511103) rfl rfl (fun _ _ _ h => h) (any_of HT_.out (by kernel_rfl)) (by rfl) (by intro w'; go_simp; with_reducible rfl) PUT_ ?_
            have HG := Aside0.mk (show goodAt ps ss.length c k y = false by unfold goodAt; simp [hkp, hp])
            refine done_ (done_of HT_.out (by kernel_rfl)) ?_
            (try go_wp2)
            go_ret
            rw [bad_at HE.out HY.out HG.out]
            exact ⟨rfl, HB4.out⟩
      | true =>
        have hkp : 0 < k := by have := of_decide_eq_true hk0; omega
        have hk3 : (1 : Int) ≤ (k : Int) := by omega
        have hk2 : ((k - 1 : Nat) : Int) < (ps.length : Int) := by omega
        obtain ⟨ad', hA', hz0, -⟩ := at_T25 (Kd.C_below HR0.out HB3.out) ((k - 1 : Nat) : Int) (by omega) hk2
        obtain rfl := Option.some.inj hA'
        have hrd : rd_T25 ps ((k - 1 : Nat) : Int) = ps.getD (k - 1) z25 := by unfold rd_T25; rw [Int.toNat_natCast]
        rw [hrd, Int.toNat_natCast] at hz0
        obtain ⟨z, hz⟩ : ∃ z, z = ps.getD (k - 1) z25 := ⟨_, rfl⟩
        rw [← hz] at hz0
        have HZ := Aside0.mk (show ps[k - 1]?.getD z25 = z by rw [hz, List.getD_eq_getElem?_getD])
        have hprev := hz0
        clear hz hz0 hrd hA'
        have hk4 : (k : Int) - 1 < (ps.length : Int) := by omega
        have hw1 : wrap64 ((k : Int) - 1) = (k : Int) - 1 := by unfold wrap64; omega
        have hw2 : IntKind.i64.wrap ((k : Int) - 1) = (k : Int) - 1 := by rw [i64_w]; exact hw1
        have HBd := Aside0.mk (below_drew1 HB3.out)
        have HSd := Aside0.mk (blk_drew HS3.out)
        have BXd := Aside0.mk (blk_drew BX3.out)
        have HPd := Aside0.mk (show w3.drew.cell? (ad.add ((k - 1) * 13)) = some (.int .i64 z.f0) from hprev)
        refine start_ (n := 42) (S := fun w' => w'.cell? ⟨gp, 0, none⟩ = some (.int .i64 y.f0) ∧ w'.cell? ⟨gp, 1, none⟩ = some (.int .i64 y.f1) ∧ w'.cell? ⟨gp, 2, none⟩ = some (.int .i64 y.f2) ∧ w'.cell? ⟨gp, 3, none⟩ = some (.int .i64 y.f3) ∧ w'.cell? ⟨gp, 4, none⟩ = some (.int .i64 y.f4) ∧ w'.cell? ⟨gp, 5, none⟩ = some (.int .i64 y.f5) ∧ w'.cell? ⟨gp, 6, none⟩ = some (.int .i64 y.f6) ∧ w'.cell? ⟨gp, 7, none⟩ = some (.int .i64 y.f7) ∧ w'.cell? ⟨gp, 8, none⟩ = some (.int .i64 y.f8) ∧ w'.cell? ⟨gp, 9, none⟩ = some (.int .i64 y.f9) ∧ w'.cell? ⟨gp, 10, none⟩ = some (.int .i64 y.f10) ∧ w'.cell? ⟨gp, 11, none⟩ = some (.bool y.f11) ∧ w'.cell? ⟨gp, 12, none⟩ = some (.bool y.f12) ∧ w'.cell? ⟨w.heap.size, 0, none⟩ = some (.slice (some ad) ps.length c0) ∧ w'.cell? ⟨w.heap.size, 1, none⟩ = some (.slice A1 ss.length c1) ∧ w'.cell? ⟨w.heap.size, 2, none⟩ = some (.int .i64 a) ∧ w'.cell? ⟨w.heap.size, 3, none⟩ = some (.int .i64 c) ∧ w'.cell? (ad.add ((k - 1) * 13)) = some (.int .i64 z.f0)) (ds := []) #[false, false, false, false, false, false, false, false, false, false, false, false, false, false, false, false, false, false, false, false, false, false, false, false, false, false, false, false, false, false, false, false, false, false, false, false, false, false, false, false, false, false] (by kernel_rfl) rfl rfl ⟨(blk_cell BXd.out 0).trans rfl, (blk_cell BXd.out 1).trans rfl, (blk_cell BXd.out 2).trans rfl, (blk_cell BXd.out 3).trans rfl, (blk_cell BXd.out 4).trans rfl, (blk_cell BXd.out 5).trans rfl, (blk_cell BXd.out 6).trans rfl, (blk_cell BXd.out 7).trans rfl, (blk_cell BXd.out 8).trans rfl, (blk_cell BXd.out 9).trans rfl, (blk_cell BXd.out 10).trans rfl, (blk_cell BXd.out 11).trans rfl, (blk_cell BXd.out 12).trans rfl, (blk_cell HSd.out 0).trans rfl, (blk_cell HSd.out 1).trans rfl, (blk_cell HSd.out 2).trans rfl, (blk_cell HSd.out 3).trans rfl, hprev⟩ (fun hHeld => ?_); refine with_tabW spec_StateOk.tab7 spec_StateOk.bits7 (fun HT_ HW_ => ?_)
        generalize w3.drew = w4 at HBd HSd BXd hHeld HPd ⊢
        refine get_ (i := 0) (N := some 45) (MK42 1) hHeld rfl rfl (fun _ _ _ h => h) (take_ofW HT_.out HW_.out (by kernel_rfl)) (by rfl) (by rintro w' ⟨s0, s1, s2, s3, s4, s5, s6, s7, s8, s9, s10, s11, s12, s13, s14, s15, s16, s17⟩; go_simp; with_reducible rfl) PUT_ ?_
        refine one_ (i := 1) (N := some 46) (MK42 3) rfl rfl (one_of HT_.out (by kernel_rfl)) (by decide) (fun K hK => ?_)
        refine goes_ Try.func19 (by kernel_rfl) rfl #[.agg #[.int .i64 y.f0, .int .i64 y.f1, .int .i64 y.f2, .int .i64 y.f3, .int .i64 y.f4, .int .i64 y.f5, .int .i64 y.f6, .int .i64 y.f7, .int .i64 y.f8, .int .i64 y.f9, .int .i64 y.f10, .bool y.f11, .bool y.f12]] (by rfl) rfl rfl (by (try simp only [List.map_toArray, List.map_cons, List.map_nil]); first | done | rfl) ?_
        with_reducible refine (pok_spec y _).mono ?_
        rintro e w5 ⟨rfl, hb⟩
        refine ⟨_, rfl, ?_⟩
        have HB4 := Aside0.mk (below_step HBd.out hb)
        have HS4 := Aside0.mk (blk_below HSd.out hb)
        have BX4 := Aside0.mk (blk_below BXd.out hb)
        have HP4 := Aside0.mk (pw_cell_below hb HPd.out)
        clear hb
        refine hK.out _ _ ⟨(blk_cell BX4.out 0).trans rfl, (blk_cell BX4.out 1).trans rfl, (blk_cell BX4.out 2).trans rfl, (blk_cell BX4.out 3).trans rfl, (blk_cell BX4.out 4).trans rfl, (blk_cell BX4.out 5).trans rfl, (blk_cell BX4.out 6).trans rfl, (blk_cell BX4.out 7).trans rfl, (blk_cell BX4.out 8).trans rfl, (blk_cell BX4.out 9).trans rfl, (blk_cell BX4.out 10).trans rfl, (blk_cell BX4.out 11).trans rfl, (blk_cell BX4.out 12).trans rfl, (blk_cell HS4.out 0).trans rfl, (blk_cell HS4.out 1).trans rfl, (blk_cell HS4.out 2).trans rfl, (blk_cell HS4.out 3).trans rfl, HP4.out⟩ (fun hHeld => ?_)
        clear hK K
        refine norm_ (a' := ?_) ?_ ?_
        rotate_left
        · show Act.put _ (some 46) _ = _
          simp only [Act.put, List.setIfInBounds_toArray, List.set_cons_zero, List.set_cons_succ, i64_w, i32_w]
          rfl
        cases hp : pokS y with
        | true =>
          as_aux_lemma =>
            refine on_ (i := 2) (N := some 47) (MK42 7) rfl rfl (fun _ _ _ h => h) (any_of HT_.out (by kernel_rfl)) (by rfl) (by intro w'; go_simp; with_reducible rfl) PUT_ ?_
            refine on_ (i := 3) (N := some 48) (MK42 15) rfl rfl (fun _ _ _ h => h) (any_of HT_.out (by kernel_rfl)) (by rfl) (by intro w'; go_simp; with_reducible rfl) PUT_ ?_
            refine on_ (i := 4) (N := some 49) (MK42 31) rfl rfl (fun _ _ _ h => h) (any_of HT_.out (by kernel_rfl)) (by rfl) (by intro w'; go_simp; with_reducible rfl) PUT_ ?_
            refine on_ (i := 5) (N := some 50) (MK42 63) rfl rfl (fun _ _ _ h => h) (any_of HT_.out (by kernel_rfl)) (by rfl) (by intro w'; go_simp; with_reducible rfl) PUT_ ?_
            refine on_ (i := 6) (N := some 51) (MK42 127) rfl rfl (fun _ _ _ h => h) (any_of HT_.out (by kernel_rfl)) (by rfl) (by intro w'; go_simp; with_reducible rfl) PUT_ ?_
            refine on_ (i := 7) (N := some 52) (MK42 255) rfl rfl (fun _ _ _ h => h) (any_of HT_.out (by kernel_rfl)) (by rfl) (by intro w'; go_simp; with_reducible rfl) PUT_ ?_
            refine get_ (i := 8) (N := some 53) (MK42 511) hHeld rfl rfl (fun _ _ _ h => h) (take_ofW HT_.out HW_.out (by kernel_rfl)) (by rfl) (by rintro w' ⟨s0, s1, s2, s3, s4, s5, s6, s7, s8, s9, s10, s11, s12, s13, s14, s15, s16, s17⟩; go_simp; with_reducible rfl) PUT_ ?_
            refine on_ (i := 9) (N := some 54) (MK42 1023) rfl rfl (fun _ _ _ h => h) (any_of HT_.out (by kernel_rfl)) (by rfl) (by intro w'; go_simp; with_reducible rfl) PUT_ ?_
            refine on_ (i := 10) (N := some 55) (MK42 2047) rfl rfl (fun _ _ _ h => h) (any_of HT_.out (by kernel_rfl)) (by rfl) (by intro w'; go_simp; with_reducible rfl) PUT_ ?_
            refine on_ (i := 11) (N := some 56) (MK42 4095) rfl rfl (fun _ _ _ h => h) (any_of HT_.out (by kernel_rfl)) (by rfl) (by intro w'; go_simp; with_reducible rfl) PUT_ ?_
            refine on_ (i := 12) (N := some 57) (MK42 8191) rfl rfl (fun _ _ _ h => h) (any_of HT_.out (by kernel_rfl)) (by rfl) (by intro w'; go_simp; with_reducible rfl) PUT_ ?_
            refine get_ (i := 13) (N := some 58) (MK42 16383) hHeld rfl rfl (fun _ _ _ h => h) (take_ofW HT_.out HW_.out (by kernel_rfl)) (by rfl) (by rintro w' ⟨s0, s1, s2, s3, s4, s5, s6, s7, s8, s9, s10, s11, s12, s13, s14, s15, s16, s17⟩; go_simp; with_reducible rfl) PUT_ ?_
            refine on_ (i := 14) (N := some 59) (MK42 32767) rfl rfl (fun _ _ _ h => h) (any_of HT_.out (by kernel_rfl)) (by rfl) (by intro w'; go_simp; with_reducible rfl) PUT_ ?_
            refine get_ (i := 15) (N := some 60) (MK42 65535) hHeld rfl rfl (fun _ _ _ h => h) (take_ofW HT_.out HW_.out (by kernel_rfl)) (by rfl) (by rintro w' ⟨s0, s1, s2, s3, s4, s5, s6, s7, s8, s9, s10, s11, s12, s13, s14, s15, s16, s17⟩; go_simp; with_reducible rfl) PUT_ ?_
            cases hid : decide (y.f0 ≤ z.f0) with
            | true =>
              as_aux_lemma =>
                have hid_ : y.f0 ≤ z.f0 := by have := of_decide_eq_true hid; omega
                refine on_ (i := 16) (N := some 61) (MK42 131071) rfl rfl (fun _ _ _ h => h) (any_of HT_.out (by kernel_rfl)) (by rfl) (by intro w'; go_simp; with_reducible rfl) PUT_ ?_
                refine on_ (i := 17) (N := some 62) (MK42 262143) rfl rfl (fun _ _ _ h => h) (any_of HT_.out (by kernel_rfl)) (by rfl) (by intro w'; go_simp; with_reducible rfl) PUT_ ?_
                refine on_ (i := 18) (N := some 63) (MK42 524287) rfl rfl (fun _ _ _ h => h) (any_of HT_.out (by kernel_rfl)) (by rfl) (by intro w'; go_simp; with_reducible rfl) PUT_ ?_
                refine on_ (i := 19) (N := some 64) (MK42 1048575) rfl rfl (fun _ _ _ h => h) (any_of HT_.out (by kernel_rfl)) (by rfl) (by intro w'; go_simp; with_reducible rfl) PUT_ ?_
                refine off_row (i := 20) (N := some 65) (MK42 2097151) rfl rfl (fun _ _ _ h => h) (any_of HT_.out (by kernel_rfl)) (by rfl) PUT_ ?_
                refine off_row (i := 21) (N := some 66) (MK42 4194303) rfl rfl (fun _ _ _ h => h) (any_of HT_.out (by kernel_rfl)) (by rfl) PUT_ ?_
                refine off_row (i := 22) (N := some 67) (MK42 8388607) rfl rfl (fun _ _ _ h => h) (any_of HT_.out (by kernel_rfl)) (by rfl) PUT_ ?_
                refine off_row (i := 23) (N := some 68) (MK42 16777215) rfl rfl (fun _ _ _ h => h) (any_of HT_.out (by kernel_rfl)) (by rfl) PUT_ ?_
                refine off_row (i := 24) (N := some 69) (MK42 33554431) rfl rfl (fun _ _ _ h => h) (any_of HT_.out (by kernel_rfl)) (by rfl) PUT_ ?_
                refine off_row (i := 25) (N := some 70) (MK42 67108863) rfl rfl (fun _ _ _ h => h) (any_of HT_.out (by kernel_rfl)) (by rfl) PUT_ ?_
                refine on_ (i := 26) (N := some 71) (MK42 134217727) rfl rfl (fun _ _ _ h => h) (any_of HT_.out (by kernel_rfl)) (by rfl) (by intro w'; go_simp; with_reducible rfl) PUT_ ?_
                refine on_ (i := 27) (N := some 72) (MK42 268435455) rfl rfl (fun _ _ _ h => h) (any_of HT_.out (by kernel_rfl)) (by rfl) (by intro w'; go_simp; with_reducible rfl) PUT_ ?_
                refine off_row (i := 28) (N := some 73) (MK42 536870911) rfl rfl (fun _ _ _ h => h) (any_of HT_.out (by kernel_rfl)) (by rfl) PUT_ ?_
                refine off_row (i := 29) (N := some 74) (MK42 1073741823) rfl rfl (fun _ _ _ h => h) (any_of HT_.out (by kernel_rfl)) (by rfl) PUT_ ?_
                refine off_row (i := 30) (N := some 75) (MK42 2147483647) rfl rfl (fun _ _ _ h => h) (any_of HT_.out (by kernel_rfl)) (by rfl) PUT_ ?_
                refine off_row (i := 31) (N := some 76) (MK42 4294967295) rfl rfl (fun _ _ _ h => h) (any_of HT_.out (by kernel_rfl)) (by rfl) PUT_ ?_
                refine off_row (i := 32) (N := some 77) (MK42 8589934591) rfl rfl (fun _ _ _ h => h) (any_of HT_.out (by kernel_rfl)) (by rfl) PUT_ ?_
                refine off_row (i := 33) (N := some 78) (MK42 17179869183) rfl rfl (fun _ _ _ h => h) (any_of HT_.out (by kernel_rfl)) (by rfl) PUT_ ?_
                refine on_ (i := 34) (N := some 79) (MK42 34359738367) rfl rfl (fun _ _ _ h => h) (any_of HT_.out (by kernel_rfl)) (by rfl) (by intro w'; go_simp; with_reducible rfl) PUT_ ?_
                refine on_ (i := 35) (N := some 80) (MK42 68719476735) rfl rfl (fun _ _ _ h => h) (any_of HT_.out (by kernel_rfl)) (by rfl) (by intro w'; go_simp; with_reducible rfl) PUT_ ?_
                refine off_row (i := 36) (N := some 81) (MK42 137438953471) rfl rfl (fun _ _ _ h => h) (any_of HT_.out (by kernel_rfl)) (by rfl) PUT_ ?_
                refine off_row (i := 37) (N := some 82) (MK42 274877906943) rfl rfl (fun _ _ _ h => h) (any_of HT_.out (by kernel_rfl)) (by rfl) PUT_ ?_
                refine off_row (i := 38) (N := some 83) (MK42 549755813887) rfl rfl (fun _ _ _ h => h) (any_of HT_.out (by kernel_rfl)) (by rfl) PUT_ ?_
                refine off_row (i := 39) (N := some 84) (MK42 1099511627775) rfl rfl (fun _ _ _ h => h) (any_of HT_.out (by kernel_rfl)) (by rfl) PUT_ ?_
                refine off_row (i := 40) (N := some 85) (MK42 2199023255551) rfl rfl (fun _ _ _ h => h) (any_of HT_.out (by kernel_rfl)) (by rfl) PUT_ ?_
                refine on_ (i := 41) (N := some 86) (MK42 4398046511103) rfl rfl (fun _ _ _ h => h) (any_of HT_.out (by kernel_rfl)) (by rfl) (by intro w'; go_simp; with_reducible rfl) PUT_ ?_
                have HG := Aside0.mk (show goodAt ps ss.length c k y = false by unfold goodAt; simp [hkp, HZ.out, hp, hid_])
                refine done_ (done_of HT_.out (by kernel_rfl)) ?_
                (try go_wp2)
                go_ret
                rw [bad_at HE.out HY.out HG.out]
                exact ⟨rfl, HB4.out⟩
            | false =>
              as_aux_lemma =>
                have hid_ : ¬ y.f0 ≤ z.f0 := by have := of_decide_eq_false hid; omega
                refine on_ (i := 16) (N := some 61) (MK42 131071) rfl rfl (fun _ _ _ h => h) (any_of HT_.out (by kernel_rfl)) (by rfl) (by intro w'; go_simp; with_reducible rfl) PUT_ ?_
                refine on_ (i := 17) (N := some 62) (MK42 262143) rfl rfl (fun _ _ _ h => h) (any_of HT_.out (by kernel_rfl)) (by rfl) (by intro w'; go_simp; with_reducible rfl) PUT_ ?_
                refine on_ (i := 18) (N := some 63) (MK42 524287) rfl rfl (fun _ _ _ h => h) (any_of HT_.out (by kernel_rfl)) (by rfl) (by intro w'; go_simp; with_reducible rfl) PUT_ ?_
                refine on_ (i := 19) (N := some 64) (MK42 1048575) rfl rfl (fun _ _ _ h => h) (any_of HT_.out (by kernel_rfl)) (by rfl) (by intro w'; go_simp; with_reducible rfl) PUT_ ?_
                refine on_ (i := 20) (N := some 65) (MK42 2097151) rfl rfl (fun _ _ _ h => h) (any_of HT_.out (by kernel_rfl)) (by rfl) (by intro w'; go_simp; with_reducible rfl) PUT_ ?_
                refine get_ (i := 21) (N := some 66) (MK42 4194303) hHeld rfl rfl (fun _ _ _ h => h) (take_ofW HT_.out HW_.out (by kernel_rfl)) (by rfl) (by rintro w' ⟨s0, s1, s2, s3, s4, s5, s6, s7, s8, s9, s10, s11, s12, s13, s14, s15, s16, s17⟩; go_simp; with_reducible rfl) PUT_ ?_
                refine on_ (i := 22) (N := some 67) (MK42 8388607) rfl rfl (fun _ _ _ h => h) (any_of HT_.out (by kernel_rfl)) (by rfl) (by intro w'; go_simp; with_reducible rfl) PUT_ ?_
                refine get_ (i := 23) (N := some 68) (MK42 16777215) hHeld rfl rfl (fun _ _ _ h => h) (take_ofW HT_.out HW_.out (by kernel_rfl)) (by rfl) (by rintro w' ⟨s0, s1, s2, s3, s4, s5, s6, s7, s8, s9, s10, s11, s12, s13, s14, s15, s16, s17⟩; go_simp; with_reducible rfl) PUT_ ?_
                refine on_ (i := 24) (N := some 69) (MK42 33554431) rfl rfl (fun _ _ _ h => h) (any_of HT_.out (by kernel_rfl)) (by rfl) (by intro w'; go_simp; with_reducible rfl) PUT_ ?_
                cases ho : decide ((ss.length : Int) ≤ y.f1) with
                | true =>
                  as_aux_lemma =>
                    have ho_ : ¬ y.f1 < (ss.length : Int) := by have := of_decide_eq_true ho; omega
                    refine on_ (i := 25) (N := some 70) (MK42 67108863) rfl rfl (fun _ _ _ h => h) (any_of HT_.out (by kernel_rfl)) (by rfl) (by intro w'; go_simp; with_reducible rfl) PUT_ ?_
                    refine on_ (i := 26) (N := some 71) (MK42 134217727) rfl rfl (fun _ _ _ h => h) (any_of HT_.out (by kernel_rfl)) (by rfl) (by intro w'; go_simp; with_reducible rfl) PUT_ ?_
                    refine on_ (i := 27) (N := some 72) (MK42 268435455) rfl rfl (fun _ _ _ h => h) (any_of HT_.out (by kernel_rfl)) (by rfl) (by intro w'; go_simp; with_reducible rfl) PUT_ ?_
                    refine off_row (i := 28) (N := some 73) (MK42 536870911) rfl rfl (fun _ _ _ h => h) (any_of HT_.out (by kernel_rfl)) (by rfl) PUT_ ?_
                    refine off_row (i := 29) (N := some 74) (MK42 1073741823) rfl rfl (fun _ _ _ h => h) (any_of HT_.out (by kernel_rfl)) (by rfl) PUT_ ?_
                    refine off_row (i := 30) (N := some 75) (MK42 2147483647) rfl rfl (fun _ _ _ h => h) (any_of HT_.out (by kernel_rfl)) (by rfl) PUT_ ?_
                    refine off_row (i := 31) (N := some 76) (MK42 4294967295) rfl rfl (fun _ _ _ h => h) (any_of HT_.out (by kernel_rfl)) (by rfl) PUT_ ?_
                    refine off_row (i := 32) (N := some 77) (MK42 8589934591) rfl rfl (fun _ _ _ h => h) (any_of HT_.out (by kernel_rfl)) (by rfl) PUT_ ?_
                    refine off_row (i := 33) (N := some 78) (MK42 17179869183) rfl rfl (fun _ _ _ h => h) (any_of HT_.out (by kernel_rfl)) (by rfl) PUT_ ?_
                    refine on_ (i := 34) (N := some 79) (MK42 34359738367) rfl rfl (fun _ _ _ h => h) (any_of HT_.out (by kernel_rfl)) (by rfl) (by intro w'; go_simp; with_reducible rfl) PUT_ ?_
                    refine on_ (i := 35) (N := some 80) (MK42 68719476735) rfl rfl (fun _ _ _ h => h) (any_of HT_.out (by kernel_rfl)) (by rfl) (by intro w'; go_simp; with_reducible rfl) PUT_ ?_
                    refine off_row (i := 36) (N := some 81) (MK42 137438953471) rfl rfl (fun _ _ _ h => h) (any_of HT_.out (by kernel_rfl)) (by rfl) PUT_ ?_
                    refine off_row (i := 37) (N := some 82) (MK42 274877906943) rfl rfl (fun _ _ _ h => h) (any_of HT_.out (by kernel_rfl)) (by rfl) PUT_ ?_
                    refine off_row (i := 38) (N := some 83) (MK42 549755813887) rfl rfl (fun _ _ _ h => h) (any_of HT_.out (by kernel_rfl)) (by rfl) PUT_ ?_
                    refine off_row (i := 39) (N := some 84) (MK42 1099511627775) rfl rfl (fun _ _ _ h => h) (any_of HT_.out (by kernel_rfl)) (by rfl) PUT_ ?_
                    refine off_row (i := 40) (N := some 85) (MK42 2199023255551) rfl rfl (fun _ _ _ h => h) (any_of HT_.out (by kernel_rfl)) (by rfl) PUT_ ?_
                    refine on_ (i := 41) (N := some 86) (MK42 4398046511103) rfl rfl (fun _ _ _ h => h) (any_of HT_.out (by kernel_rfl)) (by rfl) (by intro w'; go_simp; with_reducible rfl) PUT_ ?_
                    have HG := Aside0.mk (show goodAt ps ss.length c k y = false by unfold goodAt; simp [hkp, HZ.out, hp, hid_, ho_])
                    refine done_ (done_of HT_.out (by kernel_rfl)) ?_
                    (try go_wp2)
                    go_ret
                    rw [bad_at HE.out HY.out HG.out]
                    exact ⟨rfl, HB4.out⟩
                | false =>
                  as_aux_lemma =>
                    have ho_ : y.f1 < (ss.length : Int) := by have := of_decide_eq_false ho; omega
                    refine on_ (i := 25) (N := some 70) (MK42 67108863) rfl rfl (fun _ _ _ h => h) (any_of HT_.out (by kernel_rfl)) (by rfl) (by intro w'; go_simp; with_reducible rfl) PUT_ ?_
                    refine on_ (i := 26) (N := some 71) (MK42 134217727) rfl rfl (fun _ _ _ h => h) (any_of HT_.out (by kernel_rfl)) (by rfl) (by intro w'; go_simp; with_reducible rfl) PUT_ ?_
                    refine on_ (i := 27) (N := some 72) (MK42 268435455) rfl rfl (fun _ _ _ h => h) (any_of HT_.out (by kernel_rfl)) (by rfl) (by intro w'; go_simp; with_reducible rfl) PUT_ ?_
                    refine on_ (i := 28) (N := some 73) (MK42 536870911) rfl rfl (fun _ _ _ h => h) (any_of HT_.out (by kernel_rfl)) (by rfl) (by intro w'; go_simp; with_reducible rfl) PUT_ ?_
                    refine get_ (i := 29) (N := some 74) (MK42 1073741823) hHeld rfl rfl (fun _ _ _ h => h) (take_ofW HT_.out HW_.out (by kernel_rfl)) (by rfl) (by rintro w' ⟨s0, s1, s2, s3, s4, s5, s6, s7, s8, s9, s10, s11, s12, s13, s14, s15, s16, s17⟩; go_simp; with_reducible rfl) PUT_ ?_
                    refine on_ (i := 30) (N := some 75) (MK42 2147483647) rfl rfl (fun _ _ _ h => h) (any_of HT_.out (by kernel_rfl)) (by rfl) (by intro w'; go_simp; with_reducible rfl) PUT_ ?_
                    refine get_ (i := 31) (N := some 76) (MK42 4294967295) hHeld rfl rfl (fun _ _ _ h => h) (take_ofW HT_.out HW_.out (by kernel_rfl)) (by rfl) (by rintro w' ⟨s0, s1, s2, s3, s4, s5, s6, s7, s8, s9, s10, s11, s12, s13, s14, s15, s16, s17⟩; go_simp; with_reducible rfl) PUT_ ?_
                    refine on_ (i := 32) (N := some 77) (MK42 8589934591) rfl rfl (fun _ _ _ h => h) (any_of HT_.out (by kernel_rfl)) (by rfl) (by intro w'; go_simp; with_reducible rfl) PUT_ ?_
                    cases hs : decide ((ss.length : Int) ≤ y.f2) with
                    | true =>
                      as_aux_lemma =>
                        have hs_ : ¬ y.f2 < (ss.length : Int) := by have := of_decide_eq_true hs; omega
                        refine on_ (i := 33) (N := some 78) (MK42 17179869183) rfl rfl (fun _ _ _ h => h) (any_of HT_.out (by kernel_rfl)) (by rfl) (by intro w'; go_simp; with_reducible rfl) PUT_ ?_
                        refine on_ (i := 34) (N := some 79) (MK42 34359738367) rfl rfl (fun _ _ _ h => h) (any_of HT_.out (by kernel_rfl)) (by rfl) (by intro w'; go_simp; with_reducible rfl) PUT_ ?_
                        refine on_ (i := 35) (N := some 80) (MK42 68719476735) rfl rfl (fun _ _ _ h => h) (any_of HT_.out (by kernel_rfl)) (by rfl) (by intro w'; go_simp; with_reducible rfl) PUT_ ?_
                        refine off_row (i := 36) (N := some 81) (MK42 137438953471) rfl rfl (fun _ _ _ h => h) (any_of HT_.out (by kernel_rfl)) (by rfl) PUT_ ?_
                        refine off_row (i := 37) (N := some 82) (MK42 274877906943) rfl rfl (fun _ _ _ h => h) (any_of HT_.out (by kernel_rfl)) (by rfl) PUT_ ?_
                        refine off_row (i := 38) (N := some 83) (MK42 549755813887) rfl rfl (fun _ _ _ h => h) (any_of HT_.out (by kernel_rfl)) (by rfl) PUT_ ?_
                        refine off_row (i := 39) (N := some 84) (MK42 1099511627775) rfl rfl (fun _ _ _ h => h) (any_of HT_.out (by kernel_rfl)) (by rfl) PUT_ ?_
                        refine off_row (i := 40) (N := some 85) (MK42 2199023255551) rfl rfl (fun _ _ _ h => h) (any_of HT_.out (by kernel_rfl)) (by rfl) PUT_ ?_
                        refine on_ (i := 41) (N := some 86) (MK42 4398046511103) rfl rfl (fun _ _ _ h => h) (any_of HT_.out (by kernel_rfl)) (by rfl) (by intro w'; go_simp; with_reducible rfl) PUT_ ?_
                        have HG := Aside0.mk (show goodAt ps ss.length c k y = false by unfold goodAt; simp [hkp, HZ.out, hp, hid_, ho_, hs_])
                        refine done_ (done_of HT_.out (by kernel_rfl)) ?_
                        (try go_wp2)
                        go_ret
                        rw [bad_at HE.out HY.out HG.out]
                        exact ⟨rfl, HB4.out⟩
                    | false =>
                      as_aux_lemma =>
                        have hs_ : y.f2 < (ss.length : Int) := by have := of_decide_eq_false hs; omega
                        refine on_ (i := 33) (N := some 78) (MK42 17179869183) rfl rfl (fun _ _ _ h => h) (any_of HT_.out (by kernel_rfl)) (by rfl) (by intro w'; go_simp; with_reducible rfl) PUT_ ?_
                        refine on_ (i := 34) (N := some 79) (MK42 34359738367) rfl rfl (fun _ _ _ h => h) (any_of HT_.out (by kernel_rfl)) (by rfl) (by intro w'; go_simp; with_reducible rfl) PUT_ ?_
                        refine on_ (i := 35) (N := some 80) (MK42 68719476735) rfl rfl (fun _ _ _ h => h) (any_of HT_.out (by kernel_rfl)) (by rfl) (by intro w'; go_simp; with_reducible rfl) PUT_ ?_
                        refine on_ (i := 36) (N := some 81) (MK42 137438953471) rfl rfl (fun _ _ _ h => h) (any_of HT_.out (by kernel_rfl)) (by rfl) (by intro w'; go_simp; with_reducible rfl) PUT_ ?_
                        refine get_ (i := 37) (N := some 82) (MK42 274877906943) hHeld rfl rfl (fun _ _ _ h => h) (take_ofW HT_.out HW_.out (by kernel_rfl)) (by rfl) (by rintro w' ⟨s0, s1, s2, s3, s4, s5, s6, s7, s8, s9, s10, s11, s12, s13, s14, s15, s16, s17⟩; go_simp; with_reducible rfl) PUT_ ?_
                        refine on_ (i := 38) (N := some 83) (MK42 549755813887) rfl rfl (fun _ _ _ h => h) (any_of HT_.out (by kernel_rfl)) (by rfl) (by intro w'; go_simp; with_reducible rfl) PUT_ ?_
                        refine get_ (i := 39) (N := some 84) (MK42 1099511627775) hHeld rfl rfl (fun _ _ _ h => h) (take_ofW HT_.out HW_.out (by kernel_rfl)) (by rfl) (by rintro w' ⟨s0, s1, s2, s3, s4, s5, s6, s7, s8, s9, s10, s11, s12, s13, s14, s15, s16, s17⟩; go_simp; with_reducible rfl) PUT_ ?_
                        cases ht : decide (c < y.f4) with
                        | true =>
                          as_aux_lemma =>
                            have ht_ : ¬ y.f4 ≤ c := by have := of_decide_eq_true ht; omega
                            refine on_ (i := 40) (N := some 85) (MK42 2199023255551) rfl rfl (fun _ _ _ h => h) (any_of HT_.out (by kernel_rfl)) (by rfl) (by intro w'; go_simp; with_reducible rfl) PUT_ ?_
                            refine on_ (i := 41) (N := some 86) (MK42 4398046511103) rfl rfl (fun _ _ _ h => h) (any_of HT_.out (by kernel_rfl)) (by rfl) (by intro w'; go_simp; with_reducible rfl) PUT_ ?_
                            have HG := Aside0.mk (show goodAt ps ss.length c k y = false by unfold goodAt; simp [hkp, HZ.out, hp, hid_, ho_, hs_, ht_])
                            refine done_ (done_of HT_.out (by kernel_rfl)) ?_
                            (try go_wp2)
                            go_ret
                            rw [bad_at HE.out HY.out HG.out]
                            exact ⟨rfl, HB4.out⟩
                        | false =>
                          as_aux_lemma =>
                            have ht_ : y.f4 ≤ c := by have := of_decide_eq_false ht; omega
                            refine on_ (i := 40) (N := some 85) (MK42 2199023255551) rfl rfl (fun _ _ _ h => h) (any_of HT_.out (by kernel_rfl)) (by rfl) (by intro w'; go_simp; with_reducible rfl) PUT_ ?_
                            refine on_ (i := 41) (N := some 86) (MK42 4398046511103) rfl rfl (fun _ _ _ h => h) (any_of HT_.out (by kernel_rfl)) (by rfl) (by intro w'; go_simp; with_reducible rfl) PUT_ ?_
                            have HG := Aside0.mk (show goodAt ps ss.length c k y = true by unfold goodAt; simp [hkp, HZ.out, hp, hid_, ho_, hs_, ht_])
                            refine done_ (done_of HT_.out (by kernel_rfl)) ?_
                            (try go_wp2)
                            go_roundw
                            case rel => exact ⟨k + 1, by omega, by go_num, HB4, HS4, ⟨good_at HE.out HY.out HG.out⟩⟩
                            case measure => simp [intOf]; omega
        | false =>
          as_aux_lemma =>
            refine on_ (i := 2) (N := some 47) (MK42 7) rfl rfl (fun _ _ _ h => h) (any_of HT_.out (by kernel_rfl)) (by rfl) (by intro w'; go_simp; with_reducible rfl) PUT_ ?_
            refine on_ (i := 3) (N := some 48) (MK42 15) rfl rfl (fun _ _ _ h => h) (any_of HT_.out (by kernel_rfl)) (by rfl) (by intro w'; go_simp; with_reducible rfl) PUT_ ?_
            refine off_row (i := 4) (N := some 49) (MK42 31) rfl rfl (fun _ _ _ h => h) (any_of HT_.out (by kernel_rfl)) (by rfl) PUT_ ?_
            refine off_row (i := 5) (N := some 50) (MK42 63) rfl rfl (fun _ _ _ h => h) (any_of HT_.out (by kernel_rfl)) (by rfl) PUT_ ?_
            refine off_row (i := 6) (N := some 51) (MK42 127) rfl rfl (fun _ _ _ h => h) (any_of HT_.out (by kernel_rfl)) (by rfl) PUT_ ?_
            refine off_row (i := 7) (N := some 52) (MK42 255) rfl rfl (fun _ _ _ h => h) (any_of HT_.out (by kernel_rfl)) (by rfl) PUT_ ?_
            refine off_row (i := 8) (N := some 53) (MK42 511) rfl rfl (fun _ _ _ h => h) (any_of HT_.out (by kernel_rfl)) (by rfl) PUT_ ?_
            refine off_row (i := 9) (N := some 54) (MK42 1023) rfl rfl (fun _ _ _ h => h) (any_of HT_.out (by kernel_rfl)) (by rfl) PUT_ ?_
            refine off_row (i := 10) (N := some 55) (MK42 2047) rfl rfl (fun _ _ _ h => h) (any_of HT_.out (by kernel_rfl)) (by rfl) PUT_ ?_
            refine off_row (i := 11) (N := some 56) (MK42 4095) rfl rfl (fun _ _ _ h => h) (any_of HT_.out (by kernel_rfl)) (by rfl) PUT_ ?_
            refine off_row (i := 12) (N := some 57) (MK42 8191) rfl rfl (fun _ _ _ h => h) (any_of HT_.out (by kernel_rfl)) (by rfl) PUT_ ?_
            refine off_row (i := 13) (N := some 58) (MK42 16383) rfl rfl (fun _ _ _ h => h) (any_of HT_.out (by kernel_rfl)) (by rfl) PUT_ ?_
            refine off_row (i := 14) (N := some 59) (MK42 32767) rfl rfl (fun _ _ _ h => h) (any_of HT_.out (by kernel_rfl)) (by rfl) PUT_ ?_
            refine off_row (i := 15) (N := some 60) (MK42 65535) rfl rfl (fun _ _ _ h => h) (any_of HT_.out (by kernel_rfl)) (by rfl) PUT_ ?_
            refine off_row (i := 16) (N := some 61) (MK42 131071) rfl rfl (fun _ _ _ h => h) (any_of HT_.out (by kernel_rfl)) (by rfl) PUT_ ?_
            refine off_row (i := 17) (N := some 62) (MK42 262143) rfl rfl (fun _ _ _ h => h) (any_of HT_.out (by kernel_rfl)) (by rfl) PUT_ ?_
            refine on_ (i := 18) (N := some 63) (MK42 524287) rfl rfl (fun _ _ _ h => h) (any_of HT_.out (by kernel_rfl)) (by rfl) (by intro w'; go_simp; with_reducible rfl) PUT_ ?_
            refine on_ (i := 19) (N := some 64) (MK42 1048575) rfl rfl (fun _ _ _ h => h) (any_of HT_.out (by kernel_rfl)) (by rfl) (by intro w'; go_simp; with_reducible rfl) PUT_ ?_
            refine off_row (i := 20) (N := some 65) (MK42 2097151) rfl rfl (fun _ _ _ h => h) (any_of HT_.out (by kernel_rfl)) (by rfl) PUT_ ?_
            refine off_row (i := 21) (N := some 66) (MK42 4194303) rfl rfl (fun _ _ _ h => h) (any_of HT_.out (by kernel_rfl)) (by rfl) PUT_ ?_
            refine off_row (i := 22) (N := some 67) (MK42 8388607) rfl rfl (fun _ _ _ h => h) (any_of HT_.out (by kernel_rfl)) (by rfl) PUT_ ?_
            refine off_row (i := 23) (N := some 68) (MK42 16777215) rfl rfl (fun _ _ _ h => h) (any_of HT_.out (by kernel_rfl)) (by rfl) PUT_ ?_
            refine off_row (i := 24) (N := some 69) (MK42 33554431) rfl rfl (fun _ _ _ h => h) (any_of HT_.out (by kernel_rfl)) (by rfl) PUT_ ?_
            refine off_row (i := 25) (N := some 70) (MK42 67108863) rfl rfl (fun _ _ _ h => h) (any_of HT_.out (by kernel_rfl)) (by rfl) PUT_ ?_
            refine on_ (i := 26) (N := some 71) (MK42 134217727) rfl rfl (fun _ _ _ h => h) (any_of HT_.out (by kernel_rfl)) (by rfl) (by intro w'; go_simp; with_reducible rfl) PUT_ ?_
            refine on_ (i := 27) (N := some 72) (MK42 268435455) rfl rfl (fun _ _ _ h => h) (any_of HT_.out (by kernel_rfl)) (by rfl) (by intro w'; go_simp; with_reducible rfl) PUT_ ?_
            refine off_row (i := 28) (N := some 73) (MK42 536870911) rfl rfl (fun _ _ _ h => h) (any_of HT_.out (by kernel_rfl)) (by rfl) PUT_ ?_
            refine off_row (i := 29) (N := some 74) (MK42 1073741823) rfl rfl (fun _ _ _ h => h) (any_of HT_.out (by kernel_rfl)) (by rfl) PUT_ ?_
            refine off_row (i := 30) (N := some 75) (MK42 2147483647) rfl rfl (fun _ _ _ h => h) (any_of HT_.out (by kernel_rfl)) (by rfl) PUT_ ?_
            refine off_row (i := 31) (N := some 76) (MK42 4294967295) rfl rfl (fun _ _ _ h => h) (any_of HT_.out (by kernel_rfl)) (by rfl) PUT_ ?_
            refine off_row (i := 32) (N := some 77) (MK42 8589934591) rfl rfl (fun _ _ _ h => h) (any_of HT_.out (by kernel_rfl)) (by rfl) PUT_ ?_
            refine off_row (i := 33) (N := some 78) (MK42 17179869183) rfl rfl (fun _ _ _ h => h) (any_of HT_.out (by kernel_rfl)) (by rfl) PUT_ ?_
            refine on_ (i := 34) (N := some 79) (MK42 34359738367) rfl rfl (fun _ _ _ h => h) (any_of HT_.out (by kernel_rfl)) (by rfl) (by intro w'; go_simp; with_reducible rfl) PUT_ ?_
            refine on_ (i := 35) (N := some 80) (MK42 68719476735) rfl rfl (fun _ _ _ h => h) (any_of HT_.out (by kernel_rfl)) (by rfl) (by intro w'; go_simp; with_reducible rfl) PUT_ ?_
            refine off_row (i := 36) (N := some 81) (MK42 137438953471) rfl rfl (fun _ _ _ h => h) (any_of HT_.out (by kernel_rfl)) (by rfl) PUT_ ?_
            refine off_row (i := 37) (N := some 82) (MK42 274877906943) rfl rfl (fun _ _ _ h => h) (any_of HT_.out (by kernel_rfl)) (by rfl) PUT_ ?_
            refine off_row (i := 38) (N := some 83) (MK42 549755813887) rfl rfl (fun _ _ _ h => h) (any_of HT_.out (by kernel_rfl)) (by rfl) PUT_ ?_
            refine off_row (i := 39) (N := some 84) (MK42 1099511627775) rfl rfl (fun _ _ _ h => h) (any_of HT_.out (by kernel_rfl)) (by rfl) PUT_ ?_
            refine off_row (i := 40) (N := some 85) (MK42 2199023255551) rfl rfl (fun _ _ _ h => h) (any_of HT_.out (by kernel_rfl)) (by rfl) PUT_ ?_
            refine on_ (i := 41) (N := some 86) (MK42 4398046511103) rfl rfl (fun _ _ _ h => h) (any_of HT_.out (by kernel_rfl)) (by rfl) (by intro w'; go_simp; with_reducible rfl) PUT_ ?_
            have HG := Aside0.mk (show goodAt ps ss.length c k y = false by unfold goodAt; simp [hkp, HZ.out, hp])
            refine done_ (done_of HT_.out (by kernel_rfl)) ?_
            (try go_wp2)
            go_ret
            rw [bad_at HE.out HY.out HG.out]
            exact ⟨rfl, HB4.out⟩
    · obtain rfl : k = ps.length := by omega
      have HE2 := Aside0.mk (show stOk ps ss a c = ss.all sideOk by rw [HE.out, List.drop_length]; rfl)
      have hs0 : wr.cell? ⟨w.heap.size, 0, none⟩ = some (.slice A0 ps.length c0) := (blk_cell HS.out 0).trans rfl
      have hs1 : wr.cell? ⟨w.heap.size, 1, none⟩ = some (.slice A1 ss.length c1) := (blk_cell HS.out 1).trans rfl
      go_wp2
      clear hs0 hs1
      go_loopw [5] (fun i wr => ∃ k : Nat, k ≤ ss.length ∧ i = .int .i64 k ∧ Aside0 (Below w.heap.size w wr) ∧ Aside0 (wr.heap[w.heap.size]? = some (.cells #[.slice A0 ps.length c0, .slice A1 ss.length c1, .int .i64 a, .int .i64 c] 56 (0, 0))) ∧ Aside0 (stOk ps ss a c = (ss.drop k).all sideOk)) (fun i _ => ss.length - (intOf i).toNat)
      case atStart => exact ⟨0, Nat.zero_le _, rfl, BW, HS, HE2⟩
      case round =>
        clear BW HS HE HE2
        obtain ⟨k, hk, rfl, BW, HS, HE⟩ := hrel
        by_cases hlt : k < ss.length
        · have hltz : (k : Int) < (ss.length : Int) := by omega
          have hkz : (0 : Int) ≤ (k : Int) := by omega
          obtain ⟨ad, hA, hx0, hx1, hx2⟩ := at_T71 (Kd.C_below HR1.out BW.out) (k : Int) (by omega) hltz
          simp only [Int.toNat_natCast] at hx0 hx1 hx2
          subst hA
          have HY := Aside0.mk (show ss.drop k = rd_T71 ss (k : Int) :: ss.drop (k + 1) by rw [List.drop_eq_getElem_cons hlt]; simp [rd_T71, hlt])
          generalize rd_T71 ss (k : Int) = y at hx0 hx1 hx2 HY
          have hs1 : wr.cell? ⟨w.heap.size, 1, none⟩ = some (.slice (some ad) ss.length c1) := (blk_cell HS.out 1).trans rfl
          cases hq : sideOk y with
          | true =>
            go_wp2_with (go_at_call 99; ((with_reducible refine (side_spec y _).mono ?_); rintro e w2 ⟨rfl, hb⟩; have HB2 := Aside0.mk (below_step BW.out hb); have HS2 := Aside0.mk (blk_below HS.out hb); clear hb))
            go_roundw
            case rel => exact ⟨k + 1, by omega, by go_num, HB2, HS2, ⟨by rw [HE.out, HY.out, List.all_cons, hq, Bool.true_and]⟩⟩
            case measure => simp [intOf]; omega
          | false =>
            go_wp2_with (go_at_call 99; ((with_reducible refine (side_spec y _).mono ?_); rintro e w2 ⟨rfl, hb⟩; have HB2 := Aside0.mk (below_step BW.out hb); clear hb))
            go_ret
            rw [HE.out, HY.out, List.all_cons, hq, Bool.false_and]
            exact ⟨rfl, HB2.out⟩
        · have hs1 : wr.cell? ⟨w.heap.size, 1, none⟩ = some (.slice A1 ss.length c1) := (blk_cell HS.out 1).trans rfl
          obtain rfl : k = ss.length := by omega
          go_wp2
          go_ret
          rw [HE.out, List.drop_length]
          exact ⟨rfl, BW.out⟩
def spec_StateOk.f (k : Nat) (l0_0 : List S25) (l0_1 : List S71) (a0_2 : Int) (a0_3 : Int) : Option (Bool) := some (stOk l0_0 l0_1 a0_2 a0_3)
theorem spec_StateOk.mono : ∀ a0 a1 a2 a3 k, LeO (spec_StateOk.f k a0 a1 a2 a3) (spec_StateOk.f (k + 1) a0 a1 a2 a3) := fun _ _ _ _ _ => LeO.refl _
theorem spec_StateOk.calls (k : Nat) (A0_0 : Option Addr) (c0_0 : Nat) (l0_0 : List (S25)) (A0_1 : Option Addr) (c0_1 : Nat) (l0_1 : List (S71)) (a0_2 : Int) (a0_3 : Int) (r : Bool) (w : World) (hr0_0 : Kd.C k25 w A0_0 l0_0.length l0_0) (hc0_0 : l0_0.length ≤ c0_0) (hr0_1 : Kd.C k71 w A0_1 l0_1.length l0_1) (hc0_1 : l0_1.length ≤ c0_1) (h : spec_StateOk.f k l0_0 l0_1 a0_2 a0_3 = some r) :
    Calls Try.prog 36 #[.agg #[.slice A0_0 l0_0.length c0_0, .slice A0_1 l0_1.length c0_1, .int .i64 a0_2, .int .i64 a0_3]] w fun e w' => e = .returned (.bool r) ∧ Below w.heap.size w w' := by
  obtain rfl := Option.some.inj h
  exact spec_StateOk.calls0 A0_0 c0_0 l0_0 A0_1 c0_1 l0_1 a0_2 a0_3 w hr0_0 hr0_1
end Go.Proofs.Ytfkidiagmekleaa.QAll
