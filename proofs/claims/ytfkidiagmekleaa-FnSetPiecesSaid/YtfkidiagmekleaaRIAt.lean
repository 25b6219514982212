-- Written by a program of this session (patch_print.py over the print).
import Derived.Test.YtfkidiagmekleaaQAllx0
namespace Go.Proofs.Ytfkidiagmekleaa.QAll
open Go.RowKit Go.Proofs.YtfkidiagmekleaaW.PrintWords Go.Proofs.YtfkidiagmekleaaW.PrintLast Go.Proofs.YtfkidiagmekleaaW.PrintMore
attribute [local go_sem] max2_int min2_int max_two min_two max_three min_three max_four min_four   -- for this text's walks alone
set_option linter.unusedVariables false
set_option linter.unusedSimpArgs false

/-- The place of the first element that meets the predicate, or -1. -/
def idx25 (p : S25 → Bool) : List S25 → Int → Int
  | [], _ => -1
  | y :: r, i => if p y then i else idx25 p r (i + 1)
theorem idx25_hit (p : S25 → Bool) : ∀ (zs : List S25) (k : Nat) (i : Int), (h : k < zs.length) → p zs[k] = true → (∀ j (hj : j < zs.length), j < k → p zs[j] = false) → idx25 p zs i = i + k
  | [], k, i, h, _, _ => absurd h (Nat.not_lt_zero _)
  | z :: zs, 0, i, _, hp, _ => by
    have : p z = true := hp
    simp [idx25, this]
  | z :: zs, k + 1, i, h, hp, hn => by
    have h0 : p z = false := hn 0 (Nat.succ_pos _) (Nat.succ_pos _)
    rw [idx25, h0, if_neg (by decide), idx25_hit p zs k (i + 1) (Nat.lt_of_succ_lt_succ h) hp (fun j hj hk => hn (j + 1) (Nat.succ_lt_succ hj) (Nat.succ_lt_succ hk))]
    omega
theorem idx25_miss (p : S25 → Bool) : ∀ (zs : List S25) (i : Int), (∀ j (hj : j < zs.length), p zs[j] = false) → idx25 p zs i = -1
  | [], _, _ => rfl
  | z :: zs, i, hn => by
    have h0 : p z = false := hn 0 (Nat.succ_pos _)
    rw [idx25, h0, if_neg (by decide), idx25_miss p zs (i + 1) (fun j hj => hn (j + 1) (Nat.succ_lt_succ hj))]
set_option maxHeartbeats 4000000 in
set_option maxRecDepth 100000 in
/-- slices.IndexFunc over a slice of such structs: the closure g, bound to lb, answers p, and leaves what there was. -/
theorem indexfunc25 (p : S25 → Bool) (g : Nat) (lb : Array Value) (eg : ∀ args w, (callFunc g args).run Try.prog w = .ok (.enter g args) w) (A : Option Addr) (c : Nat) (zs : List S25) (w : World) (hr : Kd.C k25 w A zs.length zs)
    (hp : ∀ (W : World) (x : S25), Below w.heap.size w W → Calls Try.prog g (#[.agg #[.int .i64 x.f0, .int .i64 x.f1, .int .i64 x.f2, .int .i64 x.f3, .int .i64 x.f4, .int .i64 x.f5, .int .i64 x.f6, .int .i64 x.f7, .int .i64 x.f8, .int .i64 x.f9, .int .i64 x.f10, .bool x.f11, .bool x.f12]] ++ lb) W fun e w' => e = .returned (.bool (p x)) ∧ Below w.heap.size w w') :
    Calls Try.prog 118 #[.slice A zs.length c, .func (.func g) #[] lb] w fun e w' => e = .returned (.int .i64 (idx25 p zs 0)) ∧ Below w.heap.size w w' := by
  have hbig : zs.length ≤ 9223372036854775807 := hr.2.1
  have HR := Aside0.mk hr
  have HP := Aside0.mk hp
  clear hr hp
  go_enter Try.func118, Try.ntmps118
  go_wp2
  go_loopg [5, 8] zs.length (fun gg _ s8 wr => ∃ kk : Nat, kk ≤ zs.length ∧ zs.length - kk ≤ gg ∧ s8 = .int .i64 kk ∧ Aside0 (Below w.heap.size w wr) ∧ Aside0 (∀ j (hj : j < zs.length), j < kk → p zs[j] = false))
  case atStart => exact ⟨0, Nat.zero_le _, by omega, rfl, ⟨Below.refl _ w⟩, ⟨fun j _ hj => absurd hj (Nat.not_lt_zero _)⟩⟩
  case round =>
    obtain ⟨kk, hkk, hg, rfl, BW, HA⟩ := hrel
    by_cases hlt : kk < zs.length
    · have hltz : (kk : Int) < (zs.length : Int) := by omega
      obtain ⟨a, hA, hx0, hx1, hx2, hx3, hx4, hx5, hx6, hx7, hx8, hx9, hx10, hx11, hx12⟩ := at_T25 (Kd.C_below HR.out BW.out) (kk : Int) (by omega) hltz
      simp only [Int.toNat_natCast] at hx0 hx1 hx2 hx3 hx4 hx5 hx6 hx7 hx8 hx9 hx10 hx11 hx12
      subst hA
      have hy : zs[kk] = rd_T25 zs (kk : Int) := by simp [rd_T25, hlt]
      have hcall := HP.out wr (rd_T25 zs (kk : Int)) BW.out
      generalize rd_T25 zs (kk : Int) = y at hx0 hx1 hx2 hx3 hx4 hx5 hx6 hx7 hx8 hx9 hx10 hx11 hx12 hy hcall
      have B := Aside0.mk hy
      clear hy
      cases hq : p y with
      | true =>
        rw [hq] at hcall
        go_wp2_with (go_at_fn g; refine hcall.mono ?_; rintro e w' ⟨rfl, hb'⟩)
        go_ret
        refine ⟨?_, hb'⟩
        rw [idx25_hit p zs kk 0 hlt (by rw [B.out]; exact hq) HA.out, Int.zero_add]
        rfl
      | false =>
        rw [hq] at hcall
        go_wp2_with (go_at_fn g; refine hcall.mono ?_; rintro e w' ⟨rfl, hb'⟩)
        go_roundg (zs.length - (kk + 1))
        case measure => omega
        case rel =>
          refine ⟨kk + 1, by omega, by omega, by go_num, ⟨hb'⟩, ⟨fun j hj hk => ?_⟩⟩
          by_cases e : j = kk
          · subst e
            rw [B.out]; exact hq
          · exact HA.out j hj (by omega)
    · have hltz : ¬ (kk : Int) < (zs.length : Int) := by omega
      go_wp2
      go_ret
      refine ⟨?_, BW.out⟩
      rw [idx25_miss p zs 0 (fun j hj => HA.out j hj (by omega))]
      rfl
/-! ### impl_PieceAt: function 66 -/
def impl_PieceAt.f (l0_0 : List S25) (l0_1 : List S71) (a0_2 : Int) (a0_3 : Int) (a1 : Int) : Option (Int) := some (idx25 (fun x => x.f0 == a1) l0_0 0)
set_option maxHeartbeats 4000000 in
set_option maxRecDepth 100000 in
theorem impl_PieceAt.closure (a1 : Int) (gi : Nat) (w : World) (hc : w.cell? ⟨gi, 0, none⟩ = some (.int .i64 a1)) (W : World) (x : S25) (hB : Below w.heap.size w W) :
    Calls Try.prog 125 (#[.agg #[.int .i64 x.f0, .int .i64 x.f1, .int .i64 x.f2, .int .i64 x.f3, .int .i64 x.f4, .int .i64 x.f5, .int .i64 x.f6, .int .i64 x.f7, .int .i64 x.f8, .int .i64 x.f9, .int .i64 x.f10, .bool x.f11, .bool x.f12]] ++ #[.pointer (some ⟨gi, 0, none⟩)]) W fun e w' => e = .returned (.bool (x.f0 == a1)) ∧ Below w.heap.size w w' := by
  have hi : W.cell? ⟨gi, 0, none⟩ = some (.int .i64 a1) := pw_cell_below hB hc
  have HB := Aside0.mk hB
  have hlt : gi < W.heap.size := World.block_lt_of_cell? W _ hi
  have hu := Try.underlying25
  clear hB hc
  go_enter Try.func125, Try.ntmps125
  go_wp2
  go_ret
  exact ⟨rfl, below_alloc HB.out _⟩
set_option maxHeartbeats 4000000 in
set_option maxRecDepth 100000 in
theorem impl_PieceAt.calls (A0_0 : Option Addr) (c0_0 : Nat) (l0_0 : List (S25)) (A0_1 : Option Addr) (c0_1 : Nat) (l0_1 : List (S71)) (a0_2 : Int) (a0_3 : Int) (a1 : Int) (r : Int) (w : World) (hr0_0 : Kd.C k25 w A0_0 l0_0.length l0_0) (hc0_0 : l0_0.length ≤ c0_0) (hr0_1 : Kd.C k71 w A0_1 l0_1.length l0_1) (hc0_1 : l0_1.length ≤ c0_1) (h : impl_PieceAt.f l0_0 l0_1 a0_2 a0_3 a1 = some r) :
    Calls Try.prog 66 #[.agg #[.slice A0_0 l0_0.length c0_0, .slice A0_1 l0_1.length c0_1, .int .i64 a0_2, .int .i64 a0_3], .int .i64 a1] w fun e w' => e = .returned (.int .i64 r) ∧ Below w.heap.size w w' := by
  obtain rfl := Option.some.inj h
  have HR := Aside0.mk hr0_0
  have hu := Try.underlying56
  clear h hr0_0 hc0_0 hr0_1 hc0_1
  go_enter Try.func66, Try.ntmps66
  go_wp2_with (go_at_call 118; ((with_reducible refine (indexfunc25 (fun x => x.f0 == a1) 125 #[.pointer (some ⟨w.heap.size + 1, 0, none⟩)] (fun args w => enters_ Try.func125 (by kernel_rfl) (by kernel_rfl) args w) A0_0 c0_0 l0_0 _ (Kd.C_alloc (Kd.C_alloc HR.out _) _) (fun W x hB => impl_PieceAt.closure a1 _ _ (by simp [go_sem]) W x hB)).mono ?_); rintro e w1 ⟨rfl, hB1⟩; have HB1 := Aside0.mk hB1; clear hB1))
  go_ret
  exact ⟨rfl, below_step (below_alloc (below_alloc (Below.refl _ _) _) _) HB1.out⟩


end Go.Proofs.Ytfkidiagmekleaa.QAll
