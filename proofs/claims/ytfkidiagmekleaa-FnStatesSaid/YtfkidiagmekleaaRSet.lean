-- Written by a program of this session (patch_print.py over the print).
import Derived.Shelf.Slices.CompactI
import Derived.Shelf.Slices.Cells
import Derived.Shelf.Slices.In.SortNone
import Derived.Shelf.Sort.Plain
import Derived.Sort.OwnSortedInts
import Derived.Test.YtfkidiagmekleaaQAllx0
import Derived.Test.YtfkidiagmekleaaRHas
namespace Go.Proofs.Ytfkidiagmekleaa.QAll
open Go.RowKit Go.Proofs.YtfkidiagmekleaaW.PrintWords Go.Proofs.YtfkidiagmekleaaW.PrintLast Go.Proofs.YtfkidiagmekleaaW.PrintMore
attribute [local go_sem] max2_int min2_int max_two min_two max_three min_three max_four min_four   -- for this text's walks alone
set_option linter.unusedVariables false
set_option linter.unusedSimpArgs false

/-! ### impl_SetOf: function 142 -/
def impl_SetOf.f (l0 : List Int) : Option (List Int) := if l0.length < 17592186044416 then some (Go.Lib.compact (l0.mergeSort fun x y => decide (x ≤ y))) else none
def compact_ren : Go.Shelf.Ren := ⟨fun | 20 => 147 | n => n, fun | 0 => 0 | 3 => 3 | 4 => 4 | 22 => 67 | n => n, fun n => n⟩
theorem compact_lay : Go.Proofs.Lays2.n20 Try.prog compact_ren := {
  mixed := by kernel_rfl,
  f20 := Try.func147.trans (congrArg some (by kernel_rfl)),
  t0 := Try.underlying0, a0 := Try.isAgg0, z0 := Try.sizeOf0, v0 := Try.zeroValue0,
  t3 := Try.underlying3, a3 := Try.isAgg3, z3 := Try.sizeOf3, v3 := Try.zeroValue3,
  t4 := Try.underlying4, a4 := Try.isAgg4, z4 := Try.sizeOf4, v4 := Try.zeroValue4,
  t22 := Try.underlying67, a22 := Try.isAgg67, z22 := Try.sizeOf67, v22 := Try.zeroValue67,
  i3 := by kernel_rfl }
def sort_ren : Go.Shelf.Ren := ⟨fun | 189 => 146 | 125 => 151 | 257 => 150 | 128 => 161 | 129 => 162 | 294 => 152 | 295 => 153 | 296 => 154 | 297 => 155 | 298 => 156 | 299 => 157 | 216 => 158 | 300 => 159 | 301 => 160 | 328 => 163 | 329 => 164 | 330 => 165 | 331 => 166 | 332 => 167 | 215 => 168 | 343 => 169 | n => n, fun | 28 => 67 | 3 => 3 | 46 => 122 | 0 => 0 | 51 => 148 | 53 => 150 | 4 => 4 | 183 => 140 | 182 => 139 | 131 => 145 | 5 => 5 | 9 => 9 | 218 => 151 | 222 => 155 | 228 => 157 | 229 => 158 | n => n, fun | n => n⟩
theorem sort_lay : Go.Proofs.Lays.n189 Try.prog sort_ren := {
  mixed := by kernel_rfl,
  f125 := Try.func151.trans (congrArg some (by kernel_rfl)),
  f128 := Try.func161.trans (congrArg some (by kernel_rfl)),
  f129 := Try.func162.trans (congrArg some (by kernel_rfl)),
  f189 := Try.func146.trans (congrArg some (by kernel_rfl)),
  f215 := Try.func168.trans (congrArg some (by kernel_rfl)),
  f216 := Try.func158.trans (congrArg some (by kernel_rfl)),
  f257 := Try.func150.trans (congrArg some (by kernel_rfl)),
  f294 := Try.func152.trans (congrArg some (by kernel_rfl)),
  f295 := Try.func153.trans (congrArg some (by kernel_rfl)),
  f296 := Try.func154.trans (congrArg some (by kernel_rfl)),
  f297 := Try.func155.trans (congrArg some (by kernel_rfl)),
  f298 := Try.func156.trans (congrArg some (by kernel_rfl)),
  f299 := Try.func157.trans (congrArg some (by kernel_rfl)),
  f300 := Try.func159.trans (congrArg some (by kernel_rfl)),
  f301 := Try.func160.trans (congrArg some (by kernel_rfl)),
  f328 := Try.func163.trans (congrArg some (by kernel_rfl)),
  f329 := Try.func164.trans (congrArg some (by kernel_rfl)),
  f330 := Try.func165.trans (congrArg some (by kernel_rfl)),
  f331 := Try.func166.trans (congrArg some (by kernel_rfl)),
  f332 := Try.func167.trans (congrArg some (by kernel_rfl)),
  f343 := Try.func169.trans (congrArg some (by kernel_rfl)),
  t0 := Try.underlying0,
  a0 := Try.isAgg0,
  z0 := Try.sizeOf0,
  v0 := Try.zeroValue0,
  t3 := Try.underlying3,
  a3 := Try.isAgg3,
  z3 := Try.sizeOf3,
  v3 := Try.zeroValue3,
  t4 := Try.underlying4,
  a4 := Try.isAgg4,
  z4 := Try.sizeOf4,
  v4 := Try.zeroValue4,
  t5 := Try.underlying5,
  a5 := Try.isAgg5,
  z5 := Try.sizeOf5,
  v5 := Try.zeroValue5,
  t9 := Try.underlying9,
  a9 := Try.isAgg9,
  z9 := Try.sizeOf9,
  v9 := Try.zeroValue9,
  t28 := Try.underlying67,
  a28 := Try.isAgg67,
  z28 := Try.sizeOf67,
  v28 := Try.zeroValue67,
  t46 := Try.underlying122,
  a46 := Try.isAgg122,
  z46 := Try.sizeOf122,
  v46 := Try.zeroValue122,
  t51 := Try.underlying148,
  a51 := Try.isAgg148,
  z51 := Try.sizeOf148,
  v51 := Try.zeroValue148,
  t53 := Try.underlying150,
  a53 := Try.isAgg150,
  z53 := Try.sizeOf150,
  v53 := Try.zeroValue150,
  t131 := Try.underlying145,
  a131 := Try.isAgg145,
  z131 := Try.sizeOf145,
  v131 := Try.zeroValue145,
  t182 := Try.underlying139,
  a182 := Try.isAgg139,
  z182 := Try.sizeOf139,
  v182 := Try.zeroValue139,
  t183 := Try.underlying140,
  a183 := Try.isAgg140,
  z183 := Try.sizeOf140,
  v183 := Try.zeroValue140,
  t218 := Try.underlying151,
  a218 := Try.isAgg151,
  z218 := Try.sizeOf151,
  v218 := Try.zeroValue151,
  t222 := Try.underlying155,
  a222 := Try.isAgg155,
  z222 := Try.sizeOf155,
  v222 := Try.zeroValue155,
  t228 := Try.underlying157,
  a228 := Try.isAgg157,
  z228 := Try.sizeOf157,
  v228 := Try.zeroValue157,
  t229 := Try.underlying158,
  a229 := Try.isAgg158,
  z229 := Try.sizeOf158,
  v229 := Try.zeroValue158 }
theorem own_of_R {e : Nat} {w : World} {base : Nat} {ok : Nat → Prop} {v : Value} {xs : List Int} (h : Kd.R (Kd.int .i64) e w base ok v xs) : w.ownsRow base e 1 v xs.length (xs.map (Value.int .i64)) := by
  obtain ⟨_, inner, ho, hr⟩ := h
  have hl : inner.length = xs.length := (show inner.length = xs.length * 1 from hr.1).trans (Nat.mul_one _)
  have : inner = xs.map (Value.int .i64) := by
    apply List.ext_getElem?
    intro j
    by_cases hj : j < xs.length
    · have h2 := hr.2 j xs[j] (List.getElem?_eq_getElem hj)
      have h3 : (inner.drop (j * 1)).take 1 = [Value.int .i64 xs[j]] := h2
      rw [Nat.mul_one] at h3
      have h4 : inner[j]? = some (Value.int .i64 xs[j]) := by
        have h5 := congrArg (fun l => l[0]?) h3
        simpa [List.getElem?_take, List.getElem?_drop] using h5
      rw [h4]
      simp [hj]
    · rw [List.getElem?_eq_none (by omega), List.getElem?_eq_none (by simp; omega)]
  rw [this] at ho
  exact ho
theorem R_of_own {e : Nat} {w : World} {base : Nat} {v : Value} {xs : List Int} (h : w.ownsRow base e 1 v xs.length (xs.map (Value.int .i64))) : Kd.R (Kd.int .i64) e w base (fun _ => True) v xs := by
  refine ⟨fun _ _ => trivial, _, h, (show (xs.map (Value.int .i64)).length = xs.length * 1 by rw [List.length_map, Nat.mul_one]), fun j p hp => ?_⟩
  show (((xs.map (Value.int .i64)).drop (j * 1)).take 1) = [Value.int .i64 p]
  have hj : j < xs.length := (List.getElem?_eq_some_iff.1 hp).1
  rw [Nat.mul_one, List.drop_eq_getElem_cons (by rw [List.length_map]; exact hj)]
  have : xs[j] = p := by rw [List.getElem?_eq_getElem hj] at hp; exact Option.some.inj hp
  simp [this]
theorem own_cut {w : World} {base : Nat} {e : Nat} {g cap n m : Nat} {xs ys : List Int} (h : w.ownsRow base e 1 (.slice (some ⟨g, 0, none⟩) n cap) n ((xs ++ ys).map (Value.int .i64))) (hm : m = xs.length) :
    w.ownsRow base e 1 (.slice (some ⟨g, 0, none⟩) m cap) m (xs.map (Value.int .i64)) := by
  subst hm
  rcases h.2 with ⟨hv, _⟩ | ⟨g', cap', cur, hv, hg, hh, h1, h2, h3, h4⟩
  · cases hv
  · cases hv
    have hl : xs.length ≤ n := by have := h.1; simp at this; omega
    refine ⟨by rw [List.length_map, Nat.mul_one], .inr ⟨g, cap, cur, rfl, hg, hh, by omega, h2, h3, ?_⟩⟩
    have h5 := congrArg (fun l => l.take xs.length) h4
    simp only [Nat.mul_one] at h5 ⊢
    rw [List.take_take, Nat.min_eq_left hl] at h5
    rw [h5, List.map_append, List.take_left' (by rw [List.length_map])]
set_option maxHeartbeats 8000000 in
set_option maxRecDepth 100000 in
theorem impl_SetOf.calls (A0 : Option Addr) (c0 : Nat) (l0 : List Int) (r : List Int) (w : World) (hr0 : Kd.C (Kd.int .i64) w A0 l0.length l0) (hc0 : l0.length ≤ c0) (h : impl_SetOf.f l0 = some r) :
    Calls Try.prog 142 #[.slice A0 l0.length c0] w fun e w' => ∃ v0_ : Value, e = .returned (v0_) ∧ Kd.R (Kd.int .i64) 3 w' w.heap.size (fun _ => True) v0_ r ∧ Below w.heap.size w w' := by
  unfold impl_SetOf.f at h
  by_cases hb : l0.length < 17592186044416
  · rw [if_pos hb] at h
    have hr : Go.Lib.compact (l0.mergeSort fun x y => decide (x ≤ y)) = r := Option.some.inj h
    clear h
    have hcl : slices_Clone_int_int.f l0 = some l0 := by simp [slices_Clone_int_int.f, hb]
    have HCL := Aside0.mk hcl
    have HR := Aside0.mk hr
    have HB0 := Aside0.mk hb
    have HR0 := Aside0.mk hr0
    have HC0 := Aside0.mk hc0
    clear hcl hr hb hr0 hc0
    go_enter Try.func142, Try.ntmps142
    go_wp2_with (fail)
    refine (slices_Clone_int_int.calls A0 c0 l0 l0 _ HR0.out HC0.out HCL.out).mono ?_
    rintro e w1 ⟨v, rfl, hR, hB⟩
    have ho := own_of_R hR
    clear hR
    rcases ho.2 with ⟨hv, hn⟩ | ⟨g, cap, cur, hv, hg, hh, h1, h2, h3, h4⟩
    · subst hv
      have hl0 : l0 = [] := List.eq_nil_of_length_eq_zero hn
      subst hl0
      have HBW := Aside0.mk hB
      clear ho hB hn
      go_wp2_with (fail)
      refine (Any.slices_Sort_int_none sort_lay none 0 w1).mono ?_
      rintro e w2 ⟨rfl, rfl⟩
      go_wp2_with (fail)
      refine (Any.slices_Compact_int_empty compact_lay none 0 w2).mono ?_
      rintro e w3 ⟨rfl, rfl⟩
      go_wp2
      go_ret
      have hr : r = [] := by
        rw [← HR.out, List.mergeSort_nil]
        rfl
      subst hr
      exact ⟨_, rfl, Kd.R_nil _ _ _ _ _, HBW.out⟩
    · subst hv
      have hHold := Go.holds_of_blockI hh (by rw [Nat.mul_one] at h4; exact h4)
      have hlt : g < w1.heap.size := (Array.getElem?_eq_some_iff.1 hh).1
      have hlen : (l0.mergeSort fun x y => decide (x ≤ y)).length = l0.length := List.length_mergeSort l0
      have hsort := Any.slices_Sort_int sort_lay g 0 cap l0 w1 hHold hlt (by have := HB0.out; omega)
      have hown2 : ∀ n os, (Go.Sort.grow (Go.Sort.putRow (Value.int .i64) (Go.Sort.ahead w1 n) g 0 (l0.mergeSort fun x y => decide (x ≤ y)).toArray) os).ownsRow w.heap.size 3 1 (.slice (some ⟨g, 0, none⟩) l0.length cap) l0.length ((l0.mergeSort fun x y => decide (x ≤ y)).map (Value.int .i64)) :=
        fun n os => Go.ownsRow_sortedI hlen hg hh h1 h2 h3
      have hbel2 : ∀ n os, Below w.heap.size w (Go.Sort.grow (Go.Sort.putRow (Value.int .i64) (Go.Sort.ahead w1 n) g 0 (l0.mergeSort fun x y => decide (x ≤ y)).toArray) os) :=
        fun n os => hB.grown (Go.grownBy_sortedI _) hB.size (fun k hk => by cases hk; exact hg)
      have HS := Aside0.mk hsort
      have HO2 := Aside0.mk hown2
      have HB2 := Aside0.mk hbel2
      have HL := Aside0.mk hlen
      have HG := Aside0.mk hg
      have H2 := Aside0.mk h2
      clear hsort hown2 hbel2 hlen hg h1 h2 h3 h4 hh ho hB hHold hlt
      go_wp2_with (fail)
      refine HS.out.mono ?_
      rintro e w2 ⟨rfl, n, os, hw2⟩
      have HO := Aside0.mk (show w2.ownsRow w.heap.size 3 1 (.slice (some ⟨g, 0, none⟩) l0.length cap) l0.length ((l0.mergeSort fun x y => decide (x ≤ y)).map (Value.int .i64)) from hw2 ▸ HO2.out n os)
      have HBW := Aside0.mk (show Below w.heap.size w w2 from hw2 ▸ HB2.out n os)
      clear hw2 HO2 HB2 HS
      have HR' := HR
      clear HR
      generalize hz : (l0.mergeSort fun x y => decide (x ≤ y)) = zs at HO HL HR'
      have hn : l0.length = zs.length := HL.out.symm
      rw [hn] at HO
      obtain ⟨cur2, hh2, h12, h32, h42⟩ : ∃ cur, w2.heap[g]? = some (.cells cur 3 (0, 0)) ∧ zs.length ≤ cap ∧ cur.size = cap * 1 ∧ cur.toList.take zs.length = zs.map (Value.int .i64) := by
        rcases HO.out.2 with ⟨hv, _⟩ | ⟨g', cap', cur, hv, hg, hh, h1, h2, h3, h4⟩
        · cases hv
        · cases hv
          exact ⟨cur, hh, h1, h3, by rw [Nat.mul_one] at h4; exact h4⟩
      have hHold := Go.holds_of_blockI hh2 h42
      have hcomp := Any.slices_Compact_int compact_lay g 0 cap zs w2 hHold (by have := HB0.out; omega) h12
      have hle := Go.Lib.compact_length_le zs
      have hown3 : ∀ q, (Go.Sort.putRow (Value.int .i64) (Go.Sort.ahead w2 q) g 0 (Go.Lib.compact zs ++ List.replicate (zs.length - (Go.Lib.compact zs).length) 0).toArray).ownsRow w.heap.size 3 1 (.slice (some ⟨g, 0, none⟩) zs.length cap) zs.length ((Go.Lib.compact zs ++ List.replicate (zs.length - (Go.Lib.compact zs).length) 0).map (Value.int .i64)) := by
        intro q
        have := Go.ownsRow_sortedI (w := w2) (base := w.heap.size) (g := g) (cap := cap) (n := q) (e := 3) (os := #[]) (cur := cur2) (ss := zs) (ts := Go.Lib.compact zs ++ List.replicate (zs.length - (Go.Lib.compact zs).length) 0) (by simp; omega) HG.out hh2 h12 H2.out h32
        rwa [Go.Sort.grow_empty] at this
      have hbel3 : ∀ q, Below w.heap.size w (Go.Sort.putRow (Value.int .i64) (Go.Sort.ahead w2 q) g 0 (Go.Lib.compact zs ++ List.replicate (zs.length - (Go.Lib.compact zs).length) 0).toArray) := by
        intro q
        have := HBW.out.grown (Go.grownBy_sortedI (w := w2) (g := g) (n := q) (os := #[]) (Go.Lib.compact zs ++ List.replicate (zs.length - (Go.Lib.compact zs).length) 0).toArray) HBW.out.size (fun k hk => by cases hk; exact HG.out)
        rwa [Go.Sort.grow_empty] at this
      have HC3 := Aside0.mk hcomp
      have HO3 := Aside0.mk hown3
      have HB3 := Aside0.mk hbel3
      clear hcomp hown3 hbel3 hle hHold hh2 h12 h32 h42 hz
      have HN := Aside0.mk hn
      clear hn
      go_wp2_with (fail)
      rw [HN.out]
      refine HC3.out.mono ?_
      rintro e w3 ⟨rfl, q, hw3⟩
      have HO4 := Aside0.mk (own_cut (hw3 ▸ HO3.out q) rfl)
      have HB4 := Aside0.mk (show Below w.heap.size w w3 from hw3 ▸ HB3.out q)
      clear hw3 HO3 HB3 HC3
      go_wp2
      go_ret
      rw [← HR'.out]
      exact ⟨_, rfl, R_of_own HO4.out, HB4.out⟩
  · rw [if_neg hb] at h
    cases h


end Go.Proofs.Ytfkidiagmekleaa.QAll
