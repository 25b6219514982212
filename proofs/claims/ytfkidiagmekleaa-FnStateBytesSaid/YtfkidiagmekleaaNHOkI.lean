/- The program's StateOk, walked by hand: it answers just stOk, a plain function of the lists and numbers (no condition but that the rows are read). -/
import Derived.Test.YtfkidiagmekleaaNVZ
import Derived.Test.YtfkidiagmekleaaNHBase
import Derived.Test.YtfkidiagmekleaaNHOk
import Derived.Test.YtfkidiagmekleaaNQAllx0
import Derived.Test.YtfkidiagmekleaaNRBas
import Derived.Test.YtfkidiagmekleaaNRIOk
import Derived.Test.YtfkidiagmekleaaNRSds
namespace Go.Proofs.Ytfkidiagmekleaa.QAll
open Go.RowKit Go.Proofs.YtfkidiagmekleaaW.PrintWords Go.Proofs.YtfkidiagmekleaaW.PrintLast Go.Proofs.YtfkidiagmekleaaW.PrintMore
set_option linter.unusedVariables false
set_option linter.unusedSimpArgs false
theorem impl_from_in (a lo hi:Int):impl_from.f a lo hi=some (inr a lo hi):=inr_if a lo hi
theorem impl_pieceok (k:Nat) (a0 a1 a2 a3 a4 a5 a6 a7 a8 a9 a10:Int) (a11 a12:Bool) (hk:1≤k):impl_PieceOk.f k a0 a1 a2 a3 a4 a5 a6 a7 a8 a9 a10 a11 a12=some (pok a0 a1 a2 a3 a4 a5 a6 a7 a8 a9 a10 a11 a12):=by
 obtain ⟨k,rfl⟩:∃ q,k=q+1:=⟨k - 1,by omega⟩
 have hj:impl_PieceOk.j0 (k+1) true a0 a1 a2 a3 a4 a5 a6 a7 a8 a9 a10 a11 a12=some false:=by simp only [impl_PieceOk.j0,if_true]
 unfold impl_PieceOk.f pok
 simp only [impl_isId.f,impl_isPlayer.f,impl_isZone.f,impl_isTime.f,impl_isTraits.f,impl_from_in,Option.bind_some,hj]
 cases inr a0 1 99
 ·simp only [Bool.false_eq_true,if_false,Bool.false_and]
 cases inr a1 0 2
 ·simp only [Bool.false_eq_true,if_false,if_true,Bool.false_and,Bool.true_and]
 cases inr a2 0 2
 ·simp only [Bool.false_eq_true,if_false,if_true,Bool.false_and,Bool.true_and]
 cases inr a3 1 4
 ·simp only [Bool.false_eq_true,if_false,if_true,Bool.false_and,Bool.true_and]
 cases inr a4 0 9999
 ·simp only [Bool.false_eq_true,if_false,if_true,Bool.false_and,Bool.true_and]
 cases inr a5 0 999
 ·simp only [Bool.false_eq_true,if_false,if_true,Bool.false_and,Bool.true_and]
 cases inr a6 0 999
 ·simp only [Bool.false_eq_true,if_false,if_true,Bool.false_and,Bool.true_and]
 cases inr a7 0 63
 ·simp only [if_true,Bool.false_and,Bool.true_and,Bool.not_false,hj]
 simp only [impl_PieceOk.j0,impl_isAmount.f,impl_from_in,Option.bind_some,if_true,Bool.true_and,Bool.not_true,Bool.false_eq_true,if_false]
 by_cases h3:a3=2
 ·rw [if_pos h3]
  cases inr a8 0 2147483647<;>cases inr a9 0 2147483647<;>simp [h3]
 rw [if_neg h3]
 by_cases h2:a2=a1
 ·by_cases h8:a8=0
  ·by_cases h9:a9=0
   ·by_cases h10:a10=0
    ·subst h8 h9 h10
     cases a11<;>simp [h3,h2,inr]
    ·simp [h3,h2,h8,h9,h10]
   ·simp [h3,h2,h8,h9]
  ·simp [h3,h2,h8]
 ·simp [h3,h2]
theorem pok_impl (y:S25) (w:World):Calls Try.prog 18 #[.agg #[.int .i64 y.f0,.int .i64 y.f1,.int .i64 y.f2,.int .i64 y.f3,.int .i64 y.f4,.int .i64 y.f5,.int .i64 y.f6,.int .i64 y.f7,.int .i64 y.f8,.int .i64 y.f9,.int .i64 y.f10,.bool y.f11,.bool y.f12]] w fun e w'=>e = .returned (.bool (pokS y))∧Below w.heap.size w w':=impl_PieceOk.calls 1 _ _ _ _ _ _ _ _ _ _ _ _ _ _ w (impl_pieceok 1 _ _ _ _ _ _ _ _ _ _ _ _ _ (Nat.le_refl _))
theorem from_b (a lo hi:Int) (w:World):Calls Try.prog 81 #[.int .i64 a,.int .i64 lo,.int .i64 hi] w fun e w'=>e = .returned (.bool (inr a lo hi))∧Drawn0 w w':=impl_from.calls a lo hi _ w (impl_from_in a lo hi)
theorem time_b (a:Int) (w:World):Calls Try.prog 80 #[.int .i64 a] w fun e w'=>e = .returned (.bool (inr a 0 9999))∧Drawn0 w w':=impl_isTime.calls a _ w (by unfold impl_isTime.f;rw [impl_from_in];rfl)
theorem isSide_b (A0:Option Addr) (c0:Nat) (ps:List S25) (A1:Option Addr) (c1:Nat) (ss:List S71) (a c x:Int) (w:World) (hr0:Kd.C k25 w A0 ps.length ps) (hc0:ps.length≤c0) (hr1:Kd.C k71 w A1 ss.length ss) (hc1:ss.length≤c1) :
  Calls Try.prog 102 #[.agg #[.slice A0 ps.length c0,.slice A1 ss.length c1,.int .i64 a,.int .i64 c],.int .i64 x] w fun e w'=>e = .returned (.bool (inr x 0 ((ss.length:Int) - 1)))∧Below w.heap.size w w' :=
 impl_isSide.calls A0 c0 ps A1 c1 ss a c x _ w hr0 hc0 hr1 hc1 (by
  have hb1:ss.length≤9223372036854775807:=hr1.2.1
  have hw:wrap64 ((ss.length:Int) - 1)=(ss.length:Int) - 1:=by unfold wrap64;omega
  unfold impl_isSide.f
  rw [hw,impl_from_in]
  rfl)
theorem pok_ge {y:S25} (h:pokS y=true):0≤y.f1∧0≤y.f2:=by
 unfold pokS pok at h
 simp only [Bool.and_eq_true,inr,decide_eq_true_eq] at h
 omega
theorem side_p (x:S71):impl_Side_103.p x = !sideOk x:=by
 have h:=impl_Side_103.p_eq x
 unfold impl_StateOk_1.f impl_isAmount.f impl_Bound.f at h
 simp only [Option.bind_some,impl_from_in] at h
 unfold sideOk
 have hm:mx (-2147483647) (mn x.f0 2147483647)=x.f0↔inr x.f0 (-2147483647) 2147483647=true:=by
  unfold mx mn inr
  simp only [decide_eq_true_eq]
  omega
 by_cases g:mx (-2147483647) (mn x.f0 2147483647)=x.f0
 ·rw [if_pos g] at h
  rw [hm.1 g,Bool.true_and]
  exact (Option.some.inj h).symm
 ·rw [if_neg g] at h
  have h2:inr x.f0 (-2147483647) 2147483647=false:=by
   cases hq:inr x.f0 (-2147483647) 2147483647 with
   | false=>rfl
   | true=>exact absurd (hm.2 hq) g
  rw [h2,Bool.false_and]
  exact (Option.some.inj h).symm
theorem idx_any (p:S71→Bool):∀ (zs:List S71) (i:Int),0≤i→decide (0≤idx71 p zs i)=zs.any p
 | [],i,_=>rfl
 | z::zs,i,hi=>by
  rw [idx71,List.any_cons]
  cases p z with
  | true=>rw [if_pos rfl,decide_eq_true hi,Bool.true_or]
  | false=>rw [if_neg (by decide),Bool.false_or,idx_any p zs (i+1) (by omega)]
theorem side_none {ps:List S25} {ns c:Int} {k:Nat} (ss:List S71):(goodFrom ps ns c k []&&ss.all sideOk) = !decide (0≤idx71 impl_Side_103.p ss 0):=by
 rw [idx_any _ _ _ (Int.le_refl 0)]
 show (true&&ss.all sideOk)=_
 rw [Bool.true_and]
 induction ss with
 | nil=>rfl
 | cons x xs ih=>rw [List.all_cons,List.any_cons,ih,side_p];cases sideOk x<;>simp
def MK40 (k:Nat):Array Bool:=((List.range 40).map fun j=>k.testBit j).toArray
def impl_StateOk.T6:Bool×List (List Nat×List Nat):=(true,[([],[]),([0],[0]),([1],[1]),([2,1],[2]),([3],[3]),([3],[3]),([5,3],[3,5]),([4,6,3,3],[3,4,6]),([7,3],[3,7]),([3,8],[3,8]),([9,7],[9]),([10],[10]),([10],[10]),([12,10],[10,12]),([11,13,10,10],[10,11,13]),([14,10],[10,14]),([10,15],[10,15]),([16,14],[16]),([17],[17]),([18,17],[17,18]),([17],[17]),([20,17],[17,20]),([19,21,17],[17,19,21]),([17,22],[17,22]),([23,17],[23]),([24],[24]),([25,24],[24,25]),([26,24,24],[24,26]),([27],[27]),([28,27],[27,28]),([27],[27]),([30,27],[27,30]),([29,31,27],[27,29,31]),([32,27],[27,32]),([33,27],[27,33]),([27],[27]),([35,27],[27,35]),([34,36,27],[27,34,36]),([27,37,24],[24,27,37]),([24,38],[24,38])])
def impl_StateOk.B6:List Nat:=[0,1,3,7,15,15,47,127,255,511,1023,2047,2047,6143,16383,32767,65535,131071,262143,524287,262143,1310719,4194303,8388607,16777215,33554431,67108863,134217727,268435455,536870911,268435455,1342177279,4294967295,8589934591,17179869183,268435455,34628173823,137438953471,274877906943,549755813887]
theorem impl_StateOk.tab6:rtab .any (opsOf Try.f38 6)=impl_StateOk.T6:=by kernel_rfl
theorem impl_StateOk.bits6:waitsOk impl_StateOk.T6.2 impl_StateOk.B6=true:=by kernel_rfl
set_option maxHeartbeats 8000000 in
set_option maxRecDepth 100000 in
theorem impl_StateOk.calls0 (A0:Option Addr) (c0:Nat) (ps:List S25) (A1:Option Addr) (c1:Nat) (ss:List S71) (a c:Int) (w:World) (hr0:Kd.C k25 w A0 ps.length ps) (hc0:ps.length≤c0) (hr1:Kd.C k71 w A1 ss.length ss) (hc1:ss.length≤c1) :
  Calls Try.prog 38 #[.agg #[.slice A0 ps.length c0,.slice A1 ss.length c1,.int .i64 a,.int .i64 c]] w fun e w'=>e = .returned (.bool (stOk ps ss a c))∧Below w.heap.size w w':=by
 have hu56:=Try.underlying56
 have hu25:=Try.underlying25
 have HR0:=Aside0.mk hr0
 have HR1:=Aside0.mk hr1
 have HC0:=Aside0.mk hc0
 have HC1:=Aside0.mk hc1
 have hb0:ps.length≤9223372036854775807:=hr0.2.1
 have hb1:ss.length≤9223372036854775807:=hr1.2.1
 clear hr0 hr1 hc0 hc1
 by_cases g1:8 < ps.length
 ·have HX:=Aside0.mk (show stOk ps ss a c=false by unfold stOk;rw [decide_eq_false (by omega)];rfl)
  go_enter Try.func38,Try.ntmps38
  go_wp2
  go_ret
  rw [HX.out]
  exact ⟨rfl,below_alloc (Below.refl _ _) _⟩
 have g1':decide (ps.length≤8)=true:=decide_eq_true (by omega)
 cases g2:inr (ss.length:Int) 2 3 with
 | false =>
  have HX:=Aside0.mk (show stOk ps ss a c=false by unfold stOk;rw [g1',g2];rfl)
  go_enter Try.func38,Try.ntmps38
  go_wp2_with (go_at_call 81;((with_reducible refine (from_b _ _ _ _).mono ?_);rintro e w1 ⟨rfl,⟨n,rfl⟩⟩))
  go_ret
  rw [HX.out]
  exact ⟨rfl,pw_below_drewN (below_alloc (Below.refl _ _) _) _⟩
 | true =>
 have hs2:2≤(ss.length:Int)∧(ss.length:Int)≤3:=by simpa [inr] using g2
 cases g3:inr a 0 ((ss.length:Int) - 1) with
 | false =>
  have HX:=Aside0.mk (show stOk ps ss a c=false by unfold stOk;rw [g1',g2,g3];rfl)
  go_enter Try.func38,Try.ntmps38
  go_wp2_with (first|(go_at_call 81;((with_reducible refine (from_b _ _ _ _).mono ?_);rintro e w1 ⟨rfl,⟨n,rfl⟩⟩))|(go_at_call 102;((with_reducible refine (isSide_b A0 c0 ps A1 c1 ss a c a _ (Kd.C_below HR0.out (pw_below_drewN (below_alloc (Below.refl _ _) _) _)) HC0.out (Kd.C_below HR1.out (pw_below_drewN (below_alloc (Below.refl _ _) _) _)) HC1.out).mono ?_);rintro e w2 ⟨rfl,hb⟩;have HB1:=Aside0.mk (below_step (pw_below_drewN (below_alloc (Below.refl w.heap.size w) _) _) hb);have HS1:=Aside0.mk (blk_below (blk_drewN (blk_new w _) _) hb);obtain ⟨hq0,hq1,-,hq3⟩:=cells4 HS1.out;clear hb)))
  go_ret
  rw [HX.out]
  exact ⟨rfl,HB1.out⟩
 | true =>
 cases g4:inr c 0 9999 with
 | false =>
  have HX:=Aside0.mk (show stOk ps ss a c=false by unfold stOk;rw [g1',g2,g3,g4];rfl)
  go_enter Try.func38,Try.ntmps38
  go_wp2_with (first|(go_at_call 81;((with_reducible refine (from_b _ _ _ _).mono ?_);rintro e w1 ⟨rfl,⟨n,rfl⟩⟩))|(go_at_call 102;((with_reducible refine (isSide_b A0 c0 ps A1 c1 ss a c a _ (Kd.C_below HR0.out (pw_below_drewN (below_alloc (Below.refl _ _) _) _)) HC0.out (Kd.C_below HR1.out (pw_below_drewN (below_alloc (Below.refl _ _) _) _)) HC1.out).mono ?_);rintro e w2 ⟨rfl,hb⟩;have HB1:=Aside0.mk (below_step (pw_below_drewN (below_alloc (Below.refl w.heap.size w) _) _) hb);have HS1:=Aside0.mk (blk_below (blk_drewN (blk_new w _) _) hb);obtain ⟨hq0,hq1,-,hq3⟩:=cells4 HS1.out;clear hb))|(go_at_call 80;((with_reducible refine (time_b _ _).mono ?_);rintro e w3 ⟨rfl,⟨n3,rfl⟩⟩)))
  go_ret
  rw [HX.out]
  exact ⟨rfl,pw_below_drewN HB1.out _⟩
 | true =>
 have HX:=Aside0.mk (show stOk ps ss a c=(goodFrom ps ss.length c 0 ps&&ss.all sideOk) by unfold stOk;rw [g1',g2,g3,g4];rfl)
 go_enter Try.func38,Try.ntmps38
 go_wp2_with (first|(go_at_call 81;((with_reducible refine (from_b _ _ _ _).mono ?_);rintro e w1 ⟨rfl,⟨n,rfl⟩⟩))|(go_at_call 102;((with_reducible refine (isSide_b A0 c0 ps A1 c1 ss a c a _ (Kd.C_below HR0.out (pw_below_drewN (below_alloc (Below.refl _ _) _) _)) HC0.out (Kd.C_below HR1.out (pw_below_drewN (below_alloc (Below.refl _ _) _) _)) HC1.out).mono ?_);rintro e w2 ⟨rfl,hb⟩;have HB1:=Aside0.mk (below_step (pw_below_drewN (below_alloc (Below.refl w.heap.size w) _) _) hb);have HS1:=Aside0.mk (blk_below (blk_drewN (blk_new w _) _) hb);obtain ⟨hq0,hq1,-,hq3⟩:=cells4 HS1.out;clear hb))|(go_at_call 80;((with_reducible refine (time_b _ _).mono ?_);rintro e w3 ⟨rfl,⟨n3,rfl⟩⟩)))
 clear hq0 hq1 hq3
 go_loopw [32] (fun i wr=>∃ k:Nat,k≤ps.length∧i = .int .i64 k∧Aside0 (Below w.heap.size w wr)∧Aside0 (wr.heap[w.heap.size]?=some (.cells #[.slice A0 ps.length c0,.slice A1 ss.length c1,.int .i64 a,.int .i64 c] 56 (0,0)))∧Aside0 (stOk ps ss a c=(goodFrom ps ss.length c k (ps.drop k)&&ss.all sideOk))) (fun i _=>ps.length - (intOf i).toNat)
 case atStart=>exact ⟨0,Nat.zero_le _,rfl,⟨pw_below_drewN HB1.out _⟩,⟨blk_drewN HS1.out _⟩,HX⟩
 case round =>
  clear HB1 HS1
  obtain ⟨k,hk,rfl,BW,HS,HE⟩:=hrel
  by_cases hlt:k < ps.length
  ·have hltz:(k:Int) < (ps.length:Int):=by omega
   obtain ⟨ad,hA,hx0,hx1,hx2,hx3,hx4,hx5,hx6,hx7,hx8,hx9,hx10,hx11,hx12⟩:=at_T25 (Kd.C_below HR0.out BW.out) (k:Int) (by omega) hltz
   simp only [Int.toNat_natCast] at hx0 hx1 hx2 hx3 hx4 hx5 hx6 hx7 hx8 hx9 hx10 hx11 hx12
   subst hA
   have HY:=Aside0.mk (show ps.drop k=rd_T25 ps (k:Int)::ps.drop (k+1) by rw [List.drop_eq_getElem_cons hlt];simp [rd_T25,hlt])
   generalize rd_T25 ps (k:Int)=y at hx0 hx1 hx2 hx3 hx4 hx5 hx6 hx7 hx8 hx9 hx10 hx11 hx12 HY
   have hkz:(0:Int)≤(k:Int):=by omega
   go_wp2_with (first
    | ((with_reducible refine gate_dst (N:=4) rfl ?_);refine box_event (N:=4) rfl rfl (cs:=#[.int .i64 0,.int .i64 0,.int .i64 0,.int .i64 0,.int .i64 0,.int .i64 0,.int .i64 0,.int .i64 0,.int .i64 0,.int .i64 0,.int .i64 0,.bool false,.bool false]) (t:=25) ?hr ?_;(case hr=>first|(go_simp;done)|(go_simp;rfl));intro gp hgp w2 hbox hb;have GP:=Aside0.mk (show w.heap.size≤gp by rw [hgp];exact BW.out.size);have NE:=Aside0.mk (show w.heap.size≠gp by have:=blk_lt HS.out;omega);have HS2:=Aside0.mk (blk_below HS.out hb);have HB2:=Aside0.mk (below_step BW.out hb);have BX:=Aside0.mk hbox;clear hgp hbox hb)
    | ((with_reducible refine gate_store (t:=25) (p:=4) (v := .tmp 36) rfl ?_);refine put_event rfl rfl rfl 25 gp 0 _ #[.int .i64 y.f0,.int .i64 y.f1,.int .i64 y.f2,.int .i64 y.f3,.int .i64 y.f4,.int .i64 y.f5,.int .i64 y.f6,.int .i64 y.f7,.int .i64 y.f8,.int .i64 y.f9,.int .i64 y.f10,.bool y.f11,.bool y.f12] (.agg #[.int .i64 y.f0,.int .i64 y.f1,.int .i64 y.f2,.int .i64 y.f3,.int .i64 y.f4,.int .i64 y.f5,.int .i64 y.f6,.int .i64 y.f7,.int .i64 y.f8,.int .i64 y.f9,.int .i64 y.f10,.bool y.f11,.bool y.f12]) [.int .i64 y.f0,.int .i64 y.f1,.int .i64 y.f2,.int .i64 y.f3,.int .i64 y.f4,.int .i64 y.f5,.int .i64 y.f6,.int .i64 y.f7,.int .i64 y.f8,.int .i64 y.f9,.int .i64 y.f10,.bool y.f11,.bool y.f12] rfl rfl BX.out rfl (by kernel_rfl) (by simp) (by simp [Value.oneCell']) rfl ?_;intro w3 hbox3 hg3;have HS3:=Aside0.mk (blk_step hg3 NE.out HS2.out);have HB3:=Aside0.mk (below_put hg3 GP.out (below_sz HB2.out) HB2.out);have BX3:=Aside0.mk hbox3;clear hbox3 hg3))
   clear hx0 hx1 hx2 hx3 hx4 hx5 hx6 hx7 hx8 hx9 hx10 hx11 hx12 BX HS2 HB2 GP NE
   cases hk0:decide ((0:Int) < (k:Int)) with
   | false =>
    have hkp:¬ 0 < k:=by have:=of_decide_eq_false hk0;omega
    have HBd:=Aside0.mk (below_drew1 HB3.out)
    have HSd:=Aside0.mk (blk_drew HS3.out)
    have BXd:=Aside0.mk (blk_drew BX3.out)
    refine start_ (n:=40) (S:=fun w'=>w'.cell? ⟨gp,0,none⟩=some (.int .i64 y.f0)∧w'.cell? ⟨gp,1,none⟩=some (.int .i64 y.f1)∧w'.cell? ⟨gp,2,none⟩=some (.int .i64 y.f2)∧w'.cell? ⟨gp,3,none⟩=some (.int .i64 y.f3)∧w'.cell? ⟨gp,4,none⟩=some (.int .i64 y.f4)∧w'.cell? ⟨gp,5,none⟩=some (.int .i64 y.f5)∧w'.cell? ⟨gp,6,none⟩=some (.int .i64 y.f6)∧w'.cell? ⟨gp,7,none⟩=some (.int .i64 y.f7)∧w'.cell? ⟨gp,8,none⟩=some (.int .i64 y.f8)∧w'.cell? ⟨gp,9,none⟩=some (.int .i64 y.f9)∧w'.cell? ⟨gp,10,none⟩=some (.int .i64 y.f10)∧w'.cell? ⟨gp,11,none⟩=some (.bool y.f11)∧w'.cell? ⟨gp,12,none⟩=some (.bool y.f12)∧w'.cell? ⟨w.heap.size,0,none⟩=some (.slice (some ad) ps.length c0)∧w'.cell? ⟨w.heap.size,1,none⟩=some (.slice A1 ss.length c1)∧w'.cell? ⟨w.heap.size,2,none⟩=some (.int .i64 a)∧w'.cell? ⟨w.heap.size,3,none⟩=some (.int .i64 c)) (ds:=[]) #[false,false,false,false,false,false,false,false,false,false,false,false,false,false,false,false,false,false,false,false,false,false,false,false,false,false,false,false,false,false,false,false,false,false,false,false,false,false,false,false] (by kernel_rfl) rfl rfl ⟨(blk_cell BXd.out 0).trans rfl,(blk_cell BXd.out 1).trans rfl,(blk_cell BXd.out 2).trans rfl,(blk_cell BXd.out 3).trans rfl,(blk_cell BXd.out 4).trans rfl,(blk_cell BXd.out 5).trans rfl,(blk_cell BXd.out 6).trans rfl,(blk_cell BXd.out 7).trans rfl,(blk_cell BXd.out 8).trans rfl,(blk_cell BXd.out 9).trans rfl,(blk_cell BXd.out 10).trans rfl,(blk_cell BXd.out 11).trans rfl,(blk_cell BXd.out 12).trans rfl,(blk_cell HSd.out 0).trans rfl,(blk_cell HSd.out 1).trans rfl,(blk_cell HSd.out 2).trans rfl,(blk_cell HSd.out 3).trans rfl⟩ (fun hHeld=>?_);refine with_tabW impl_StateOk.tab6 impl_StateOk.bits6 (fun HT_ HW_=>?_)
    generalize w3.drew=w4 at HBd HSd BXd hHeld ⊢
    clear HB3 HS3 BX3
    have HB3:=HBd
    have HS3:=HSd
    have BX3:=BXd
    clear HBd HSd BXd
    refine gz 0 37 (MK40 1) (r:=(by rintro w' ⟨s0,s1,s2,s3,s4,s5,s6,s7,s8,s9,s10,s11,s12,s13,s14,s15,s16⟩;go_simp;with_reducible rfl)) (h:=?_)
    refine one_ (i:=1) (N:=some 38) (MK40 3) rfl rfl (one_of HT_.out (by kernel_rfl)) (by decide) (fun K hK=>?_)
    refine goes_ Try.func18 (by kernel_rfl) rfl #[.agg #[.int .i64 y.f0,.int .i64 y.f1,.int .i64 y.f2,.int .i64 y.f3,.int .i64 y.f4,.int .i64 y.f5,.int .i64 y.f6,.int .i64 y.f7,.int .i64 y.f8,.int .i64 y.f9,.int .i64 y.f10,.bool y.f11,.bool y.f12]] (by rfl) rfl rfl (by (try simp only [List.map_toArray,List.map_cons,List.map_nil]);first|done|rfl) ?_
    with_reducible refine (pok_impl y _).mono ?_
    rintro e w5 ⟨rfl,hb⟩
    refine ⟨_,rfl,?_⟩
    have HB4:=Aside0.mk (below_step HB3.out hb)
    have HS4:=Aside0.mk (blk_below HS3.out hb)
    have BX4:=Aside0.mk (blk_below BX3.out hb)
    clear hb
    refine hK.out _ _ ⟨(blk_cell BX4.out 0).trans rfl,(blk_cell BX4.out 1).trans rfl,(blk_cell BX4.out 2).trans rfl,(blk_cell BX4.out 3).trans rfl,(blk_cell BX4.out 4).trans rfl,(blk_cell BX4.out 5).trans rfl,(blk_cell BX4.out 6).trans rfl,(blk_cell BX4.out 7).trans rfl,(blk_cell BX4.out 8).trans rfl,(blk_cell BX4.out 9).trans rfl,(blk_cell BX4.out 10).trans rfl,(blk_cell BX4.out 11).trans rfl,(blk_cell BX4.out 12).trans rfl,(blk_cell HS4.out 0).trans rfl,(blk_cell HS4.out 1).trans rfl,(blk_cell HS4.out 2).trans rfl,(blk_cell HS4.out 3).trans rfl⟩ (fun hHeld=>?_)
    clear hK K
    refine norm_ (a':=?_) ?_ ?_
    rotate_left
    ·show Act.put _ (some 38) _=_
     simp only [Act.put,List.setIfInBounds_toArray,List.set_cons_zero,List.set_cons_succ,i64_w,i32_w]
     rfl
    cases hp:pokS y with
    | true =>
     as_aux_lemma =>
      have hpn:=Aside0.mk (pok_ge hp)
      refine nz 2 39 (MK40 7) ?_
      refine nz 3 40 (MK40 15) ?_
      refine gz 4 41 (MK40 31) (r:=(by rintro w' ⟨s0,s1,s2,s3,s4,s5,s6,s7,s8,s9,s10,s11,s12,s13,s14,s15,s16⟩;go_simp;with_reducible rfl)) (h:=?_)
      refine nz 5 42 (MK40 63) ?_
      refine gz 6 43 (MK40 127) (r:=(by rintro w' ⟨s0,s1,s2,s3,s4,s5,s6,s7,s8,s9,s10,s11,s12,s13,s14,s15,s16⟩;go_simp;with_reducible rfl)) (h:=?_)
      refine one_ (i:=7) (N:=some 44) (MK40 255) rfl rfl (one_of HT_.out (by kernel_rfl)) (by decide) (fun K hK=>?_)
      refine goes_ Try.func102 (by kernel_rfl) rfl #[.agg #[.slice (some ad) ps.length c0,.slice A1 ss.length c1,.int .i64 a,.int .i64 c],.int .i64 y.f1] (by rfl) rfl rfl (by (try simp only [List.map_toArray,List.map_cons,List.map_nil]);first|done|rfl) ?_
      with_reducible refine (isSide_b (some ad) c0 ps A1 c1 ss a c y.f1 _ (Kd.C_below HR0.out HB4.out) HC0.out (Kd.C_below HR1.out HB4.out) HC1.out).mono ?_
      rintro e w6 ⟨rfl,hb⟩
      refine ⟨_,rfl,?_⟩
      have HB5:=Aside0.mk (below_step HB4.out hb)
      have HS5:=Aside0.mk (blk_below HS4.out hb)
      have BX5:=Aside0.mk (blk_below BX4.out hb)
      clear hb
      refine hK.out _ _ ⟨(blk_cell BX5.out 0).trans rfl,(blk_cell BX5.out 1).trans rfl,(blk_cell BX5.out 2).trans rfl,(blk_cell BX5.out 3).trans rfl,(blk_cell BX5.out 4).trans rfl,(blk_cell BX5.out 5).trans rfl,(blk_cell BX5.out 6).trans rfl,(blk_cell BX5.out 7).trans rfl,(blk_cell BX5.out 8).trans rfl,(blk_cell BX5.out 9).trans rfl,(blk_cell BX5.out 10).trans rfl,(blk_cell BX5.out 11).trans rfl,(blk_cell BX5.out 12).trans rfl,(blk_cell HS5.out 0).trans rfl,(blk_cell HS5.out 1).trans rfl,(blk_cell HS5.out 2).trans rfl,(blk_cell HS5.out 3).trans rfl⟩ (fun hHeld=>?_)
      clear hK K
      refine norm_ (a':=?_) ?_ ?_
      rotate_left
      ·show Act.put _ (some 44) _=_
       simp only [Act.put,List.setIfInBounds_toArray,List.set_cons_zero,List.set_cons_succ,i64_w,i32_w]
       rfl
      cases ho:inr y.f1 0 ((ss.length:Int) - 1) with
      | true =>
       as_aux_lemma =>
        have ho_:y.f1 < (ss.length:Int):=by have hq:=hpn.out;have:=ho;simp only [inr,decide_eq_true_eq,decide_eq_false_iff_not] at this;omega
        refine nz 8 45 (MK40 511) ?_
        refine nz 9 46 (MK40 1023) ?_
        refine nz 10 47 (MK40 2047) ?_
        refine gz 11 48 (MK40 4095) (r:=(by rintro w' ⟨s0,s1,s2,s3,s4,s5,s6,s7,s8,s9,s10,s11,s12,s13,s14,s15,s16⟩;go_simp;with_reducible rfl)) (h:=?_)
        refine nz 12 49 (MK40 8191) ?_
        refine gz 13 50 (MK40 16383) (r:=(by rintro w' ⟨s0,s1,s2,s3,s4,s5,s6,s7,s8,s9,s10,s11,s12,s13,s14,s15,s16⟩;go_simp;with_reducible rfl)) (h:=?_)
        refine one_ (i:=14) (N:=some 51) (MK40 32767) rfl rfl (one_of HT_.out (by kernel_rfl)) (by decide) (fun K hK=>?_)
        refine goes_ Try.func102 (by kernel_rfl) rfl #[.agg #[.slice (some ad) ps.length c0,.slice A1 ss.length c1,.int .i64 a,.int .i64 c],.int .i64 y.f2] (by rfl) rfl rfl (by (try simp only [List.map_toArray,List.map_cons,List.map_nil]);first|done|rfl) ?_
        with_reducible refine (isSide_b (some ad) c0 ps A1 c1 ss a c y.f2 _ (Kd.C_below HR0.out HB5.out) HC0.out (Kd.C_below HR1.out HB5.out) HC1.out).mono ?_
        rintro e w7 ⟨rfl,hb⟩
        refine ⟨_,rfl,?_⟩
        have HB6:=Aside0.mk (below_step HB5.out hb)
        have HS6:=Aside0.mk (blk_below HS5.out hb)
        have BX6:=Aside0.mk (blk_below BX5.out hb)
        clear hb
        refine hK.out _ _ ⟨(blk_cell BX6.out 0).trans rfl,(blk_cell BX6.out 1).trans rfl,(blk_cell BX6.out 2).trans rfl,(blk_cell BX6.out 3).trans rfl,(blk_cell BX6.out 4).trans rfl,(blk_cell BX6.out 5).trans rfl,(blk_cell BX6.out 6).trans rfl,(blk_cell BX6.out 7).trans rfl,(blk_cell BX6.out 8).trans rfl,(blk_cell BX6.out 9).trans rfl,(blk_cell BX6.out 10).trans rfl,(blk_cell BX6.out 11).trans rfl,(blk_cell BX6.out 12).trans rfl,(blk_cell HS6.out 0).trans rfl,(blk_cell HS6.out 1).trans rfl,(blk_cell HS6.out 2).trans rfl,(blk_cell HS6.out 3).trans rfl⟩ (fun hHeld=>?_)
        clear hK K
        refine norm_ (a':=?_) ?_ ?_
        rotate_left
        ·show Act.put _ (some 51) _=_
         simp only [Act.put,List.setIfInBounds_toArray,List.set_cons_zero,List.set_cons_succ,i64_w,i32_w]
         rfl
        cases hs:inr y.f2 0 ((ss.length:Int) - 1) with
        | true =>
         as_aux_lemma =>
          have hs_:y.f2 < (ss.length:Int):=by have hq:=hpn.out;have:=hs;simp only [inr,decide_eq_true_eq,decide_eq_false_iff_not] at this;omega
          refine nz 15 52 (MK40 65535) ?_
          refine nz 16 53 (MK40 131071) ?_
          refine nz 17 54 (MK40 262143) ?_
          refine nz 18 55 (MK40 524287) ?_
          refine gz 19 56 (MK40 1048575) (r:=(by rintro w' ⟨s0,s1,s2,s3,s4,s5,s6,s7,s8,s9,s10,s11,s12,s13,s14,s15,s16⟩;go_simp;with_reducible rfl)) (h:=?_)
          refine nz 20 57 (MK40 2097151) ?_
          refine gz 21 58 (MK40 4194303) (r:=(by rintro w' ⟨s0,s1,s2,s3,s4,s5,s6,s7,s8,s9,s10,s11,s12,s13,s14,s15,s16⟩;go_simp;with_reducible rfl)) (h:=?_)
          cases ht:decide (c < y.f4) with
          | true =>
           as_aux_lemma =>
            have ht_:¬ y.f4≤c:=by have:=of_decide_eq_true ht;omega
            refine nz 22 59 (MK40 8388607) ?_
            refine nz 23 60 (MK40 16777215) ?_
            refine nz 24 61 (MK40 33554431) ?_
            refine oz 25 62 (MK40 67108863) ?_
            refine oz 26 63 (MK40 134217727) ?_
            refine oz 27 64 (MK40 268435455) ?_
            refine oz 28 65 (MK40 536870911) ?_
            refine oz 29 66 (MK40 1073741823) ?_
            refine oz 30 67 (MK40 2147483647) ?_
            refine oz 31 68 (MK40 4294967295) ?_
            refine oz 32 69 (MK40 8589934591) ?_
            refine oz 33 70 (MK40 17179869183) ?_
            refine oz 34 71 (MK40 34359738367) ?_
            refine oz 35 72 (MK40 68719476735) ?_
            refine oz 36 73 (MK40 137438953471) ?_
            refine oz 37 74 (MK40 274877906943) ?_
            refine oz 38 75 (MK40 549755813887) ?_
            refine nz 39 76 (MK40 1099511627775) ?_
            have HG:=Aside0.mk (show goodAt ps ss.length c k y=false by unfold goodAt;simp [hkp,hp,ho_,hs_,ht_])
            refine done_ (done_of HT_.out (by kernel_rfl)) ?_
            (try go_wp2)
            go_ret
            rw [bad_at HE.out HY.out HG.out]
            exact ⟨rfl,HB6.out⟩
          | false =>
           as_aux_lemma =>
            have ht_:y.f4≤c:=by have:=of_decide_eq_false ht;omega
            refine nz 22 59 (MK40 8388607) ?_
            refine nz 23 60 (MK40 16777215) ?_
            refine nz 24 61 (MK40 33554431) ?_
            refine nz 25 62 (MK40 67108863) ?_
            refine nz 26 63 (MK40 134217727) ?_
            refine nz 27 64 (MK40 268435455) ?_
            refine oz 28 65 (MK40 536870911) ?_
            refine oz 29 66 (MK40 1073741823) ?_
            refine oz 30 67 (MK40 2147483647) ?_
            refine oz 31 68 (MK40 4294967295) ?_
            refine oz 32 69 (MK40 8589934591) ?_
            refine oz 33 70 (MK40 17179869183) ?_
            refine oz 34 71 (MK40 34359738367) ?_
            refine oz 35 72 (MK40 68719476735) ?_
            refine oz 36 73 (MK40 137438953471) ?_
            refine oz 37 74 (MK40 274877906943) ?_
            refine nz 38 75 (MK40 549755813887) ?_
            refine nz 39 76 (MK40 1099511627775) ?_
            have HG:=Aside0.mk (show goodAt ps ss.length c k y=true by unfold goodAt;simp [hkp,hp,ho_,hs_,ht_])
            refine done_ (done_of HT_.out (by kernel_rfl)) ?_
            (try go_wp2)
            go_roundw
            case rel=>exact ⟨k+1,by omega,by go_num,HB6,HS6,⟨good_at HE.out HY.out HG.out⟩⟩
            case measure=>simp [intOf];omega
        | false =>
         as_aux_lemma =>
          have hs_:¬ y.f2 < (ss.length:Int):=by have hq:=hpn.out;have:=hs;simp only [inr,decide_eq_true_eq,decide_eq_false_iff_not] at this;omega
          refine nz 15 52 (MK40 65535) ?_
          refine nz 16 53 (MK40 131071) ?_
          refine nz 17 54 (MK40 262143) ?_
          refine oz 18 55 (MK40 524287) ?_
          refine oz 19 56 (MK40 1048575) ?_
          refine oz 20 57 (MK40 2097151) ?_
          refine oz 21 58 (MK40 4194303) ?_
          refine oz 22 59 (MK40 8388607) ?_
          refine nz 23 60 (MK40 16777215) ?_
          refine nz 24 61 (MK40 33554431) ?_
          refine oz 25 62 (MK40 67108863) ?_
          refine oz 26 63 (MK40 134217727) ?_
          refine oz 27 64 (MK40 268435455) ?_
          refine oz 28 65 (MK40 536870911) ?_
          refine oz 29 66 (MK40 1073741823) ?_
          refine oz 30 67 (MK40 2147483647) ?_
          refine oz 31 68 (MK40 4294967295) ?_
          refine oz 32 69 (MK40 8589934591) ?_
          refine oz 33 70 (MK40 17179869183) ?_
          refine oz 34 71 (MK40 34359738367) ?_
          refine oz 35 72 (MK40 68719476735) ?_
          refine oz 36 73 (MK40 137438953471) ?_
          refine oz 37 74 (MK40 274877906943) ?_
          refine oz 38 75 (MK40 549755813887) ?_
          refine nz 39 76 (MK40 1099511627775) ?_
          have HG:=Aside0.mk (show goodAt ps ss.length c k y=false by unfold goodAt;simp [hkp,hp,ho_,hs_])
          refine done_ (done_of HT_.out (by kernel_rfl)) ?_
          (try go_wp2)
          go_ret
          rw [bad_at HE.out HY.out HG.out]
          exact ⟨rfl,HB6.out⟩
      | false =>
       as_aux_lemma =>
        have ho_:¬ y.f1 < (ss.length:Int):=by have hq:=hpn.out;have:=ho;simp only [inr,decide_eq_true_eq,decide_eq_false_iff_not] at this;omega
        refine nz 8 45 (MK40 511) ?_
        refine nz 9 46 (MK40 1023) ?_
        refine nz 10 47 (MK40 2047) ?_
        refine oz 11 48 (MK40 4095) ?_
        refine oz 12 49 (MK40 8191) ?_
        refine oz 13 50 (MK40 16383) ?_
        refine oz 14 51 (MK40 32767) ?_
        refine oz 15 52 (MK40 65535) ?_
        refine nz 16 53 (MK40 131071) ?_
        refine nz 17 54 (MK40 262143) ?_
        refine oz 18 55 (MK40 524287) ?_
        refine oz 19 56 (MK40 1048575) ?_
        refine oz 20 57 (MK40 2097151) ?_
        refine oz 21 58 (MK40 4194303) ?_
        refine oz 22 59 (MK40 8388607) ?_
        refine nz 23 60 (MK40 16777215) ?_
        refine nz 24 61 (MK40 33554431) ?_
        refine oz 25 62 (MK40 67108863) ?_
        refine oz 26 63 (MK40 134217727) ?_
        refine oz 27 64 (MK40 268435455) ?_
        refine oz 28 65 (MK40 536870911) ?_
        refine oz 29 66 (MK40 1073741823) ?_
        refine oz 30 67 (MK40 2147483647) ?_
        refine oz 31 68 (MK40 4294967295) ?_
        refine oz 32 69 (MK40 8589934591) ?_
        refine oz 33 70 (MK40 17179869183) ?_
        refine oz 34 71 (MK40 34359738367) ?_
        refine oz 35 72 (MK40 68719476735) ?_
        refine oz 36 73 (MK40 137438953471) ?_
        refine oz 37 74 (MK40 274877906943) ?_
        refine oz 38 75 (MK40 549755813887) ?_
        refine nz 39 76 (MK40 1099511627775) ?_
        have HG:=Aside0.mk (show goodAt ps ss.length c k y=false by unfold goodAt;simp [hkp,hp,ho_])
        refine done_ (done_of HT_.out (by kernel_rfl)) ?_
        (try go_wp2)
        go_ret
        rw [bad_at HE.out HY.out HG.out]
        exact ⟨rfl,HB5.out⟩
    | false =>
     as_aux_lemma =>
      refine nz 2 39 (MK40 7) ?_
      refine nz 3 40 (MK40 15) ?_
      refine oz 4 41 (MK40 31) ?_
      refine oz 5 42 (MK40 63) ?_
      refine oz 6 43 (MK40 127) ?_
      refine oz 7 44 (MK40 255) ?_
      refine oz 8 45 (MK40 511) ?_
      refine nz 9 46 (MK40 1023) ?_
      refine nz 10 47 (MK40 2047) ?_
      refine oz 11 48 (MK40 4095) ?_
      refine oz 12 49 (MK40 8191) ?_
      refine oz 13 50 (MK40 16383) ?_
      refine oz 14 51 (MK40 32767) ?_
      refine oz 15 52 (MK40 65535) ?_
      refine nz 16 53 (MK40 131071) ?_
      refine nz 17 54 (MK40 262143) ?_
      refine oz 18 55 (MK40 524287) ?_
      refine oz 19 56 (MK40 1048575) ?_
      refine oz 20 57 (MK40 2097151) ?_
      refine oz 21 58 (MK40 4194303) ?_
      refine oz 22 59 (MK40 8388607) ?_
      refine nz 23 60 (MK40 16777215) ?_
      refine nz 24 61 (MK40 33554431) ?_
      refine oz 25 62 (MK40 67108863) ?_
      refine oz 26 63 (MK40 134217727) ?_
      refine oz 27 64 (MK40 268435455) ?_
      refine oz 28 65 (MK40 536870911) ?_
      refine oz 29 66 (MK40 1073741823) ?_
      refine oz 30 67 (MK40 2147483647) ?_
      refine oz 31 68 (MK40 4294967295) ?_
      refine oz 32 69 (MK40 8589934591) ?_
      refine oz 33 70 (MK40 17179869183) ?_
      refine oz 34 71 (MK40 34359738367) ?_
      refine oz 35 72 (MK40 68719476735) ?_
      refine oz 36 73 (MK40 137438953471) ?_
      refine oz 37 74 (MK40 274877906943) ?_
      refine oz 38 75 (MK40 549755813887) ?_
      refine nz 39 76 (MK40 1099511627775) ?_
      have HG:=Aside0.mk (show goodAt ps ss.length c k y=false by unfold goodAt;simp [hkp,hp])
      refine done_ (done_of HT_.out (by kernel_rfl)) ?_
      (try go_wp2)
      go_ret
      rw [bad_at HE.out HY.out HG.out]
      exact ⟨rfl,HB4.out⟩
   | true =>
    have hkp:0 < k:=by have:=of_decide_eq_true hk0;omega
    have hk3:(1:Int)≤(k:Int):=by omega
    have hk2:((k - 1:Nat):Int) < (ps.length:Int):=by omega
    obtain ⟨ad',hA',hz0,-⟩:=at_T25 (Kd.C_below HR0.out HB3.out) ((k - 1:Nat):Int) (by omega) hk2
    obtain rfl:=Option.some.inj hA'
    have hrd:rd_T25 ps ((k - 1:Nat):Int)=ps.getD (k - 1) z25:=by unfold rd_T25;rw [Int.toNat_natCast]
    rw [hrd,Int.toNat_natCast] at hz0
    obtain ⟨z,hz⟩:∃ z,z=ps.getD (k - 1) z25:=⟨_,rfl⟩
    rw [← hz] at hz0
    have HZ:=Aside0.mk (show ps[k - 1]?.getD z25=z by rw [hz,List.getD_eq_getElem?_getD])
    have hprev:=hz0
    clear hz hz0 hrd hA'
    have hk4:(k:Int) - 1 < (ps.length:Int):=by omega
    have hw1:wrap64 ((k:Int) - 1)=(k:Int) - 1:=by unfold wrap64;omega
    have hw2:IntKind.i64.wrap ((k:Int) - 1)=(k:Int) - 1:=by rw [i64_w];exact hw1
    have HBd:=Aside0.mk (below_drew1 HB3.out)
    have HSd:=Aside0.mk (blk_drew HS3.out)
    have BXd:=Aside0.mk (blk_drew BX3.out)
    have HPd:=Aside0.mk (show w3.drew.cell? (ad.add ((k - 1)*13))=some (.int .i64 z.f0) from hprev)
    refine start_ (n:=40) (S:=fun w'=>w'.cell? ⟨gp,0,none⟩=some (.int .i64 y.f0)∧w'.cell? ⟨gp,1,none⟩=some (.int .i64 y.f1)∧w'.cell? ⟨gp,2,none⟩=some (.int .i64 y.f2)∧w'.cell? ⟨gp,3,none⟩=some (.int .i64 y.f3)∧w'.cell? ⟨gp,4,none⟩=some (.int .i64 y.f4)∧w'.cell? ⟨gp,5,none⟩=some (.int .i64 y.f5)∧w'.cell? ⟨gp,6,none⟩=some (.int .i64 y.f6)∧w'.cell? ⟨gp,7,none⟩=some (.int .i64 y.f7)∧w'.cell? ⟨gp,8,none⟩=some (.int .i64 y.f8)∧w'.cell? ⟨gp,9,none⟩=some (.int .i64 y.f9)∧w'.cell? ⟨gp,10,none⟩=some (.int .i64 y.f10)∧w'.cell? ⟨gp,11,none⟩=some (.bool y.f11)∧w'.cell? ⟨gp,12,none⟩=some (.bool y.f12)∧w'.cell? ⟨w.heap.size,0,none⟩=some (.slice (some ad) ps.length c0)∧w'.cell? ⟨w.heap.size,1,none⟩=some (.slice A1 ss.length c1)∧w'.cell? ⟨w.heap.size,2,none⟩=some (.int .i64 a)∧w'.cell? ⟨w.heap.size,3,none⟩=some (.int .i64 c)∧w'.cell? (ad.add ((k - 1)*13))=some (.int .i64 z.f0)) (ds:=[]) #[false,false,false,false,false,false,false,false,false,false,false,false,false,false,false,false,false,false,false,false,false,false,false,false,false,false,false,false,false,false,false,false,false,false,false,false,false,false,false,false] (by kernel_rfl) rfl rfl ⟨(blk_cell BXd.out 0).trans rfl,(blk_cell BXd.out 1).trans rfl,(blk_cell BXd.out 2).trans rfl,(blk_cell BXd.out 3).trans rfl,(blk_cell BXd.out 4).trans rfl,(blk_cell BXd.out 5).trans rfl,(blk_cell BXd.out 6).trans rfl,(blk_cell BXd.out 7).trans rfl,(blk_cell BXd.out 8).trans rfl,(blk_cell BXd.out 9).trans rfl,(blk_cell BXd.out 10).trans rfl,(blk_cell BXd.out 11).trans rfl,(blk_cell BXd.out 12).trans rfl,(blk_cell HSd.out 0).trans rfl,(blk_cell HSd.out 1).trans rfl,(blk_cell HSd.out 2).trans rfl,(blk_cell HSd.out 3).trans rfl,hprev⟩ (fun hHeld=>?_);refine with_tabW impl_StateOk.tab6 impl_StateOk.bits6 (fun HT_ HW_=>?_)
    generalize w3.drew=w4 at HBd HSd BXd hHeld HPd ⊢
    clear HB3 HS3 BX3
    have HB3:=HBd
    have HS3:=HSd
    have BX3:=BXd
    have HP3:=HPd
    clear HPd
    clear HBd HSd BXd
    refine gz 0 37 (MK40 1) (r:=(by rintro w' ⟨s0,s1,s2,s3,s4,s5,s6,s7,s8,s9,s10,s11,s12,s13,s14,s15,s16,s17⟩;go_simp;with_reducible rfl)) (h:=?_)
    refine one_ (i:=1) (N:=some 38) (MK40 3) rfl rfl (one_of HT_.out (by kernel_rfl)) (by decide) (fun K hK=>?_)
    refine goes_ Try.func18 (by kernel_rfl) rfl #[.agg #[.int .i64 y.f0,.int .i64 y.f1,.int .i64 y.f2,.int .i64 y.f3,.int .i64 y.f4,.int .i64 y.f5,.int .i64 y.f6,.int .i64 y.f7,.int .i64 y.f8,.int .i64 y.f9,.int .i64 y.f10,.bool y.f11,.bool y.f12]] (by rfl) rfl rfl (by (try simp only [List.map_toArray,List.map_cons,List.map_nil]);first|done|rfl) ?_
    with_reducible refine (pok_impl y _).mono ?_
    rintro e w5 ⟨rfl,hb⟩
    refine ⟨_,rfl,?_⟩
    have HB4:=Aside0.mk (below_step HB3.out hb)
    have HS4:=Aside0.mk (blk_below HS3.out hb)
    have BX4:=Aside0.mk (blk_below BX3.out hb)
    have HP4:=Aside0.mk (pw_cell_below hb HP3.out)
    clear hb
    refine hK.out _ _ ⟨(blk_cell BX4.out 0).trans rfl,(blk_cell BX4.out 1).trans rfl,(blk_cell BX4.out 2).trans rfl,(blk_cell BX4.out 3).trans rfl,(blk_cell BX4.out 4).trans rfl,(blk_cell BX4.out 5).trans rfl,(blk_cell BX4.out 6).trans rfl,(blk_cell BX4.out 7).trans rfl,(blk_cell BX4.out 8).trans rfl,(blk_cell BX4.out 9).trans rfl,(blk_cell BX4.out 10).trans rfl,(blk_cell BX4.out 11).trans rfl,(blk_cell BX4.out 12).trans rfl,(blk_cell HS4.out 0).trans rfl,(blk_cell HS4.out 1).trans rfl,(blk_cell HS4.out 2).trans rfl,(blk_cell HS4.out 3).trans rfl,HP4.out⟩ (fun hHeld=>?_)
    clear hK K
    refine norm_ (a':=?_) ?_ ?_
    rotate_left
    ·show Act.put _ (some 38) _=_
     simp only [Act.put,List.setIfInBounds_toArray,List.set_cons_zero,List.set_cons_succ,i64_w,i32_w]
     rfl
    cases hp:pokS y with
    | true =>
     as_aux_lemma =>
      have hpn:=Aside0.mk (pok_ge hp)
      refine nz 2 39 (MK40 7) ?_
      refine nz 3 40 (MK40 15) ?_
      refine gz 4 41 (MK40 31) (r:=(by rintro w' ⟨s0,s1,s2,s3,s4,s5,s6,s7,s8,s9,s10,s11,s12,s13,s14,s15,s16,s17⟩;go_simp;with_reducible rfl)) (h:=?_)
      refine nz 5 42 (MK40 63) ?_
      refine gz 6 43 (MK40 127) (r:=(by rintro w' ⟨s0,s1,s2,s3,s4,s5,s6,s7,s8,s9,s10,s11,s12,s13,s14,s15,s16,s17⟩;go_simp;with_reducible rfl)) (h:=?_)
      refine one_ (i:=7) (N:=some 44) (MK40 255) rfl rfl (one_of HT_.out (by kernel_rfl)) (by decide) (fun K hK=>?_)
      refine goes_ Try.func102 (by kernel_rfl) rfl #[.agg #[.slice (some ad) ps.length c0,.slice A1 ss.length c1,.int .i64 a,.int .i64 c],.int .i64 y.f1] (by rfl) rfl rfl (by (try simp only [List.map_toArray,List.map_cons,List.map_nil]);first|done|rfl) ?_
      with_reducible refine (isSide_b (some ad) c0 ps A1 c1 ss a c y.f1 _ (Kd.C_below HR0.out HB4.out) HC0.out (Kd.C_below HR1.out HB4.out) HC1.out).mono ?_
      rintro e w6 ⟨rfl,hb⟩
      refine ⟨_,rfl,?_⟩
      have HB5:=Aside0.mk (below_step HB4.out hb)
      have HS5:=Aside0.mk (blk_below HS4.out hb)
      have BX5:=Aside0.mk (blk_below BX4.out hb)
      have HP5:=Aside0.mk (pw_cell_below hb HP4.out)
      clear hb
      refine hK.out _ _ ⟨(blk_cell BX5.out 0).trans rfl,(blk_cell BX5.out 1).trans rfl,(blk_cell BX5.out 2).trans rfl,(blk_cell BX5.out 3).trans rfl,(blk_cell BX5.out 4).trans rfl,(blk_cell BX5.out 5).trans rfl,(blk_cell BX5.out 6).trans rfl,(blk_cell BX5.out 7).trans rfl,(blk_cell BX5.out 8).trans rfl,(blk_cell BX5.out 9).trans rfl,(blk_cell BX5.out 10).trans rfl,(blk_cell BX5.out 11).trans rfl,(blk_cell BX5.out 12).trans rfl,(blk_cell HS5.out 0).trans rfl,(blk_cell HS5.out 1).trans rfl,(blk_cell HS5.out 2).trans rfl,(blk_cell HS5.out 3).trans rfl,HP5.out⟩ (fun hHeld=>?_)
      clear hK K
      refine norm_ (a':=?_) ?_ ?_
      rotate_left
      ·show Act.put _ (some 44) _=_
       simp only [Act.put,List.setIfInBounds_toArray,List.set_cons_zero,List.set_cons_succ,i64_w,i32_w]
       rfl
      cases ho:inr y.f1 0 ((ss.length:Int) - 1) with
      | true =>
       as_aux_lemma =>
        have ho_:y.f1 < (ss.length:Int):=by have hq:=hpn.out;have:=ho;simp only [inr,decide_eq_true_eq,decide_eq_false_iff_not] at this;omega
        refine nz 8 45 (MK40 511) ?_
        refine nz 9 46 (MK40 1023) ?_
        refine nz 10 47 (MK40 2047) ?_
        refine gz 11 48 (MK40 4095) (r:=(by rintro w' ⟨s0,s1,s2,s3,s4,s5,s6,s7,s8,s9,s10,s11,s12,s13,s14,s15,s16,s17⟩;go_simp;with_reducible rfl)) (h:=?_)
        refine nz 12 49 (MK40 8191) ?_
        refine gz 13 50 (MK40 16383) (r:=(by rintro w' ⟨s0,s1,s2,s3,s4,s5,s6,s7,s8,s9,s10,s11,s12,s13,s14,s15,s16,s17⟩;go_simp;with_reducible rfl)) (h:=?_)
        refine one_ (i:=14) (N:=some 51) (MK40 32767) rfl rfl (one_of HT_.out (by kernel_rfl)) (by decide) (fun K hK=>?_)
        refine goes_ Try.func102 (by kernel_rfl) rfl #[.agg #[.slice (some ad) ps.length c0,.slice A1 ss.length c1,.int .i64 a,.int .i64 c],.int .i64 y.f2] (by rfl) rfl rfl (by (try simp only [List.map_toArray,List.map_cons,List.map_nil]);first|done|rfl) ?_
        with_reducible refine (isSide_b (some ad) c0 ps A1 c1 ss a c y.f2 _ (Kd.C_below HR0.out HB5.out) HC0.out (Kd.C_below HR1.out HB5.out) HC1.out).mono ?_
        rintro e w7 ⟨rfl,hb⟩
        refine ⟨_,rfl,?_⟩
        have HB6:=Aside0.mk (below_step HB5.out hb)
        have HS6:=Aside0.mk (blk_below HS5.out hb)
        have BX6:=Aside0.mk (blk_below BX5.out hb)
        have HP6:=Aside0.mk (pw_cell_below hb HP5.out)
        clear hb
        refine hK.out _ _ ⟨(blk_cell BX6.out 0).trans rfl,(blk_cell BX6.out 1).trans rfl,(blk_cell BX6.out 2).trans rfl,(blk_cell BX6.out 3).trans rfl,(blk_cell BX6.out 4).trans rfl,(blk_cell BX6.out 5).trans rfl,(blk_cell BX6.out 6).trans rfl,(blk_cell BX6.out 7).trans rfl,(blk_cell BX6.out 8).trans rfl,(blk_cell BX6.out 9).trans rfl,(blk_cell BX6.out 10).trans rfl,(blk_cell BX6.out 11).trans rfl,(blk_cell BX6.out 12).trans rfl,(blk_cell HS6.out 0).trans rfl,(blk_cell HS6.out 1).trans rfl,(blk_cell HS6.out 2).trans rfl,(blk_cell HS6.out 3).trans rfl,HP6.out⟩ (fun hHeld=>?_)
        clear hK K
        refine norm_ (a':=?_) ?_ ?_
        rotate_left
        ·show Act.put _ (some 51) _=_
         simp only [Act.put,List.setIfInBounds_toArray,List.set_cons_zero,List.set_cons_succ,i64_w,i32_w]
         rfl
        cases hs:inr y.f2 0 ((ss.length:Int) - 1) with
        | true =>
         as_aux_lemma =>
          have hs_:y.f2 < (ss.length:Int):=by have hq:=hpn.out;have:=hs;simp only [inr,decide_eq_true_eq,decide_eq_false_iff_not] at this;omega
          refine nz 15 52 (MK40 65535) ?_
          refine nz 16 53 (MK40 131071) ?_
          refine nz 17 54 (MK40 262143) ?_
          refine nz 18 55 (MK40 524287) ?_
          refine gz 19 56 (MK40 1048575) (r:=(by rintro w' ⟨s0,s1,s2,s3,s4,s5,s6,s7,s8,s9,s10,s11,s12,s13,s14,s15,s16,s17⟩;go_simp;with_reducible rfl)) (h:=?_)
          refine nz 20 57 (MK40 2097151) ?_
          refine gz 21 58 (MK40 4194303) (r:=(by rintro w' ⟨s0,s1,s2,s3,s4,s5,s6,s7,s8,s9,s10,s11,s12,s13,s14,s15,s16,s17⟩;go_simp;with_reducible rfl)) (h:=?_)
          cases ht:decide (c < y.f4) with
          | true =>
           as_aux_lemma =>
            have ht_:¬ y.f4≤c:=by have:=of_decide_eq_true ht;omega
            refine nz 22 59 (MK40 8388607) ?_
            refine nz 23 60 (MK40 16777215) ?_
            refine nz 24 61 (MK40 33554431) ?_
            refine oz 25 62 (MK40 67108863) ?_
            refine oz 26 63 (MK40 134217727) ?_
            refine oz 27 64 (MK40 268435455) ?_
            refine oz 28 65 (MK40 536870911) ?_
            refine oz 29 66 (MK40 1073741823) ?_
            refine oz 30 67 (MK40 2147483647) ?_
            refine oz 31 68 (MK40 4294967295) ?_
            refine oz 32 69 (MK40 8589934591) ?_
            refine oz 33 70 (MK40 17179869183) ?_
            refine oz 34 71 (MK40 34359738367) ?_
            refine oz 35 72 (MK40 68719476735) ?_
            refine oz 36 73 (MK40 137438953471) ?_
            refine oz 37 74 (MK40 274877906943) ?_
            refine oz 38 75 (MK40 549755813887) ?_
            refine nz 39 76 (MK40 1099511627775) ?_
            have HG:=Aside0.mk (show goodAt ps ss.length c k y=false by unfold goodAt;simp [hkp,HZ.out,hp,ho_,hs_,ht_])
            refine done_ (done_of HT_.out (by kernel_rfl)) ?_
            (try go_wp2)
            go_ret
            rw [bad_at HE.out HY.out HG.out]
            exact ⟨rfl,HB6.out⟩
          | false =>
           as_aux_lemma =>
            have ht_:y.f4≤c:=by have:=of_decide_eq_false ht;omega
            refine nz 22 59 (MK40 8388607) ?_
            refine nz 23 60 (MK40 16777215) ?_
            refine nz 24 61 (MK40 33554431) ?_
            refine nz 25 62 (MK40 67108863) ?_
            refine nz 26 63 (MK40 134217727) ?_
            refine nz 27 64 (MK40 268435455) ?_
            refine nz 28 65 (MK40 536870911) ?_
            refine gz 29 66 (MK40 1073741823) (r:=(by rintro w' ⟨s0,s1,s2,s3,s4,s5,s6,s7,s8,s9,s10,s11,s12,s13,s14,s15,s16,s17⟩;go_simp;with_reducible rfl)) (h:=?_)
            refine nz 30 67 (MK40 2147483647) ?_
            refine nz 31 68 (MK40 4294967295) ?_
            refine nz 32 69 (MK40 8589934591) ?_
            refine nz 33 70 (MK40 17179869183) ?_
            refine gz 34 71 (MK40 34359738367) (r:=(by rintro w' ⟨s0,s1,s2,s3,s4,s5,s6,s7,s8,s9,s10,s11,s12,s13,s14,s15,s16,s17⟩;go_simp;with_reducible rfl)) (h:=?_)
            refine nz 35 72 (MK40 68719476735) ?_
            refine gz 36 73 (MK40 137438953471) (r:=(by rintro w' ⟨s0,s1,s2,s3,s4,s5,s6,s7,s8,s9,s10,s11,s12,s13,s14,s15,s16,s17⟩;go_simp;with_reducible rfl)) (h:=?_)
            cases hid:decide (y.f0≤z.f0) with
            | true =>
             as_aux_lemma =>
              have hid_:y.f0≤z.f0:=by have:=of_decide_eq_true hid;omega
              refine nz 37 74 (MK40 274877906943) ?_
              refine nz 38 75 (MK40 549755813887) ?_
              refine nz 39 76 (MK40 1099511627775) ?_
              have HG:=Aside0.mk (show goodAt ps ss.length c k y=false by unfold goodAt;simp [hkp,HZ.out,hp,ho_,hs_,ht_,hid_])
              refine done_ (done_of HT_.out (by kernel_rfl)) ?_
              (try go_wp2)
              go_ret
              rw [bad_at HE.out HY.out HG.out]
              exact ⟨rfl,HB6.out⟩
            | false =>
             as_aux_lemma =>
              have hid_:¬ y.f0≤z.f0:=by have:=of_decide_eq_false hid;omega
              refine nz 37 74 (MK40 274877906943) ?_
              refine nz 38 75 (MK40 549755813887) ?_
              refine nz 39 76 (MK40 1099511627775) ?_
              have HG:=Aside0.mk (show goodAt ps ss.length c k y=true by unfold goodAt;simp [hkp,HZ.out,hp,ho_,hs_,ht_,hid_])
              refine done_ (done_of HT_.out (by kernel_rfl)) ?_
              (try go_wp2)
              go_roundw
              case rel=>exact ⟨k+1,by omega,by go_num,HB6,HS6,⟨good_at HE.out HY.out HG.out⟩⟩
              case measure=>simp [intOf];omega
        | false =>
         as_aux_lemma =>
          have hs_:¬ y.f2 < (ss.length:Int):=by have hq:=hpn.out;have:=hs;simp only [inr,decide_eq_true_eq,decide_eq_false_iff_not] at this;omega
          refine nz 15 52 (MK40 65535) ?_
          refine nz 16 53 (MK40 131071) ?_
          refine nz 17 54 (MK40 262143) ?_
          refine oz 18 55 (MK40 524287) ?_
          refine oz 19 56 (MK40 1048575) ?_
          refine oz 20 57 (MK40 2097151) ?_
          refine oz 21 58 (MK40 4194303) ?_
          refine oz 22 59 (MK40 8388607) ?_
          refine nz 23 60 (MK40 16777215) ?_
          refine nz 24 61 (MK40 33554431) ?_
          refine oz 25 62 (MK40 67108863) ?_
          refine oz 26 63 (MK40 134217727) ?_
          refine oz 27 64 (MK40 268435455) ?_
          refine oz 28 65 (MK40 536870911) ?_
          refine oz 29 66 (MK40 1073741823) ?_
          refine oz 30 67 (MK40 2147483647) ?_
          refine oz 31 68 (MK40 4294967295) ?_
          refine oz 32 69 (MK40 8589934591) ?_
          refine oz 33 70 (MK40 17179869183) ?_
          refine oz 34 71 (MK40 34359738367) ?_
          refine oz 35 72 (MK40 68719476735) ?_
          refine oz 36 73 (MK40 137438953471) ?_
          refine oz 37 74 (MK40 274877906943) ?_
          refine oz 38 75 (MK40 549755813887) ?_
          refine nz 39 76 (MK40 1099511627775) ?_
          have HG:=Aside0.mk (show goodAt ps ss.length c k y=false by unfold goodAt;simp [hkp,HZ.out,hp,ho_,hs_])
          refine done_ (done_of HT_.out (by kernel_rfl)) ?_
          (try go_wp2)
          go_ret
          rw [bad_at HE.out HY.out HG.out]
          exact ⟨rfl,HB6.out⟩
      | false =>
       as_aux_lemma =>
        have ho_:¬ y.f1 < (ss.length:Int):=by have hq:=hpn.out;have:=ho;simp only [inr,decide_eq_true_eq,decide_eq_false_iff_not] at this;omega
        refine nz 8 45 (MK40 511) ?_
        refine nz 9 46 (MK40 1023) ?_
        refine nz 10 47 (MK40 2047) ?_
        refine oz 11 48 (MK40 4095) ?_
        refine oz 12 49 (MK40 8191) ?_
        refine oz 13 50 (MK40 16383) ?_
        refine oz 14 51 (MK40 32767) ?_
        refine oz 15 52 (MK40 65535) ?_
        refine nz 16 53 (MK40 131071) ?_
        refine nz 17 54 (MK40 262143) ?_
        refine oz 18 55 (MK40 524287) ?_
        refine oz 19 56 (MK40 1048575) ?_
        refine oz 20 57 (MK40 2097151) ?_
        refine oz 21 58 (MK40 4194303) ?_
        refine oz 22 59 (MK40 8388607) ?_
        refine nz 23 60 (MK40 16777215) ?_
        refine nz 24 61 (MK40 33554431) ?_
        refine oz 25 62 (MK40 67108863) ?_
        refine oz 26 63 (MK40 134217727) ?_
        refine oz 27 64 (MK40 268435455) ?_
        refine oz 28 65 (MK40 536870911) ?_
        refine oz 29 66 (MK40 1073741823) ?_
        refine oz 30 67 (MK40 2147483647) ?_
        refine oz 31 68 (MK40 4294967295) ?_
        refine oz 32 69 (MK40 8589934591) ?_
        refine oz 33 70 (MK40 17179869183) ?_
        refine oz 34 71 (MK40 34359738367) ?_
        refine oz 35 72 (MK40 68719476735) ?_
        refine oz 36 73 (MK40 137438953471) ?_
        refine oz 37 74 (MK40 274877906943) ?_
        refine oz 38 75 (MK40 549755813887) ?_
        refine nz 39 76 (MK40 1099511627775) ?_
        have HG:=Aside0.mk (show goodAt ps ss.length c k y=false by unfold goodAt;simp [hkp,HZ.out,hp,ho_])
        refine done_ (done_of HT_.out (by kernel_rfl)) ?_
        (try go_wp2)
        go_ret
        rw [bad_at HE.out HY.out HG.out]
        exact ⟨rfl,HB5.out⟩
    | false =>
     as_aux_lemma =>
      refine nz 2 39 (MK40 7) ?_
      refine nz 3 40 (MK40 15) ?_
      refine oz 4 41 (MK40 31) ?_
      refine oz 5 42 (MK40 63) ?_
      refine oz 6 43 (MK40 127) ?_
      refine oz 7 44 (MK40 255) ?_
      refine oz 8 45 (MK40 511) ?_
      refine nz 9 46 (MK40 1023) ?_
      refine nz 10 47 (MK40 2047) ?_
      refine oz 11 48 (MK40 4095) ?_
      refine oz 12 49 (MK40 8191) ?_
      refine oz 13 50 (MK40 16383) ?_
      refine oz 14 51 (MK40 32767) ?_
      refine oz 15 52 (MK40 65535) ?_
      refine nz 16 53 (MK40 131071) ?_
      refine nz 17 54 (MK40 262143) ?_
      refine oz 18 55 (MK40 524287) ?_
      refine oz 19 56 (MK40 1048575) ?_
      refine oz 20 57 (MK40 2097151) ?_
      refine oz 21 58 (MK40 4194303) ?_
      refine oz 22 59 (MK40 8388607) ?_
      refine nz 23 60 (MK40 16777215) ?_
      refine nz 24 61 (MK40 33554431) ?_
      refine oz 25 62 (MK40 67108863) ?_
      refine oz 26 63 (MK40 134217727) ?_
      refine oz 27 64 (MK40 268435455) ?_
      refine oz 28 65 (MK40 536870911) ?_
      refine oz 29 66 (MK40 1073741823) ?_
      refine oz 30 67 (MK40 2147483647) ?_
      refine oz 31 68 (MK40 4294967295) ?_
      refine oz 32 69 (MK40 8589934591) ?_
      refine oz 33 70 (MK40 17179869183) ?_
      refine oz 34 71 (MK40 34359738367) ?_
      refine oz 35 72 (MK40 68719476735) ?_
      refine oz 36 73 (MK40 137438953471) ?_
      refine oz 37 74 (MK40 274877906943) ?_
      refine oz 38 75 (MK40 549755813887) ?_
      refine nz 39 76 (MK40 1099511627775) ?_
      have HG:=Aside0.mk (show goodAt ps ss.length c k y=false by unfold goodAt;simp [hkp,HZ.out,hp])
      refine done_ (done_of HT_.out (by kernel_rfl)) ?_
      (try go_wp2)
      go_ret
      rw [bad_at HE.out HY.out HG.out]
      exact ⟨rfl,HB4.out⟩
  ·obtain rfl:k=ps.length:=by omega
   have HE2:=Aside0.mk (show stOk ps ss a c = !decide (0≤idx71 impl_Side_103.p ss 0) by rw [HE.out,List.drop_length,side_none])
   have hs1:wr.cell? ⟨w.heap.size,1,none⟩=some (.slice A1 ss.length c1):=(blk_cell HS.out 1).trans rfl
   go_wp2_with (go_at_call 103;((with_reducible refine (impl_Side_103.calls A1 c1 ss _ _ (Kd.C_below HR1.out BW.out) HC1.out rfl).mono ?_);rintro e w2 ⟨rfl,hb⟩;have HB2:=Aside0.mk (below_step BW.out hb);clear hb))
   go_ret
   rw [HE2.out]
   exact ⟨by first|rfl|simp,HB2.out⟩
def impl_StateOk.f (k:Nat) (l0_0:List S25) (l0_1:List S71) (a0_2:Int) (a0_3:Int):Option (Bool):=some (stOk l0_0 l0_1 a0_2 a0_3)
theorem impl_StateOk.calls (k:Nat) (A0_0:Option Addr) (c0_0:Nat) (l0_0:List (S25)) (A0_1:Option Addr) (c0_1:Nat) (l0_1:List (S71)) (a0_2:Int) (a0_3:Int) (r:Bool) (w:World) (hr0_0:Kd.C k25 w A0_0 l0_0.length l0_0) (hc0_0:l0_0.length≤c0_0) (hr0_1:Kd.C k71 w A0_1 l0_1.length l0_1) (hc0_1:l0_1.length≤c0_1) (h:impl_StateOk.f k l0_0 l0_1 a0_2 a0_3=some r) :
  Calls Try.prog 38 #[.agg #[.slice A0_0 l0_0.length c0_0,.slice A0_1 l0_1.length c0_1,.int .i64 a0_2,.int .i64 a0_3]] w fun e w'=>e = .returned (.bool r)∧Below w.heap.size w w':=by
 obtain rfl:=Option.some.inj h
 exact impl_StateOk.calls0 A0_0 c0_0 l0_0 A0_1 c0_1 l0_1 a0_2 a0_3 w hr0_0 hc0_0 hr0_1 hc0_1
end Go.Proofs.Ytfkidiagmekleaa.QAll
