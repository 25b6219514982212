import Derived.Test.YtfkidiagmekleaaNVZ
import Derived.Test.YtfkidiagmekleaaNQAllx0
import Derived.Test.YtfkidiagmekleaaNRBas
import Derived.Test.YtfkidiagmekleaaNRSGn
import Derived.Test.YtfkidiagmekleaaNRSOk
namespace Go.Proofs.Ytfkidiagmekleaa.QAll
open Go.RowKit Go.Proofs.YtfkidiagmekleaaW.PrintWords Go.Proofs.YtfkidiagmekleaaW.PrintLast Go.Proofs.YtfkidiagmekleaaW.PrintMore
attribute [local go_sem] max2_int min2_int max_two min_two max_three min_three max_four min_four
set_option linter.unusedVariables false
set_option linter.unusedSimpArgs false
def M21_44 (k:Nat):Array Bool:=((List.range 44).map fun j=>k.testBit j).toArray
theorem Z21_1 {p:Prop} (h:p:=by exact (blk_below (g:=gb664) (o := .cells #[.int .i64 0,.int .i64 0,.int .i64 0,.int .i64 0,.int .i64 0,.int .i64 0,.int .i64 0,.int .i64 0,.int .i64 0,.int .i64 0,.int .i64 0,.bool false,.bool false] 25 (0,0)) (by (with_reducible repeat (first|refine blk_drewN ?_ _|refine blk_drew ?_|refine blk_alloc ?_ _));refine blk_far ?_ NB664_687.out _;(with_reducible repeat (first|refine blk_drewN ?_ _|refine blk_drew ?_|refine blk_alloc ?_ _));refine blk_far ?_ NB664_687.out _;(with_reducible repeat (first|refine blk_drewN ?_ _|refine blk_drew ?_|refine blk_alloc ?_ _));refine blk_far ?_ NB664_687.out _;(with_reducible repeat (first|refine blk_drewN ?_ _|refine blk_drew ?_|refine blk_alloc ?_ _));refine blk_far ?_ NB664_687.out _;(with_reducible repeat (first|refine blk_drewN ?_ _|refine blk_drew ?_|refine blk_alloc ?_ _));refine blk_far ?_ NB664_687.out _;(with_reducible repeat (first|refine blk_drewN ?_ _|refine blk_drew ?_|refine blk_alloc ?_ _));refine blk_far ?_ NB664_687.out _;(with_reducible repeat (first|refine blk_drewN ?_ _|refine blk_drew ?_|refine blk_alloc ?_ _));refine blk_far ?_ NB664_687.out _;(with_reducible repeat (first|refine blk_drewN ?_ _|refine blk_drew ?_|refine blk_alloc ?_ _));refine blk_far ?_ NB664_687.out _;(with_reducible repeat (first|refine blk_drewN ?_ _|refine blk_drew ?_|refine blk_alloc ?_ _));refine blk_far ?_ NB664_687.out _;(with_reducible repeat (first|refine blk_drewN ?_ _|refine blk_drew ?_|refine blk_alloc ?_ _));refine blk_far ?_ NB664_687.out _;(with_reducible repeat (first|refine blk_drewN ?_ _|refine blk_drew ?_|refine blk_alloc ?_ _));refine blk_far ?_ NB664_687.out _;(with_reducible repeat (first|refine blk_drewN ?_ _|refine blk_drew ?_|refine blk_alloc ?_ _));refine blk_far ?_ NB664_687.out _;(with_reducible repeat (first|refine blk_drewN ?_ _|refine blk_drew ?_|refine blk_alloc ?_ _));refine blk_far ?_ NB664_687.out _;(with_reducible repeat (first|refine blk_drewN ?_ _|refine blk_drew ?_|refine blk_alloc ?_ _));exact BK664.out) hb)):p:=h
theorem Z21_2 {p:Prop} (h:p:=by exact (Kd.R_below (by (with_reducible repeat (first|apply Kd.R_alloc|apply Kd.R_drewN|apply Kd.R_drew));exact (Kd.R_mono (Kd.R_far (p:=⟨gb687,12,none⟩) (Kd.R_far (p:=⟨gb687,11,none⟩) (Kd.R_far (p:=⟨gb687,10,none⟩) (Kd.R_far (p:=⟨gb687,9,none⟩) (Kd.R_far (p:=⟨gb687,8,none⟩) (Kd.R_far (p:=⟨gb687,7,none⟩) (Kd.R_far (p:=⟨gb687,6,none⟩) (Kd.R_far (p:=⟨gb687,5,none⟩) (Kd.R_far (p:=⟨gb687,4,none⟩) (Kd.R_far (p:=⟨gb687,3,none⟩) (Kd.R_far (p:=⟨gb687,2,none⟩) (Kd.R_far (p:=⟨gb687,1,none⟩) (Kd.R_far (p:=⟨gb687,0,none⟩) (Kd.R_types HO_7.out BK687.out (by decide)) (fun _ hk=>hk.2) (.int .i64 (rd t665 0))) (fun _ hk=>hk.2) (.int .i64 (rd t665 1))) (fun _ hk=>hk.2) (.int .i64 (rd t665 2))) (fun _ hk=>hk.2) (.int .i64 (rd t665 3))) (fun _ hk=>hk.2) (.int .i64 (rd t665 4))) (fun _ hk=>hk.2) (.int .i64 (rd t665 5))) (fun _ hk=>hk.2) (.int .i64 (rd t665 6))) (fun _ hk=>hk.2) (.int .i64 (rd t665 7))) (fun _ hk=>hk.2) (.int .i64 (rd t665 8))) (fun _ hk=>hk.2) (.int .i64 (rd t665 9))) (fun _ hk=>hk.2) (.int .i64 (rd t665 10))) (fun _ hk=>hk.2) (.bool ((rd t665 11)==1))) (fun _ hk=>hk.2) (.bool ((rd t665 12)==1))) (fun _ h_=>h_.1))) hb)):p:=h
theorem Z21_3 {p:Prop} (h:p:=by exact (blk_below (g:=gb687) (o := .cells #[.int .i64 (rd t665 0),.int .i64 (rd t665 1),.int .i64 (rd t665 2),.int .i64 (rd t665 3),.int .i64 (rd t665 4),.int .i64 (rd t665 5),.int .i64 (rd t665 6),.int .i64 (rd t665 7),.int .i64 (rd t665 8),.int .i64 (rd t665 9),.int .i64 (rd t665 10),.bool ((rd t665 11)==1),.bool ((rd t665 12)==1)] 25 (0,0)) (by (with_reducible repeat (first|refine blk_drewN ?_ _|refine blk_drew ?_|refine blk_alloc ?_ _));apply E_z2;(with_reducible repeat (first|refine blk_drewN ?_ _|refine blk_drew ?_|refine blk_alloc ?_ _));exact BK687.out) hb)):p:=h
theorem Z21_16 {p:Prop} (h:p:=by (with_reducible repeat (first|refine blk_drewN ?_ _|refine blk_drew ?_|refine blk_alloc ?_ _));exact BK664.out):p:=h
theorem Z21_4 {p:Prop} (h:p:=by exact ((by rw [hg];exact Nat.ne_of_lt (blk_lt (g:=gb664) (o := .cells #[.int .i64 0,.int .i64 0,.int .i64 0,.int .i64 0,.int .i64 0,.int .i64 0,.int .i64 0,.int .i64 0,.int .i64 0,.int .i64 0,.int .i64 0,.bool false,.bool false] 25 (0,0)) Z21_16):gb664≠gb687))):p:=h
theorem Z21_5 {p:Prop} (h:p:=by exact ((by rw [hg];exact Nat.ne_of_gt (blk_lt (g:=gb664) (o := .cells #[.int .i64 0,.int .i64 0,.int .i64 0,.int .i64 0,.int .i64 0,.int .i64 0,.int .i64 0,.int .i64 0,.int .i64 0,.int .i64 0,.int .i64 0,.bool false,.bool false] 25 (0,0)) Z21_16):gb687≠gb664))):p:=h
theorem Z21_6 {p:Prop} (h:p:=by exact (blk_below (g:=gb664) (o := .cells #[.int .i64 0,.int .i64 0,.int .i64 0,.int .i64 0,.int .i64 0,.int .i64 0,.int .i64 0,.int .i64 0,.int .i64 0,.int .i64 0,.int .i64 0,.bool false,.bool false] 25 (0,0)) Z21_16 hb)):p:=h
theorem Z21_7 {p:Prop} (h:p:=by (with_reducible repeat (first|refine blk_drewN ?_ _|refine blk_drew ?_|refine blk_alloc ?_ _));apply E_z2;(with_reducible repeat (first|refine blk_drewN ?_ _|refine blk_drew ?_|refine blk_alloc ?_ _));exact BK664.out):p:=h
theorem Z21_13 {p:Prop} (h:p:=by repeat (first|(with_reducible first|exact HB.out|apply below_alloc|apply pw_below_drewN|apply below_drew1|refine below_set ?_ GE664.out)|exact HB.out)):p:=h
theorem Z21_8 {p:Prop} (h:p:=by exact ((by rw [hg];exact (below_size Z21_13):w.heap.size≤gb687))):p:=h
theorem Z21_10 {p:Prop} (h:p:=by repeat (first|(with_reducible first|exact HB.out|apply below_alloc|apply pw_below_drewN|apply below_drew1|refine below_set ?_ GE664.out|refine below_set ?_ GE687.out)|exact HB.out)):p:=h
theorem Z21_9 {p:Prop} (h:p:=by exact (below_step Z21_10 hb)):p:=h
theorem Z21_11 {p:Prop} (h:p:=by exact ((by rw [hg];exact (below_size (by repeat (first|(with_reducible first|exact HB.out|apply below_alloc|apply pw_below_drewN|apply below_drew1)|exact HB.out))):w.heap.size≤gb664))):p:=h
theorem Z21_12 {p:Prop} (h:p:=by exact (below_step Z21_13 hb)):p:=h
theorem Z21_14 {p:Prop} (h:p:=by (try simp only [List.map_toArray,List.map_cons,List.map_nil]);first|done|rfl|(simp only [List.length_drop,List.length_take];rfl)):p:=h
theorem Z21_15 {p:Prop} (h:p:=by exact (Kd.R_below (by (with_reducible repeat (first|apply Kd.R_alloc|apply Kd.R_drewN|apply Kd.R_drew));exact HO_7.out) hb)):p:=h
theorem Z21_17 {p:Prop} (h:p:=by simp only [Act.put,List.setIfInBounds_toArray,List.set_cons_zero,List.set_cons_succ,i64_w,i32_w];rfl):p:=h
theorem Z21_18 {p:Prop} (h:p:=by (with_reducible repeat (first|apply Kd.R_alloc|apply Kd.R_drewN|apply Kd.R_drew));exact HO669.out):p:=h
theorem Z21_19 {p:Prop} (h:p:=by first|rfl|(simp [errW_none,errW_some]<;>rfl)|(simp [*,errW_none,errW_some]<;>rfl)):p:=h
theorem Z21_20 {p:Prop} (h:p:=by rintro w' ⟨s0,s1,s2,s3,s4,s5,s6,s7,s8,s9,s10,s11,s12⟩;go_simp;with_reducible rfl):p:=h
theorem Z21_21 {p:Prop} (h:p:=by first|(with_reducible assumption)|assumption):p:=h
def spec_GetPiece.j0:Nat→List Int→Int→Bool→Option (Int×Int×Int×Int×Int×Int×Int×Int×Int×Int×Int×Bool×Bool×Int×Bool)
 | 0,_,_,_=>none
 | k+1,x7,x8,x33=>if x33=true then (some (0,0,0,0,0,0,0,0,0,0,0,false,false,0,false)) else (if 0 < (x7.length:Int) then (if 1 < (x7.length:Int) then (if 2 < (x7.length:Int) then (if 3 < (x7.length:Int) then (if 4 < (x7.length:Int) then (if 5 < (x7.length:Int) then (if 6 < (x7.length:Int) then (if 7 < (x7.length:Int) then (if 8 < (x7.length:Int) then (if 9 < (x7.length:Int) then (if 10 < (x7.length:Int) then (if 11 < (x7.length:Int) then (if 12 < (x7.length:Int) then ((spec_PieceOk.f k (rd x7 0) (rd x7 1) (rd x7 2) (rd x7 3) (rd x7 4) (rd x7 5) (rd x7 6) (rd x7 7) (rd x7 8) (rd x7 9) (rd x7 10) ((rd x7 11)==1) ((rd x7 12)==1)).bind fun t688=>(if t688=true then (some (rd x7 0,rd x7 1,rd x7 2,rd x7 3,rd x7 4,rd x7 5,rd x7 6,rd x7 7,rd x7 8,rd x7 9,rd x7 10,((rd x7 11)==1),((rd x7 12)==1),x8,true)) else (some (0,0,0,0,0,0,0,0,0,0,0,false,false,0,false)))) else (none)) else (none)) else (none)) else (none)) else (none)) else (none)) else (none)) else (none)) else (none)) else (none)) else (none)) else (none)) else (none))
def spec_GetPiece.f (k:Nat) (l0:List Int) (a1:Int):Option (Int×Int×Int×Int×Int×Int×Int×Int×Int×Int×Int×Bool×Bool×Int×Bool):=(spec_l4Nums.f k l0 a1 13).bind fun bt665=>(if bt665.2.2=true then (if 11 < (bt665.1.length:Int) then ((spec_l1In.f (rd bt665.1 11) 0 1).bind fun t671=>(if t671=true then (if 12 < (bt665.1.length:Int) then ((spec_l1In.f (rd bt665.1 12) 0 1).bind fun t673=>(spec_GetPiece.j0 k bt665.1 bt665.2.1 (!t673))) else (none)) else (spec_GetPiece.j0 k bt665.1 bt665.2.1 true))) else (none)) else (spec_GetPiece.j0 k bt665.1 bt665.2.1 true))
def spec_GetPiece.T4:Bool×List (List Nat×List Nat):=(true,[([],[]),([0],[0]),([1],[1]),([],[]),([3],[3]),([4],[4]),([],[]),([6],[6]),([7],[7]),([],[]),([9],[9]),([10],[10]),([],[]),([12],[12]),([13],[13]),([],[]),([15],[15]),([16],[16]),([],[]),([18],[18]),([19],[19]),([],[]),([21],[21]),([22],[22]),([],[]),([24],[24]),([25],[25]),([],[]),([27],[27]),([28],[28]),([],[]),([30],[30]),([31],[31]),([],[]),([33],[33]),([34],[34]),([35],[35]),([],[]),([37],[37]),([38],[38]),([39],[39]),([2,5,8,11,14,17,20,23,26,29,32,36,40],[2,5,8,11,14,17,20,23,26,29,32,36,40]),([],[]),([42,41,0,1,2,3,4,5,6,7,8,9,10,11,12,13,14,15,16,17,18,19,20,21,22,23,24,25,26,27,28,29,30,31,32,33,34,35,36,37,38,39,40,41,42],[41,42])])
def spec_GetPiece.B4:List Nat:=[0,1,3,0,8,24,0,64,192,0,512,1536,0,4096,12288,0,32768,98304,0,262144,786432,0,2097152,6291456,0,16777216,50331648,0,134217728,402653184,0,1073741824,3221225472,0,8589934592,25769803776,60129542144,0,137438953472,412316860416,962072674304,2199023255551,0,8796093022207]
theorem spec_GetPiece.tab4:rtab .any (opsOf Try.f33 4)=spec_GetPiece.T4:=by kernel_rfl
theorem spec_GetPiece.bits4:waitsOk spec_GetPiece.T4.2 spec_GetPiece.B4=true:=by kernel_rfl
set_option maxHeartbeats 8000000 in
set_option maxRecDepth 100000 in
theorem spec_GetPiece.calls (k:Nat) (A0:Option Addr) (c0:Nat) (l0:List Int) (a1:Int) (r1:Int) (r2:Int) (r3:Int) (r4:Int) (r5:Int) (r6:Int) (r7:Int) (r8:Int) (r9:Int) (r10:Int) (r11:Int) (r12:Bool) (r13:Bool) (r14:Int) (r15:Bool) (w:World) (hr0:Kd.C (Kd.int .u8) w A0 l0.length l0) (hc0:l0.length≤c0) (h:spec_GetPiece.f k l0 a1=some (r1,r2,r3,r4,r5,r6,r7,r8,r9,r10,r11,r12,r13,r14,r15)) :
  Calls Try.prog 33 #[.slice A0 l0.length c0,.int .i64 a1] w fun e w'=>e = .returned (.tuple #[.agg #[.int .i64 r1,.int .i64 r2,.int .i64 r3,.int .i64 r4,.int .i64 r5,.int .i64 r6,.int .i64 r7,.int .i64 r8,.int .i64 r9,.int .i64 r10,.int .i64 r11,.bool r12,.bool r13],.int .i64 r14,.bool r15])∧Below w.heap.size w w':=by
 have hu25:=Try.underlying25
 have HR0:=Aside0.mk hr0
 have HC0:=Aside0.mk hc0
 clear hr0 hc0
 have HB:=Aside0.mk (Below.refl w.heap.size w)
 have H:((spec_l4Nums.f k l0 a1 13).bind fun bt665=>(if bt665.2.2=true then (if 11 < (bt665.1.length:Int) then ((spec_l1In.f (rd bt665.1 11) 0 1).bind fun t671=>(if t671=true then (if 12 < (bt665.1.length:Int) then ((spec_l1In.f (rd bt665.1 12) 0 1).bind fun t673=>(spec_GetPiece.j0 k bt665.1 bt665.2.1 (!t673))) else (none)) else (spec_GetPiece.j0 k bt665.1 bt665.2.1 true))) else (none)) else (spec_GetPiece.j0 k bt665.1 bt665.2.1 true)))=some (r1,r2,r3,r4,r5,r6,r7,r8,r9,r10,r11,r12,r13,r14,r15):=h
 clear h
 replace H:=Option.bind_eq_some_iff.mp H
 obtain ⟨⟨t665,t666,t667⟩,A30,H⟩:=H
 (try dsimp only at H)
 have A3:=Aside0.mk A30
 clear A30
 have HC4:=Aside0.mk H
 clear H
 go_enter Try.func33,Try.ntmps33
 go_upto_region 2 with (first|((with_reducible refine gate_dst (N:=4) rfl ?_);refine box_event ?hg (N:=4) ?hd (cs:=#[.int .i64 0,.int .i64 0,.int .i64 0,.int .i64 0,.int .i64 0,.int .i64 0,.int .i64 0,.int .i64 0,.int .i64 0,.int .i64 0,.int .i64 0,.bool false,.bool false]) (t:=25) ?hr ?_;(case hd=>rfl);(case hg=>rfl);(case hr=>first|(go_simp;done)|(go_simp;rfl));intro gb664 hg w5 hbox hb;have n0_:=Aside0.mk (below_step (by repeat (first|(with_reducible first|exact HB.out|apply below_alloc|apply pw_below_drewN|apply below_drew1)|exact HB.out)) hb);have n1_:=Aside0.mk (hbox);have n2_:=Aside0.mk Z21_11;have n3_:=Aside0.mk Z21_11;clear HB;have HB:=n0_;have BK664:=n1_;have GW664:=n2_;have GE664:=n3_;clear n0_ n1_ n2_ n3_;clear hb hbox hg)|((with_reducible refine gate_callee (f:=96) rfl ?_);refine goesL_ (some 14) rfl rfl Try.func96 (by kernel_rfl) rfl #[.slice A0 l0.length c0,.int .i64 a1,.int .i64 13] rfl Z21_14 ?_;(with_reducible refine (spec_l4Nums.calls k _ _ l0 a1 13 t665 t666 t667 _ ?side1 ?side2 A3.out).mono ?_);(case side1=>repeat (first|exact (Kd.C_below HR0.out HB.out)|(with_reducible refine Kd.C_alloc ?_ _)|(with_reducible refine Kd.C_drewN ?_ _)|(with_reducible refine Kd.C_drew ?_)));(case side2=>exact HC0.out);rintro e w6 ⟨v668,rfl,ho0,hb⟩;refine ⟨_,rfl,?_⟩;have n0_:=Aside0.mk (Kd.R_lower ho0 (below_size Z21_13));have n1_:=Aside0.mk Z21_6;have n2_:=Aside0.mk Z21_12;clear BK664;clear HB;have HO669:=n0_;have BK664:=n1_;have HB:=n2_;clear n0_ n1_ n2_;(try clear hb);(try clear hb2);(try clear hk);(try clear hi);(try clear ho0)))
 (try simp only [Act.put,List.setIfInBounds_toArray,List.set_cons_zero,List.set_cons_succ])
 go_cut [33] (fun v33 wc=>∃ (kq:Nat) (x33_3:Bool),v33 = .bool x33_3∧Aside0 (spec_GetPiece.j0 kq t665 t666 x33_3=some (r1,r2,r3,r4,r5,r6,r7,r8,r9,r10,r11,r12,r13,r14,r15))∧Aside0 (kq≤k)∧Aside0 (Kd.R (Kd.int .i64) 3 wc w.heap.size (fun _=>True) v668 t665)∧Aside0 (wc.heap[gb664]?=some (.cells #[.int .i64 0,.int .i64 0,.int .i64 0,.int .i64 0,.int .i64 0,.int .i64 0,.int .i64 0,.int .i64 0,.int .i64 0,.int .i64 0,.int .i64 0,.bool false,.bool false] 25 (0,0)))∧Aside0 (Below w.heap.size w wc))
 case first =>
  have H:=HC4.out
  clear HC4
  by_cases c7:t667=true
  rotate_left
  ·replace c7:=Bool.eq_false_iff.mpr c7
   subst c7
   have H1:(spec_GetPiece.j0 k t665 t666 true)=some (r1,r2,r3,r4,r5,r6,r7,r8,r9,r10,r11,r12,r13,r14,r15):=by rw [if_neg (show ¬ (false=true) by decide)] at H;exact H
   clear H
   have H:=H1
   clear H1
   have H':=Aside0.mk H
   clear H
   go_wp2
   go_meet
   case rel=>exact ⟨_,(true),(by first|rfl|(simp;done)|(simp [*];done)),H',⟨(by first|omega|exact Nat.le_refl _)⟩,⟨Z21_18⟩,⟨Z21_16⟩,⟨Z21_13⟩⟩
  subst c7
  rw [if_pos rfl] at H
  by_cases c8:11 < (t665.length:Int)
  rotate_left
  ·rw [if_neg c8] at H
   exact absurd H (by simp)
  rw [if_pos c8] at H
  have c8b0:decide (11 < (t665.length:Int))=true:=decide_eq_true c8
  have c8b1:decide (11 < t665.length)=true:=decide_eq_true (by omega)
  clear c8
  (first|rw [c8b0]|(simp only [i64_w,i32_w];rw [c8b0])|skip)
  replace H:=Option.bind_eq_some_iff.mp H
  obtain ⟨t671,A90,H⟩:=H
  (try dsimp only at H)
  have A9:=Aside0.mk A90
  clear A90
  by_cases c10:t671=true
  rotate_left
  ·replace c10:=Bool.eq_false_iff.mpr c10
   subst c10
   have H1:(spec_GetPiece.j0 k t665 t666 true)=some (r1,r2,r3,r4,r5,r6,r7,r8,r9,r10,r11,r12,r13,r14,r15):=by rw [if_neg (show ¬ (false=true) by decide)] at H;exact H
   clear H
   have H:=H1
   clear H1
   have H':=Aside0.mk H
   clear H
   obtain ⟨Ao14,co14,eo14⟩:=Kd.R_slice HO669.out
   subst eo14
   have p670:0≤(11:Int):=(by omega)
   have q670:11 < (t665.length:Int):=of_decide_eq_true Z21_21
   obtain ⟨ad670,e670,hx670_0⟩:=Kd.at_int (Kd.R_reads' HO669.out).2.2 11 p670 q670
   cases e670
   (try simp only [show (11:Int).toNat=11 from rfl,Nat.reduceMul,Nat.reduceEqDiff,Go.Addr.add,↓reduceIte] at hx670_0)
   have qi670:(11 < t665.length)=True:=eq_true (by omega)
   (try rw [show ((11:Int)).toNat=11 from rfl] at hx670_0)
   replace p670:=eq_true p670
   replace q670:=eq_true q670
   go_wp2_with (first|(go_at_call 84;(with_reducible refine (spec_l1In.calls (rd t665 11) 0 1 false _ A9.out).mono ?_);rintro e w' ⟨rfl,⟨nd,rfl⟩⟩))
   go_meet
   case rel=>exact ⟨_,(true),(by first|rfl|(simp;done)|(simp [*];done)),H',⟨(by first|omega|exact Nat.le_refl _)⟩,⟨Z21_18⟩,⟨Z21_16⟩,⟨Z21_13⟩⟩
  subst c10
  rw [if_pos rfl] at H
  by_cases c11:12 < (t665.length:Int)
  rotate_left
  ·rw [if_neg c11] at H
   exact absurd H (by simp)
  rw [if_pos c11] at H
  have c11b0:decide (12 < (t665.length:Int))=true:=decide_eq_true c11
  have c11b1:decide (12 < t665.length)=true:=decide_eq_true (by omega)
  clear c11
  replace H:=Option.bind_eq_some_iff.mp H
  obtain ⟨t673,A120,H⟩:=H
  replace H:(spec_GetPiece.j0 k t665 t666 (!t673))=some (r1,r2,r3,r4,r5,r6,r7,r8,r9,r10,r11,r12,r13,r14,r15):=H
  have A12:=Aside0.mk A120
  clear A120
  have H':=Aside0.mk H
  clear H
  obtain ⟨Ao13,co13,eo13⟩:=Kd.R_slice HO669.out
  subst eo13
  have p670:0≤(11:Int):=(by omega)
  have q670:11 < (t665.length:Int):=of_decide_eq_true Z21_21
  obtain ⟨ad670,e670,hx670_0⟩:=Kd.at_int (Kd.R_reads' HO669.out).2.2 11 p670 q670
  cases e670
  (try simp only [show (11:Int).toNat=11 from rfl,Nat.reduceMul,Nat.reduceEqDiff,Go.Addr.add,↓reduceIte] at hx670_0)
  have qi670:(11 < t665.length)=True:=eq_true (by omega)
  (try rw [show ((11:Int)).toNat=11 from rfl] at hx670_0)
  replace p670:=eq_true p670
  replace q670:=eq_true q670
  go_wp2_with (first|(go_at_call 84;(with_reducible refine (spec_l1In.calls (rd t665 11) 0 1 true _ A9.out).mono ?_);rintro e w' ⟨rfl,⟨nd,rfl⟩⟩;have p672:0≤(12:Int):=(by omega);have q672:12 < (t665.length:Int):=of_decide_eq_true Z21_21;obtain ⟨ad672,e672,hx672_0⟩:=Kd.at_int (Kd.R_reads' HO669.out).2.2 12 p672 q672;obtain rfl:ad670=ad672:=(by injection e672);(try simp only [show (12:Int).toNat=12 from rfl,Nat.reduceMul,Nat.reduceEqDiff,Go.Addr.add,↓reduceIte] at hx672_0);have qi672:(12 < t665.length)=True:=eq_true (by omega);(try rw [show ((12:Int)).toNat=12 from rfl] at hx672_0);replace p672:=eq_true p672;replace q672:=eq_true q672)|(go_at_call 84;(with_reducible refine (spec_l1In.calls (rd t665 12) 0 1 t673 _ A12.out).mono ?_);rintro e w' ⟨rfl,⟨nd,rfl⟩⟩))
  go_meet
  case rel=>exact ⟨_,(!t673),(by first|rfl|(simp;done)|(simp [*];done)),H',⟨(by first|omega|exact Nat.le_refl _)⟩,⟨Z21_18⟩,⟨Z21_16⟩,⟨Z21_13⟩⟩
 case rest =>
  clear HC4
  try clear c1
  try clear p2
  try clear c3
  try clear p6
  try clear q6
  try clear hx6
  try clear qi6
  try clear c7
  try clear c8
  try clear c8b0
  try clear c8b1
  try clear c9
  try clear c10
  try clear c11
  try clear c11b0
  try clear c11b1
  try clear hx670_0
  try clear hx672_0
  try clear p670
  try clear p672
  try clear q670
  try clear q672
  obtain ⟨kq,x33_3,rfl,HA,HJ3,HO_7,BK664,HB⟩:=hcut
  cases kq with
  | zero=>exact absurd HA.out (by simp [spec_GetPiece.j0])
  | succ kj3 =>
   have H:=HA.out
   clear HA
   simp only [spec_GetPiece.j0] at H
   by_cases c15:x33_3=true
   ·subst c15
    have H1:(some (0,0,0,0,0,0,0,0,0,0,0,false,false,0,false))=some (r1,r2,r3,r4,r5,r6,r7,r8,r9,r10,r11,r12,r13,r14,r15):=by rw [if_pos rfl] at H;exact H
    clear H
    have H:=H1
    clear H1
    simp only [Option.some.injEq,Prod.mk.injEq] at H
    obtain ⟨rfl,rfl,rfl,rfl,rfl,rfl,rfl,rfl,rfl,rfl,rfl,rfl,rfl,rfl,rfl⟩:=H
    obtain ⟨⟨hcz16_0,hcz16_1,hcz16_2,hcz16_3,hcz16_4,hcz16_5,hcz16_6,hcz16_7,hcz16_8,hcz16_9,hcz16_10,hcz16_11,hcz16_12⟩,hfz16_0,hfz16_1,hfz16_2,hfz16_3,hfz16_4,hfz16_5,hfz16_6,hfz16_7,hfz16_8,hfz16_9,hfz16_10,hfz16_11,hfz16_12⟩:=C_z0 BK664.out
    go_wp2
    refine bodyPost_ret (results_ctt rfl _ _ gb664 25 #[.int .i64 0,.int .i64 0,.int .i64 0,.int .i64 0,.int .i64 0,.int .i64 0,.int .i64 0,.int .i64 0,.int .i64 0,.int .i64 0,.int .i64 0,.bool false,.bool false] (0,0) _ rfl Z21_7 Try.underlying25 rfl (by kernel_rfl)) rfl ?_
    exact ⟨Z21_19,Z21_13⟩
   replace c15:=Bool.eq_false_iff.mpr c15
   subst c15
   rw [if_neg (show ¬ (false=true) by decide)] at H
   by_cases c17:0 < (t665.length:Int)
   rotate_left
   ·rw [if_neg c17] at H
    exact absurd H (by simp)
   rw [if_pos c17] at H
   have c17b0:decide (0 < (t665.length:Int))=true:=decide_eq_true c17
   have c17b1:decide (0 < t665.length)=true:=decide_eq_true (by omega)
   clear c17
   by_cases c18:1 < (t665.length:Int)
   rotate_left
   ·rw [if_neg c18] at H
    exact absurd H (by simp)
   rw [if_pos c18] at H
   have c18b0:decide (1 < (t665.length:Int))=true:=decide_eq_true c18
   have c18b1:decide (1 < t665.length)=true:=decide_eq_true (by omega)
   clear c18
   by_cases c19:2 < (t665.length:Int)
   rotate_left
   ·rw [if_neg c19] at H
    exact absurd H (by simp)
   rw [if_pos c19] at H
   have c19b0:decide (2 < (t665.length:Int))=true:=decide_eq_true c19
   have c19b1:decide (2 < t665.length)=true:=decide_eq_true (by omega)
   clear c19
   by_cases c20:3 < (t665.length:Int)
   rotate_left
   ·rw [if_neg c20] at H
    exact absurd H (by simp)
   rw [if_pos c20] at H
   have c20b0:decide (3 < (t665.length:Int))=true:=decide_eq_true c20
   have c20b1:decide (3 < t665.length)=true:=decide_eq_true (by omega)
   clear c20
   by_cases c21:4 < (t665.length:Int)
   rotate_left
   ·rw [if_neg c21] at H
    exact absurd H (by simp)
   rw [if_pos c21] at H
   have c21b0:decide (4 < (t665.length:Int))=true:=decide_eq_true c21
   have c21b1:decide (4 < t665.length)=true:=decide_eq_true (by omega)
   clear c21
   by_cases c22:5 < (t665.length:Int)
   rotate_left
   ·rw [if_neg c22] at H
    exact absurd H (by simp)
   rw [if_pos c22] at H
   have c22b0:decide (5 < (t665.length:Int))=true:=decide_eq_true c22
   have c22b1:decide (5 < t665.length)=true:=decide_eq_true (by omega)
   clear c22
   by_cases c23:6 < (t665.length:Int)
   rotate_left
   ·rw [if_neg c23] at H
    exact absurd H (by simp)
   rw [if_pos c23] at H
   have c23b0:decide (6 < (t665.length:Int))=true:=decide_eq_true c23
   have c23b1:decide (6 < t665.length)=true:=decide_eq_true (by omega)
   clear c23
   by_cases c24:7 < (t665.length:Int)
   rotate_left
   ·rw [if_neg c24] at H
    exact absurd H (by simp)
   rw [if_pos c24] at H
   have c24b0:decide (7 < (t665.length:Int))=true:=decide_eq_true c24
   have c24b1:decide (7 < t665.length)=true:=decide_eq_true (by omega)
   clear c24
   by_cases c25:8 < (t665.length:Int)
   rotate_left
   ·rw [if_neg c25] at H
    exact absurd H (by simp)
   rw [if_pos c25] at H
   have c25b0:decide (8 < (t665.length:Int))=true:=decide_eq_true c25
   have c25b1:decide (8 < t665.length)=true:=decide_eq_true (by omega)
   clear c25
   by_cases c26:9 < (t665.length:Int)
   rotate_left
   ·rw [if_neg c26] at H
    exact absurd H (by simp)
   rw [if_pos c26] at H
   have c26b0:decide (9 < (t665.length:Int))=true:=decide_eq_true c26
   have c26b1:decide (9 < t665.length)=true:=decide_eq_true (by omega)
   clear c26
   by_cases c27:10 < (t665.length:Int)
   rotate_left
   ·rw [if_neg c27] at H
    exact absurd H (by simp)
   rw [if_pos c27] at H
   have c27b0:decide (10 < (t665.length:Int))=true:=decide_eq_true c27
   have c27b1:decide (10 < t665.length)=true:=decide_eq_true (by omega)
   clear c27
   by_cases c28:11 < (t665.length:Int)
   rotate_left
   ·rw [if_neg c28] at H
    exact absurd H (by simp)
   rw [if_pos c28] at H
   have c28b0:decide (11 < (t665.length:Int))=true:=decide_eq_true c28
   have c28b1:decide (11 < t665.length)=true:=decide_eq_true (by omega)
   clear c28
   by_cases c29:12 < (t665.length:Int)
   rotate_left
   ·rw [if_neg c29] at H
    exact absurd H (by simp)
   rw [if_pos c29] at H
   have c29b0:decide (12 < (t665.length:Int))=true:=decide_eq_true c29
   have c29b1:decide (12 < t665.length)=true:=decide_eq_true (by omega)
   clear c29
   replace H:=Option.bind_eq_some_iff.mp H
   obtain ⟨t688,A300,H⟩:=H
   (try dsimp only at H)
   have A30:=Aside0.mk A300
   clear A300
   by_cases c31:t688=true
   rotate_left
   ·replace c31:=Bool.eq_false_iff.mpr c31
    subst c31
    rw [if_neg (show ¬ (false=true) by decide)] at H
    simp only [Option.some.injEq,Prod.mk.injEq] at H
    obtain ⟨rfl,rfl,rfl,rfl,rfl,rfl,rfl,rfl,rfl,rfl,rfl,rfl,rfl,rfl,rfl⟩:=H
    try go_wp2
    have n0_:=Aside0.mk (Kd.R_drew HO_7.out)
    have n1_:=Aside0.mk (blk_drew BK664.out)
    have n2_:=Aside0.mk (below_drew1 HB.out)
    clear HO_7
    clear BK664
    clear HB
    have HO_7:=n0_
    have BK664:=n1_
    have HB:=n2_
    clear n0_ n1_ n2_
    obtain ⟨Ao54,co54,eo54⟩:=Kd.R_slice HO_7.out
    (first|subst eo54|(injection eo54 with f1_ f2_ f3_;have f4_:=f1_.symm;have f5_:=f3_.symm;clear f1_ f2_ f3_;subst f4_;subst f5_))
    have p674:0≤(0:Int):=(by omega)
    have q674:0 < (t665.length:Int):=of_decide_eq_true Z21_21
    obtain ⟨ad674,e674,hx674_0⟩:=Kd.at_int (Kd.R_reads' HO_7.out).2.2 0 p674 q674
    cases e674
    have qi674:(0 < t665.length)=True:=eq_true (by omega)
    (try rw [show ((0:Int)).toNat=0 from rfl] at hx674_0)
    (try rw [Addr.add_zero'] at hx674_0)
    replace p674:=eq_true p674
    replace q674:=eq_true q674
    have p675:0≤(1:Int):=(by omega)
    have q675:1 < (t665.length:Int):=of_decide_eq_true Z21_21
    obtain ⟨ad675,e675,hx675_0⟩:=Kd.at_int (Kd.R_reads' HO_7.out).2.2 1 p675 q675
    obtain rfl:ad674=ad675:=(by injection e675)
    (try simp only [show (1:Int).toNat=1 from rfl,Nat.reduceMul,Nat.reduceEqDiff,Go.Addr.add,↓reduceIte] at hx675_0)
    have qi675:(1 < t665.length)=True:=eq_true (by omega)
    (try rw [show ((1:Int)).toNat=1 from rfl] at hx675_0)
    replace p675:=eq_true p675
    replace q675:=eq_true q675
    have p676:0≤(2:Int):=(by omega)
    have q676:2 < (t665.length:Int):=of_decide_eq_true Z21_21
    obtain ⟨ad676,e676,hx676_0⟩:=Kd.at_int (Kd.R_reads' HO_7.out).2.2 2 p676 q676
    obtain rfl:ad674=ad676:=(by injection e676)
    (try simp only [show (2:Int).toNat=2 from rfl,Nat.reduceMul,Nat.reduceEqDiff,Go.Addr.add,↓reduceIte] at hx676_0)
    have qi676:(2 < t665.length)=True:=eq_true (by omega)
    (try rw [show ((2:Int)).toNat=2 from rfl] at hx676_0)
    replace p676:=eq_true p676
    replace q676:=eq_true q676
    have p677:0≤(3:Int):=(by omega)
    have q677:3 < (t665.length:Int):=of_decide_eq_true Z21_21
    obtain ⟨ad677,e677,hx677_0⟩:=Kd.at_int (Kd.R_reads' HO_7.out).2.2 3 p677 q677
    obtain rfl:ad674=ad677:=(by injection e677)
    (try simp only [show (3:Int).toNat=3 from rfl,Nat.reduceMul,Nat.reduceEqDiff,Go.Addr.add,↓reduceIte] at hx677_0)
    have qi677:(3 < t665.length)=True:=eq_true (by omega)
    (try rw [show ((3:Int)).toNat=3 from rfl] at hx677_0)
    replace p677:=eq_true p677
    replace q677:=eq_true q677
    have p678:0≤(4:Int):=(by omega)
    have q678:4 < (t665.length:Int):=of_decide_eq_true Z21_21
    obtain ⟨ad678,e678,hx678_0⟩:=Kd.at_int (Kd.R_reads' HO_7.out).2.2 4 p678 q678
    obtain rfl:ad674=ad678:=(by injection e678)
    (try simp only [show (4:Int).toNat=4 from rfl,Nat.reduceMul,Nat.reduceEqDiff,Go.Addr.add,↓reduceIte] at hx678_0)
    have qi678:(4 < t665.length)=True:=eq_true (by omega)
    (try rw [show ((4:Int)).toNat=4 from rfl] at hx678_0)
    replace p678:=eq_true p678
    replace q678:=eq_true q678
    have p679:0≤(5:Int):=(by omega)
    have q679:5 < (t665.length:Int):=of_decide_eq_true Z21_21
    obtain ⟨ad679,e679,hx679_0⟩:=Kd.at_int (Kd.R_reads' HO_7.out).2.2 5 p679 q679
    obtain rfl:ad674=ad679:=(by injection e679)
    (try simp only [show (5:Int).toNat=5 from rfl,Nat.reduceMul,Nat.reduceEqDiff,Go.Addr.add,↓reduceIte] at hx679_0)
    have qi679:(5 < t665.length)=True:=eq_true (by omega)
    (try rw [show ((5:Int)).toNat=5 from rfl] at hx679_0)
    replace p679:=eq_true p679
    replace q679:=eq_true q679
    have p680:0≤(6:Int):=(by omega)
    have q680:6 < (t665.length:Int):=of_decide_eq_true Z21_21
    obtain ⟨ad680,e680,hx680_0⟩:=Kd.at_int (Kd.R_reads' HO_7.out).2.2 6 p680 q680
    obtain rfl:ad674=ad680:=(by injection e680)
    (try simp only [show (6:Int).toNat=6 from rfl,Nat.reduceMul,Nat.reduceEqDiff,Go.Addr.add,↓reduceIte] at hx680_0)
    have qi680:(6 < t665.length)=True:=eq_true (by omega)
    (try rw [show ((6:Int)).toNat=6 from rfl] at hx680_0)
    replace p680:=eq_true p680
    replace q680:=eq_true q680
    have p681:0≤(7:Int):=(by omega)
    have q681:7 < (t665.length:Int):=of_decide_eq_true Z21_21
    obtain ⟨ad681,e681,hx681_0⟩:=Kd.at_int (Kd.R_reads' HO_7.out).2.2 7 p681 q681
    obtain rfl:ad674=ad681:=(by injection e681)
    (try simp only [show (7:Int).toNat=7 from rfl,Nat.reduceMul,Nat.reduceEqDiff,Go.Addr.add,↓reduceIte] at hx681_0)
    have qi681:(7 < t665.length)=True:=eq_true (by omega)
    (try rw [show ((7:Int)).toNat=7 from rfl] at hx681_0)
    replace p681:=eq_true p681
    replace q681:=eq_true q681
    have p682:0≤(8:Int):=(by omega)
    have q682:8 < (t665.length:Int):=of_decide_eq_true Z21_21
    obtain ⟨ad682,e682,hx682_0⟩:=Kd.at_int (Kd.R_reads' HO_7.out).2.2 8 p682 q682
    obtain rfl:ad674=ad682:=(by injection e682)
    (try simp only [show (8:Int).toNat=8 from rfl,Nat.reduceMul,Nat.reduceEqDiff,Go.Addr.add,↓reduceIte] at hx682_0)
    have qi682:(8 < t665.length)=True:=eq_true (by omega)
    (try rw [show ((8:Int)).toNat=8 from rfl] at hx682_0)
    replace p682:=eq_true p682
    replace q682:=eq_true q682
    have p683:0≤(9:Int):=(by omega)
    have q683:9 < (t665.length:Int):=of_decide_eq_true Z21_21
    obtain ⟨ad683,e683,hx683_0⟩:=Kd.at_int (Kd.R_reads' HO_7.out).2.2 9 p683 q683
    obtain rfl:ad674=ad683:=(by injection e683)
    (try simp only [show (9:Int).toNat=9 from rfl,Nat.reduceMul,Nat.reduceEqDiff,Go.Addr.add,↓reduceIte] at hx683_0)
    have qi683:(9 < t665.length)=True:=eq_true (by omega)
    (try rw [show ((9:Int)).toNat=9 from rfl] at hx683_0)
    replace p683:=eq_true p683
    replace q683:=eq_true q683
    have p684:0≤(10:Int):=(by omega)
    have q684:10 < (t665.length:Int):=of_decide_eq_true Z21_21
    obtain ⟨ad684,e684,hx684_0⟩:=Kd.at_int (Kd.R_reads' HO_7.out).2.2 10 p684 q684
    obtain rfl:ad674=ad684:=(by injection e684)
    (try simp only [show (10:Int).toNat=10 from rfl,Nat.reduceMul,Nat.reduceEqDiff,Go.Addr.add,↓reduceIte] at hx684_0)
    have qi684:(10 < t665.length)=True:=eq_true (by omega)
    (try rw [show ((10:Int)).toNat=10 from rfl] at hx684_0)
    replace p684:=eq_true p684
    replace q684:=eq_true q684
    have p685:0≤(11:Int):=(by omega)
    have q685:11 < (t665.length:Int):=of_decide_eq_true Z21_21
    obtain ⟨ad685,e685,hx685_0⟩:=Kd.at_int (Kd.R_reads' HO_7.out).2.2 11 p685 q685
    obtain rfl:ad674=ad685:=(by injection e685)
    (try simp only [show (11:Int).toNat=11 from rfl,Nat.reduceMul,Nat.reduceEqDiff,Go.Addr.add,↓reduceIte] at hx685_0)
    have qi685:(11 < t665.length)=True:=eq_true (by omega)
    (try rw [show ((11:Int)).toNat=11 from rfl] at hx685_0)
    replace p685:=eq_true p685
    replace q685:=eq_true q685
    have p686:0≤(12:Int):=(by omega)
    have q686:12 < (t665.length:Int):=of_decide_eq_true Z21_21
    obtain ⟨ad686,e686,hx686_0⟩:=Kd.at_int (Kd.R_reads' HO_7.out).2.2 12 p686 q686
    obtain rfl:ad674=ad686:=(by injection e686)
    (try simp only [show (12:Int).toNat=12 from rfl,Nat.reduceMul,Nat.reduceEqDiff,Go.Addr.add,↓reduceIte] at hx686_0)
    have qi686:(12 < t665.length)=True:=eq_true (by omega)
    (try rw [show ((12:Int)).toNat=12 from rfl] at hx686_0)
    replace p686:=eq_true p686
    replace q686:=eq_true q686
    refine start_ (n:=44) (S:=fun w'=>w'.cell? ad674=some (.int .i64 (rd t665 0))∧w'.cell? ⟨ad674.block,ad674.off+1,none⟩=some (.int .i64 (rd t665 1))∧w'.cell? ⟨ad674.block,ad674.off+2,none⟩=some (.int .i64 (rd t665 2))∧w'.cell? ⟨ad674.block,ad674.off+3,none⟩=some (.int .i64 (rd t665 3))∧w'.cell? ⟨ad674.block,ad674.off+4,none⟩=some (.int .i64 (rd t665 4))∧w'.cell? ⟨ad674.block,ad674.off+5,none⟩=some (.int .i64 (rd t665 5))∧w'.cell? ⟨ad674.block,ad674.off+6,none⟩=some (.int .i64 (rd t665 6))∧w'.cell? ⟨ad674.block,ad674.off+7,none⟩=some (.int .i64 (rd t665 7))∧w'.cell? ⟨ad674.block,ad674.off+8,none⟩=some (.int .i64 (rd t665 8))∧w'.cell? ⟨ad674.block,ad674.off+9,none⟩=some (.int .i64 (rd t665 9))∧w'.cell? ⟨ad674.block,ad674.off+10,none⟩=some (.int .i64 (rd t665 10))∧w'.cell? ⟨ad674.block,ad674.off+11,none⟩=some (.int .i64 (rd t665 11))∧w'.cell? ⟨ad674.block,ad674.off+12,none⟩=some (.int .i64 (rd t665 12))) (ds:=[43]) #[false,false,false,false,false,false,false,false,false,false,false,false,false,false,false,false,false,false,false,false,false,false,false,false,false,false,false,false,false,false,false,false,false,false,false,false,false,false,false,false,false,false,false,false] (by kernel_rfl) rfl rfl ⟨hx674_0,hx675_0,hx676_0,hx677_0,hx678_0,hx679_0,hx680_0,hx681_0,hx682_0,hx683_0,hx684_0,hx685_0,hx686_0⟩ (fun hHeld=>?_);refine with_tabW spec_GetPiece.tab4 spec_GetPiece.bits4 (fun HT_ HW_=>?_)
    generalize wc.drew=w53 at HO_7 BK664 HB hx674_0 hx675_0 hx676_0 hx677_0 hx678_0 hx679_0 hx680_0 hx681_0 hx682_0 hx683_0 hx684_0 hx685_0 hx686_0 hHeld ⊢
    refine pz 0 35 (M21_44 1) (b:=Z21_17) (h:=?_)
    refine pz 1 36 (M21_44 3) (b:=Z21_17) (h:=?_)
    refine pz 3 38 (M21_44 11) (b:=Z21_17) (h:=?_)
    refine pz 4 39 (M21_44 27) (b:=Z21_17) (h:=?_)
    refine pz 6 41 (M21_44 91) (b:=Z21_17) (h:=?_)
    refine pz 7 42 (M21_44 219) (b:=Z21_17) (h:=?_)
    refine pz 9 44 (M21_44 731) (b:=Z21_17) (h:=?_)
    refine pz 10 45 (M21_44 1755) (b:=Z21_17) (h:=?_)
    refine pz 12 47 (M21_44 5851) (b:=Z21_17) (h:=?_)
    refine pz 13 48 (M21_44 14043) (b:=Z21_17) (h:=?_)
    refine pz 15 50 (M21_44 46811) (b:=Z21_17) (h:=?_)
    refine pz 16 51 (M21_44 112347) (b:=Z21_17) (h:=?_)
    refine pz 18 53 (M21_44 374491) (b:=Z21_17) (h:=?_)
    refine pz 19 54 (M21_44 898779) (b:=Z21_17) (h:=?_)
    refine pz 21 56 (M21_44 2995931) (b:=Z21_17) (h:=?_)
    refine pz 22 57 (M21_44 7190235) (b:=Z21_17) (h:=?_)
    refine pz 24 59 (M21_44 23967451) (b:=Z21_17) (h:=?_)
    refine pz 25 60 (M21_44 57521883) (b:=Z21_17) (h:=?_)
    refine pz 27 62 (M21_44 191739611) (b:=Z21_17) (h:=?_)
    refine pz 28 63 (M21_44 460175067) (b:=Z21_17) (h:=?_)
    refine pz 30 65 (M21_44 1533916891) (b:=Z21_17) (h:=?_)
    refine pz 31 66 (M21_44 3681400539) (b:=Z21_17) (h:=?_)
    refine pz 33 68 (M21_44 12271335131) (b:=Z21_17) (h:=?_)
    refine pz 34 69 (M21_44 29451204315) (b:=Z21_17) (h:=?_)
    refine pz 37 72 (M21_44 166890157787) (b:=Z21_17) (h:=?_)
    refine pz 38 73 (M21_44 441768064731) (b:=Z21_17) (h:=?_)
    refine tz 2 37 (M21_44 441768064735) (r:=Z21_20) (b:=Z21_17) (h:=?_)
    refine tz 5 40 (M21_44 441768064767) (r:=Z21_20) (b:=Z21_17) (h:=?_)
    refine tz 8 43 (M21_44 441768065023) (r:=Z21_20) (b:=Z21_17) (h:=?_)
    refine tz 11 46 (M21_44 441768067071) (r:=Z21_20) (b:=Z21_17) (h:=?_)
    refine tz 14 49 (M21_44 441768083455) (r:=Z21_20) (b:=Z21_17) (h:=?_)
    refine tz 17 52 (M21_44 441768214527) (r:=Z21_20) (b:=Z21_17) (h:=?_)
    refine tz 20 55 (M21_44 441769263103) (r:=Z21_20) (b:=Z21_17) (h:=?_)
    refine tz 23 58 (M21_44 441777651711) (r:=Z21_20) (b:=Z21_17) (h:=?_)
    refine tz 26 61 (M21_44 441844760575) (r:=Z21_20) (b:=Z21_17) (h:=?_)
    refine tz 29 64 (M21_44 442381631487) (r:=Z21_20) (b:=Z21_17) (h:=?_)
    refine tz 32 67 (M21_44 446676598783) (r:=Z21_20) (b:=Z21_17) (h:=?_)
    refine tz 35 70 (M21_44 481036337151) (r:=Z21_20) (b:=Z21_17) (h:=?_)
    refine pz 36 71 (M21_44 549755813887) (b:=Z21_17) (h:=?_)
    refine tz 39 74 (M21_44 1099511627775) (r:=Z21_20) (b:=Z21_17) (h:=?_)
    refine pz 40 75 (M21_44 2199023255551) (b:=Z21_17) (h:=?_)
    refine pz 41 76 (M21_44 4398046511103) (b:=Z21_17) (h:=?_)
    refine one_ (i:=42) (N:=some 10) (M21_44 8796093022207) rfl rfl (one_of HT_.out (by kernel_rfl)) (by decide) (fun K hK=>?_)
    refine box_step ?hg (N:=10) ?hd (cs:=#[.int .i64 0,.int .i64 0,.int .i64 0,.int .i64 0,.int .i64 0,.int .i64 0,.int .i64 0,.int .i64 0,.int .i64 0,.int .i64 0,.int .i64 0,.bool false,.bool false]) (t:=25) ?hr ?_;(case hd=>rfl);(case hg=>rfl);(case hr=>first|(go_simp;done)|(go_simp;rfl))
    intro gb687 hg w55 hbox hb
    have HS0_:=(hb.cell (World.block_lt_of_cell? _ _ (hHeld.1))).trans (hHeld.1)
    have HS1_:=(hb.cell (World.block_lt_of_cell? _ _ (hHeld.2.1))).trans (hHeld.2.1)
    have HS2_:=(hb.cell (World.block_lt_of_cell? _ _ (hHeld.2.2.1))).trans (hHeld.2.2.1)
    have HS3_:=(hb.cell (World.block_lt_of_cell? _ _ (hHeld.2.2.2.1))).trans (hHeld.2.2.2.1)
    have HS4_:=(hb.cell (World.block_lt_of_cell? _ _ (hHeld.2.2.2.2.1))).trans (hHeld.2.2.2.2.1)
    have HS5_:=(hb.cell (World.block_lt_of_cell? _ _ (hHeld.2.2.2.2.2.1))).trans (hHeld.2.2.2.2.2.1)
    have HS6_:=(hb.cell (World.block_lt_of_cell? _ _ (hHeld.2.2.2.2.2.2.1))).trans (hHeld.2.2.2.2.2.2.1)
    have HS7_:=(hb.cell (World.block_lt_of_cell? _ _ (hHeld.2.2.2.2.2.2.2.1))).trans (hHeld.2.2.2.2.2.2.2.1)
    have HS8_:=(hb.cell (World.block_lt_of_cell? _ _ (hHeld.2.2.2.2.2.2.2.2.1))).trans (hHeld.2.2.2.2.2.2.2.2.1)
    have HS9_:=(hb.cell (World.block_lt_of_cell? _ _ (hHeld.2.2.2.2.2.2.2.2.2.1))).trans (hHeld.2.2.2.2.2.2.2.2.2.1)
    have HS10_:=(hb.cell (World.block_lt_of_cell? _ _ (hHeld.2.2.2.2.2.2.2.2.2.2.1))).trans (hHeld.2.2.2.2.2.2.2.2.2.2.1)
    have HS11_:=(hb.cell (World.block_lt_of_cell? _ _ (hHeld.2.2.2.2.2.2.2.2.2.2.2.1))).trans (hHeld.2.2.2.2.2.2.2.2.2.2.2.1)
    have HS12_:=(hb.cell (World.block_lt_of_cell? _ _ (hHeld.2.2.2.2.2.2.2.2.2.2.2.2))).trans (hHeld.2.2.2.2.2.2.2.2.2.2.2.2)
    have n0_:=Aside0.mk Z21_15
    have n1_:=Aside0.mk Z21_6
    have n2_:=Aside0.mk Z21_12
    have n3_:=Aside0.mk (hbox)
    have n4_:=Aside0.mk Z21_8
    have n5_:=Aside0.mk Z21_8
    have n6_:=Aside0.mk Z21_4
    have n7_:=Aside0.mk Z21_5
    clear HO_7
    clear BK664
    clear HB
    have HO_7:=n0_
    have BK664:=n1_
    have HB:=n2_
    have BK687:=n3_
    have GW687:=n4_
    have GE687:=n5_
    have NB664_687:=n6_
    have NB687_664:=n7_
    clear n0_ n1_ n2_ n3_ n4_ n5_ n6_ n7_
    clear hb hbox hg
    refine hK.out _ _ ?_ (fun hHeld=>?_)
    ·exact ⟨HS0_,HS1_,HS2_,HS3_,HS4_,HS5_,HS6_,HS7_,HS8_,HS9_,HS10_,HS11_,HS12_⟩
    clear hK K
    refine norm_ (a':=?_) ?_ ?_
    rotate_left
    ·show Act.put _ (some 10) _=_
     simp only [Act.put,List.setIfInBounds_toArray,List.set_cons_zero,List.set_cons_succ,i64_w,i32_w]
     rfl
    refine last_ (i:=43) (N:=none) (M21_44 17592186044415) rfl rfl (one_of HT_.out (by kernel_rfl)) (by decide) (fun K hK=>?_)
    obtain ⟨⟨hs56,hs57,hs58,hs59,hs60,hs61,hs62,hs63,hs64,hs65,hs66,hs67,hs68⟩,hfs56,hfs57,hfs58,hfs59,hfs60,hfs61,hfs62,hfs63,hfs64,hfs65,hfs66,hfs67,hfs68⟩:=C_z0 BK687.out
    have hns56_0:=NB664_687.out
    have hms56_0:=NB687_664.out
    refine skip_ (w1:=?_) (by rfl) rfl ?_ ?_
    rotate_left
    ·go_simp
     rfl
    refine hK.out _ _ ?_
    clear hK K
    refine done_ (done_of HT_.out (by kernel_rfl)) ?_
    have hnb69:=NB687_664.out
    have hnc69:=NB664_687.out
    obtain ⟨⟨hcz70_0,hcz70_1,hcz70_2,hcz70_3,hcz70_4,hcz70_5,hcz70_6,hcz70_7,hcz70_8,hcz70_9,hcz70_10,hcz70_11,hcz70_12⟩,hfz70_0,hfz70_1,hfz70_2,hfz70_3,hfz70_4,hfz70_5,hfz70_6,hfz70_7,hfz70_8,hfz70_9,hfz70_10,hfz70_11,hfz70_12⟩:=C_z0 BK687.out
    try go_wp2_with (first|((with_reducible refine gate_callee (f:=19) rfl ?_);refine goesL_ (some 78) rfl rfl Try.func19 (by kernel_rfl) rfl #[.agg #[.int .i64 (rd t665 0),.int .i64 (rd t665 1),.int .i64 (rd t665 2),.int .i64 (rd t665 3),.int .i64 (rd t665 4),.int .i64 (rd t665 5),.int .i64 (rd t665 6),.int .i64 (rd t665 7),.int .i64 (rd t665 8),.int .i64 (rd t665 9),.int .i64 (rd t665 10),.bool ((rd t665 11)==1),.bool ((rd t665 12)==1)]] rfl Z21_14 ?_;(with_reducible refine (spec_PieceOk.calls kj3 (rd t665 0) (rd t665 1) (rd t665 2) (rd t665 3) (rd t665 4) (rd t665 5) (rd t665 6) (rd t665 7) (rd t665 8) (rd t665 9) (rd t665 10) ((rd t665 11)==1) ((rd t665 12)==1) false _ A30.out).mono ?_);rintro e w71 ⟨rfl,hb⟩;refine ⟨_,rfl,?_⟩;have n0_:=Aside0.mk Z21_2;have n1_:=Aside0.mk Z21_1;have n2_:=Aside0.mk Z21_3;have n3_:=Aside0.mk Z21_9;clear HO_7;clear BK664;clear BK687;clear HB;have HO_7:=n0_;have BK664:=n1_;have BK687:=n2_;have HB:=n3_;clear n0_ n1_ n2_ n3_;(try clear hb);(try clear hb2);(try clear hk);(try clear hi);obtain ⟨⟨hcz72_0,hcz72_1,hcz72_2,hcz72_3,hcz72_4,hcz72_5,hcz72_6,hcz72_7,hcz72_8,hcz72_9,hcz72_10,hcz72_11,hcz72_12⟩,hfz72_0,hfz72_1,hfz72_2,hfz72_3,hfz72_4,hfz72_5,hfz72_6,hfz72_7,hfz72_8,hfz72_9,hfz72_10,hfz72_11,hfz72_12⟩:=C_z0 BK664.out))
    refine bodyPost_ret (results_ctt rfl _ _ gb664 25 #[.int .i64 0,.int .i64 0,.int .i64 0,.int .i64 0,.int .i64 0,.int .i64 0,.int .i64 0,.int .i64 0,.int .i64 0,.int .i64 0,.int .i64 0,.bool false,.bool false] (0,0) _ rfl Z21_7 Try.underlying25 rfl (by kernel_rfl)) rfl ?_
    exact ⟨Z21_19,Z21_10⟩
   subst c31
   rw [if_pos rfl] at H
   simp only [Option.some.injEq,Prod.mk.injEq] at H
   obtain ⟨rfl,rfl,rfl,rfl,rfl,rfl,rfl,rfl,rfl,rfl,rfl,rfl,rfl,rfl,rfl⟩:=H
   try go_wp2
   have n0_:=Aside0.mk (Kd.R_drew HO_7.out)
   have n1_:=Aside0.mk (blk_drew BK664.out)
   have n2_:=Aside0.mk (below_drew1 HB.out)
   clear HO_7
   clear BK664
   clear HB
   have HO_7:=n0_
   have BK664:=n1_
   have HB:=n2_
   clear n0_ n1_ n2_
   obtain ⟨Ao33,co33,eo33⟩:=Kd.R_slice HO_7.out
   (first|subst eo33|(injection eo33 with f1_ f2_ f3_;have f4_:=f1_.symm;have f5_:=f3_.symm;clear f1_ f2_ f3_;subst f4_;subst f5_))
   have p674:0≤(0:Int):=(by omega)
   have q674:0 < (t665.length:Int):=of_decide_eq_true Z21_21
   obtain ⟨ad674,e674,hx674_0⟩:=Kd.at_int (Kd.R_reads' HO_7.out).2.2 0 p674 q674
   cases e674
   have qi674:(0 < t665.length)=True:=eq_true (by omega)
   (try rw [show ((0:Int)).toNat=0 from rfl] at hx674_0)
   (try rw [Addr.add_zero'] at hx674_0)
   replace p674:=eq_true p674
   replace q674:=eq_true q674
   have p675:0≤(1:Int):=(by omega)
   have q675:1 < (t665.length:Int):=of_decide_eq_true Z21_21
   obtain ⟨ad675,e675,hx675_0⟩:=Kd.at_int (Kd.R_reads' HO_7.out).2.2 1 p675 q675
   obtain rfl:ad674=ad675:=(by injection e675)
   (try simp only [show (1:Int).toNat=1 from rfl,Nat.reduceMul,Nat.reduceEqDiff,Go.Addr.add,↓reduceIte] at hx675_0)
   have qi675:(1 < t665.length)=True:=eq_true (by omega)
   (try rw [show ((1:Int)).toNat=1 from rfl] at hx675_0)
   replace p675:=eq_true p675
   replace q675:=eq_true q675
   have p676:0≤(2:Int):=(by omega)
   have q676:2 < (t665.length:Int):=of_decide_eq_true Z21_21
   obtain ⟨ad676,e676,hx676_0⟩:=Kd.at_int (Kd.R_reads' HO_7.out).2.2 2 p676 q676
   obtain rfl:ad674=ad676:=(by injection e676)
   (try simp only [show (2:Int).toNat=2 from rfl,Nat.reduceMul,Nat.reduceEqDiff,Go.Addr.add,↓reduceIte] at hx676_0)
   have qi676:(2 < t665.length)=True:=eq_true (by omega)
   (try rw [show ((2:Int)).toNat=2 from rfl] at hx676_0)
   replace p676:=eq_true p676
   replace q676:=eq_true q676
   have p677:0≤(3:Int):=(by omega)
   have q677:3 < (t665.length:Int):=of_decide_eq_true Z21_21
   obtain ⟨ad677,e677,hx677_0⟩:=Kd.at_int (Kd.R_reads' HO_7.out).2.2 3 p677 q677
   obtain rfl:ad674=ad677:=(by injection e677)
   (try simp only [show (3:Int).toNat=3 from rfl,Nat.reduceMul,Nat.reduceEqDiff,Go.Addr.add,↓reduceIte] at hx677_0)
   have qi677:(3 < t665.length)=True:=eq_true (by omega)
   (try rw [show ((3:Int)).toNat=3 from rfl] at hx677_0)
   replace p677:=eq_true p677
   replace q677:=eq_true q677
   have p678:0≤(4:Int):=(by omega)
   have q678:4 < (t665.length:Int):=of_decide_eq_true Z21_21
   obtain ⟨ad678,e678,hx678_0⟩:=Kd.at_int (Kd.R_reads' HO_7.out).2.2 4 p678 q678
   obtain rfl:ad674=ad678:=(by injection e678)
   (try simp only [show (4:Int).toNat=4 from rfl,Nat.reduceMul,Nat.reduceEqDiff,Go.Addr.add,↓reduceIte] at hx678_0)
   have qi678:(4 < t665.length)=True:=eq_true (by omega)
   (try rw [show ((4:Int)).toNat=4 from rfl] at hx678_0)
   replace p678:=eq_true p678
   replace q678:=eq_true q678
   have p679:0≤(5:Int):=(by omega)
   have q679:5 < (t665.length:Int):=of_decide_eq_true Z21_21
   obtain ⟨ad679,e679,hx679_0⟩:=Kd.at_int (Kd.R_reads' HO_7.out).2.2 5 p679 q679
   obtain rfl:ad674=ad679:=(by injection e679)
   (try simp only [show (5:Int).toNat=5 from rfl,Nat.reduceMul,Nat.reduceEqDiff,Go.Addr.add,↓reduceIte] at hx679_0)
   have qi679:(5 < t665.length)=True:=eq_true (by omega)
   (try rw [show ((5:Int)).toNat=5 from rfl] at hx679_0)
   replace p679:=eq_true p679
   replace q679:=eq_true q679
   have p680:0≤(6:Int):=(by omega)
   have q680:6 < (t665.length:Int):=of_decide_eq_true Z21_21
   obtain ⟨ad680,e680,hx680_0⟩:=Kd.at_int (Kd.R_reads' HO_7.out).2.2 6 p680 q680
   obtain rfl:ad674=ad680:=(by injection e680)
   (try simp only [show (6:Int).toNat=6 from rfl,Nat.reduceMul,Nat.reduceEqDiff,Go.Addr.add,↓reduceIte] at hx680_0)
   have qi680:(6 < t665.length)=True:=eq_true (by omega)
   (try rw [show ((6:Int)).toNat=6 from rfl] at hx680_0)
   replace p680:=eq_true p680
   replace q680:=eq_true q680
   have p681:0≤(7:Int):=(by omega)
   have q681:7 < (t665.length:Int):=of_decide_eq_true Z21_21
   obtain ⟨ad681,e681,hx681_0⟩:=Kd.at_int (Kd.R_reads' HO_7.out).2.2 7 p681 q681
   obtain rfl:ad674=ad681:=(by injection e681)
   (try simp only [show (7:Int).toNat=7 from rfl,Nat.reduceMul,Nat.reduceEqDiff,Go.Addr.add,↓reduceIte] at hx681_0)
   have qi681:(7 < t665.length)=True:=eq_true (by omega)
   (try rw [show ((7:Int)).toNat=7 from rfl] at hx681_0)
   replace p681:=eq_true p681
   replace q681:=eq_true q681
   have p682:0≤(8:Int):=(by omega)
   have q682:8 < (t665.length:Int):=of_decide_eq_true Z21_21
   obtain ⟨ad682,e682,hx682_0⟩:=Kd.at_int (Kd.R_reads' HO_7.out).2.2 8 p682 q682
   obtain rfl:ad674=ad682:=(by injection e682)
   (try simp only [show (8:Int).toNat=8 from rfl,Nat.reduceMul,Nat.reduceEqDiff,Go.Addr.add,↓reduceIte] at hx682_0)
   have qi682:(8 < t665.length)=True:=eq_true (by omega)
   (try rw [show ((8:Int)).toNat=8 from rfl] at hx682_0)
   replace p682:=eq_true p682
   replace q682:=eq_true q682
   have p683:0≤(9:Int):=(by omega)
   have q683:9 < (t665.length:Int):=of_decide_eq_true Z21_21
   obtain ⟨ad683,e683,hx683_0⟩:=Kd.at_int (Kd.R_reads' HO_7.out).2.2 9 p683 q683
   obtain rfl:ad674=ad683:=(by injection e683)
   (try simp only [show (9:Int).toNat=9 from rfl,Nat.reduceMul,Nat.reduceEqDiff,Go.Addr.add,↓reduceIte] at hx683_0)
   have qi683:(9 < t665.length)=True:=eq_true (by omega)
   (try rw [show ((9:Int)).toNat=9 from rfl] at hx683_0)
   replace p683:=eq_true p683
   replace q683:=eq_true q683
   have p684:0≤(10:Int):=(by omega)
   have q684:10 < (t665.length:Int):=of_decide_eq_true Z21_21
   obtain ⟨ad684,e684,hx684_0⟩:=Kd.at_int (Kd.R_reads' HO_7.out).2.2 10 p684 q684
   obtain rfl:ad674=ad684:=(by injection e684)
   (try simp only [show (10:Int).toNat=10 from rfl,Nat.reduceMul,Nat.reduceEqDiff,Go.Addr.add,↓reduceIte] at hx684_0)
   have qi684:(10 < t665.length)=True:=eq_true (by omega)
   (try rw [show ((10:Int)).toNat=10 from rfl] at hx684_0)
   replace p684:=eq_true p684
   replace q684:=eq_true q684
   have p685:0≤(11:Int):=(by omega)
   have q685:11 < (t665.length:Int):=of_decide_eq_true Z21_21
   obtain ⟨ad685,e685,hx685_0⟩:=Kd.at_int (Kd.R_reads' HO_7.out).2.2 11 p685 q685
   obtain rfl:ad674=ad685:=(by injection e685)
   (try simp only [show (11:Int).toNat=11 from rfl,Nat.reduceMul,Nat.reduceEqDiff,Go.Addr.add,↓reduceIte] at hx685_0)
   have qi685:(11 < t665.length)=True:=eq_true (by omega)
   (try rw [show ((11:Int)).toNat=11 from rfl] at hx685_0)
   replace p685:=eq_true p685
   replace q685:=eq_true q685
   have p686:0≤(12:Int):=(by omega)
   have q686:12 < (t665.length:Int):=of_decide_eq_true Z21_21
   obtain ⟨ad686,e686,hx686_0⟩:=Kd.at_int (Kd.R_reads' HO_7.out).2.2 12 p686 q686
   obtain rfl:ad674=ad686:=(by injection e686)
   (try simp only [show (12:Int).toNat=12 from rfl,Nat.reduceMul,Nat.reduceEqDiff,Go.Addr.add,↓reduceIte] at hx686_0)
   have qi686:(12 < t665.length)=True:=eq_true (by omega)
   (try rw [show ((12:Int)).toNat=12 from rfl] at hx686_0)
   replace p686:=eq_true p686
   replace q686:=eq_true q686
   refine start_ (n:=44) (S:=fun w'=>w'.cell? ad674=some (.int .i64 (rd t665 0))∧w'.cell? ⟨ad674.block,ad674.off+1,none⟩=some (.int .i64 (rd t665 1))∧w'.cell? ⟨ad674.block,ad674.off+2,none⟩=some (.int .i64 (rd t665 2))∧w'.cell? ⟨ad674.block,ad674.off+3,none⟩=some (.int .i64 (rd t665 3))∧w'.cell? ⟨ad674.block,ad674.off+4,none⟩=some (.int .i64 (rd t665 4))∧w'.cell? ⟨ad674.block,ad674.off+5,none⟩=some (.int .i64 (rd t665 5))∧w'.cell? ⟨ad674.block,ad674.off+6,none⟩=some (.int .i64 (rd t665 6))∧w'.cell? ⟨ad674.block,ad674.off+7,none⟩=some (.int .i64 (rd t665 7))∧w'.cell? ⟨ad674.block,ad674.off+8,none⟩=some (.int .i64 (rd t665 8))∧w'.cell? ⟨ad674.block,ad674.off+9,none⟩=some (.int .i64 (rd t665 9))∧w'.cell? ⟨ad674.block,ad674.off+10,none⟩=some (.int .i64 (rd t665 10))∧w'.cell? ⟨ad674.block,ad674.off+11,none⟩=some (.int .i64 (rd t665 11))∧w'.cell? ⟨ad674.block,ad674.off+12,none⟩=some (.int .i64 (rd t665 12))) (ds:=[43]) #[false,false,false,false,false,false,false,false,false,false,false,false,false,false,false,false,false,false,false,false,false,false,false,false,false,false,false,false,false,false,false,false,false,false,false,false,false,false,false,false,false,false,false,false] (by kernel_rfl) rfl rfl ⟨hx674_0,hx675_0,hx676_0,hx677_0,hx678_0,hx679_0,hx680_0,hx681_0,hx682_0,hx683_0,hx684_0,hx685_0,hx686_0⟩ (fun hHeld=>?_);refine with_tabW spec_GetPiece.tab4 spec_GetPiece.bits4 (fun HT_ HW_=>?_)
   generalize wc.drew=w32 at HO_7 BK664 HB hx674_0 hx675_0 hx676_0 hx677_0 hx678_0 hx679_0 hx680_0 hx681_0 hx682_0 hx683_0 hx684_0 hx685_0 hx686_0 hHeld ⊢
   refine pz 0 35 (M21_44 1) (b:=Z21_17) (h:=?_)
   refine pz 1 36 (M21_44 3) (b:=Z21_17) (h:=?_)
   refine pz 3 38 (M21_44 11) (b:=Z21_17) (h:=?_)
   refine pz 4 39 (M21_44 27) (b:=Z21_17) (h:=?_)
   refine pz 6 41 (M21_44 91) (b:=Z21_17) (h:=?_)
   refine pz 7 42 (M21_44 219) (b:=Z21_17) (h:=?_)
   refine pz 9 44 (M21_44 731) (b:=Z21_17) (h:=?_)
   refine pz 10 45 (M21_44 1755) (b:=Z21_17) (h:=?_)
   refine pz 12 47 (M21_44 5851) (b:=Z21_17) (h:=?_)
   refine pz 13 48 (M21_44 14043) (b:=Z21_17) (h:=?_)
   refine pz 15 50 (M21_44 46811) (b:=Z21_17) (h:=?_)
   refine pz 16 51 (M21_44 112347) (b:=Z21_17) (h:=?_)
   refine pz 18 53 (M21_44 374491) (b:=Z21_17) (h:=?_)
   refine pz 19 54 (M21_44 898779) (b:=Z21_17) (h:=?_)
   refine pz 21 56 (M21_44 2995931) (b:=Z21_17) (h:=?_)
   refine pz 22 57 (M21_44 7190235) (b:=Z21_17) (h:=?_)
   refine pz 24 59 (M21_44 23967451) (b:=Z21_17) (h:=?_)
   refine pz 25 60 (M21_44 57521883) (b:=Z21_17) (h:=?_)
   refine pz 27 62 (M21_44 191739611) (b:=Z21_17) (h:=?_)
   refine pz 28 63 (M21_44 460175067) (b:=Z21_17) (h:=?_)
   refine pz 30 65 (M21_44 1533916891) (b:=Z21_17) (h:=?_)
   refine pz 31 66 (M21_44 3681400539) (b:=Z21_17) (h:=?_)
   refine pz 33 68 (M21_44 12271335131) (b:=Z21_17) (h:=?_)
   refine pz 34 69 (M21_44 29451204315) (b:=Z21_17) (h:=?_)
   refine pz 37 72 (M21_44 166890157787) (b:=Z21_17) (h:=?_)
   refine pz 38 73 (M21_44 441768064731) (b:=Z21_17) (h:=?_)
   refine tz 2 37 (M21_44 441768064735) (r:=Z21_20) (b:=Z21_17) (h:=?_)
   refine tz 5 40 (M21_44 441768064767) (r:=Z21_20) (b:=Z21_17) (h:=?_)
   refine tz 8 43 (M21_44 441768065023) (r:=Z21_20) (b:=Z21_17) (h:=?_)
   refine tz 11 46 (M21_44 441768067071) (r:=Z21_20) (b:=Z21_17) (h:=?_)
   refine tz 14 49 (M21_44 441768083455) (r:=Z21_20) (b:=Z21_17) (h:=?_)
   refine tz 17 52 (M21_44 441768214527) (r:=Z21_20) (b:=Z21_17) (h:=?_)
   refine tz 20 55 (M21_44 441769263103) (r:=Z21_20) (b:=Z21_17) (h:=?_)
   refine tz 23 58 (M21_44 441777651711) (r:=Z21_20) (b:=Z21_17) (h:=?_)
   refine tz 26 61 (M21_44 441844760575) (r:=Z21_20) (b:=Z21_17) (h:=?_)
   refine tz 29 64 (M21_44 442381631487) (r:=Z21_20) (b:=Z21_17) (h:=?_)
   refine tz 32 67 (M21_44 446676598783) (r:=Z21_20) (b:=Z21_17) (h:=?_)
   refine tz 35 70 (M21_44 481036337151) (r:=Z21_20) (b:=Z21_17) (h:=?_)
   refine pz 36 71 (M21_44 549755813887) (b:=Z21_17) (h:=?_)
   refine tz 39 74 (M21_44 1099511627775) (r:=Z21_20) (b:=Z21_17) (h:=?_)
   refine pz 40 75 (M21_44 2199023255551) (b:=Z21_17) (h:=?_)
   refine pz 41 76 (M21_44 4398046511103) (b:=Z21_17) (h:=?_)
   refine one_ (i:=42) (N:=some 10) (M21_44 8796093022207) rfl rfl (one_of HT_.out (by kernel_rfl)) (by decide) (fun K hK=>?_)
   refine box_step ?hg (N:=10) ?hd (cs:=#[.int .i64 0,.int .i64 0,.int .i64 0,.int .i64 0,.int .i64 0,.int .i64 0,.int .i64 0,.int .i64 0,.int .i64 0,.int .i64 0,.int .i64 0,.bool false,.bool false]) (t:=25) ?hr ?_;(case hd=>rfl);(case hg=>rfl);(case hr=>first|(go_simp;done)|(go_simp;rfl))
   intro gb687 hg w34 hbox hb
   have HS0_:=(hb.cell (World.block_lt_of_cell? _ _ (hHeld.1))).trans (hHeld.1)
   have HS1_:=(hb.cell (World.block_lt_of_cell? _ _ (hHeld.2.1))).trans (hHeld.2.1)
   have HS2_:=(hb.cell (World.block_lt_of_cell? _ _ (hHeld.2.2.1))).trans (hHeld.2.2.1)
   have HS3_:=(hb.cell (World.block_lt_of_cell? _ _ (hHeld.2.2.2.1))).trans (hHeld.2.2.2.1)
   have HS4_:=(hb.cell (World.block_lt_of_cell? _ _ (hHeld.2.2.2.2.1))).trans (hHeld.2.2.2.2.1)
   have HS5_:=(hb.cell (World.block_lt_of_cell? _ _ (hHeld.2.2.2.2.2.1))).trans (hHeld.2.2.2.2.2.1)
   have HS6_:=(hb.cell (World.block_lt_of_cell? _ _ (hHeld.2.2.2.2.2.2.1))).trans (hHeld.2.2.2.2.2.2.1)
   have HS7_:=(hb.cell (World.block_lt_of_cell? _ _ (hHeld.2.2.2.2.2.2.2.1))).trans (hHeld.2.2.2.2.2.2.2.1)
   have HS8_:=(hb.cell (World.block_lt_of_cell? _ _ (hHeld.2.2.2.2.2.2.2.2.1))).trans (hHeld.2.2.2.2.2.2.2.2.1)
   have HS9_:=(hb.cell (World.block_lt_of_cell? _ _ (hHeld.2.2.2.2.2.2.2.2.2.1))).trans (hHeld.2.2.2.2.2.2.2.2.2.1)
   have HS10_:=(hb.cell (World.block_lt_of_cell? _ _ (hHeld.2.2.2.2.2.2.2.2.2.2.1))).trans (hHeld.2.2.2.2.2.2.2.2.2.2.1)
   have HS11_:=(hb.cell (World.block_lt_of_cell? _ _ (hHeld.2.2.2.2.2.2.2.2.2.2.2.1))).trans (hHeld.2.2.2.2.2.2.2.2.2.2.2.1)
   have HS12_:=(hb.cell (World.block_lt_of_cell? _ _ (hHeld.2.2.2.2.2.2.2.2.2.2.2.2))).trans (hHeld.2.2.2.2.2.2.2.2.2.2.2.2)
   have n0_:=Aside0.mk Z21_15
   have n1_:=Aside0.mk Z21_6
   have n2_:=Aside0.mk Z21_12
   have n3_:=Aside0.mk (hbox)
   have n4_:=Aside0.mk Z21_8
   have n5_:=Aside0.mk Z21_8
   have n6_:=Aside0.mk Z21_4
   have n7_:=Aside0.mk Z21_5
   clear HO_7
   clear BK664
   clear HB
   have HO_7:=n0_
   have BK664:=n1_
   have HB:=n2_
   have BK687:=n3_
   have GW687:=n4_
   have GE687:=n5_
   have NB664_687:=n6_
   have NB687_664:=n7_
   clear n0_ n1_ n2_ n3_ n4_ n5_ n6_ n7_
   clear hb hbox hg
   refine hK.out _ _ ?_ (fun hHeld=>?_)
   ·exact ⟨HS0_,HS1_,HS2_,HS3_,HS4_,HS5_,HS6_,HS7_,HS8_,HS9_,HS10_,HS11_,HS12_⟩
   clear hK K
   refine norm_ (a':=?_) ?_ ?_
   rotate_left
   ·show Act.put _ (some 10) _=_
    simp only [Act.put,List.setIfInBounds_toArray,List.set_cons_zero,List.set_cons_succ,i64_w,i32_w]
    rfl
   refine last_ (i:=43) (N:=none) (M21_44 17592186044415) rfl rfl (one_of HT_.out (by kernel_rfl)) (by decide) (fun K hK=>?_)
   obtain ⟨⟨hs35,hs36,hs37,hs38,hs39,hs40,hs41,hs42,hs43,hs44,hs45,hs46,hs47⟩,hfs35,hfs36,hfs37,hfs38,hfs39,hfs40,hfs41,hfs42,hfs43,hfs44,hfs45,hfs46,hfs47⟩:=C_z0 BK687.out
   have hns35_0:=NB664_687.out
   have hms35_0:=NB687_664.out
   refine skip_ (w1:=?_) (by rfl) rfl ?_ ?_
   rotate_left
   ·go_simp
    rfl
   refine hK.out _ _ ?_
   clear hK K
   refine done_ (done_of HT_.out (by kernel_rfl)) ?_
   have hnb48:=NB687_664.out
   have hnc48:=NB664_687.out
   obtain ⟨⟨hcz49_0,hcz49_1,hcz49_2,hcz49_3,hcz49_4,hcz49_5,hcz49_6,hcz49_7,hcz49_8,hcz49_9,hcz49_10,hcz49_11,hcz49_12⟩,hfz49_0,hfz49_1,hfz49_2,hfz49_3,hfz49_4,hfz49_5,hfz49_6,hfz49_7,hfz49_8,hfz49_9,hfz49_10,hfz49_11,hfz49_12⟩:=C_z0 BK687.out
   try go_wp2_with (first|((with_reducible refine gate_callee (f:=19) rfl ?_);refine goesL_ (some 78) rfl rfl Try.func19 (by kernel_rfl) rfl #[.agg #[.int .i64 (rd t665 0),.int .i64 (rd t665 1),.int .i64 (rd t665 2),.int .i64 (rd t665 3),.int .i64 (rd t665 4),.int .i64 (rd t665 5),.int .i64 (rd t665 6),.int .i64 (rd t665 7),.int .i64 (rd t665 8),.int .i64 (rd t665 9),.int .i64 (rd t665 10),.bool ((rd t665 11)==1),.bool ((rd t665 12)==1)]] rfl Z21_14 ?_;(with_reducible refine (spec_PieceOk.calls kj3 (rd t665 0) (rd t665 1) (rd t665 2) (rd t665 3) (rd t665 4) (rd t665 5) (rd t665 6) (rd t665 7) (rd t665 8) (rd t665 9) (rd t665 10) ((rd t665 11)==1) ((rd t665 12)==1) true _ A30.out).mono ?_);rintro e w50 ⟨rfl,hb⟩;refine ⟨_,rfl,?_⟩;have n0_:=Aside0.mk Z21_2;have n1_:=Aside0.mk Z21_1;have n2_:=Aside0.mk Z21_3;have n3_:=Aside0.mk Z21_9;clear HO_7;clear BK664;clear BK687;clear HB;have HO_7:=n0_;have BK664:=n1_;have BK687:=n2_;have HB:=n3_;clear n0_ n1_ n2_ n3_;(try clear hb);(try clear hb2);(try clear hk);(try clear hi);obtain ⟨⟨hcz51_0,hcz51_1,hcz51_2,hcz51_3,hcz51_4,hcz51_5,hcz51_6,hcz51_7,hcz51_8,hcz51_9,hcz51_10,hcz51_11,hcz51_12⟩,hfz51_0,hfz51_1,hfz51_2,hfz51_3,hfz51_4,hfz51_5,hfz51_6,hfz51_7,hfz51_8,hfz51_9,hfz51_10,hfz51_11,hfz51_12⟩:=C_z0 BK687.out;obtain ⟨⟨hcz52_0,hcz52_1,hcz52_2,hcz52_3,hcz52_4,hcz52_5,hcz52_6,hcz52_7,hcz52_8,hcz52_9,hcz52_10,hcz52_11,hcz52_12⟩,hfz52_0,hfz52_1,hfz52_2,hfz52_3,hfz52_4,hfz52_5,hfz52_6,hfz52_7,hfz52_8,hfz52_9,hfz52_10,hfz52_11,hfz52_12⟩:=C_z0 BK664.out))
   refine bodyPost_ret (results_ctt rfl _ _ gb664 25 #[.int .i64 (rd t665 0),.int .i64 (rd t665 1),.int .i64 (rd t665 2),.int .i64 (rd t665 3),.int .i64 (rd t665 4),.int .i64 (rd t665 5),.int .i64 (rd t665 6),.int .i64 (rd t665 7),.int .i64 (rd t665 8),.int .i64 (rd t665 9),.int .i64 (rd t665 10),.bool ((rd t665 11)==1),.bool ((rd t665 12)==1)] (0,0) _ rfl Z21_7 Try.underlying25 rfl (by kernel_rfl)) rfl ?_
   exact ⟨Z21_19,Z21_10⟩
end Go.Proofs.Ytfkidiagmekleaa.QAll
