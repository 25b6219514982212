import Derived.Test.YtfkidiagmekleaaNVZ
import Derived.Test.YtfkidiagmekleaaNHOkI
import Derived.Test.YtfkidiagmekleaaNQAllx0
import Derived.Test.YtfkidiagmekleaaNRIPp
import Derived.Test.YtfkidiagmekleaaNRPn
namespace Go.Proofs.Ytfkidiagmekleaa.QAll
open Go.RowKit Go.Proofs.YtfkidiagmekleaaW.PrintWords Go.Proofs.YtfkidiagmekleaaW.PrintLast Go.Proofs.YtfkidiagmekleaaW.PrintMore
attribute [local go_sem] max2_int min2_int max_two min_two max_three min_three max_four min_four
set_option linter.unusedVariables false
set_option linter.unusedSimpArgs false
def M41_8 (k:Nat):Array Bool:=((List.range 8).map fun j=>k.testBit j).toArray
def M41_12 (k:Nat):Array Bool:=((List.range 12).map fun j=>k.testBit j).toArray
theorem C41_3 {W:World} {g:Nat} {T:TypeId} {v0 v1 v2:Value} (h:W.heap[g]?=some (.cells #[v0,v1,v2] T (0,0))):(W.cell? ⟨g,0,none⟩=some v0∧W.cell? ⟨g,1,none⟩=some v1∧W.cell? ⟨g,2,none⟩=some v2)∧W.frozen? ⟨g,0,none⟩=false∧W.frozen? ⟨g,1,none⟩=false∧W.frozen? ⟨g,2,none⟩=false:=⟨⟨(blk_cell h 0).trans rfl,(blk_cell h 1).trans rfl,(blk_cell h 2).trans rfl⟩,blk_frozen h 0,blk_frozen h 1,blk_frozen h 2⟩
theorem E41_3 {W:World} {g:Nat} {T:TypeId} {v0 v1 v2 o0 o1 o2:Value} (h:W.heap[g]?=some (.cells #[o0,o1,o2] T (0,0))):(((W.setCell ⟨g,0,none⟩ v0).setCell ⟨g,1,none⟩ v1).setCell ⟨g,2,none⟩ v2).heap[g]?=some (.cells #[v0,v1,v2] T (0,0)):=(blk_put (cs:=#[v0,v1,o2]) (blk_put (cs:=#[v0,o1,o2]) (blk_put (cs:=#[o0,o1,o2]) h 0 _ rfl) 1 _ rfl) 2 _ rfl)
theorem Z41_1 {p:Prop} (h:p:=by (with_reducible repeat (first|apply Kd.R_alloc|apply Kd.R_drewN|apply Kd.R_drew));exact (Kd.R_mono (Kd.R_far (p:=⟨gb1144,12,none⟩) (Kd.R_far (p:=⟨gb1144,11,none⟩) (Kd.R_far (p:=⟨gb1144,10,none⟩) (Kd.R_far (p:=⟨gb1144,9,none⟩) (Kd.R_far (p:=⟨gb1144,8,none⟩) (Kd.R_far (p:=⟨gb1144,7,none⟩) (Kd.R_far (p:=⟨gb1144,6,none⟩) (Kd.R_far (p:=⟨gb1144,5,none⟩) (Kd.R_far (p:=⟨gb1144,4,none⟩) (Kd.R_far (p:=⟨gb1144,3,none⟩) (Kd.R_far (p:=⟨gb1144,2,none⟩) (Kd.R_far (p:=⟨gb1144,1,none⟩) (Kd.R_far (p:=⟨gb1144,0,none⟩) (Kd.R_types HO_3.out BK1144.out (by decide)) (fun _ hk=>hk.2) (.int .i64 ((rd_T25 l0_0 x18_1).f0))) (fun _ hk=>hk.2) (.int .i64 ((rd_T25 l0_0 x18_1).f1))) (fun _ hk=>hk.2) (.int .i64 ((rd_T25 l0_0 x18_1).f2))) (fun _ hk=>hk.2) (.int .i64 ((rd_T25 l0_0 x18_1).f3))) (fun _ hk=>hk.2) (.int .i64 ((rd_T25 l0_0 x18_1).f4))) (fun _ hk=>hk.2) (.int .i64 ((rd_T25 l0_0 x18_1).f5))) (fun _ hk=>hk.2) (.int .i64 ((rd_T25 l0_0 x18_1).f6))) (fun _ hk=>hk.2) (.int .i64 ((rd_T25 l0_0 x18_1).f7))) (fun _ hk=>hk.2) (.int .i64 ((rd_T25 l0_0 x18_1).f8))) (fun _ hk=>hk.2) (.int .i64 ((rd_T25 l0_0 x18_1).f9))) (fun _ hk=>hk.2) (.int .i64 ((rd_T25 l0_0 x18_1).f10))) (fun _ hk=>hk.2) (.bool ((rd_T25 l0_0 x18_1).f11))) (fun _ hk=>hk.2) (.bool ((rd_T25 l0_0 x18_1).f12))) (fun _ h_=>h_.1))):p:=h
theorem Z41_24 {p:Prop} (h:p:=by (with_reducible repeat (first|apply Kd.R_alloc|apply Kd.R_drewN|apply Kd.R_drew));exact HO_3.out):p:=h
theorem Z41_13 {p:Prop} (h:p:=by repeat (first|(with_reducible first|exact HB.out|apply below_alloc|apply pw_below_drewN|apply below_drew1|refine below_set ?_ GE1138.out)|exact HB.out)):p:=h
theorem Z41_2 {p:Prop} (h:p:=by exact (Kd.R_lower (Kd.R_new' ho0 (Kd.R_lt Z41_24)) (below_size Z41_13))):p:=h
theorem Z41_3 {p:Prop} (h:p:=by exact (blk_below (g:=gb1158) (o := .cells #[.int .i64 ((rd_T71 l0_1 x34_2).f0),.int .i64 ((rd_T71 l0_1 x34_2).f1),.bool ((rd_T71 l0_1 x34_2).f2)] 71 (0,0)) (by (with_reducible repeat (first|refine blk_drewN ?_ _|refine blk_drew ?_|refine blk_alloc ?_ _));exact BK1158.out) hb)):p:=h
theorem Z41_19 {p:Prop} (h:p:=by (with_reducible repeat (first|refine blk_drewN ?_ _|refine blk_drew ?_|refine blk_alloc ?_ _));exact BK1138.out):p:=h
theorem Z41_4 {p:Prop} (h:p:=by exact (blk_below (g:=gb1138) (o := .cells #[.slice A0_0 l0_0.length c0_0,.slice (some ad1157) l0_1.length c0_1,.int .i64 a0_2,.int .i64 a0_3] 56 (0,0)) Z41_19 hb)):p:=h
theorem Z41_5 {p:Prop} (h:p:=by exact (blk_below (g:=gb1138) (o := .cells #[.slice A0_0 l0_0.length c0_0,.slice A0_1 l0_1.length c0_1,.int .i64 a0_2,.int .i64 a0_3] 56 (0,0)) Z41_19 hb)):p:=h
theorem Z41_6 {p:Prop} (h:p:=by exact ((by rw [hg];exact (below_size Z41_13):w.heap.size≤gb1144))):p:=h
theorem Z41_7 {p:Prop} (h:p:=by exact ((by rw [hg];exact (below_size Z41_13):w.heap.size≤gb1158))):p:=h
theorem Z41_10 {p:Prop} (h:p:=by repeat (first|(with_reducible first|exact HB.out|apply below_alloc|apply pw_below_drewN|apply below_drew1|refine below_set ?_ GE1138.out|refine below_set ?_ GE1158.out)|exact HB.out)):p:=h
theorem Z41_8 {p:Prop} (h:p:=by exact (below_step Z41_10 hb)):p:=h
theorem Z41_9 {p:Prop} (h:p:=by repeat (first|(with_reducible first|exact HB.out|apply below_alloc|apply pw_below_drewN|apply below_drew1|refine below_set ?_ GE1138.out|refine below_set ?_ GE1144.out)|exact HB.out)):p:=h
theorem Z41_11 {p:Prop} (h:p:=by exact ((by rw [hg];exact (below_size (by repeat (first|(with_reducible first|exact HB.out|apply below_alloc|apply pw_below_drewN|apply below_drew1)|exact HB.out))):w.heap.size≤gb1138))):p:=h
theorem Z41_12 {p:Prop} (h:p:=by exact (below_step Z41_13 hb)):p:=h
theorem Z41_14 {p:Prop} (h:p:=by exact (below_step (by repeat (first|(with_reducible first|exact HB.out|apply below_alloc|apply pw_below_drewN|apply below_drew1)|exact HB.out)) hb)):p:=h
theorem Z41_15 {p:Prop} (h:p:=by (try simp only [List.map_toArray,List.map_cons,List.map_nil]);first|done|rfl|(simp only [List.length_drop,List.length_take];rfl)):p:=h
theorem Z41_22 {p:Prop} (h:p:=by (with_reducible repeat (first|apply Kd.R_alloc|apply Kd.R_drewN|apply Kd.R_drew));exact HO1161.out):p:=h
theorem Z41_16 {p:Prop} (h:p:=by exact (Kd.R_elder' Z41_22 (Kd.R_base ho0) hb)):p:=h
theorem Z41_17 {p:Prop} (h:p:=by exact (Kd.R_elder' Z41_24 (Kd.R_base ho0) hb)):p:=h
theorem Z41_18 {p:Prop} (h:p:=by exact (Kd.R_below Z41_24 hb)):p:=h
theorem Z41_20 {p:Prop} (h:p:=by simp only [Act.put,List.setIfInBounds_toArray,List.set_cons_zero,List.set_cons_succ,i64_w,i32_w];rfl):p:=h
theorem Z41_21 {p:Prop} (h:p:=by (with_reducible repeat (first|apply Kd.R_alloc|apply Kd.R_drewN|apply Kd.R_drew));exact HO1153.out):p:=h
theorem Z41_23 {p:Prop} (h:p:=by (with_reducible repeat (first|apply Kd.R_alloc|apply Kd.R_drewN|apply Kd.R_drew));exact HO1164.out):p:=h
theorem Z41_25 {p:Prop} (h:p:=by rintro w' ⟨s0,s1,s2⟩;go_simp;with_reducible rfl):p:=h
theorem Z41_26 {p:Prop} (h:p:=by first|(with_reducible assumption)|assumption):p:=h
theorem Z41_27 {p:Prop} (h:p:=by first|rfl|(simp;done)|(simp [*];done)):p:=h
mutual
def impl_PutState.l0:Nat→List Int→List (S25)→Int→Int→List (S25)→List (S71)→Int→Int→Option (List Int)
 | 0,_,_,_,_,_,_,_,_=>none
 | k+1,x3,x16,x17,x18,x1139000,x1139001,x1139002,x1139003=>if x18 < x17 then (if 0≤x18 then (if x18 < (x16.length:Int) then ((impl_PutPiece.f k x3 ((rd_T25 x16 x18).f0) ((rd_T25 x16 x18).f1) ((rd_T25 x16 x18).f2) ((rd_T25 x16 x18).f3) ((rd_T25 x16 x18).f4) ((rd_T25 x16 x18).f5) ((rd_T25 x16 x18).f6) ((rd_T25 x16 x18).f7) ((rd_T25 x16 x18).f8) ((rd_T25 x16 x18).f9) ((rd_T25 x16 x18).f10) ((rd_T25 x16 x18).f11) ((rd_T25 x16 x18).f12)).bind fun t1145=>(impl_PutState.l0 k t1145 x16 x17 (wrap64 (x18+1)) x1139000 x1139001 x1139002 x1139003)) else (none)) else (none)) else ((impl_PutNum.f x3 (x1139001.length:Int)).bind fun t1148=>(impl_PutState.l1 k t1148 x1139001 (x1139001.length:Int) 0 x1139000 x1139001 x1139002 x1139003))
def impl_PutState.l1:Nat→List Int→List (S71)→Int→Int→List (S25)→List (S71)→Int→Int→Option (List Int)
 | 0,_,_,_,_,_,_,_,_=>none
 | k+1,x3,x32,x33,x34,x1139000,x1139001,x1139002,x1139003=>if x34 < x33 then (if 0≤x34 then (if x34 < (x32.length:Int) then ((impl_PutNum.f x3 ((rd_T71 x32 x34).f0)).bind fun t1159=>((impl_PutNum.f t1159 ((rd_T71 x32 x34).f1)).bind fun t1162=>((impl_bit.f ((rd_T71 x32 x34).f2)).bind fun t1165=>((impl_PutNum.f t1162 t1165).bind fun t1166=>(impl_PutState.l1 k t1166 x32 x33 (wrap64 (x34+1)) x1139000 x1139001 x1139002 x1139003))))) else (none)) else (none)) else ((impl_PutNum.f x3 x1139002).bind fun t1151=>((impl_PutNum.f t1151 x1139003).bind fun t1154=>(some t1154)))
end
def impl_PutState.f (k:Nat) (l0_0:List (S25)) (l0_1:List (S71)) (a0_2:Int) (a0_3:Int):Option (List Int):=(impl_StateOk.f k l0_0 l0_1 a0_2 a0_3).bind fun t1139=>(if t1139=true then ((impl_PutNum.f ([]:List Int) (l0_0.length:Int)).bind fun t1140=>(impl_PutState.l0 k t1140 l0_0 (l0_0.length:Int) 0 l0_0 l0_1 a0_2 a0_3)) else (some ([]:List Int)))
def impl_PutState.T13:Bool×List (List Nat×List Nat):=(true,[([],[]),([],[]),([1],[1]),([0,2],[0,2]),([],[]),([4],[4]),([3,5,3],[3,5]),([],[]),([7],[7]),([8,6],[8]),([6,9,9],[6,9]),([10,10,0,1,2,3,4,5,6,7,8,9,10],[0,10])])
def impl_PutState.B13:List Nat:=[0,0,2,7,0,16,63,0,128,511,1023,2047]
theorem impl_PutState.tab13:rtab .any (opsOf Try.f53 13)=impl_PutState.T13:=by kernel_rfl
theorem impl_PutState.bits13:waitsOk impl_PutState.T13.2 impl_PutState.B13=true:=by kernel_rfl
def impl_PutState.T15:Bool×List (List Nat×List Nat):=(true,[([],[]),([],[]),([1],[1]),([0,2],[0,2]),([],[]),([4],[4]),([3,5,3],[3,5]),([6,6,0,1,2,3,4,5,6],[6])])
def impl_PutState.B15:List Nat:=[0,0,2,7,0,16,63,127]
theorem impl_PutState.tab15:rtab .any (opsOf Try.f53 15)=impl_PutState.T15:=by kernel_rfl
theorem impl_PutState.bits15:waitsOk impl_PutState.T15.2 impl_PutState.B15=true:=by kernel_rfl
set_option maxHeartbeats 8000000 in
set_option maxRecDepth 100000 in
theorem impl_PutState.calls (k:Nat) (A0_0:Option Addr) (c0_0:Nat) (l0_0:List (S25)) (A0_1:Option Addr) (c0_1:Nat) (l0_1:List (S71)) (a0_2:Int) (a0_3:Int) (r:List Int) (w:World) (hr0_0:Kd.C k25 w A0_0 l0_0.length l0_0) (hc0_0:l0_0.length≤c0_0) (hr0_1:Kd.C k71 w A0_1 l0_1.length l0_1) (hc0_1:l0_1.length≤c0_1) (h:impl_PutState.f k l0_0 l0_1 a0_2 a0_3=some r) :
  Calls Try.prog 53 #[.agg #[.slice A0_0 l0_0.length c0_0,.slice A0_1 l0_1.length c0_1,.int .i64 a0_2,.int .i64 a0_3]] w fun e w'=>∃ v0_:Value,e = .returned (v0_)∧Kd.R (Kd.int .u8) 5 w' w.heap.size (fun _=>True) v0_ r∧Below w.heap.size w w':=by
 have hu56:=Try.underlying56
 have hu25:=Try.underlying25
 have hu71:=Try.underlying71
 have HR0_0:=Aside0.mk hr0_0
 have HC0_0:=Aside0.mk hc0_0
 clear hr0_0 hc0_0
 have HR0_1:=Aside0.mk hr0_1
 have HC0_1:=Aside0.mk hc0_1
 clear hr0_1 hc0_1
 have HB:=Aside0.mk (Below.refl w.heap.size w)
 have H:((impl_StateOk.f k l0_0 l0_1 a0_2 a0_3).bind fun t1139=>(if t1139=true then ((impl_PutNum.f ([]:List Int) (l0_0.length:Int)).bind fun t1140=>(impl_PutState.l0 k t1140 l0_0 (l0_0.length:Int) 0 l0_0 l0_1 a0_2 a0_3)) else (some ([]:List Int))))=some r:=h
 clear h
 replace H:=Option.bind_eq_some_iff.mp H
 obtain ⟨t1139,A20,H⟩:=H
 (try dsimp only at H)
 have A2:=Aside0.mk A20
 clear A20
 by_cases c3:t1139=true
 rotate_left
 ·replace c3:=Bool.eq_false_iff.mpr c3
  subst c3
  have H1:(some ([]:List Int))=some r:=by rw [if_neg (show ¬ (false=true) by decide)] at H;exact H
  clear H
  have H:=H1
  clear H1
  obtain rfl:=Option.some.inj H
  go_enter Try.func53,Try.ntmps53
  go_wp2_with (first|((with_reducible refine gate_dst (N:=1) rfl ?_);refine box_event ?hg (N:=1) ?hd (cs:=#[.slice A0_0 l0_0.length c0_0,.slice A0_1 l0_1.length c0_1,.int .i64 a0_2,.int .i64 a0_3]) (t:=56) ?hr ?_;(case hd=>rfl);(case hg=>rfl);(case hr=>first|(go_simp;done)|(go_simp;rfl));intro gb1138 hg w50 hbox hb;have n0_:=Aside0.mk Z41_14;have n1_:=Aside0.mk (hbox);have n2_:=Aside0.mk Z41_11;have n3_:=Aside0.mk Z41_11;clear HB;have HB:=n0_;have BK1138:=n1_;have GW1138:=n2_;have GE1138:=n3_;clear n0_ n1_ n2_ n3_;clear hb hbox hg;obtain ⟨⟨hcz51_0,hcz51_1,hcz51_2,hcz51_3⟩,hfz51_0,hfz51_1,hfz51_2,hfz51_3⟩:=C_z1 BK1138.out)|((with_reducible refine gate_callee (f:=38) rfl ?_);refine goesL_ (some 9) rfl rfl Try.func38 (by kernel_rfl) rfl #[.agg #[.slice A0_0 l0_0.length c0_0,.slice A0_1 l0_1.length c0_1,.int .i64 a0_2,.int .i64 a0_3]] rfl Z41_15 ?_;(with_reducible refine (impl_StateOk.calls k _ _ l0_0 _ _ l0_1 a0_2 a0_3 false _ ?side1 ?side2 ?side3 ?side4 A2.out).mono ?_);(case side1=>repeat (first|exact (Kd.C_below HR0_0.out HB.out)|(with_reducible refine Kd.C_alloc ?_ _)|(with_reducible refine Kd.C_drewN ?_ _)|(with_reducible refine Kd.C_drew ?_)));(case side2=>exact HC0_0.out);(case side3=>repeat (first|exact (Kd.C_below HR0_1.out HB.out)|(with_reducible refine Kd.C_alloc ?_ _)|(with_reducible refine Kd.C_drewN ?_ _)|(with_reducible refine Kd.C_drew ?_)));(case side4=>exact HC0_1.out);rintro e w52 ⟨rfl,hb⟩;refine ⟨_,rfl,?_⟩;have n0_:=Aside0.mk Z41_5;have n1_:=Aside0.mk Z41_12;clear BK1138;clear HB;have BK1138:=n0_;have HB:=n1_;clear n0_ n1_;(try clear hb);(try clear hb2);(try clear hk);(try clear hi)))
  go_ret
  exact ⟨_,(by first|rfl|(simp [errW_none,errW_some]<;>rfl)|(simp [*,errW_none,errW_some]<;>rfl)),(by first|exact Kd.R_nil _ _ _ _ _|exact Kd.N_nil _ _ _ _ _|exact Kd.V_nil _ _ _ _ _|exact Kd.Q_nil _ _ _ _ _|exact Kd.S_nil _ _ _ _ _),Z41_13⟩
 subst c3
 have H1:((impl_PutNum.f ([]:List Int) (l0_0.length:Int)).bind fun t1140=>(impl_PutState.l0 k t1140 l0_0 (l0_0.length:Int) 0 l0_0 l0_1 a0_2 a0_3))=some r:=by rw [if_pos rfl] at H;exact H
 clear H
 have H:=H1
 clear H1
 replace H:=Option.bind_eq_some_iff.mp H
 obtain ⟨t1140,A40,H⟩:=H
 replace H:(impl_PutState.l0 k t1140 l0_0 (l0_0.length:Int) 0 l0_0 l0_1 a0_2 a0_3)=some r:=H
 have A4:=Aside0.mk A40
 clear A40
 have H':=Aside0.mk H
 clear H
 go_enter Try.func53,Try.ntmps53
 go_wp2_with (first|((with_reducible refine gate_dst (N:=1) rfl ?_);refine box_event ?hg (N:=1) ?hd (cs:=#[.slice A0_0 l0_0.length c0_0,.slice A0_1 l0_1.length c0_1,.int .i64 a0_2,.int .i64 a0_3]) (t:=56) ?hr ?_;(case hd=>rfl);(case hg=>rfl);(case hr=>first|(go_simp;done)|(go_simp;rfl));intro gb1138 hg w5 hbox hb;have n0_:=Aside0.mk Z41_14;have n1_:=Aside0.mk (hbox);have n2_:=Aside0.mk Z41_11;have n3_:=Aside0.mk Z41_11;clear HB;have HB:=n0_;have BK1138:=n1_;have GW1138:=n2_;have GE1138:=n3_;clear n0_ n1_ n2_ n3_;clear hb hbox hg;obtain ⟨⟨hcz6_0,hcz6_1,hcz6_2,hcz6_3⟩,hfz6_0,hfz6_1,hfz6_2,hfz6_3⟩:=C_z1 BK1138.out)|((with_reducible refine gate_callee (f:=38) rfl ?_);refine goesL_ (some 9) rfl rfl Try.func38 (by kernel_rfl) rfl #[.agg #[.slice A0_0 l0_0.length c0_0,.slice A0_1 l0_1.length c0_1,.int .i64 a0_2,.int .i64 a0_3]] rfl Z41_15 ?_;(with_reducible refine (impl_StateOk.calls k _ _ l0_0 _ _ l0_1 a0_2 a0_3 true _ ?side1 ?side2 ?side3 ?side4 A2.out).mono ?_);(case side1=>repeat (first|exact (Kd.C_below HR0_0.out HB.out)|(with_reducible refine Kd.C_alloc ?_ _)|(with_reducible refine Kd.C_drewN ?_ _)|(with_reducible refine Kd.C_drew ?_)));(case side2=>exact HC0_0.out);(case side3=>repeat (first|exact (Kd.C_below HR0_1.out HB.out)|(with_reducible refine Kd.C_alloc ?_ _)|(with_reducible refine Kd.C_drewN ?_ _)|(with_reducible refine Kd.C_drew ?_)));(case side4=>exact HC0_1.out);rintro e w7 ⟨rfl,hb⟩;refine ⟨_,rfl,?_⟩;have n0_:=Aside0.mk Z41_5;have n1_:=Aside0.mk Z41_12;clear BK1138;clear HB;have BK1138:=n0_;have HB:=n1_;clear n0_ n1_;(try clear hb);(try clear hb2);(try clear hk);(try clear hi);obtain ⟨⟨hcz8_0,hcz8_1,hcz8_2,hcz8_3⟩,hfz8_0,hfz8_1,hfz8_2,hfz8_3⟩:=C_z1 BK1138.out)|((with_reducible refine gate_callee (f:=92) rfl ?_);refine goesL_ (some 14) rfl rfl Try.func92 (by kernel_rfl) rfl #[.slice none 0 0,.int .i64 (l0_0.length:Int)] rfl Z41_15 ?_;(refine (impl_PutNum.calls _ _ ([]:List Int) (l0_0.length:Int) t1140 _ ?side1 ?side2 A4.out).mono ?_);(case side1=>exact Kd.C_nil _ _);(case side2=>exact Nat.le_refl _);rintro e w9 ⟨v1141,rfl,ho0,hb⟩;refine ⟨_,rfl,?_⟩;have n0_:=Aside0.mk (Kd.R_lower ho0 (below_size Z41_13));have n1_:=Aside0.mk Z41_5;have n2_:=Aside0.mk Z41_12;clear BK1138;clear HB;have HO1142:=n0_;have BK1138:=n1_;have HB:=n2_;clear n0_ n1_ n2_;(try clear hb);(try clear hb2);(try clear hk);(try clear hi);(try clear ho0);obtain ⟨⟨hcz10_0,hcz10_1,hcz10_2,hcz10_3⟩,hfz10_0,hfz10_1,hfz10_2,hfz10_3⟩:=C_z1 BK1138.out))
 go_loopg [3,18] k (fun kq v3 v18 w'=>∃ (x3_1:List Int) (x18_1:Int),v18 = .int .i64 x18_1∧Aside0 (impl_PutState.l0 kq x3_1 l0_0 (l0_0.length:Int) x18_1 l0_0 l0_1 a0_2 a0_3=some r)∧Aside0 (kq≤k)∧Aside0 (Kd.R (Kd.int .u8) 5 w' w.heap.size (fun _=>True) v3 x3_1)∧Aside0 (w'.heap[gb1138]?=some (.cells #[(.slice A0_0 l0_0.length c0_0),(.slice A0_1 l0_1.length c0_1),.int .i64 a0_2,.int .i64 a0_3] 56 (0,0)))∧Aside0 (Below w.heap.size w w'))
 case atStart=>exact ⟨(t1140),(0),Z41_27,H',⟨Nat.le_refl _⟩,⟨(by (with_reducible repeat (first|apply Kd.R_alloc|apply Kd.R_drewN|apply Kd.R_drew));exact HO1142.out)⟩,⟨Z41_19⟩,⟨Z41_13⟩⟩
 case round =>
  clear H'
  try clear p2
  try clear c3
  try clear c5
  try clear c9
  try clear hcz10_0
  try clear hcz10_1
  try clear hcz10_2
  try clear hcz10_3
  try clear hcz6_0
  try clear hcz6_1
  try clear hcz6_2
  try clear hcz6_3
  try clear hcz8_0
  try clear hcz8_1
  try clear hcz8_2
  try clear hcz8_3
  try clear hfz10_0
  try clear hfz10_1
  try clear hfz10_2
  try clear hfz10_3
  try clear hfz6_0
  try clear hfz6_1
  try clear hfz6_2
  try clear hfz6_3
  try clear hfz8_0
  try clear hfz8_1
  try clear hfz8_2
  try clear hfz8_3
  obtain ⟨x3_1,x18_1,rfl,HA,HK1,HO_3,BK1138,HB⟩:=hrel
  cases gk with
  | zero=>exact absurd HA.out (by simp [impl_PutState.l0])
  | succ k1 =>
   have H:=HA.out
   clear HA
   simp only [impl_PutState.l0] at H
   by_cases c11:x18_1 < (l0_0.length:Int)
   ·rw [if_pos c11] at H
    have c11b0:decide (x18_1 < (l0_0.length:Int))=true:=decide_eq_true c11
    clear c11
    by_cases c12:0≤x18_1
    rotate_left
    ·rw [if_neg c12] at H
     exact absurd H (by simp)
    rw [if_pos c12] at H
    have c12b0:decide (0≤x18_1)=true:=decide_eq_true c12
    clear c12
    by_cases c13:x18_1 < (l0_0.length:Int)
    rotate_left
    ·rw [if_neg c13] at H
     exact absurd H (by simp)
    rw [if_pos c13] at H
    have c13b0:decide (x18_1 < (l0_0.length:Int))=true:=decide_eq_true c13
    clear c13
    replace H:=Option.bind_eq_some_iff.mp H
    obtain ⟨t1145,A140,H⟩:=H
    replace H:(impl_PutState.l0 k1 t1145 l0_0 (l0_0.length:Int) (wrap64 (x18_1+1)) l0_0 l0_1 a0_2 a0_3)=some r:=H
    have A14:=Aside0.mk A140
    clear A140
    have H':=Aside0.mk H
    clear H
    have p1143:0≤(x18_1:Int):=of_decide_eq_true Z41_26
    have q1143:x18_1 < (l0_0.length:Int):=of_decide_eq_true Z41_26
    obtain ⟨ad1143,e1143,hx1143_0,hx1143_1,hx1143_2,hx1143_3,hx1143_4,hx1143_5,hx1143_6,hx1143_7,hx1143_8,hx1143_9,hx1143_10,hx1143_11,hx1143_12⟩:=at_T25 HR0_0.out x18_1 p1143 q1143
    cases e1143
    replace hx1143_0:=(HB.out.cell (World.block_lt_of_cell? w _ hx1143_0)).trans hx1143_0
    replace hx1143_1:=(HB.out.cell (World.block_lt_of_cell? w _ hx1143_1)).trans hx1143_1
    replace hx1143_2:=(HB.out.cell (World.block_lt_of_cell? w _ hx1143_2)).trans hx1143_2
    replace hx1143_3:=(HB.out.cell (World.block_lt_of_cell? w _ hx1143_3)).trans hx1143_3
    replace hx1143_4:=(HB.out.cell (World.block_lt_of_cell? w _ hx1143_4)).trans hx1143_4
    replace hx1143_5:=(HB.out.cell (World.block_lt_of_cell? w _ hx1143_5)).trans hx1143_5
    replace hx1143_6:=(HB.out.cell (World.block_lt_of_cell? w _ hx1143_6)).trans hx1143_6
    replace hx1143_7:=(HB.out.cell (World.block_lt_of_cell? w _ hx1143_7)).trans hx1143_7
    replace hx1143_8:=(HB.out.cell (World.block_lt_of_cell? w _ hx1143_8)).trans hx1143_8
    replace hx1143_9:=(HB.out.cell (World.block_lt_of_cell? w _ hx1143_9)).trans hx1143_9
    replace hx1143_10:=(HB.out.cell (World.block_lt_of_cell? w _ hx1143_10)).trans hx1143_10
    replace hx1143_11:=(HB.out.cell (World.block_lt_of_cell? w _ hx1143_11)).trans hx1143_11
    replace hx1143_12:=(HB.out.cell (World.block_lt_of_cell? w _ hx1143_12)).trans hx1143_12
    replace p1143:=eq_true p1143
    replace q1143:=eq_true q1143
    go_wp2_with (first|((with_reducible refine gate_dst (N:=5) rfl ?_);refine box_event ?hg (N:=5) ?hd (cs:=#[.int .i64 0,.int .i64 0,.int .i64 0,.int .i64 0,.int .i64 0,.int .i64 0,.int .i64 0,.int .i64 0,.int .i64 0,.int .i64 0,.int .i64 0,.bool false,.bool false]) (t:=25) ?hr ?_;(case hd=>rfl);(case hg=>rfl);(case hr=>first|(go_simp;done)|(go_simp;rfl));intro gb1144 hg w15 hbox hb;have n0_:=Aside0.mk Z41_18;have n1_:=Aside0.mk (blk_below (g:=gb1138) (o := .cells #[.slice (some ad1143) l0_0.length c0_0,.slice A0_1 l0_1.length c0_1,.int .i64 a0_2,.int .i64 a0_3] 56 (0,0)) Z41_19 hb);have n2_:=Aside0.mk Z41_12;have n3_:=Aside0.mk (hbox);have n4_:=Aside0.mk Z41_6;have n5_:=Aside0.mk Z41_6;have n6_:=Aside0.mk ((by rw [hg];exact Nat.ne_of_lt (blk_lt (g:=gb1138) (o := .cells #[.slice (some ad1143) l0_0.length c0_0,.slice A0_1 l0_1.length c0_1,.int .i64 a0_2,.int .i64 a0_3] 56 (0,0)) Z41_19):gb1138≠gb1144));have n7_:=Aside0.mk ((by rw [hg];exact Nat.ne_of_gt (blk_lt (g:=gb1138) (o := .cells #[.slice (some ad1143) l0_0.length c0_0,.slice A0_1 l0_1.length c0_1,.int .i64 a0_2,.int .i64 a0_3] 56 (0,0)) Z41_19):gb1144≠gb1138));clear HO_3;clear BK1138;clear HB;have HO_3:=n0_;have BK1138:=n1_;have HB:=n2_;have BK1144:=n3_;have GW1144:=n4_;have GE1144:=n5_;have NB1138_1144:=n6_;have NB1144_1138:=n7_;clear n0_ n1_ n2_ n3_ n4_ n5_ n6_ n7_;clear hb hbox hg;have hnb16:=NB1144_1138.out;have hnc16:=NB1138_1144.out;obtain ⟨⟨hcz17_0,hcz17_1,hcz17_2,hcz17_3,hcz17_4,hcz17_5,hcz17_6,hcz17_7,hcz17_8,hcz17_9,hcz17_10,hcz17_11,hcz17_12⟩,hfz17_0,hfz17_1,hfz17_2,hfz17_3,hfz17_4,hfz17_5,hfz17_6,hfz17_7,hfz17_8,hfz17_9,hfz17_10,hfz17_11,hfz17_12⟩:=C_z0 BK1144.out;obtain ⟨Ao18,co18,eo18⟩:=Kd.R_slice HO_3.out;subst eo18)|((with_reducible refine gate_callee (f:=30) rfl ?_);refine goesL_ (some 24) rfl rfl Try.func30 (by kernel_rfl) rfl #[.slice Ao18 x3_1.length co18,.agg #[.int .i64 ((rd_T25 l0_0 x18_1).f0),.int .i64 ((rd_T25 l0_0 x18_1).f1),.int .i64 ((rd_T25 l0_0 x18_1).f2),.int .i64 ((rd_T25 l0_0 x18_1).f3),.int .i64 ((rd_T25 l0_0 x18_1).f4),.int .i64 ((rd_T25 l0_0 x18_1).f5),.int .i64 ((rd_T25 l0_0 x18_1).f6),.int .i64 ((rd_T25 l0_0 x18_1).f7),.int .i64 ((rd_T25 l0_0 x18_1).f8),.int .i64 ((rd_T25 l0_0 x18_1).f9),.int .i64 ((rd_T25 l0_0 x18_1).f10),.bool ((rd_T25 l0_0 x18_1).f11),.bool ((rd_T25 l0_0 x18_1).f12)]] rfl Z41_15 ?_;(with_reducible refine (impl_PutPiece.calls k1 _ _ x3_1 ((rd_T25 l0_0 x18_1).f0) ((rd_T25 l0_0 x18_1).f1) ((rd_T25 l0_0 x18_1).f2) ((rd_T25 l0_0 x18_1).f3) ((rd_T25 l0_0 x18_1).f4) ((rd_T25 l0_0 x18_1).f5) ((rd_T25 l0_0 x18_1).f6) ((rd_T25 l0_0 x18_1).f7) ((rd_T25 l0_0 x18_1).f8) ((rd_T25 l0_0 x18_1).f9) ((rd_T25 l0_0 x18_1).f10) ((rd_T25 l0_0 x18_1).f11) ((rd_T25 l0_0 x18_1).f12) t1145 _ ?side1 ?side2 A14.out).mono ?_);(case side1=>refine (Kd.R_reads' (e:=5) (base:=w.heap.size) (ok:=fun k_=>True) (n:=x3_1.length) (c:=co18) ?_).2.2;exact Z41_1);(case side2=>exact (Kd.R_reads' HO_3.out).2.1);rintro e w19 ⟨v1146,rfl,ho0,hb⟩;refine ⟨_,rfl,?_⟩;have n0_:=Aside0.mk (Kd.R_elder' Z41_1 (Kd.R_base ho0) hb);have n1_:=Aside0.mk (Kd.R_lower (Kd.R_new' ho0 (Kd.R_lt Z41_1)) (below_size Z41_9));have n2_:=Aside0.mk (blk_below (g:=gb1138) (o := .cells #[.slice (some ad1143) l0_0.length c0_0,.slice A0_1 l0_1.length c0_1,.int .i64 a0_2,.int .i64 a0_3] 56 (0,0)) (by (with_reducible repeat (first|refine blk_drewN ?_ _|refine blk_drew ?_|refine blk_alloc ?_ _));refine blk_far ?_ NB1138_1144.out _;(with_reducible repeat (first|refine blk_drewN ?_ _|refine blk_drew ?_|refine blk_alloc ?_ _));refine blk_far ?_ NB1138_1144.out _;(with_reducible repeat (first|refine blk_drewN ?_ _|refine blk_drew ?_|refine blk_alloc ?_ _));refine blk_far ?_ NB1138_1144.out _;(with_reducible repeat (first|refine blk_drewN ?_ _|refine blk_drew ?_|refine blk_alloc ?_ _));refine blk_far ?_ NB1138_1144.out _;(with_reducible repeat (first|refine blk_drewN ?_ _|refine blk_drew ?_|refine blk_alloc ?_ _));refine blk_far ?_ NB1138_1144.out _;(with_reducible repeat (first|refine blk_drewN ?_ _|refine blk_drew ?_|refine blk_alloc ?_ _));refine blk_far ?_ NB1138_1144.out _;(with_reducible repeat (first|refine blk_drewN ?_ _|refine blk_drew ?_|refine blk_alloc ?_ _));refine blk_far ?_ NB1138_1144.out _;(with_reducible repeat (first|refine blk_drewN ?_ _|refine blk_drew ?_|refine blk_alloc ?_ _));refine blk_far ?_ NB1138_1144.out _;(with_reducible repeat (first|refine blk_drewN ?_ _|refine blk_drew ?_|refine blk_alloc ?_ _));refine blk_far ?_ NB1138_1144.out _;(with_reducible repeat (first|refine blk_drewN ?_ _|refine blk_drew ?_|refine blk_alloc ?_ _));refine blk_far ?_ NB1138_1144.out _;(with_reducible repeat (first|refine blk_drewN ?_ _|refine blk_drew ?_|refine blk_alloc ?_ _));refine blk_far ?_ NB1138_1144.out _;(with_reducible repeat (first|refine blk_drewN ?_ _|refine blk_drew ?_|refine blk_alloc ?_ _));refine blk_far ?_ NB1138_1144.out _;(with_reducible repeat (first|refine blk_drewN ?_ _|refine blk_drew ?_|refine blk_alloc ?_ _));refine blk_far ?_ NB1138_1144.out _;(with_reducible repeat (first|refine blk_drewN ?_ _|refine blk_drew ?_|refine blk_alloc ?_ _));exact BK1138.out) hb);have n3_:=Aside0.mk (blk_below (g:=gb1144) (o := .cells #[.int .i64 ((rd_T25 l0_0 x18_1).f0),.int .i64 ((rd_T25 l0_0 x18_1).f1),.int .i64 ((rd_T25 l0_0 x18_1).f2),.int .i64 ((rd_T25 l0_0 x18_1).f3),.int .i64 ((rd_T25 l0_0 x18_1).f4),.int .i64 ((rd_T25 l0_0 x18_1).f5),.int .i64 ((rd_T25 l0_0 x18_1).f6),.int .i64 ((rd_T25 l0_0 x18_1).f7),.int .i64 ((rd_T25 l0_0 x18_1).f8),.int .i64 ((rd_T25 l0_0 x18_1).f9),.int .i64 ((rd_T25 l0_0 x18_1).f10),.bool ((rd_T25 l0_0 x18_1).f11),.bool ((rd_T25 l0_0 x18_1).f12)] 25 (0,0)) (by (with_reducible repeat (first|refine blk_drewN ?_ _|refine blk_drew ?_|refine blk_alloc ?_ _));apply E_z2;(with_reducible repeat (first|refine blk_drewN ?_ _|refine blk_drew ?_|refine blk_alloc ?_ _));exact BK1144.out) hb);have n4_:=Aside0.mk (below_step Z41_9 hb);clear HO_3;clear BK1138;clear BK1144;clear HB;have HO_3:=n0_;have HO1147:=n1_;have BK1138:=n2_;have BK1144:=n3_;have HB:=n4_;clear n0_ n1_ n2_ n3_ n4_;(try clear hb);(try clear hb2);(try clear hk);(try clear hi);(try clear ho0)))
    go_roundg k1
    case measure=>have:=HK1.out;omega
    case rel=>exact ⟨(t1145),(wrap64 (x18_1+1)),Z41_27,H',⟨(by have:=HK1.out;omega)⟩,⟨(by (with_reducible repeat (first|apply Kd.R_alloc|apply Kd.R_drewN|apply Kd.R_drew));exact Kd.R_mono HO1147.out (fun _ hk=>trivial))⟩,⟨Z41_19⟩,⟨Z41_9⟩⟩
   rw [if_neg c11] at H
   have c11b0:decide (x18_1 < (l0_0.length:Int))=false:=decide_eq_false c11
   clear c11
   replace H:=Option.bind_eq_some_iff.mp H
   obtain ⟨t1148,A200,H⟩:=H
   replace H:(impl_PutState.l1 k1 t1148 l0_1 (l0_1.length:Int) 0 l0_0 l0_1 a0_2 a0_3)=some r:=H
   have A20:=Aside0.mk A200
   clear A200
   have H':=Aside0.mk H
   clear H
   obtain ⟨⟨hcz21_0,hcz21_1,hcz21_2,hcz21_3⟩,hfz21_0,hfz21_1,hfz21_2,hfz21_3⟩:=C_z1 BK1138.out
   obtain ⟨Ao22,co22,eo22⟩:=Kd.R_slice HO_3.out
   subst eo22
   go_wp2_with (first|((with_reducible refine gate_callee (f:=92) rfl ?_);refine goesL_ (some 30) rfl rfl Try.func92 (by kernel_rfl) rfl #[.slice Ao22 x3_1.length co22,.int .i64 (l0_1.length:Int)] rfl Z41_15 ?_;(with_reducible refine (impl_PutNum.calls _ _ x3_1 (l0_1.length:Int) t1148 _ ?side1 ?side2 A20.out).mono ?_);(case side1=>repeat (first|exact (Kd.R_reads' HO_3.out).2.2|(with_reducible refine Kd.C_alloc ?_ _)|(with_reducible refine Kd.C_drewN ?_ _)|(with_reducible refine Kd.C_drew ?_)));(case side2=>exact (Kd.R_reads' HO_3.out).2.1);rintro e w23 ⟨v1149,rfl,ho0,hb⟩;refine ⟨_,rfl,?_⟩;have n0_:=Aside0.mk Z41_17;have n1_:=Aside0.mk Z41_2;have n2_:=Aside0.mk Z41_5;have n3_:=Aside0.mk Z41_12;clear HO_3;clear BK1138;clear HB;have HO_3:=n0_;have HO1150:=n1_;have BK1138:=n2_;have HB:=n3_;clear n0_ n1_ n2_ n3_;(try clear hb);(try clear hb2);(try clear hk);(try clear hi);(try clear ho0);obtain ⟨⟨hcz24_0,hcz24_1,hcz24_2,hcz24_3⟩,hfz24_0,hfz24_1,hfz24_2,hfz24_3⟩:=C_z1 BK1138.out))
   go_loopg [3,34] k1 (fun kq v3 v34 w'=>∃ (x3_2:List Int) (x34_2:Int),v34 = .int .i64 x34_2∧Aside0 (impl_PutState.l1 kq x3_2 l0_1 (l0_1.length:Int) x34_2 l0_0 l0_1 a0_2 a0_3=some r)∧Aside0 (kq≤k1)∧Aside0 (Kd.R (Kd.int .u8) 5 w' w.heap.size (fun _=>True) v3 x3_2)∧Aside0 (w'.heap[gb1138]?=some (.cells #[(.slice A0_0 l0_0.length c0_0),(.slice A0_1 l0_1.length c0_1),.int .i64 a0_2,.int .i64 a0_3] 56 (0,0)))∧Aside0 (Below w.heap.size w w'))
   case atStart=>exact ⟨(t1148),(0),Z41_27,H',⟨Nat.le_refl _⟩,⟨(by (with_reducible repeat (first|apply Kd.R_alloc|apply Kd.R_drewN|apply Kd.R_drew));exact Kd.R_mono HO1150.out (fun _ hk=>trivial))⟩,⟨Z41_19⟩,⟨Z41_13⟩⟩
   case round =>
    clear H'
    try clear c1
    try clear p1
    try clear q1
    try clear hx1
    try clear p2
    try clear c3
    try clear c5
    try clear p6
    try clear c9
    try clear c11
    try clear c11b0
    try clear p11
    try clear q11
    try clear hx11
    try clear c12
    try clear c12b0
    try clear c13
    try clear c13b0
    try clear c16
    try clear hcz10_0
    try clear hcz10_1
    try clear hcz10_2
    try clear hcz10_3
    try clear hcz17_0
    try clear hcz17_1
    try clear hcz17_10
    try clear hcz17_11
    try clear hcz17_12
    try clear hcz17_2
    try clear hcz17_3
    try clear hcz17_4
    try clear hcz17_5
    try clear hcz17_6
    try clear hcz17_7
    try clear hcz17_8
    try clear hcz17_9
    try clear hcz21_0
    try clear hcz21_1
    try clear hcz21_2
    try clear hcz21_3
    try clear hcz24_0
    try clear hcz24_1
    try clear hcz24_2
    try clear hcz24_3
    try clear hcz6_0
    try clear hcz6_1
    try clear hcz6_2
    try clear hcz6_3
    try clear hcz8_0
    try clear hcz8_1
    try clear hcz8_2
    try clear hcz8_3
    try clear hfz10_0
    try clear hfz10_1
    try clear hfz10_2
    try clear hfz10_3
    try clear hfz17_0
    try clear hfz17_1
    try clear hfz17_10
    try clear hfz17_11
    try clear hfz17_12
    try clear hfz17_2
    try clear hfz17_3
    try clear hfz17_4
    try clear hfz17_5
    try clear hfz17_6
    try clear hfz17_7
    try clear hfz17_8
    try clear hfz17_9
    try clear hfz21_0
    try clear hfz21_1
    try clear hfz21_2
    try clear hfz21_3
    try clear hfz24_0
    try clear hfz24_1
    try clear hfz24_2
    try clear hfz24_3
    try clear hfz6_0
    try clear hfz6_1
    try clear hfz6_2
    try clear hfz6_3
    try clear hfz8_0
    try clear hfz8_1
    try clear hfz8_2
    try clear hfz8_3
    try clear hx1143_0
    try clear hx1143_1
    try clear hx1143_10
    try clear hx1143_11
    try clear hx1143_12
    try clear hx1143_2
    try clear hx1143_3
    try clear hx1143_4
    try clear hx1143_5
    try clear hx1143_6
    try clear hx1143_7
    try clear hx1143_8
    try clear hx1143_9
    try clear p1143
    try clear p2
    try clear q1143
    obtain ⟨x3_2,x34_2,rfl,HA,HK2,HO_3,BK1138,HB⟩:=hrel
    cases gk with
    | zero=>exact absurd HA.out (by simp [impl_PutState.l1])
    | succ k2 =>
     have H:=HA.out
     clear HA
     simp only [impl_PutState.l1] at H
     by_cases c25:x34_2 < (l0_1.length:Int)
     rotate_left
     ·rw [if_neg c25] at H
      have c25b0:decide (x34_2 < (l0_1.length:Int))=false:=decide_eq_false c25
      clear c25
      replace H:=Option.bind_eq_some_iff.mp H
      obtain ⟨t1151,A430,H⟩:=H
      replace H:((impl_PutNum.f t1151 a0_3).bind fun t1154=>(some t1154))=some r:=H
      have A43:=Aside0.mk A430
      clear A430
      replace H:=Option.bind_eq_some_iff.mp H
      obtain ⟨t1154,A440,H⟩:=H
      replace H:(some t1154)=some r:=H
      have A44:=Aside0.mk A440
      clear A440
      obtain rfl:=Option.some.inj H
      try go_wp2
      have n0_:=Aside0.mk (Kd.R_drew HO_3.out)
      have n1_:=Aside0.mk (blk_drew BK1138.out)
      have n2_:=Aside0.mk (below_drew1 HB.out)
      clear HO_3
      clear BK1138
      clear HB
      have HO_3:=n0_
      have BK1138:=n1_
      have HB:=n2_
      clear n0_ n1_ n2_
      obtain ⟨Ao46,co46,eo46⟩:=Kd.R_slice HO_3.out
      (first|subst eo46|(injection eo46 with f1_ f2_ f3_;have f4_:=f1_.symm;have f5_:=f3_.symm;clear f1_ f2_ f3_;subst f4_;subst f5_))
      refine start_ (n:=8) (S:=fun w'=>w'.cell? ⟨gb1138,0,none⟩=some (.slice A0_0 l0_0.length c0_0)∧w'.cell? ⟨gb1138,1,none⟩=some (.slice A0_1 l0_1.length c0_1)∧w'.cell? ⟨gb1138,2,none⟩=some (.int .i64 a0_2)∧w'.cell? ⟨gb1138,3,none⟩=some (.int .i64 a0_3)) (ds:=[]) #[false,false,false,false,false,false,false,false] (by kernel_rfl) rfl rfl ⟨(blk_cell BK1138.out 0).trans rfl,(blk_cell BK1138.out 1).trans rfl,(blk_cell BK1138.out 2).trans rfl,(blk_cell BK1138.out 3).trans rfl⟩ (fun hHeld=>?_);refine with_tabW impl_PutState.tab15 impl_PutState.bits15 (fun HT_ HW_=>?_)
      generalize wr.drew=w45 at HO_3 BK1138 HB hHeld ⊢
      refine pz 0 50 (M41_8 1) (b:=Z41_20) (h:=?_)
      refine pz 1 51 (M41_8 3) (b:=Z41_20) (h:=?_)
      refine pz 4 54 (M41_8 19) (b:=Z41_20) (h:=?_)
      refine take_ (i:=2) (N:=some 52) (v:=_) (a':=_) (M41_8 23) rfl rfl (take_ofW HT_.out HW_.out (by kernel_rfl)) (fun _ _ _ h=>h) (Or.inl ⟨(by rfl),(by rintro w' ⟨s0,s1,s2,s3⟩;go_simp;with_reducible rfl)⟩) hHeld Z41_20 ?_
      refine take_ (i:=5) (N:=some 55) (v:=_) (a':=_) (M41_8 55) rfl rfl (take_ofW HT_.out HW_.out (by kernel_rfl)) (fun _ _ _ h=>h) (Or.inl ⟨(by rfl),(by rintro w' ⟨s0,s1,s2,s3⟩;go_simp;with_reducible rfl)⟩) hHeld Z41_20 ?_
      refine one_ (i:=3) (N:=some 53) (M41_8 63) rfl rfl (one_of HT_.out (by kernel_rfl)) (by decide) (fun K hK=>?_)
      refine goes_ Try.func92 (by kernel_rfl) rfl #[.slice Ao46 x3_2.length co46,.int .i64 a0_2] (by rfl) rfl rfl Z41_15 ?_
      with_reducible refine (impl_PutNum.calls _ _ x3_2 a0_2 t1151 _ ?side1 ?side2 A43.out).mono ?_
      (case side1=>repeat (first|exact (Kd.R_reads' HO_3.out).2.2|(with_reducible refine Kd.C_alloc ?_ _)|(with_reducible refine Kd.C_drewN ?_ _)|(with_reducible refine Kd.C_drew ?_)))
      (case side2=>exact (Kd.R_reads' HO_3.out).2.1)
      rintro e w47 ⟨v1152,rfl,ho0,hb⟩
      refine ⟨_,rfl,?_⟩
      have n0_:=Aside0.mk Z41_17
      have n1_:=Aside0.mk Z41_2
      have n2_:=Aside0.mk Z41_5
      have n3_:=Aside0.mk Z41_12
      clear HO_3
      clear BK1138
      clear HB
      have HO_3:=n0_
      have HO1153:=n1_
      have BK1138:=n2_
      have HB:=n3_
      clear n0_ n1_ n2_ n3_
      (try clear hb)
      (try clear hb2)
      (try clear hk)
      (try clear hi)
      (try clear ho0)
      obtain ⟨Ao48,co48,eo48⟩:=Kd.R_slice HO1153.out
      (first|subst eo48|(injection eo48 with f1_ f2_ f3_;have f4_:=f1_.symm;have f5_:=f3_.symm;clear f1_ f2_ f3_;subst f4_;subst f5_))
      refine hK.out _ _ (C_z1 BK1138.out).1 (fun hHeld=>?_)
      clear hK K
      refine norm_ (a':=?_) ?_ ?_
      rotate_left
      ·show Act.put _ (some 53) _=_
       simp only [Act.put,List.setIfInBounds_toArray,List.set_cons_zero,List.set_cons_succ,i64_w,i32_w]
       rfl
      refine one_ (i:=6) (N:=some 56) (M41_8 127) rfl rfl (one_of HT_.out (by kernel_rfl)) (by decide) (fun K hK=>?_)
      refine goes_ Try.func92 (by kernel_rfl) rfl #[.slice Ao48 t1151.length co48,.int .i64 a0_3] (by rfl) rfl rfl Z41_15 ?_
      with_reducible refine (impl_PutNum.calls _ _ t1151 a0_3 t1154 _ ?side1 ?side2 A44.out).mono ?_
      (case side1=>repeat (first|exact (Kd.R_reads' HO1153.out).2.2|(with_reducible refine Kd.C_alloc ?_ _)|(with_reducible refine Kd.C_drewN ?_ _)|(with_reducible refine Kd.C_drew ?_)))
      (case side2=>exact (Kd.R_reads' HO1153.out).2.1)
      rintro e w49 ⟨v1155,rfl,ho0,hb⟩
      refine ⟨_,rfl,?_⟩
      have n0_:=Aside0.mk Z41_17
      have n1_:=Aside0.mk (Kd.R_elder' Z41_21 (Kd.R_base ho0) hb)
      have n2_:=Aside0.mk (Kd.R_lower (Kd.R_new' (Kd.R_new' ho0 (Kd.R_lt Z41_24)) (Kd.R_lt Z41_21)) (below_size Z41_13))
      have n3_:=Aside0.mk Z41_5
      have n4_:=Aside0.mk Z41_12
      clear HO_3
      clear HO1153
      clear BK1138
      clear HB
      have HO_3:=n0_
      have HO1153:=n1_
      have HO1156:=n2_
      have BK1138:=n3_
      have HB:=n4_
      clear n0_ n1_ n2_ n3_ n4_
      (try clear hb)
      (try clear hb2)
      (try clear hk)
      (try clear hi)
      (try clear ho0)
      refine hK.out _ _ (C_z1 BK1138.out).1 (fun hHeld=>?_)
      clear hK K
      refine norm_ (a':=?_) ?_ ?_
      rotate_left
      ·show Act.put _ (some 56) _=_
       simp only [Act.put,List.setIfInBounds_toArray,List.set_cons_zero,List.set_cons_succ,i64_w,i32_w]
       rfl
      refine pz 7 2 (M41_8 255) (b:=Z41_20) (h:=?_)
      refine done_ (done_of HT_.out (by kernel_rfl)) ?_
      try go_wp2
      go_ret
      exact ⟨_,(by first|rfl|(simp [errW_none,errW_some]<;>rfl)|(simp [*,errW_none,errW_some]<;>rfl)),(by (with_reducible repeat (first|apply Kd.R_alloc|apply Kd.R_drewN|apply Kd.R_drew));exact Kd.R_mono HO1156.out (fun _ hk=>trivial)),Z41_13⟩
     rw [if_pos c25] at H
     have c25b0:decide (x34_2 < (l0_1.length:Int))=true:=decide_eq_true c25
     clear c25
     by_cases c26:0≤x34_2
     rotate_left
     ·rw [if_neg c26] at H
      exact absurd H (by simp)
     rw [if_pos c26] at H
     have c26b0:decide (0≤x34_2)=true:=decide_eq_true c26
     clear c26
     by_cases c27:x34_2 < (l0_1.length:Int)
     rotate_left
     ·rw [if_neg c27] at H
      exact absurd H (by simp)
     rw [if_pos c27] at H
     have c27b0:decide (x34_2 < (l0_1.length:Int))=true:=decide_eq_true c27
     clear c27
     replace H:=Option.bind_eq_some_iff.mp H
     obtain ⟨t1159,A280,H⟩:=H
     (try dsimp only at H)
     have A28:=Aside0.mk A280
     clear A280
     replace H:=Option.bind_eq_some_iff.mp H
     obtain ⟨t1162,A290,H⟩:=H
     (try dsimp only at H)
     have A29:=Aside0.mk A290
     clear A290
     replace H:=Option.bind_eq_some_iff.mp H
     obtain ⟨t1165,A300,H⟩:=H
     replace H:((impl_PutNum.f t1162 t1165).bind fun t1166=>(impl_PutState.l1 k2 t1166 l0_1 (l0_1.length:Int) (wrap64 (x34_2+1)) l0_0 l0_1 a0_2 a0_3))=some r:=H
     have A30:=Aside0.mk A300
     clear A300
     replace H:=Option.bind_eq_some_iff.mp H
     obtain ⟨t1166,A310,H⟩:=H
     replace H:(impl_PutState.l1 k2 t1166 l0_1 (l0_1.length:Int) (wrap64 (x34_2+1)) l0_0 l0_1 a0_2 a0_3)=some r:=H
     have A31:=Aside0.mk A310
     clear A310
     have H':=Aside0.mk H
     clear H
     have p1157:0≤(x34_2:Int):=of_decide_eq_true Z41_26
     have q1157:x34_2 < (l0_1.length:Int):=of_decide_eq_true Z41_26
     obtain ⟨ad1157,e1157,hx1157_0,hx1157_1,hx1157_2⟩:=at_T71 HR0_1.out x34_2 p1157 q1157
     cases e1157
     replace hx1157_0:=(HB.out.cell (World.block_lt_of_cell? w _ hx1157_0)).trans hx1157_0
     replace hx1157_1:=(HB.out.cell (World.block_lt_of_cell? w _ hx1157_1)).trans hx1157_1
     replace hx1157_2:=(HB.out.cell (World.block_lt_of_cell? w _ hx1157_2)).trans hx1157_2
     replace p1157:=eq_true p1157
     replace q1157:=eq_true q1157
     try go_wp2_with (first|((with_reducible refine gate_dst (N:=7) rfl ?_);refine box_event ?hg (N:=7) ?hd (cs:=#[.int .i64 0,.int .i64 0,.bool false]) (t:=71) ?hr ?_;(case hd=>rfl);(case hg=>rfl);(case hr=>first|(go_simp;done)|(go_simp;rfl));intro gb1158 hg w32 hbox hb;have n0_:=Aside0.mk Z41_18;have n1_:=Aside0.mk Z41_4;have n2_:=Aside0.mk Z41_12;have n3_:=Aside0.mk (hbox);have n4_:=Aside0.mk Z41_7;have n5_:=Aside0.mk Z41_7;have n6_:=Aside0.mk ((by rw [hg];exact Nat.ne_of_lt (blk_lt (g:=gb1138) (o := .cells #[.slice A0_0 l0_0.length c0_0,.slice (some ad1157) l0_1.length c0_1,.int .i64 a0_2,.int .i64 a0_3] 56 (0,0)) Z41_19):gb1138≠gb1158));have n7_:=Aside0.mk ((by rw [hg];exact Nat.ne_of_gt (blk_lt (g:=gb1138) (o := .cells #[.slice A0_0 l0_0.length c0_0,.slice (some ad1157) l0_1.length c0_1,.int .i64 a0_2,.int .i64 a0_3] 56 (0,0)) Z41_19):gb1158≠gb1138));clear HO_3;clear BK1138;clear HB;have HO_3:=n0_;have BK1138:=n1_;have HB:=n2_;have BK1158:=n3_;have GW1158:=n4_;have GE1158:=n5_;have NB1138_1158:=n6_;have NB1158_1138:=n7_;clear n0_ n1_ n2_ n3_ n4_ n5_ n6_ n7_;clear hb hbox hg;have hnb33:=NB1158_1138.out;have hnc33:=NB1138_1158.out;obtain ⟨⟨hcz34_0,hcz34_1,hcz34_2⟩,hfz34_0,hfz34_1,hfz34_2⟩:=C41_3 BK1158.out))
     have n0_:Aside0 (Kd.R (Kd.int .u8) 5 (((w32.setCell ⟨gb1158,0,none⟩ (.int .i64 ((rd_T71 l0_1 x34_2).f0))).setCell ⟨gb1158,1,none⟩ (.int .i64 ((rd_T71 l0_1 x34_2).f1))).setCell ⟨gb1158,2,none⟩ (.bool ((rd_T71 l0_1 x34_2).f2))) w.heap.size (fun _=>True) u3 x3_2):=⟨(by (with_reducible repeat (first|apply Kd.R_alloc|apply Kd.R_drewN|apply Kd.R_drew));exact Kd.R_mono (Kd.R_far (p:=⟨gb1158,2,none⟩) (Kd.R_far (p:=⟨gb1158,1,none⟩) (Kd.R_far (p:=⟨gb1158,0,none⟩) (Kd.R_types HO_3.out BK1158.out (by decide)) (fun _ hk=>hk.2) (.int .i64 ((rd_T71 l0_1 x34_2).f0))) (fun _ hk=>hk.2) (.int .i64 ((rd_T71 l0_1 x34_2).f1))) (fun _ hk=>hk.2) (.bool ((rd_T71 l0_1 x34_2).f2))) (fun _ hk=>trivial))⟩
     have n1_:Aside0 ((((w32.setCell ⟨gb1158,0,none⟩ (.int .i64 ((rd_T71 l0_1 x34_2).f0))).setCell ⟨gb1158,1,none⟩ (.int .i64 ((rd_T71 l0_1 x34_2).f1))).setCell ⟨gb1158,2,none⟩ (.bool ((rd_T71 l0_1 x34_2).f2))).heap[gb1138]?=some (.cells #[.slice A0_0 l0_0.length c0_0,.slice (some ad1157) l0_1.length c0_1,.int .i64 a0_2,.int .i64 a0_3] 56 (0,0))):=⟨(by (with_reducible repeat (first|refine blk_drewN ?_ _|refine blk_drew ?_|refine blk_alloc ?_ _));refine blk_far ?_ NB1138_1158.out _;(with_reducible repeat (first|refine blk_drewN ?_ _|refine blk_drew ?_|refine blk_alloc ?_ _));refine blk_far ?_ NB1138_1158.out _;(with_reducible repeat (first|refine blk_drewN ?_ _|refine blk_drew ?_|refine blk_alloc ?_ _));refine blk_far ?_ NB1138_1158.out _;(with_reducible repeat (first|refine blk_drewN ?_ _|refine blk_drew ?_|refine blk_alloc ?_ _));exact BK1138.out)⟩
     have n2_:Aside0 ((((w32.setCell ⟨gb1158,0,none⟩ (.int .i64 ((rd_T71 l0_1 x34_2).f0))).setCell ⟨gb1158,1,none⟩ (.int .i64 ((rd_T71 l0_1 x34_2).f1))).setCell ⟨gb1158,2,none⟩ (.bool ((rd_T71 l0_1 x34_2).f2))).heap[gb1158]?=some (.cells #[.int .i64 ((rd_T71 l0_1 x34_2).f0),.int .i64 ((rd_T71 l0_1 x34_2).f1),.bool ((rd_T71 l0_1 x34_2).f2)] 71 (0,0))):=⟨(by (with_reducible repeat (first|refine blk_drewN ?_ _|refine blk_drew ?_|refine blk_alloc ?_ _));apply E41_3;(with_reducible repeat (first|refine blk_drewN ?_ _|refine blk_drew ?_|refine blk_alloc ?_ _));exact BK1158.out)⟩
     have n3_:Aside0 (Below w.heap.size w (((w32.setCell ⟨gb1158,0,none⟩ (.int .i64 ((rd_T71 l0_1 x34_2).f0))).setCell ⟨gb1158,1,none⟩ (.int .i64 ((rd_T71 l0_1 x34_2).f1))).setCell ⟨gb1158,2,none⟩ (.bool ((rd_T71 l0_1 x34_2).f2)))):=⟨Z41_10⟩
     (try clear HO_3)
     (try clear BK1138)
     (try clear BK1158)
     (try clear HB)
     generalize (((w32.setCell ⟨gb1158,0,none⟩ (.int .i64 ((rd_T71 l0_1 x34_2).f0))).setCell ⟨gb1158,1,none⟩ (.int .i64 ((rd_T71 l0_1 x34_2).f1))).setCell ⟨gb1158,2,none⟩ (.bool ((rd_T71 l0_1 x34_2).f2)))=w35 at n0_ n1_ n2_ n3_ ⊢
     have HO_3:=n0_
     have BK1138:=n1_
     have BK1158:=n2_
     have HB:=n3_
     clear n0_ n1_ n2_ n3_
     have n0_:=Aside0.mk (Kd.R_drew HO_3.out)
     have n1_:=Aside0.mk (blk_drew BK1138.out)
     have n2_:=Aside0.mk (blk_drew BK1158.out)
     have n3_:=Aside0.mk (below_drew1 HB.out)
     clear HO_3
     clear BK1138
     clear BK1158
     clear HB
     have HO_3:=n0_
     have BK1138:=n1_
     have BK1158:=n2_
     have HB:=n3_
     clear n0_ n1_ n2_ n3_
     obtain ⟨Ao37,co37,eo37⟩:=Kd.R_slice HO_3.out
     (first|subst eo37|(injection eo37 with f1_ f2_ f3_;have f4_:=f1_.symm;have f5_:=f3_.symm;clear f1_ f2_ f3_;subst f4_;subst f5_))
     refine start_ (n:=12) (S:=fun w'=>w'.cell? ⟨gb1158,0,none⟩=some (.int .i64 ((rd_T71 l0_1 x34_2).f0))∧w'.cell? ⟨gb1158,1,none⟩=some (.int .i64 ((rd_T71 l0_1 x34_2).f1))∧w'.cell? ⟨gb1158,2,none⟩=some (.bool ((rd_T71 l0_1 x34_2).f2))) (ds:=[]) #[false,false,false,false,false,false,false,false,false,false,false,false] (by kernel_rfl) rfl rfl ⟨(blk_cell BK1158.out 0).trans rfl,(blk_cell BK1158.out 1).trans rfl,(blk_cell BK1158.out 2).trans rfl⟩ (fun hHeld=>?_);refine with_tabW impl_PutState.tab13 impl_PutState.bits13 (fun HT_ HW_=>?_)
     generalize w35.drew=w36 at HO_3 BK1138 BK1158 HB hHeld ⊢
     refine pz 0 38 (M41_12 1) (b:=Z41_20) (h:=?_)
     refine pz 1 39 (M41_12 3) (b:=Z41_20) (h:=?_)
     refine pz 4 42 (M41_12 19) (b:=Z41_20) (h:=?_)
     refine pz 7 45 (M41_12 147) (b:=Z41_20) (h:=?_)
     refine tz 2 40 (M41_12 151) (r:=Z41_25) (b:=Z41_20) (h:=?_)
     refine tz 5 43 (M41_12 183) (r:=Z41_25) (b:=Z41_20) (h:=?_)
     refine tz 8 46 (M41_12 439) (r:=Z41_25) (b:=Z41_20) (h:=?_)
     refine one_ (i:=3) (N:=some 41) (M41_12 447) rfl rfl (one_of HT_.out (by kernel_rfl)) (by decide) (fun K hK=>?_)
     refine goes_ Try.func92 (by kernel_rfl) rfl #[.slice Ao37 x3_2.length co37,.int .i64 ((rd_T71 l0_1 x34_2).f0)] (by rfl) rfl rfl Z41_15 ?_
     with_reducible refine (impl_PutNum.calls _ _ x3_2 ((rd_T71 l0_1 x34_2).f0) t1159 _ ?side1 ?side2 A28.out).mono ?_
     (case side1=>repeat (first|exact (Kd.R_reads' HO_3.out).2.2|(with_reducible refine Kd.C_alloc ?_ _)|(with_reducible refine Kd.C_drewN ?_ _)|(with_reducible refine Kd.C_drew ?_)))
     (case side2=>exact (Kd.R_reads' HO_3.out).2.1)
     rintro e w38 ⟨v1160,rfl,ho0,hb⟩
     refine ⟨_,rfl,?_⟩
     have n0_:=Aside0.mk Z41_17
     have n1_:=Aside0.mk (Kd.R_lower (Kd.R_new' ho0 (Kd.R_lt Z41_24)) (below_size Z41_10))
     have n2_:=Aside0.mk Z41_4
     have n3_:=Aside0.mk Z41_3
     have n4_:=Aside0.mk Z41_8
     clear HO_3
     clear BK1138
     clear BK1158
     clear HB
     have HO_3:=n0_
     have HO1161:=n1_
     have BK1138:=n2_
     have BK1158:=n3_
     have HB:=n4_
     clear n0_ n1_ n2_ n3_ n4_
     (try clear hb)
     (try clear hb2)
     (try clear hk)
     (try clear hi)
     (try clear ho0)
     obtain ⟨Ao39,co39,eo39⟩:=Kd.R_slice HO1161.out
     (first|subst eo39|(injection eo39 with f1_ f2_ f3_;have f4_:=f1_.symm;have f5_:=f3_.symm;clear f1_ f2_ f3_;subst f4_;subst f5_))
     refine hK.out _ _ (C41_3 BK1158.out).1 (fun hHeld=>?_)
     clear hK K
     refine norm_ (a':=?_) ?_ ?_
     rotate_left
     ·show Act.put _ (some 41) _=_
      simp only [Act.put,List.setIfInBounds_toArray,List.set_cons_zero,List.set_cons_succ,i64_w,i32_w]
      rfl
     refine one_ (i:=6) (N:=some 44) (M41_12 511) rfl rfl (one_of HT_.out (by kernel_rfl)) (by decide) (fun K hK=>?_)
     refine goes_ Try.func92 (by kernel_rfl) rfl #[.slice Ao39 t1159.length co39,.int .i64 ((rd_T71 l0_1 x34_2).f1)] (by rfl) rfl rfl Z41_15 ?_
     with_reducible refine (impl_PutNum.calls _ _ t1159 ((rd_T71 l0_1 x34_2).f1) t1162 _ ?side1 ?side2 A29.out).mono ?_
     (case side1=>repeat (first|exact (Kd.R_reads' HO1161.out).2.2|(with_reducible refine Kd.C_alloc ?_ _)|(with_reducible refine Kd.C_drewN ?_ _)|(with_reducible refine Kd.C_drew ?_)))
     (case side2=>exact (Kd.R_reads' HO1161.out).2.1)
     rintro e w40 ⟨v1163,rfl,ho0,hb⟩
     refine ⟨_,rfl,?_⟩
     have n0_:=Aside0.mk Z41_17
     have n1_:=Aside0.mk Z41_16
     have n2_:=Aside0.mk (Kd.R_lower (Kd.R_new' (Kd.R_new' ho0 (Kd.R_lt Z41_24)) (Kd.R_lt Z41_22)) (below_size Z41_10))
     have n3_:=Aside0.mk Z41_4
     have n4_:=Aside0.mk Z41_3
     have n5_:=Aside0.mk Z41_8
     clear HO_3
     clear HO1161
     clear BK1138
     clear BK1158
     clear HB
     have HO_3:=n0_
     have HO1161:=n1_
     have HO1164:=n2_
     have BK1138:=n3_
     have BK1158:=n4_
     have HB:=n5_
     clear n0_ n1_ n2_ n3_ n4_ n5_
     (try clear hb)
     (try clear hb2)
     (try clear hk)
     (try clear hi)
     (try clear ho0)
     refine hK.out _ _ (C41_3 BK1158.out).1 (fun hHeld=>?_)
     clear hK K
     refine norm_ (a':=?_) ?_ ?_
     rotate_left
     ·show Act.put _ (some 44) _=_
      simp only [Act.put,List.setIfInBounds_toArray,List.set_cons_zero,List.set_cons_succ,i64_w,i32_w]
      rfl
     refine one_ (i:=9) (N:=some 47) (M41_12 1023) rfl rfl (one_of HT_.out (by kernel_rfl)) (by decide) (fun K hK=>?_)
     refine goes_ Try.func91 (by kernel_rfl) rfl #[.bool ((rd_T71 l0_1 x34_2).f2)] (by rfl) rfl rfl Z41_15 ?_
     with_reducible refine (impl_bit.calls ((rd_T71 l0_1 x34_2).f2) t1165 _ A30.out).mono ?_
     rintro e w' ⟨rfl,⟨nd,rfl⟩⟩
     refine ⟨_,rfl,?_⟩
     obtain ⟨Ao41,co41,eo41⟩:=Kd.R_slice HO1164.out
     (first|subst eo41|(injection eo41 with f1_ f2_ f3_;have f4_:=f1_.symm;have f5_:=f3_.symm;clear f1_ f2_ f3_;subst f4_;subst f5_))
     refine hK.out _ _ (C41_3 BK1158.out).1 (fun hHeld=>?_)
     clear hK K
     refine norm_ (a':=?_) ?_ ?_
     rotate_left
     ·show Act.put _ (some 47) _=_
      simp only [Act.put,List.setIfInBounds_toArray,List.set_cons_zero,List.set_cons_succ,i64_w,i32_w]
      rfl
     refine one_ (i:=10) (N:=some 48) (M41_12 2047) rfl rfl (one_of HT_.out (by kernel_rfl)) (by decide) (fun K hK=>?_)
     refine goes_ Try.func92 (by kernel_rfl) rfl #[.slice Ao41 t1162.length co41,.int .i64 t1165] (by rfl) rfl rfl Z41_15 ?_
     with_reducible refine (impl_PutNum.calls _ _ t1162 t1165 t1166 _ ?side1 ?side2 A31.out).mono ?_
     (case side1=>repeat (first|exact (Kd.R_reads' HO1164.out).2.2|(with_reducible refine Kd.C_alloc ?_ _)|(with_reducible refine Kd.C_drewN ?_ _)|(with_reducible refine Kd.C_drew ?_)))
     (case side2=>exact (Kd.R_reads' HO1164.out).2.1)
     rintro e w42 ⟨v1167,rfl,ho0,hb⟩
     refine ⟨_,rfl,?_⟩
     have n0_:=Aside0.mk Z41_17
     have n1_:=Aside0.mk Z41_16
     have n2_:=Aside0.mk (Kd.R_elder' Z41_23 (Kd.R_base ho0) hb)
     have n3_:=Aside0.mk (Kd.R_lower (Kd.R_new' (Kd.R_new' (Kd.R_new' ho0 (Kd.R_lt Z41_24)) (Kd.R_lt Z41_22)) (Kd.R_lt Z41_23)) (below_size Z41_10))
     have n4_:=Aside0.mk Z41_4
     have n5_:=Aside0.mk Z41_3
     have n6_:=Aside0.mk Z41_8
     clear HO_3
     clear HO1161
     clear HO1164
     clear BK1138
     clear BK1158
     clear HB
     have HO_3:=n0_
     have HO1161:=n1_
     have HO1164:=n2_
     have HO1168:=n3_
     have BK1138:=n4_
     have BK1158:=n5_
     have HB:=n6_
     clear n0_ n1_ n2_ n3_ n4_ n5_ n6_
     (try clear hb)
     (try clear hb2)
     (try clear hk)
     (try clear hi)
     (try clear ho0)
     refine hK.out _ _ (C41_3 BK1158.out).1 (fun hHeld=>?_)
     clear hK K
     refine norm_ (a':=?_) ?_ ?_
     rotate_left
     ·show Act.put _ (some 48) _=_
      simp only [Act.put,List.setIfInBounds_toArray,List.set_cons_zero,List.set_cons_succ,i64_w,i32_w]
      rfl
     refine pz 11 3 (M41_12 4095) (b:=Z41_20) (h:=?_)
     refine done_ (done_of HT_.out (by kernel_rfl)) ?_
     try go_wp2
     go_roundg k2
     case measure=>have:=HK1.out;have:=HK2.out;omega
     case rel=>exact ⟨(t1166),(wrap64 (x34_2+1)),Z41_27,H',⟨(by have:=HK1.out;have:=HK2.out;omega)⟩,⟨(by (with_reducible repeat (first|apply Kd.R_alloc|apply Kd.R_drewN|apply Kd.R_drew));exact Kd.R_mono HO1168.out (fun _ hk=>trivial))⟩,⟨Z41_19⟩,⟨Z41_10⟩⟩
end Go.Proofs.Ytfkidiagmekleaa.QAll
