import Derived.Test.YtfkidiagmekleaaNVZ
import Derived.Test.YtfkidiagmekleaaNHOkI
import Derived.Test.YtfkidiagmekleaaNQAllx0
import Derived.Test.YtfkidiagmekleaaNRBas
import Derived.Test.YtfkidiagmekleaaNRIGn
import Derived.Test.YtfkidiagmekleaaNRIGp
namespace Go.Proofs.Ytfkidiagmekleaa.QAll
open Go.RowKit Go.Proofs.YtfkidiagmekleaaW.PrintWords Go.Proofs.YtfkidiagmekleaaW.PrintLast Go.Proofs.YtfkidiagmekleaaW.PrintMore
attribute [local go_sem] max2_int min2_int max_two min_two max_three min_three max_four min_four
set_option linter.unusedVariables false
set_option linter.unusedSimpArgs false
def M51_17 (k:Nat):Array Bool:=((List.range 17).map fun j=>k.testBit j).toArray
theorem Z51_1 {p:Prop} (h:p:=by exact (blk_below (g:=gb1385) (o := .cells #[.slice none 0 0,.slice none 0 0,.int .i64 x1386002_5,.int .i64 x1386003_5] 56 (0,0)) (by (with_reducible repeat (first|refine blk_drewN ?_ _|refine blk_drew ?_|refine blk_alloc ?_ _));refine blk_far ?_ NB1385_1390.out _;(with_reducible repeat (first|refine blk_drewN ?_ _|refine blk_drew ?_|refine blk_alloc ?_ _));refine blk_far ?_ NB1385_1390.out _;(with_reducible repeat (first|refine blk_drewN ?_ _|refine blk_drew ?_|refine blk_alloc ?_ _));exact BK1385.out) hb)):p:=h
theorem Z51_5 {p:Prop} (h:p:=by (with_reducible repeat (first|apply Kd.R_alloc|apply Kd.R_drewN|apply Kd.R_drew));exact (Kd.R_mono (Kd.R_far (p:=⟨gb1390,3,none⟩) (Kd.R_far (p:=⟨gb1390,2,none⟩) (Kd.R_types HO_1391000.out BK1390.out (by decide)) (fun _ hk=>hk.2) (.int .i64 (rd t1414 (ji68)))) (fun _ hk=>hk.2) (.int .i64 (rd t1414 (ji71)))) (fun _ h_=>h_.1))):p:=h
theorem Z51_2 {p:Prop} (h:p:=by exact (Kd.R_below Z51_5 hb)):p:=h
theorem Z51_6 {p:Prop} (h:p:=by (with_reducible repeat (first|apply Kd.R_alloc|apply Kd.R_drewN|apply Kd.R_drew));exact (Kd.R_mono (Kd.R_far (p:=⟨gb1390,3,none⟩) (Kd.R_far (p:=⟨gb1390,2,none⟩) (Kd.R_types HO_1391001.out BK1390.out (by decide)) (fun _ hk=>hk.2) (.int .i64 (rd t1414 (ji68)))) (fun _ hk=>hk.2) (.int .i64 (rd t1414 (ji71)))) (fun _ h_=>h_.1))):p:=h
theorem Z51_3 {p:Prop} (h:p:=by exact (Kd.R_below Z51_6 hb)):p:=h
theorem Z51_4 {p:Prop} (h:p:=by exact (Kd.R_below (by (with_reducible repeat (first|apply Kd.R_alloc|apply Kd.R_drewN|apply Kd.R_drew));exact (Kd.R_mono (Kd.R_far (p:=⟨gb1390,3,none⟩) (Kd.R_far (p:=⟨gb1390,2,none⟩) (Kd.R_types HO_12.out BK1390.out (by decide)) (fun _ hk=>hk.2) (.int .i64 (rd t1414 (ji68)))) (fun _ hk=>hk.2) (.int .i64 (rd t1414 (ji71)))) (fun _ h_=>h_.1))) hb)):p:=h
theorem Z51_38 {p:Prop} (h:p:=by (with_reducible repeat (first|refine blk_drewN ?_ _|refine blk_drew ?_|refine blk_alloc ?_ _));exact BK1385.out):p:=h
theorem Z51_7 {p:Prop} (h:p:=by exact ((by rw [hg];exact Nat.ne_of_lt (blk_lt (g:=gb1385) (o := .cells #[.slice none 0 0,.slice none 0 0,.int .i64 x1386002_2,.int .i64 x1386003_2] 56 (0,0)) Z51_38):gb1385≠gb1406))):p:=h
theorem Z51_8 {p:Prop} (h:p:=by exact ((by rw [hg];exact Nat.ne_of_gt (blk_lt (g:=gb1385) (o := .cells #[.slice none 0 0,.slice none 0 0,.int .i64 x1386002_2,.int .i64 x1386003_2] 56 (0,0)) Z51_38):gb1406≠gb1385))):p:=h
theorem Z51_39 {p:Prop} (h:p:=by (with_reducible repeat (first|refine blk_drewN ?_ _|refine blk_drew ?_|refine blk_alloc ?_ _));exact BK1390.out):p:=h
theorem Z51_9 {p:Prop} (h:p:=by exact ((by rw [hg];exact Nat.ne_of_lt (blk_lt (g:=gb1390) (o := .cells #[u1391000,.slice none 0 0,.int .i64 0,.int .i64 0] 56 (0,0)) Z51_39):gb1390≠gb1406))):p:=h
theorem Z51_10 {p:Prop} (h:p:=by exact ((by rw [hg];exact Nat.ne_of_gt (blk_lt (g:=gb1390) (o := .cells #[u1391000,.slice none 0 0,.int .i64 0,.int .i64 0] 56 (0,0)) Z51_39):gb1406≠gb1390))):p:=h
theorem Z51_11 {p:Prop} (h:p:=by (with_reducible repeat (first|refine blk_drewN ?_ _|refine blk_drew ?_|refine blk_alloc ?_ _));refine blk_far ?_ NB1385_1390.out _;(with_reducible repeat (first|refine blk_drewN ?_ _|refine blk_drew ?_|refine blk_alloc ?_ _));exact BK1385.out):p:=h
theorem Z51_22 {p:Prop} (h:p:=by repeat (first|(with_reducible first|exact HB.out|apply below_alloc|apply pw_below_drewN|apply below_drew1|refine below_set ?_ GE1385.out|refine below_set ?_ GE1390.out)|exact HB.out)):p:=h
theorem Z51_12 {p:Prop} (h:p:=by exact ((by rw [hg];exact (below_size Z51_22):w.heap.size≤gb1406))):p:=h
theorem Z51_13 {p:Prop} (h:p:=by exact (blk_below (g:=gb1385) (o := .cells #[.slice none 0 0,.slice none 0 0,.int .i64 x1386002_2,.int .i64 x1386003_2] 56 (0,0)) Z51_38 hb)):p:=h
theorem Z51_14 {p:Prop} (h:p:=by (with_reducible repeat (first|refine blk_drewN ?_ _|refine blk_drew ?_|refine blk_alloc ?_ _));apply E_z2;(with_reducible repeat (first|refine blk_drewN ?_ _|refine blk_drew ?_|refine blk_alloc ?_ _));exact BK1406.out):p:=h
theorem Z51_15 {p:Prop} (h:p:=by (with_reducible repeat (first|refine blk_drewN ?_ _|refine blk_drew ?_|refine blk_alloc ?_ _));apply E_z3;(with_reducible repeat (first|refine blk_drewN ?_ _|refine blk_drew ?_|refine blk_alloc ?_ _));exact BK1385.out):p:=h
theorem Z51_16 {p:Prop} (h:p:=by repeat (first|(with_reducible first|exact HB.out|apply below_alloc|apply pw_below_drewN|apply below_drew1|refine below_set ?_ GE1385.out|refine below_set ?_ GE1390.out|refine below_set ?_ GE1406.out)|exact HB.out)):p:=h
theorem Z51_17 {p:Prop} (h:p:=by exact (blk_below (g:=gb1390) (o := .cells #[u1391000,.slice none 0 0,.int .i64 0,.int .i64 0] 56 (0,0)) Z51_39 hb)):p:=h
theorem Z51_28 {p:Prop} (h:p:=by repeat (first|(with_reducible first|exact HB.out|apply below_alloc|apply pw_below_drewN|apply below_drew1|refine below_set ?_ GE1385.out)|exact HB.out)):p:=h
theorem Z51_18 {p:Prop} (h:p:=by exact ((by rw [hg];exact (below_size Z51_28):w.heap.size≤gb1390))):p:=h
theorem Z51_19 {p:Prop} (h:p:=by rw [← hq_];exact Z51_22):p:=h
theorem Z51_23 {p:Prop} (h:p:=by repeat (first|(with_reducible exact HR1422.out)|(with_reducible refine Kd.C_alloc ?_ _)|(with_reducible refine Kd.C_drewN ?_ _)|(with_reducible refine Kd.C_drew ?_)|exact HR1422.out)):p:=h
theorem Z51_20 {p:Prop} (h:p:=by rw [← hq_];exact Z51_23):p:=h
theorem Z51_21 {p:Prop} (h:p:=by exact (below_step Z51_22 hb)):p:=h
theorem Z51_24 {p:Prop} (h:p:=by exact ((by rw [hg];exact (below_size (by repeat (first|(with_reducible first|exact HB.out|apply below_alloc|apply pw_below_drewN|apply below_drew1)|exact HB.out))):w.heap.size≤gb1385))):p:=h
theorem Z51_25 {p:Prop} (h:p:=by first|rfl|(simp [errW_none,errW_some]<;>rfl)|(simp only [← hji68,←hji71];first|rfl|(simp [errW_none,errW_some]<;>rfl))|(simp [*,errW_none,errW_some]<;>rfl)):p:=h
theorem Z51_26 {p:Prop} (h:p:=by (try simp only [List.map_toArray,List.map_cons,List.map_nil]);first|done|(simp only [hji68,hji71];rfl)|rfl|(simp only [List.length_drop,List.length_take];rfl)):p:=h
theorem Z51_40 {p:Prop} (h:p:=by (with_reducible repeat (first|apply Kd.R_alloc|apply Kd.R_drewN|apply Kd.R_drew));exact HO_1391000.out):p:=h
theorem Z51_27 {p:Prop} (h:p:=by exact (Kd.R_below (Kd.R_elderB Z51_40 gb1406 (Nat.le_of_eq hg.symm)) hb)):p:=h
theorem Z51_29 {p:Prop} (h:p:=by rw [← hq_];exact Z51_38):p:=h
theorem Z51_30 {p:Prop} (h:p:=by rw [← hq_];exact Z51_39):p:=h
theorem Z51_31 {p:Prop} (h:p:=by first|exact Kd.R_nil _ _ _ _ _|exact Kd.N_nil _ _ _ _ _|exact Kd.V_nil _ _ _ _ _|exact Kd.Q_nil _ _ _ _ _|exact Kd.S_nil _ _ _ _ _):p:=h
theorem Z51_32 {p:Prop} (h:p:=by (try simp only [List.map_toArray,List.map_cons,List.map_nil]);first|done|rfl|(simp only [List.length_drop,List.length_take];rfl)):p:=h
theorem Z51_33 {p:Prop} (h:p:=by rw [← hq_];exact Z51_40):p:=h
theorem Z51_41 {p:Prop} (h:p:=by (with_reducible repeat (first|apply Kd.R_alloc|apply Kd.R_drewN|apply Kd.R_drew));exact HO_1391001.out):p:=h
theorem Z51_34 {p:Prop} (h:p:=by rw [← hq_];exact Z51_41):p:=h
theorem Z51_44 {p:Prop} (h:p:=by (with_reducible repeat (first|apply Kd.R_alloc|apply Kd.R_drewN|apply Kd.R_drew));exact HO_12.out):p:=h
theorem Z51_35 {p:Prop} (h:p:=by rw [← hq_];exact Z51_44):p:=h
theorem Z51_36 {p:Prop} (h:p:=by exact (Kd.R_below Z51_40 hb)):p:=h
theorem Z51_37 {p:Prop} (h:p:=by first|(rw [add_block];exact hn1432_0)|(show (Addr.add _ _).block≠_;rw [add_block];exact hn1432_0)|exact hn1432_0):p:=h
theorem Z51_42 {p:Prop} (h:p:=by simp only [Act.put,List.setIfInBounds_toArray,List.set_cons_zero,List.set_cons_succ,i64_w,i32_w];rfl):p:=h
theorem Z51_43 {p:Prop} (h:p:=by (with_reducible repeat (first|apply Kd.R_alloc|apply Kd.R_drewN|apply Kd.R_drew));exact HO1418.out):p:=h
theorem Z51_45 {p:Prop} (h:p:=by first|rfl|(simp [errW_none,errW_some]<;>rfl)|(simp [*,errW_none,errW_some]<;>rfl)):p:=h
theorem Z51_46 {p:Prop} (h:p:=by rintro w' ⟨s0,s1,s2,s3,s4,s5,s6⟩;go_simp;with_reducible rfl):p:=h
theorem Z51_47 {p:Prop} (h:p:=by first|(with_reducible assumption)|assumption):p:=h
theorem Z51_48 {p:Prop} (h:p:=by first|rfl|(simp;done)|(simp [*];done)):p:=h
mutual
def impl_GetState.j0:Nat→List Int→Int→Int→Bool→Option ((List (S25))×(List (S71))×Int×Int×Bool)
 | 0,_,_,_,_=>none
 | k+1,x0,x4,x5,x27=>if x27=true then (some (([]:List (S25)),([]:List (S71)),0,0,false)) else (impl_GetState.l0 k x0 x5 x4 0 ([]:List (S25)) 0 0)
def impl_GetState.l0:Nat→List Int→Int→Int→Int→List (S25)→Int→Int→Option ((List (S25))×(List (S71))×Int×Int×Bool)
 | 0,_,_,_,_,_,_,_=>none
 | k+1,x0,x5,x30,x31,x1391000,x1391002,x1391003=>if x31 < x30 then ((impl_GetPiece.f k x0 x5).bind fun bt1391=>(if bt1391.2.2.2.2.2.2.2.2.2.2.2.2.2.2=true then (if x1391000.length < 1466015503701 then (impl_GetState.l0 k x0 bt1391.2.2.2.2.2.2.2.2.2.2.2.2.2.1 x30 (wrap64 (x31+1)) (x1391000++[(⟨bt1391.1,bt1391.2.1,bt1391.2.2.1,bt1391.2.2.2.1,bt1391.2.2.2.2.1,bt1391.2.2.2.2.2.1,bt1391.2.2.2.2.2.2.1,bt1391.2.2.2.2.2.2.2.1,bt1391.2.2.2.2.2.2.2.2.1,bt1391.2.2.2.2.2.2.2.2.2.1,bt1391.2.2.2.2.2.2.2.2.2.2.1,bt1391.2.2.2.2.2.2.2.2.2.2.2.1,bt1391.2.2.2.2.2.2.2.2.2.2.2.2.1⟩:S25)]) x1391002 x1391003) else (none)) else (some (([]:List (S25)),([]:List (S71)),0,0,false)))) else ((impl_GetNum.f k x0 x5).bind fun bt1410=>(if bt1410.2.2=true then ((impl_from.f bt1410.1 2 3).bind fun t1413=>(impl_GetState.j2 k x0 bt1410.2.1 bt1410.1 (!t1413) x1391000 x1391002 x1391003)) else (impl_GetState.j2 k x0 bt1410.2.1 bt1410.1 true x1391000 x1391002 x1391003)))
def impl_GetState.j2:Nat→List Int→Int→Int→Bool→List (S25)→Int→Int→Option ((List (S25))×(List (S71))×Int×Int×Bool)
 | 0,_,_,_,_,_,_,_=>none
 | k+1,x0,x5,x11,x64,x1391000,x1391002,x1391003=>if x64=true then (some (([]:List (S25)),([]:List (S71)),0,0,false)) else ((impl_getNums.f k x0 x5 (wrap64 ((wrap64 (3*x11))+2))).bind fun bt1414=>(if bt1414.2.2=true then (impl_GetState.j3 k x11 bt1414.1 (bt1414.2.1 != (x0.length:Int)) x1391000 x1391002 x1391003) else (impl_GetState.j3 k x11 bt1414.1 true x1391000 x1391002 x1391003)))
def impl_GetState.j3:Nat→Int→List Int→Bool→List (S25)→Int→Int→Option ((List (S25))×(List (S71))×Int×Int×Bool)
 | 0,_,_,_,_,_,_=>none
 | k+1,x11,x12,x83,x1391000,x1391002,x1391003=>if x83=true then (some (([]:List (S25)),([]:List (S71)),0,0,false)) else (impl_GetState.l1 k x11 x12 x11 0 x1391000 ([]:List (S71)) x1391002 x1391003)
def impl_GetState.l1:Nat→Int→List Int→Int→Int→List (S25)→List (S71)→Int→Int→Option ((List (S25))×(List (S71))×Int×Int×Bool)
 | 0,_,_,_,_,_,_,_,_=>none
 | k+1,x11,x12,x85,x86,x1391000,x1391001,x1391002,x1391003=>if x86 < x85 then (if 0≤(wrap64 (3*x86)) then (if (wrap64 (3*x86))≤(wrap64 ((wrap64 (3*x86))+3)) then (if (wrap64 ((wrap64 (3*x86))+3))≤(x12.length:Int) then ((some ((x12.take ((wrap64 ((wrap64 (3*x86))+3)):Int).toNat).drop ((wrap64 (3*x86)):Int).toNat:List Int)).bind fun y1419=>(if 2 < (y1419.length:Int) then ((impl_from.f (rd y1419 2) 0 1).bind fun t1424=>(if t1424=true then (if 0 < (y1419.length:Int) then (if 1 < (y1419.length:Int) then (if x1391001.length < 5864062014805 then (impl_GetState.l1 k x11 x12 x85 (wrap64 (x86+1)) x1391000 (x1391001++[(⟨rd y1419 0,rd y1419 1,((rd y1419 2)==1)⟩:S71)]) x1391002 x1391003) else (none)) else (none)) else (none)) else (some (([]:List (S25)),([]:List (S71)),0,0,false)))) else (none))) else (none)) else (none)) else (none)) else (if 0≤(wrap64 (3*x11)) then (if (wrap64 (3*x11)) < (x12.length:Int) then (if 0≤(wrap64 ((wrap64 (3*x11))+1)) then (if (wrap64 ((wrap64 (3*x11))+1)) < (x12.length:Int) then ((impl_StateOk.f k x1391000 x1391001 (rd x12 (wrap64 (3*x11))) (rd x12 (wrap64 ((wrap64 (3*x11))+1)))).bind fun t1433=>(if t1433=true then (some (x1391000,x1391001,rd x12 (wrap64 (3*x11)),rd x12 (wrap64 ((wrap64 (3*x11))+1)),true)) else (some (([]:List (S25)),([]:List (S71)),0,0,false)))) else (none)) else (none)) else (none)) else (none))
end
def impl_GetState.f (k:Nat) (l0:List Int):Option ((List (S25))×(List (S71))×Int×Int×Bool):=(impl_GetNum.f k l0 0).bind fun bt1386=>(if bt1386.2.2=true then ((impl_from.f bt1386.1 0 8).bind fun t1389=>(impl_GetState.j0 k l0 bt1386.1 bt1386.2.1 (!t1389))) else (impl_GetState.j0 k l0 bt1386.1 bt1386.2.1 true))
def impl_GetState.T25:Bool×List (List Nat×List Nat):=(true,[([],[]),([0],[0]),([],[]),([2],[2]),([3],[3]),([],[]),([5],[5]),([6],[6]),([],[]),([8],[8]),([9],[9]),([10],[10]),([4,7,11],[4,7,11]),([12],[12]),([1,13],[1,13]),([0,1,2,3,4,5,6,7,8,9,10,11,12,13,14],[]),([15,14,14,0,1,2,3,4,5,6,7,8,9,10,11,12,13,14],[14,15])])
def impl_GetState.B25:List Nat:=[0,1,0,4,12,0,32,96,0,256,768,1792,4092,8188,16383,32767,65535]
theorem impl_GetState.tab25:rtab .any (opsOf Try.f64 25)=impl_GetState.T25:=by kernel_rfl
theorem impl_GetState.bits25:waitsOk impl_GetState.T25.2 impl_GetState.B25=true:=by kernel_rfl
set_option maxHeartbeats 8000000 in
set_option maxRecDepth 100000 in
theorem impl_GetState.calls (k:Nat) (A0:Option Addr) (c0:Nat) (l0:List Int) (r1:List (S25)) (r2:List (S71)) (r3:Int) (r4:Int) (r5:Bool) (w:World) (hr0:Kd.C (Kd.int .u8) w A0 l0.length l0) (hc0:l0.length≤c0) (h:impl_GetState.f k l0=some (r1,r2,r3,r4,r5)) :
  Calls Try.prog 64 #[.slice A0 l0.length c0] w fun e w'=>∃ v0_ v1_:Value,e = .returned (.tuple #[.agg #[v0_,v1_,.int .i64 r3,.int .i64 r4],.bool r5])∧Kd.R k25 25 w' w.heap.size (fun _=>True) v0_ r1∧Kd.R k71 71 w' w.heap.size (fun _=>True) v1_ r2∧Below w.heap.size w w':=by
 have hu56:=Try.underlying56
 have hu25:=Try.underlying25
 have hu71:=Try.underlying71
 have HR0:=Aside0.mk hr0
 have HC0:=Aside0.mk hc0
 clear hr0 hc0
 have HB:=Aside0.mk (Below.refl w.heap.size w)
 have H:((impl_GetNum.f k l0 0).bind fun bt1386=>(if bt1386.2.2=true then ((impl_from.f bt1386.1 0 8).bind fun t1389=>(impl_GetState.j0 k l0 bt1386.1 bt1386.2.1 (!t1389))) else (impl_GetState.j0 k l0 bt1386.1 bt1386.2.1 true)))=some (r1,r2,r3,r4,r5):=h
 clear h
 replace H:=Option.bind_eq_some_iff.mp H
 obtain ⟨⟨t1386,t1387,t1388⟩,A20,H⟩:=H
 (try dsimp only at H)
 have A2:=Aside0.mk A20
 clear A20
 have HC3:=Aside0.mk H
 clear H
 go_enter Try.func64,Try.ntmps64
 go_upto_region 2 with (first|((with_reducible refine gate_dst (N:=2) rfl ?_);(try (refine gate_guard (by rfl) ?_;dsimp only));refine box_event ?hg (N:=2) ?hd (cs:=#[.slice none 0 0,.slice none 0 0,.int .i64 0,.int .i64 0]) (t:=56) ?hr ?_;(case hd=>rfl);(case hg=>rfl);(case hr=>first|(go_simp;done)|(go_simp;rfl));intro gb1385 hg w4 hbox hb;have n0_:=Aside0.mk (below_step (by repeat (first|(with_reducible first|exact HB.out|apply below_alloc|apply pw_below_drewN|apply below_drew1)|exact HB.out)) hb);have n1_:=Aside0.mk (hbox);have n2_:=Aside0.mk Z51_24;have n3_:=Aside0.mk Z51_24;clear HB;have HB:=n0_;have BK1385:=n1_;have GW1385:=n2_;have GE1385:=n3_;clear n0_ n1_ n2_ n3_;clear hb hbox hg)|((with_reducible refine gate_callee (f:=124) rfl ?_);refine goesL_ (some 17) rfl rfl Try.func124 (by kernel_rfl) rfl #[.slice A0 l0.length c0,.int .i64 0] rfl Z51_32 ?_;(with_reducible refine (impl_GetNum.calls k _ _ l0 0 t1386 t1387 t1388 _ ?side1 ?side2 A2.out).mono ?_);(case side1=>repeat (first|exact (Kd.C_below HR0.out HB.out)|(with_reducible refine Kd.C_alloc ?_ _)|(with_reducible refine Kd.C_drewN ?_ _)|(with_reducible refine Kd.C_drew ?_)));(case side2=>exact HC0.out);rintro e w' ⟨rfl,⟨nd,rfl⟩⟩;refine ⟨_,rfl,?_⟩))
 (try simp only [Act.put,List.setIfInBounds_toArray,List.set_cons_zero,List.set_cons_succ])
 go_cut [27] (fun v27 wc=>∃ (kq:Nat) (x27_2:Bool),v27 = .bool x27_2∧Aside0 (impl_GetState.j0 kq l0 t1386 t1387 x27_2=some (r1,r2,r3,r4,r5))∧Aside0 (kq≤k)∧Aside0 (wc.heap[gb1385]?=some (.cells #[(.slice none 0 0),(.slice none 0 0),.int .i64 0,.int .i64 0] 56 (0,0)))∧Aside0 (Below w.heap.size w wc))
 case first =>
  have H:=HC3.out
  clear HC3
  by_cases c5:t1388=true
  rotate_left
  ·replace c5:=Bool.eq_false_iff.mpr c5
   subst c5
   have H1:(impl_GetState.j0 k l0 t1386 t1387 true)=some (r1,r2,r3,r4,r5):=by rw [if_neg (show ¬ (false=true) by decide)] at H;exact H
   clear H
   have H:=H1
   clear H1
   have H':=Aside0.mk H
   clear H
   go_wp2
   go_meet
   case rel=>exact ⟨_,(true),Z51_48,H',⟨(by first|omega|exact Nat.le_refl _)⟩,⟨Z51_38⟩,⟨Z51_28⟩⟩
  subst c5
  have H1:((impl_from.f t1386 0 8).bind fun t1389=>(impl_GetState.j0 k l0 t1386 t1387 (!t1389)))=some (r1,r2,r3,r4,r5):=by rw [if_pos rfl] at H;exact H
  clear H
  have H:=H1
  clear H1
  replace H:=Option.bind_eq_some_iff.mp H
  obtain ⟨t1389,A60,H⟩:=H
  replace H:(impl_GetState.j0 k l0 t1386 t1387 (!t1389))=some (r1,r2,r3,r4,r5):=H
  have A6:=Aside0.mk A60
  clear A60
  have H':=Aside0.mk H
  clear H
  go_wp2_with (first|(go_at_call 81;(with_reducible refine (impl_from.calls t1386 0 8 t1389 _ A6.out).mono ?_);rintro e w' ⟨rfl,⟨nd,rfl⟩⟩))
  go_meet
  case rel=>exact ⟨_,(!t1389),Z51_48,H',⟨(by first|omega|exact Nat.le_refl _)⟩,⟨Z51_38⟩,⟨Z51_28⟩⟩
 case rest =>
  clear HC3
  try clear c1
  try clear p2
  try clear c5
  try clear c6
  obtain ⟨kq,x27_2,rfl,HA,HJ2,BK1385,HB⟩:=hcut
  cases kq with
  | zero=>exact absurd HA.out (by simp [impl_GetState.j0])
  | succ kj2 =>
   have H:=HA.out
   clear HA
   simp only [impl_GetState.j0] at H
   by_cases c7:x27_2=true
   ·subst c7
    have H1:(some (([]:List (S25)),([]:List (S71)),0,0,false))=some (r1,r2,r3,r4,r5):=by rw [if_pos rfl] at H;exact H
    clear H
    have H:=H1
    clear H1
    simp only [Option.some.injEq,Prod.mk.injEq] at H
    obtain ⟨rfl,rfl,rfl,rfl,rfl⟩:=H
    obtain ⟨⟨hcz8_0,hcz8_1,hcz8_2,hcz8_3⟩,hfz8_0,hfz8_1,hfz8_2,hfz8_3⟩:=C_z1 BK1385.out
    go_wp2
    refine bodyPost_ret (results_ct rfl _ _ gb1385 56 #[.slice none 0 0,.slice none 0 0,.int .i64 0,.int .i64 0] (0,0) _ rfl Z51_15 Try.underlying56 rfl (by kernel_rfl)) rfl ?_
    exact ⟨_,_,Z51_45,Z51_31,Z51_31,Z51_28⟩
   replace c7:=Bool.eq_false_iff.mpr c7
   subst c7
   have H1:(impl_GetState.l0 kj2 l0 t1387 t1386 0 ([]:List (S25)) 0 0)=some (r1,r2,r3,r4,r5):=by rw [if_neg (show ¬ (false=true) by decide)] at H;exact H
   clear H
   have H:=H1
   clear H1
   have H':=Aside0.mk H
   clear H
   go_wp2_with (first|((with_reducible refine gate_dst (N:=7) rfl ?_);(try (refine gate_guard (by rfl) ?_;dsimp only));refine box_event ?hg (N:=7) ?hd (cs:=#[.slice none 0 0,.slice none 0 0,.int .i64 0,.int .i64 0]) (t:=56) ?hr ?_;(case hd=>rfl);(case hg=>rfl);(case hr=>first|(go_simp;done)|(go_simp;rfl));intro gb1390 hg w9 hbox hb;have n0_:=Aside0.mk (blk_below (g:=gb1385) (o := .cells #[.slice none 0 0,.slice none 0 0,.int .i64 0,.int .i64 0] 56 (0,0)) Z51_38 hb);have n1_:=Aside0.mk (below_step Z51_28 hb);have n2_:=Aside0.mk (hbox);have n3_:=Aside0.mk Z51_18;have n4_:=Aside0.mk Z51_18;have n5_:=Aside0.mk ((by rw [hg];exact Nat.ne_of_lt (blk_lt (g:=gb1385) (o := .cells #[.slice none 0 0,.slice none 0 0,.int .i64 0,.int .i64 0] 56 (0,0)) Z51_38):gb1385≠gb1390));have n6_:=Aside0.mk ((by rw [hg];exact Nat.ne_of_gt (blk_lt (g:=gb1385) (o := .cells #[.slice none 0 0,.slice none 0 0,.int .i64 0,.int .i64 0] 56 (0,0)) Z51_38):gb1390≠gb1385));clear BK1385;clear HB;have BK1385:=n0_;have HB:=n1_;have BK1390:=n2_;have GW1390:=n3_;have GE1390:=n4_;have NB1385_1390:=n5_;have NB1390_1385:=n6_;clear n0_ n1_ n2_ n3_ n4_ n5_ n6_;clear hb hbox hg;have hnb10:=NB1390_1385.out;have hnc10:=NB1385_1390.out;obtain ⟨⟨hcz11_0,hcz11_1,hcz11_2,hcz11_3⟩,hfz11_0,hfz11_1,hfz11_2,hfz11_3⟩:=C_z1 BK1390.out))
   go_loopg [5,31] kj2 (fun kq v5 v31 w'=>∃ (x5_2:Int) (x31_2:Int) (x1386002_2:Int) (x1386003_2:Int) (x1391000_2:List (S25)) (u1391000:Value),v5 = .int .i64 x5_2∧v31 = .int .i64 x31_2∧Aside0 (impl_GetState.l0 kq l0 x5_2 t1386 x31_2 x1391000_2 0 0=some (r1,r2,r3,r4,r5))∧Aside0 (kq≤kj2)∧Aside0 (Kd.R k25 25 w' w.heap.size (fun _=>True) u1391000 x1391000_2)∧Aside0 (w'.heap[gb1385]?=some (.cells #[(.slice none 0 0),(.slice none 0 0),.int .i64 x1386002_2,.int .i64 x1386003_2] 56 (0,0)))∧Aside0 (w'.heap[gb1390]?=some (.cells #[u1391000,(.slice none 0 0),.int .i64 0,.int .i64 0] 56 (0,0)))∧Aside0 (Below w.heap.size w w'))
   case atStart=>exact ⟨(t1387),(0),(0),(0),(([]:List (S25))),(.slice none 0 0),Z51_48,Z51_48,H',⟨Nat.le_refl _⟩,⟨Z51_31⟩,⟨(by (with_reducible repeat (first|refine blk_drewN ?_ _|refine blk_drew ?_|refine blk_alloc ?_ _));refine blk_far ?_ NB1385_1390.out _;(with_reducible repeat (first|refine blk_drewN ?_ _|refine blk_drew ?_|refine blk_alloc ?_ _));refine blk_far ?_ NB1385_1390.out _;(with_reducible repeat (first|refine blk_drewN ?_ _|refine blk_drew ?_|refine blk_alloc ?_ _));refine blk_far ?_ NB1385_1390.out _;(with_reducible repeat (first|refine blk_drewN ?_ _|refine blk_drew ?_|refine blk_alloc ?_ _));refine blk_far ?_ NB1385_1390.out _;(with_reducible repeat (first|refine blk_drewN ?_ _|refine blk_drew ?_|refine blk_alloc ?_ _));exact BK1385.out)⟩,⟨(by (with_reducible repeat (first|refine blk_drewN ?_ _|refine blk_drew ?_|refine blk_alloc ?_ _));apply E_z3;(with_reducible repeat (first|refine blk_drewN ?_ _|refine blk_drew ?_|refine blk_alloc ?_ _));exact BK1390.out)⟩,⟨Z51_22⟩⟩
   case round =>
    clear H'
    try clear c1
    try clear p2
    try clear c5
    try clear c6
    try clear c7
    try clear c10
    try clear hcz11_0
    try clear hcz11_1
    try clear hcz11_2
    try clear hcz11_3
    try clear hcz8_0
    try clear hcz8_1
    try clear hcz8_2
    try clear hcz8_3
    try clear hfz11_0
    try clear hfz11_1
    try clear hfz11_2
    try clear hfz11_3
    try clear hfz8_0
    try clear hfz8_1
    try clear hfz8_2
    try clear hfz8_3
    try clear p2
    obtain ⟨x5_2,x31_2,x1386002_2,x1386003_2,x1391000_2,u1391000,rfl,rfl,HA,HK2,HO_1391000,BK1385,BK1390,HB⟩:=hrel
    cases gk with
    | zero=>exact absurd HA.out (by simp [impl_GetState.l0])
    | succ k2 =>
     have H:=HA.out
     clear HA
     simp only [impl_GetState.l0] at H
     by_cases c12:x31_2 < t1386
     ·rw [if_pos c12] at H
      have c12b0:decide (x31_2 < t1386)=true:=decide_eq_true c12
      clear c12
      replace H:=Option.bind_eq_some_iff.mp H
      obtain ⟨⟨t1391,t1392,t1393,t1394,t1395,t1396,t1397,t1398,t1399,t1400,t1401,t1402,t1403,t1404,t1405⟩,A130,H⟩:=H
      (try dsimp only at H)
      have A13:=Aside0.mk A130
      clear A130
      by_cases c14:t1405=true
      rotate_left
      ·replace c14:=Bool.eq_false_iff.mpr c14
       subst c14
       have H1:(some (([]:List (S25)),([]:List (S71)),0,0,false))=some (r1,r2,r3,r4,r5):=by rw [if_neg (show ¬ (false=true) by decide)] at H;exact H
       clear H
       have H:=H1
       clear H1
       simp only [Option.some.injEq,Prod.mk.injEq] at H
       obtain ⟨rfl,rfl,rfl,rfl,rfl⟩:=H
       go_wp2_with (first|((with_reducible refine gate_callee (f:=31) rfl ?_);refine goesL_ (some 36) rfl rfl Try.func31 (by kernel_rfl) rfl #[.slice A0 l0.length c0,.int .i64 x5_2] rfl Z51_32 ?_;(with_reducible refine (impl_GetPiece.calls k2 _ _ l0 x5_2 t1391 t1392 t1393 t1394 t1395 t1396 t1397 t1398 t1399 t1400 t1401 t1402 t1403 t1404 false _ ?side1 ?side2 A13.out).mono ?_);(case side1=>repeat (first|exact (Kd.C_below HR0.out HB.out)|(with_reducible refine Kd.C_alloc ?_ _)|(with_reducible refine Kd.C_drewN ?_ _)|(with_reducible refine Kd.C_drew ?_)));(case side2=>exact HC0.out);rintro e w26 ⟨rfl,hb⟩;refine ⟨_,rfl,?_⟩;have n0_:=Aside0.mk Z51_36;have n1_:=Aside0.mk Z51_13;have n2_:=Aside0.mk Z51_17;have n3_:=Aside0.mk Z51_21;clear HO_1391000;clear BK1385;clear BK1390;clear HB;have HO_1391000:=n0_;have BK1385:=n1_;have BK1390:=n2_;have HB:=n3_;clear n0_ n1_ n2_ n3_;(try clear hb);(try clear hb2);(try clear hk);(try clear hi))|((with_reducible refine gate_dst (N:=8) rfl ?_);(try (refine gate_guard (by rfl) ?_;dsimp only));refine box_event ?hg (N:=8) ?hd (cs:=#[.int .i64 0,.int .i64 0,.int .i64 0,.int .i64 0,.int .i64 0,.int .i64 0,.int .i64 0,.int .i64 0,.int .i64 0,.int .i64 0,.int .i64 0,.bool false,.bool false]) (t:=25) ?hr ?_;(case hd=>rfl);(case hg=>rfl);(case hr=>first|(go_simp;done)|(go_simp;rfl));intro gb1406 hg w27 hbox hb;have n0_:=Aside0.mk Z51_27;have n1_:=Aside0.mk Z51_13;have n2_:=Aside0.mk Z51_17;have n3_:=Aside0.mk Z51_21;have n4_:=Aside0.mk (hbox);have n5_:=Aside0.mk Z51_12;have n6_:=Aside0.mk Z51_12;have n7_:=Aside0.mk Z51_7;have n8_:=Aside0.mk Z51_8;have n9_:=Aside0.mk Z51_9;have n10_:=Aside0.mk Z51_10;clear HO_1391000;clear BK1385;clear BK1390;clear HB;have HO_1391000:=n0_;have BK1385:=n1_;have BK1390:=n2_;have HB:=n3_;have BK1406:=n4_;have GW1406:=n5_;have GE1406:=n6_;have NB1385_1406:=n7_;have NB1406_1385:=n8_;have NB1390_1406:=n9_;have NB1406_1390:=n10_;clear n0_ n1_ n2_ n3_ n4_ n5_ n6_ n7_ n8_ n9_ n10_;clear hb hbox hg;have hnb28:=NB1406_1385.out;have hnc28:=NB1385_1406.out;have hnb29:=NB1406_1390.out;have hnc29:=NB1390_1406.out;obtain ⟨⟨hcz30_0,hcz30_1,hcz30_2,hcz30_3,hcz30_4,hcz30_5,hcz30_6,hcz30_7,hcz30_8,hcz30_9,hcz30_10,hcz30_11,hcz30_12⟩,hfz30_0,hfz30_1,hfz30_2,hfz30_3,hfz30_4,hfz30_5,hfz30_6,hfz30_7,hfz30_8,hfz30_9,hfz30_10,hfz30_11,hfz30_12⟩:=C_z0 BK1406.out;have hnb31:=NB1385_1390.out;have hnc31:=NB1390_1385.out;obtain ⟨⟨hcz32_0,hcz32_1,hcz32_2,hcz32_3⟩,hfz32_0,hfz32_1,hfz32_2,hfz32_3⟩:=C_z1 BK1385.out))
       refine bodyPost_ret (results_ct rfl _ _ gb1385 56 #[.slice none 0 0,.slice none 0 0,.int .i64 0,.int .i64 0] (0,0) _ rfl (by (with_reducible repeat (first|refine blk_drewN ?_ _|refine blk_drew ?_|refine blk_alloc ?_ _));apply E_z3;(with_reducible repeat (first|refine blk_drewN ?_ _|refine blk_drew ?_|refine blk_alloc ?_ _));refine blk_far ?_ NB1385_1406.out _;(with_reducible repeat (first|refine blk_drewN ?_ _|refine blk_drew ?_|refine blk_alloc ?_ _));refine blk_far ?_ NB1385_1406.out _;(with_reducible repeat (first|refine blk_drewN ?_ _|refine blk_drew ?_|refine blk_alloc ?_ _));refine blk_far ?_ NB1385_1406.out _;(with_reducible repeat (first|refine blk_drewN ?_ _|refine blk_drew ?_|refine blk_alloc ?_ _));refine blk_far ?_ NB1385_1406.out _;(with_reducible repeat (first|refine blk_drewN ?_ _|refine blk_drew ?_|refine blk_alloc ?_ _));refine blk_far ?_ NB1385_1406.out _;(with_reducible repeat (first|refine blk_drewN ?_ _|refine blk_drew ?_|refine blk_alloc ?_ _));refine blk_far ?_ NB1385_1406.out _;(with_reducible repeat (first|refine blk_drewN ?_ _|refine blk_drew ?_|refine blk_alloc ?_ _));refine blk_far ?_ NB1385_1406.out _;(with_reducible repeat (first|refine blk_drewN ?_ _|refine blk_drew ?_|refine blk_alloc ?_ _));refine blk_far ?_ NB1385_1406.out _;(with_reducible repeat (first|refine blk_drewN ?_ _|refine blk_drew ?_|refine blk_alloc ?_ _));refine blk_far ?_ NB1385_1406.out _;(with_reducible repeat (first|refine blk_drewN ?_ _|refine blk_drew ?_|refine blk_alloc ?_ _));refine blk_far ?_ NB1385_1406.out _;(with_reducible repeat (first|refine blk_drewN ?_ _|refine blk_drew ?_|refine blk_alloc ?_ _));refine blk_far ?_ NB1385_1406.out _;(with_reducible repeat (first|refine blk_drewN ?_ _|refine blk_drew ?_|refine blk_alloc ?_ _));refine blk_far ?_ NB1385_1406.out _;(with_reducible repeat (first|refine blk_drewN ?_ _|refine blk_drew ?_|refine blk_alloc ?_ _));refine blk_far ?_ NB1385_1406.out _;(with_reducible repeat (first|refine blk_drewN ?_ _|refine blk_drew ?_|refine blk_alloc ?_ _));exact BK1385.out) Try.underlying56 rfl (by kernel_rfl)) rfl ?_
       exact ⟨_,_,Z51_45,Z51_31,Z51_31,Z51_16⟩
      subst c14
      rw [if_pos rfl] at H
      by_cases c15:x1391000_2.length < 1466015503701
      rotate_left
      ·rw [if_neg c15] at H
       exact absurd H (by simp)
      rw [if_pos c15] at H
      have LMc15:=Aside0.mk c15
      clear c15
      obtain ⟨y1407,hy1407⟩:∃ y_:List (S25),y_=(x1391000_2++[(⟨t1391,t1392,t1393,t1394,t1395,t1396,t1397,t1398,t1399,t1400,t1401,t1402,t1403⟩:S25)]):=⟨_,rfl⟩
      replace H:(impl_GetState.l0 k2 l0 t1404 t1386 (wrap64 (x31_2+1)) y1407 0 0)=some (r1,r2,r3,r4,r5):=by first|(rw [hy1407];with_reducible exact H)|(have H2_:=(Option.bind_some _ _).symm.trans H;rw [hy1407];with_reducible exact H2_)|(have H2_:=(Option.bind_some _ _).symm.trans H;with_reducible exact H2_)|with_reducible exact H|(rw [hy1407];exact H)|exact H
      have Ny1407:=Aside0.mk hy1407
      clear hy1407
      have H':=Aside0.mk H
      clear H
      go_wp2_with (first|((with_reducible refine gate_callee (f:=31) rfl ?_);refine goesL_ (some 36) rfl rfl Try.func31 (by kernel_rfl) rfl #[.slice A0 l0.length c0,.int .i64 x5_2] rfl Z51_32 ?_;(with_reducible refine (impl_GetPiece.calls k2 _ _ l0 x5_2 t1391 t1392 t1393 t1394 t1395 t1396 t1397 t1398 t1399 t1400 t1401 t1402 t1403 t1404 true _ ?side1 ?side2 A13.out).mono ?_);(case side1=>repeat (first|exact (Kd.C_below HR0.out HB.out)|(with_reducible refine Kd.C_alloc ?_ _)|(with_reducible refine Kd.C_drewN ?_ _)|(with_reducible refine Kd.C_drew ?_)));(case side2=>exact HC0.out);rintro e w16 ⟨rfl,hb⟩;refine ⟨_,rfl,?_⟩;have n0_:=Aside0.mk Z51_36;have n1_:=Aside0.mk Z51_13;have n2_:=Aside0.mk Z51_17;have n3_:=Aside0.mk Z51_21;clear HO_1391000;clear BK1385;clear BK1390;clear HB;have HO_1391000:=n0_;have BK1385:=n1_;have BK1390:=n2_;have HB:=n3_;clear n0_ n1_ n2_ n3_;(try clear hb);(try clear hb2);(try clear hk);(try clear hi))|((with_reducible refine gate_dst (N:=8) rfl ?_);(try (refine gate_guard (by rfl) ?_;dsimp only));refine box_event ?hg (N:=8) ?hd (cs:=#[.int .i64 0,.int .i64 0,.int .i64 0,.int .i64 0,.int .i64 0,.int .i64 0,.int .i64 0,.int .i64 0,.int .i64 0,.int .i64 0,.int .i64 0,.bool false,.bool false]) (t:=25) ?hr ?_;(case hd=>rfl);(case hg=>rfl);(case hr=>first|(go_simp;done)|(go_simp;rfl));intro gb1406 hg w17 hbox hb;have n0_:=Aside0.mk Z51_27;have n1_:=Aside0.mk Z51_13;have n2_:=Aside0.mk Z51_17;have n3_:=Aside0.mk Z51_21;have n4_:=Aside0.mk (hbox);have n5_:=Aside0.mk Z51_12;have n6_:=Aside0.mk Z51_12;have n7_:=Aside0.mk Z51_7;have n8_:=Aside0.mk Z51_8;have n9_:=Aside0.mk Z51_9;have n10_:=Aside0.mk Z51_10;clear HO_1391000;clear BK1385;clear BK1390;clear HB;have HO_1391000:=n0_;have BK1385:=n1_;have BK1390:=n2_;have HB:=n3_;have BK1406:=n4_;have GW1406:=n5_;have GE1406:=n6_;have NB1385_1406:=n7_;have NB1406_1385:=n8_;have NB1390_1406:=n9_;have NB1406_1390:=n10_;clear n0_ n1_ n2_ n3_ n4_ n5_ n6_ n7_ n8_ n9_ n10_;clear hb hbox hg;have hnb18:=NB1406_1385.out;have hnc18:=NB1385_1406.out;have hnb19:=NB1406_1390.out;have hnc19:=NB1390_1406.out;obtain ⟨⟨hcz20_0,hcz20_1,hcz20_2,hcz20_3,hcz20_4,hcz20_5,hcz20_6,hcz20_7,hcz20_8,hcz20_9,hcz20_10,hcz20_11,hcz20_12⟩,hfz20_0,hfz20_1,hfz20_2,hfz20_3,hfz20_4,hfz20_5,hfz20_6,hfz20_7,hfz20_8,hfz20_9,hfz20_10,hfz20_11,hfz20_12⟩:=C_z0 BK1406.out;have hnb21:=NB1390_1385.out;have hnc21:=NB1385_1390.out;obtain ⟨⟨hcz22_0,hcz22_1,hcz22_2,hcz22_3⟩,hfz22_0,hfz22_1,hfz22_2,hfz22_3⟩:=C_z1 BK1390.out)|((with_reducible refine gate_builtin (b := .append) (xs:=#[.tmp 44,.tmp 46]) rfl ?_);(try (refine gate_guard (by rfl) ?_;dsimp only));at_builtin;refine Kd.R_append k25 (w0:=w) w.heap.size rfl (.tmp 44) (.tmp 46) 53 25 (.agg #[(.int .i64 0),(.int .i64 0),(.int .i64 0),(.int .i64 0),(.int .i64 0),(.int .i64 0),(.int .i64 0),(.int .i64 0),(.int .i64 0),(.int .i64 0),(.int .i64 0),(.bool false),(.bool false)]) 96 rfl Try.underlying53 info25 rfl (by decide) (by omega) u1391000 x1391000_2 (⟨t1391,t1392,t1393,t1394,t1395,t1396,t1397,t1398,t1399,t1400,t1401,t1402,t1403⟩:S25) [.int .i64 t1391,.int .i64 t1392,.int .i64 t1393,.int .i64 t1394,.int .i64 t1395,.int .i64 t1396,.int .i64 t1397,.int .i64 t1398,.int .i64 t1399,.int .i64 t1400,.int .i64 t1401,.bool t1402,.bool t1403] (fun k_=>k_≠gb1406) (fun _=>False) rfl (by first|(go_simp;done)|(go_simp;rfl)) ?aP (fun _ hk=>hk.elim) ?aF ?aO ?aB ?aS ?aL ?_;(case aP=>exact k25_mkM _ _ _ (⟨t1391,t1392,t1393,t1394,t1395,t1396,t1397,t1398,t1399,t1400,t1401,t1402,t1403⟩:S25));(case aB=>exact Z51_16);(case aF=>exact (fun k_ hk=>Kd.freshB (g:=gb1406) (o := .cells #[.int .i64 t1391,.int .i64 t1392,.int .i64 t1393,.int .i64 t1394,.int .i64 t1395,.int .i64 t1396,.int .i64 t1397,.int .i64 t1398,.int .i64 t1399,.int .i64 t1400,.int .i64 t1401,.bool t1402,.bool t1403] 25 (0,0)) Z51_14 k_ hk));(case aO=>exact (by (with_reducible repeat (first|apply Kd.R_alloc|apply Kd.R_drewN|apply Kd.R_drew));exact Kd.R_mono (Kd.R_far (p:=⟨gb1406,12,none⟩) (Kd.R_far (p:=⟨gb1406,11,none⟩) (Kd.R_far (p:=⟨gb1406,10,none⟩) (Kd.R_far (p:=⟨gb1406,9,none⟩) (Kd.R_far (p:=⟨gb1406,8,none⟩) (Kd.R_far (p:=⟨gb1406,7,none⟩) (Kd.R_far (p:=⟨gb1406,6,none⟩) (Kd.R_far (p:=⟨gb1406,5,none⟩) (Kd.R_far (p:=⟨gb1406,4,none⟩) (Kd.R_far (p:=⟨gb1406,3,none⟩) (Kd.R_far (p:=⟨gb1406,2,none⟩) (Kd.R_far (p:=⟨gb1406,1,none⟩) (Kd.R_far (p:=⟨gb1406,0,none⟩) (Kd.R_mono HO_1391000.out (fun k_ hk=>(⟨hk,hk.2⟩:_∧k_≠gb1406))) (fun _ hk=>hk.2) (.int .i64 t1391)) (fun _ hk=>hk.2) (.int .i64 t1392)) (fun _ hk=>hk.2) (.int .i64 t1393)) (fun _ hk=>hk.2) (.int .i64 t1394)) (fun _ hk=>hk.2) (.int .i64 t1395)) (fun _ hk=>hk.2) (.int .i64 t1396)) (fun _ hk=>hk.2) (.int .i64 t1397)) (fun _ hk=>hk.2) (.int .i64 t1398)) (fun _ hk=>hk.2) (.int .i64 t1399)) (fun _ hk=>hk.2) (.int .i64 t1400)) (fun _ hk=>hk.2) (.int .i64 t1401)) (fun _ hk=>hk.2) (.bool t1402)) (fun _ hk=>hk.2) (.bool t1403)) (fun _ hk=>hk.1.2)));(case aS=>exact (below_size Z51_16));(case aL=>have:=LMc15.out;omega);intro v1408 w23 ho hb hg hat;rw [← Ny1407.out] at ho;have n0_:=Aside0.mk (blk_grown (g:=gb1385) (o := .cells #[.slice none 0 0,.slice none 0 0,.int .i64 x1386002_2,.int .i64 x1386003_2] 56 (0,0)) (by (with_reducible repeat (first|refine blk_drewN ?_ _|refine blk_drew ?_|refine blk_alloc ?_ _));refine blk_far ?_ NB1385_1406.out _;(with_reducible repeat (first|refine blk_drewN ?_ _|refine blk_drew ?_|refine blk_alloc ?_ _));refine blk_far ?_ NB1385_1406.out _;(with_reducible repeat (first|refine blk_drewN ?_ _|refine blk_drew ?_|refine blk_alloc ?_ _));refine blk_far ?_ NB1385_1406.out _;(with_reducible repeat (first|refine blk_drewN ?_ _|refine blk_drew ?_|refine blk_alloc ?_ _));refine blk_far ?_ NB1385_1406.out _;(with_reducible repeat (first|refine blk_drewN ?_ _|refine blk_drew ?_|refine blk_alloc ?_ _));refine blk_far ?_ NB1385_1406.out _;(with_reducible repeat (first|refine blk_drewN ?_ _|refine blk_drew ?_|refine blk_alloc ?_ _));refine blk_far ?_ NB1385_1406.out _;(with_reducible repeat (first|refine blk_drewN ?_ _|refine blk_drew ?_|refine blk_alloc ?_ _));refine blk_far ?_ NB1385_1406.out _;(with_reducible repeat (first|refine blk_drewN ?_ _|refine blk_drew ?_|refine blk_alloc ?_ _));refine blk_far ?_ NB1385_1406.out _;(with_reducible repeat (first|refine blk_drewN ?_ _|refine blk_drew ?_|refine blk_alloc ?_ _));refine blk_far ?_ NB1385_1406.out _;(with_reducible repeat (first|refine blk_drewN ?_ _|refine blk_drew ?_|refine blk_alloc ?_ _));refine blk_far ?_ NB1385_1406.out _;(with_reducible repeat (first|refine blk_drewN ?_ _|refine blk_drew ?_|refine blk_alloc ?_ _));refine blk_far ?_ NB1385_1406.out _;(with_reducible repeat (first|refine blk_drewN ?_ _|refine blk_drew ?_|refine blk_alloc ?_ _));refine blk_far ?_ NB1385_1406.out _;(with_reducible repeat (first|refine blk_drewN ?_ _|refine blk_drew ?_|refine blk_alloc ?_ _));refine blk_far ?_ NB1385_1406.out _;(with_reducible repeat (first|refine blk_drewN ?_ _|refine blk_drew ?_|refine blk_alloc ?_ _));exact BK1385.out) hg (Kd.R_ne HO_1391000.out BK1385.out (by decide)));have n1_:=Aside0.mk (blk_grown (g:=gb1390) (o := .cells #[u1391000,.slice none 0 0,.int .i64 0,.int .i64 0] 56 (0,0)) (by (with_reducible repeat (first|refine blk_drewN ?_ _|refine blk_drew ?_|refine blk_alloc ?_ _));refine blk_far ?_ NB1390_1406.out _;(with_reducible repeat (first|refine blk_drewN ?_ _|refine blk_drew ?_|refine blk_alloc ?_ _));refine blk_far ?_ NB1390_1406.out _;(with_reducible repeat (first|refine blk_drewN ?_ _|refine blk_drew ?_|refine blk_alloc ?_ _));refine blk_far ?_ NB1390_1406.out _;(with_reducible repeat (first|refine blk_drewN ?_ _|refine blk_drew ?_|refine blk_alloc ?_ _));refine blk_far ?_ NB1390_1406.out _;(with_reducible repeat (first|refine blk_drewN ?_ _|refine blk_drew ?_|refine blk_alloc ?_ _));refine blk_far ?_ NB1390_1406.out _;(with_reducible repeat (first|refine blk_drewN ?_ _|refine blk_drew ?_|refine blk_alloc ?_ _));refine blk_far ?_ NB1390_1406.out _;(with_reducible repeat (first|refine blk_drewN ?_ _|refine blk_drew ?_|refine blk_alloc ?_ _));refine blk_far ?_ NB1390_1406.out _;(with_reducible repeat (first|refine blk_drewN ?_ _|refine blk_drew ?_|refine blk_alloc ?_ _));refine blk_far ?_ NB1390_1406.out _;(with_reducible repeat (first|refine blk_drewN ?_ _|refine blk_drew ?_|refine blk_alloc ?_ _));refine blk_far ?_ NB1390_1406.out _;(with_reducible repeat (first|refine blk_drewN ?_ _|refine blk_drew ?_|refine blk_alloc ?_ _));refine blk_far ?_ NB1390_1406.out _;(with_reducible repeat (first|refine blk_drewN ?_ _|refine blk_drew ?_|refine blk_alloc ?_ _));refine blk_far ?_ NB1390_1406.out _;(with_reducible repeat (first|refine blk_drewN ?_ _|refine blk_drew ?_|refine blk_alloc ?_ _));refine blk_far ?_ NB1390_1406.out _;(with_reducible repeat (first|refine blk_drewN ?_ _|refine blk_drew ?_|refine blk_alloc ?_ _));refine blk_far ?_ NB1390_1406.out _;(with_reducible repeat (first|refine blk_drewN ?_ _|refine blk_drew ?_|refine blk_alloc ?_ _));exact BK1390.out) hg (Kd.R_ne HO_1391000.out BK1390.out (by decide)));have n2_:=Aside0.mk (blk_grown (g:=gb1406) (o := .cells #[.int .i64 t1391,.int .i64 t1392,.int .i64 t1393,.int .i64 t1394,.int .i64 t1395,.int .i64 t1396,.int .i64 t1397,.int .i64 t1398,.int .i64 t1399,.int .i64 t1400,.int .i64 t1401,.bool t1402,.bool t1403] 25 (0,0)) Z51_14 hg (Kd.R_away HO_1391000.out (fun _ hk=>hk.2)));have n3_:=Aside0.mk (hb);have n4_:=Aside0.mk (ho);clear BK1385;clear BK1390;clear BK1406;clear HB;clear HO_1391000;have BK1385:=n0_;have BK1390:=n1_;have BK1406:=n2_;have HB:=n3_;have HO1409:=n4_;clear n0_ n1_ n2_ n3_ n4_;clear ho hb hg hat;obtain ⟨Ao24,co24,eo24⟩:=Kd.R_slice HO1409.out;subst eo24;obtain ⟨⟨hcz25_0,hcz25_1,hcz25_2,hcz25_3⟩,hfz25_0,hfz25_1,hfz25_2,hfz25_3⟩:=C_z1 BK1390.out))
      go_roundg k2
      case measure=>have:=HJ2.out;have:=HK2.out;omega
      case rel=>exact ⟨(t1404),(wrap64 (x31_2+1)),(x1386002_2),(x1386003_2),(y1407),(.slice Ao24 y1407.length co24),Z51_48,Z51_48,H',⟨(by have:=HJ2.out;have:=HK2.out;omega)⟩,⟨(by (with_reducible repeat (first|apply Kd.R_alloc|apply Kd.R_drewN|apply Kd.R_drew));exact Kd.R_mono (Kd.R_far (p:=⟨gb1390,0,none⟩) (Kd.R_types HO1409.out BK1390.out (by decide)) (fun _ hk=>hk.2) (.slice Ao24 y1407.length co24)) (fun _ hk=>trivial))⟩,⟨Z51_11⟩,⟨(by (with_reducible repeat (first|refine blk_drewN ?_ _|refine blk_drew ?_|refine blk_alloc ?_ _));refine blk_put (cs:=#[u1391000,.slice none 0 0,.int .i64 0,.int .i64 0]) ?_ 0 _ rfl;(with_reducible repeat (first|refine blk_drewN ?_ _|refine blk_drew ?_|refine blk_alloc ?_ _));exact BK1390.out)⟩,⟨Z51_16⟩⟩
     rw [if_neg c12] at H
     have c12b0:decide (x31_2 < t1386)=false:=decide_eq_false c12
     clear c12
     replace H:=Option.bind_eq_some_iff.mp H
     obtain ⟨⟨t1410,t1411,t1412⟩,A330,H⟩:=H
     (try dsimp only at H)
     have A33:=Aside0.mk A330
     clear A330
     have HC34:=Aside0.mk H
     clear H
     go_upto_region 14 with (first|((with_reducible refine gate_callee (f:=124) rfl ?_);refine goesL_ (some 54) rfl rfl Try.func124 (by kernel_rfl) rfl #[.slice A0 l0.length c0,.int .i64 x5_2] rfl Z51_32 ?_;(with_reducible refine (impl_GetNum.calls k2 _ _ l0 x5_2 t1410 t1411 t1412 _ ?side1 ?side2 A33.out).mono ?_);(case side1=>repeat (first|exact (Kd.C_below HR0.out HB.out)|(with_reducible refine Kd.C_alloc ?_ _)|(with_reducible refine Kd.C_drewN ?_ _)|(with_reducible refine Kd.C_drew ?_)));(case side2=>exact HC0.out);rintro e w' ⟨rfl,⟨nd,rfl⟩⟩;refine ⟨_,rfl,?_⟩))
     (try simp only [Act.put,List.setIfInBounds_toArray,List.set_cons_zero,List.set_cons_succ])
     go_cut [64] (fun v64 wc=>∃ (kq:Nat) (x64_33:Bool),v64 = .bool x64_33∧Aside0 (impl_GetState.j2 kq l0 t1411 t1410 x64_33 x1391000_2 0 0=some (r1,r2,r3,r4,r5))∧Aside0 (kq≤k2)∧Aside0 (Kd.R k25 25 wc w.heap.size (fun _=>True) u1391000 x1391000_2)∧Aside0 (wc.heap[gb1385]?=some (.cells #[(.slice none 0 0),(.slice none 0 0),.int .i64 x1386002_2,.int .i64 x1386003_2] 56 (0,0)))∧Aside0 (wc.heap[gb1390]?=some (.cells #[u1391000,(.slice none 0 0),.int .i64 0,.int .i64 0] 56 (0,0)))∧Aside0 (Below w.heap.size w wc))
     case first =>
      have H:=HC34.out
      clear HC34
      by_cases c35:t1412=true
      rotate_left
      ·replace c35:=Bool.eq_false_iff.mpr c35
       subst c35
       have H1:(impl_GetState.j2 k2 l0 t1411 t1410 true x1391000_2 0 0)=some (r1,r2,r3,r4,r5):=by rw [if_neg (show ¬ (false=true) by decide)] at H;exact H
       clear H
       have H:=H1
       clear H1
       have H':=Aside0.mk H
       clear H
       go_wp2
       go_meet
       case rel=>exact ⟨_,(true),Z51_48,H',⟨(by have:=HJ2.out;have:=HK2.out;first|omega|exact Nat.le_refl _)⟩,⟨Z51_40⟩,⟨Z51_38⟩,⟨Z51_39⟩,⟨Z51_22⟩⟩
      subst c35
      have H1:((impl_from.f t1410 2 3).bind fun t1413=>(impl_GetState.j2 k2 l0 t1411 t1410 (!t1413) x1391000_2 0 0))=some (r1,r2,r3,r4,r5):=by rw [if_pos rfl] at H;exact H
      clear H
      have H:=H1
      clear H1
      replace H:=Option.bind_eq_some_iff.mp H
      obtain ⟨t1413,A360,H⟩:=H
      replace H:(impl_GetState.j2 k2 l0 t1411 t1410 (!t1413) x1391000_2 0 0)=some (r1,r2,r3,r4,r5):=H
      have A36:=Aside0.mk A360
      clear A360
      have H':=Aside0.mk H
      clear H
      go_wp2_with (first|(go_at_call 81;(with_reducible refine (impl_from.calls t1410 2 3 t1413 _ A36.out).mono ?_);rintro e w' ⟨rfl,⟨nd,rfl⟩⟩))
      go_meet
      case rel=>exact ⟨_,(!t1413),Z51_48,H',⟨(by have:=HJ2.out;have:=HK2.out;first|omega|exact Nat.le_refl _)⟩,⟨Z51_40⟩,⟨Z51_38⟩,⟨Z51_39⟩,⟨Z51_22⟩⟩
     case rest =>
      clear HC34
      try clear c1
      try clear c2
      try clear p2
      try clear c3
      try clear c5
      try clear c6
      try clear p6
      try clear c7
      try clear c10
      try clear c12
      try clear c12b0
      try clear c14
      try clear c15
      try clear c18
      try clear c19
      try clear c21
      try clear c28
      try clear c29
      try clear c31
      try clear c35
      try clear hcz11_0
      try clear hcz11_1
      try clear hcz11_2
      try clear hcz11_3
      try clear hcz20_0
      try clear hcz20_1
      try clear hcz20_10
      try clear hcz20_11
      try clear hcz20_12
      try clear hcz20_2
      try clear hcz20_3
      try clear hcz20_4
      try clear hcz20_5
      try clear hcz20_6
      try clear hcz20_7
      try clear hcz20_8
      try clear hcz20_9
      try clear hcz22_0
      try clear hcz22_1
      try clear hcz22_2
      try clear hcz22_3
      try clear hcz25_0
      try clear hcz25_1
      try clear hcz25_2
      try clear hcz25_3
      try clear hcz30_0
      try clear hcz30_1
      try clear hcz30_10
      try clear hcz30_11
      try clear hcz30_12
      try clear hcz30_2
      try clear hcz30_3
      try clear hcz30_4
      try clear hcz30_5
      try clear hcz30_6
      try clear hcz30_7
      try clear hcz30_8
      try clear hcz30_9
      try clear hcz32_0
      try clear hcz32_1
      try clear hcz32_2
      try clear hcz32_3
      try clear hcz8_0
      try clear hcz8_1
      try clear hcz8_2
      try clear hcz8_3
      try clear hfz11_0
      try clear hfz11_1
      try clear hfz11_2
      try clear hfz11_3
      try clear hfz20_0
      try clear hfz20_1
      try clear hfz20_10
      try clear hfz20_11
      try clear hfz20_12
      try clear hfz20_2
      try clear hfz20_3
      try clear hfz20_4
      try clear hfz20_5
      try clear hfz20_6
      try clear hfz20_7
      try clear hfz20_8
      try clear hfz20_9
      try clear hfz22_0
      try clear hfz22_1
      try clear hfz22_2
      try clear hfz22_3
      try clear hfz25_0
      try clear hfz25_1
      try clear hfz25_2
      try clear hfz25_3
      try clear hfz30_0
      try clear hfz30_1
      try clear hfz30_10
      try clear hfz30_11
      try clear hfz30_12
      try clear hfz30_2
      try clear hfz30_3
      try clear hfz30_4
      try clear hfz30_5
      try clear hfz30_6
      try clear hfz30_7
      try clear hfz30_8
      try clear hfz30_9
      try clear hfz32_0
      try clear hfz32_1
      try clear hfz32_2
      try clear hfz32_3
      try clear hfz8_0
      try clear hfz8_1
      try clear hfz8_2
      try clear hfz8_3
      try clear p2
      obtain ⟨kq,x64_33,rfl,HA,HJ33,HO_1391000,BK1385,BK1390,HB⟩:=hcut
      cases kq with
      | zero=>exact absurd HA.out (by simp [impl_GetState.j2])
      | succ kj33 =>
       have H:=HA.out
       clear HA
       simp only [impl_GetState.j2] at H
       by_cases c37:x64_33=true
       ·subst c37
        have H1:(some (([]:List (S25)),([]:List (S71)),0,0,false))=some (r1,r2,r3,r4,r5):=by rw [if_pos rfl] at H;exact H
        clear H
        have H:=H1
        clear H1
        simp only [Option.some.injEq,Prod.mk.injEq] at H
        obtain ⟨rfl,rfl,rfl,rfl,rfl⟩:=H
        have hnb38:=NB1385_1390.out
        have hnc38:=NB1390_1385.out
        obtain ⟨⟨hcz39_0,hcz39_1,hcz39_2,hcz39_3⟩,hfz39_0,hfz39_1,hfz39_2,hfz39_3⟩:=C_z1 BK1385.out
        go_wp2
        refine bodyPost_ret (results_ct rfl _ _ gb1385 56 #[.slice none 0 0,.slice none 0 0,.int .i64 0,.int .i64 0] (0,0) _ rfl Z51_15 Try.underlying56 rfl (by kernel_rfl)) rfl ?_
        exact ⟨_,_,Z51_45,Z51_31,Z51_31,Z51_22⟩
       replace c37:=Bool.eq_false_iff.mpr c37
       subst c37
       rw [if_neg (show ¬ (false=true) by decide)] at H
       replace H:=Option.bind_eq_some_iff.mp H
       obtain ⟨⟨t1414,t1415,t1416⟩,A400,H⟩:=H
       (try dsimp only at H)
       have A40:=Aside0.mk A400
       clear A400
       have HC41:=Aside0.mk H
       clear H
       go_upto_region 17 with (first|((with_reducible refine gate_callee (f:=93) rfl ?_);refine goesL_ (some 72) rfl rfl Try.func93 (by kernel_rfl) rfl #[.slice A0 l0.length c0,.int .i64 t1411,.int .i64 (wrap64 ((wrap64 (3*t1410))+2))] rfl Z51_32 ?_;(with_reducible refine (impl_getNums.calls kj33 _ _ l0 t1411 (wrap64 ((wrap64 (3*t1410))+2)) t1414 t1415 t1416 _ ?side1 ?side2 A40.out).mono ?_);(case side1=>repeat (first|exact (Kd.C_below HR0.out HB.out)|(with_reducible refine Kd.C_alloc ?_ _)|(with_reducible refine Kd.C_drewN ?_ _)|(with_reducible refine Kd.C_drew ?_)));(case side2=>exact HC0.out);rintro e w42 ⟨v1417,rfl,ho0,hb⟩;refine ⟨_,rfl,?_⟩;have n0_:=Aside0.mk Z51_36;have n1_:=Aside0.mk (Kd.R_lower ho0 (below_size Z51_22));have n2_:=Aside0.mk Z51_13;have n3_:=Aside0.mk Z51_17;have n4_:=Aside0.mk Z51_21;clear HO_1391000;clear BK1385;clear BK1390;clear HB;have HO_1391000:=n0_;have HO1418:=n1_;have BK1385:=n2_;have BK1390:=n3_;have HB:=n4_;clear n0_ n1_ n2_ n3_ n4_;(try clear hb);(try clear hb2);(try clear hk);(try clear hi);(try clear ho0)))
       (try simp only [Act.put,List.setIfInBounds_toArray,List.set_cons_zero,List.set_cons_succ])
       go_cut [83] (fun v83 wc=>∃ (kq:Nat) (x83_40:Bool),v83 = .bool x83_40∧Aside0 (impl_GetState.j3 kq t1410 t1414 x83_40 x1391000_2 0 0=some (r1,r2,r3,r4,r5))∧Aside0 (kq≤kj33)∧Aside0 (Kd.R (Kd.int .i64) 3 wc w.heap.size (fun _=>True) v1417 t1414)∧Aside0 (Kd.R k25 25 wc w.heap.size (fun _=>True) u1391000 x1391000_2)∧Aside0 (wc.heap[gb1385]?=some (.cells #[(.slice none 0 0),(.slice none 0 0),.int .i64 x1386002_2,.int .i64 x1386003_2] 56 (0,0)))∧Aside0 (wc.heap[gb1390]?=some (.cells #[u1391000,(.slice none 0 0),.int .i64 0,.int .i64 0] 56 (0,0)))∧Aside0 (Below w.heap.size w wc))
       case first =>
        have H:=HC41.out
        clear HC41
        by_cases c43:t1416=true
        ·subst c43
         have H1:(impl_GetState.j3 kj33 t1410 t1414 (t1415 != (l0.length:Int)) x1391000_2 0 0)=some (r1,r2,r3,r4,r5):=by rw [if_pos rfl] at H;exact H
         clear H
         have H:=H1
         clear H1
         have H':=Aside0.mk H
         clear H
         go_wp2
         go_meet
         case rel=>exact ⟨_,((t1415 != (l0.length:Int))),Z51_48,H',⟨(by have:=HJ2.out;have:=HK2.out;have:=HJ33.out;first|omega|exact Nat.le_refl _)⟩,⟨Z51_43⟩,⟨Z51_40⟩,⟨Z51_38⟩,⟨Z51_39⟩,⟨Z51_22⟩⟩
        replace c43:=Bool.eq_false_iff.mpr c43
        subst c43
        have H1:(impl_GetState.j3 kj33 t1410 t1414 true x1391000_2 0 0)=some (r1,r2,r3,r4,r5):=by rw [if_neg (show ¬ (false=true) by decide)] at H;exact H
        clear H
        have H:=H1
        clear H1
        have H':=Aside0.mk H
        clear H
        go_wp2
        go_meet
        case rel=>exact ⟨_,(true),Z51_48,H',⟨(by have:=HJ2.out;have:=HK2.out;have:=HJ33.out;first|omega|exact Nat.le_refl _)⟩,⟨Z51_43⟩,⟨Z51_40⟩,⟨Z51_38⟩,⟨Z51_39⟩,⟨Z51_22⟩⟩
       case rest =>
        clear HC41
        try clear c1
        try clear c2
        try clear p2
        try clear c3
        try clear c4
        try clear c5
        try clear c6
        try clear p6
        try clear c7
        try clear c9
        try clear c10
        try clear c12
        try clear c12b0
        try clear c14
        try clear c15
        try clear c18
        try clear c19
        try clear c21
        try clear c28
        try clear c29
        try clear c31
        try clear c35
        try clear c37
        try clear c38
        try clear c43
        try clear hcz11_0
        try clear hcz11_1
        try clear hcz11_2
        try clear hcz11_3
        try clear hcz20_0
        try clear hcz20_1
        try clear hcz20_10
        try clear hcz20_11
        try clear hcz20_12
        try clear hcz20_2
        try clear hcz20_3
        try clear hcz20_4
        try clear hcz20_5
        try clear hcz20_6
        try clear hcz20_7
        try clear hcz20_8
        try clear hcz20_9
        try clear hcz22_0
        try clear hcz22_1
        try clear hcz22_2
        try clear hcz22_3
        try clear hcz25_0
        try clear hcz25_1
        try clear hcz25_2
        try clear hcz25_3
        try clear hcz30_0
        try clear hcz30_1
        try clear hcz30_10
        try clear hcz30_11
        try clear hcz30_12
        try clear hcz30_2
        try clear hcz30_3
        try clear hcz30_4
        try clear hcz30_5
        try clear hcz30_6
        try clear hcz30_7
        try clear hcz30_8
        try clear hcz30_9
        try clear hcz32_0
        try clear hcz32_1
        try clear hcz32_2
        try clear hcz32_3
        try clear hcz39_0
        try clear hcz39_1
        try clear hcz39_2
        try clear hcz39_3
        try clear hcz8_0
        try clear hcz8_1
        try clear hcz8_2
        try clear hcz8_3
        try clear hfz11_0
        try clear hfz11_1
        try clear hfz11_2
        try clear hfz11_3
        try clear hfz20_0
        try clear hfz20_1
        try clear hfz20_10
        try clear hfz20_11
        try clear hfz20_12
        try clear hfz20_2
        try clear hfz20_3
        try clear hfz20_4
        try clear hfz20_5
        try clear hfz20_6
        try clear hfz20_7
        try clear hfz20_8
        try clear hfz20_9
        try clear hfz22_0
        try clear hfz22_1
        try clear hfz22_2
        try clear hfz22_3
        try clear hfz25_0
        try clear hfz25_1
        try clear hfz25_2
        try clear hfz25_3
        try clear hfz30_0
        try clear hfz30_1
        try clear hfz30_10
        try clear hfz30_11
        try clear hfz30_12
        try clear hfz30_2
        try clear hfz30_3
        try clear hfz30_4
        try clear hfz30_5
        try clear hfz30_6
        try clear hfz30_7
        try clear hfz30_8
        try clear hfz30_9
        try clear hfz32_0
        try clear hfz32_1
        try clear hfz32_2
        try clear hfz32_3
        try clear hfz39_0
        try clear hfz39_1
        try clear hfz39_2
        try clear hfz39_3
        try clear hfz8_0
        try clear hfz8_1
        try clear hfz8_2
        try clear hfz8_3
        try clear p2
        try clear p6
        obtain ⟨kq,x83_40,rfl,HA,HJ40,HO_12,HO_1391000,BK1385,BK1390,HB⟩:=hcut
        cases kq with
        | zero=>exact absurd HA.out (by simp [impl_GetState.j3])
        | succ kj40 =>
         have H:=HA.out
         clear HA
         simp only [impl_GetState.j3] at H
         by_cases c44:x83_40=true
         ·subst c44
          have H1:(some (([]:List (S25)),([]:List (S71)),0,0,false))=some (r1,r2,r3,r4,r5):=by rw [if_pos rfl] at H;exact H
          clear H
          have H:=H1
          clear H1
          simp only [Option.some.injEq,Prod.mk.injEq] at H
          obtain ⟨rfl,rfl,rfl,rfl,rfl⟩:=H
          have hnb45:=NB1385_1390.out
          have hnc45:=NB1390_1385.out
          obtain ⟨⟨hcz46_0,hcz46_1,hcz46_2,hcz46_3⟩,hfz46_0,hfz46_1,hfz46_2,hfz46_3⟩:=C_z1 BK1385.out
          go_wp2
          refine bodyPost_ret (results_ct rfl _ _ gb1385 56 #[.slice none 0 0,.slice none 0 0,.int .i64 0,.int .i64 0] (0,0) _ rfl Z51_15 Try.underlying56 rfl (by kernel_rfl)) rfl ?_
          exact ⟨_,_,Z51_45,Z51_31,Z51_31,Z51_22⟩
         replace c44:=Bool.eq_false_iff.mpr c44
         subst c44
         have H1:(impl_GetState.l1 kj40 t1410 t1414 t1410 0 x1391000_2 ([]:List (S71)) 0 0)=some (r1,r2,r3,r4,r5):=by rw [if_neg (show ¬ (false=true) by decide)] at H;exact H
         clear H
         have H:=H1
         clear H1
         have H':=Aside0.mk H
         clear H
         go_wp2
         go_loopg [86] kj40 (fun kq v86 w'=>∃ (x86_5:Int) (x1386002_5:Int) (x1386003_5:Int) (x1391001_5:List (S71)) (u1391001:Value),v86 = .int .i64 x86_5∧Aside0 (impl_GetState.l1 kq t1410 t1414 t1410 x86_5 x1391000_2 x1391001_5 0 0=some (r1,r2,r3,r4,r5))∧Aside0 (kq≤kj40)∧Aside0 (Kd.R (Kd.int .i64) 3 w' w.heap.size (fun _=>True) v1417 t1414)∧Aside0 (Kd.R k25 25 w' w.heap.size (fun _=>True) u1391000 x1391000_2)∧Aside0 (Kd.R k71 71 w' w.heap.size (fun _=>True) u1391001 x1391001_5)∧Aside0 (w'.heap[gb1385]?=some (.cells #[(.slice none 0 0),(.slice none 0 0),.int .i64 x1386002_5,.int .i64 x1386003_5] 56 (0,0)))∧Aside0 (w'.heap[gb1390]?=some (.cells #[u1391000,u1391001,.int .i64 0,.int .i64 0] 56 (0,0)))∧Aside0 (Below w.heap.size w w'))
         case atStart=>exact ⟨(0),(x1386002_2),(x1386003_2),(([]:List (S71))),(.slice none 0 0),Z51_48,H',⟨Nat.le_refl _⟩,⟨Z51_44⟩,⟨Z51_40⟩,⟨Z51_31⟩,⟨Z51_38⟩,⟨Z51_39⟩,⟨Z51_22⟩⟩
         case round =>
          clear H'
          try clear c1
          try clear c2
          try clear p2
          try clear c3
          try clear c4
          try clear c5
          try clear c6
          try clear p6
          try clear c7
          try clear c9
          try clear c10
          try clear c12
          try clear c12b0
          try clear c14
          try clear c15
          try clear c18
          try clear c19
          try clear c21
          try clear c28
          try clear c29
          try clear c31
          try clear c35
          try clear c37
          try clear c38
          try clear c43
          try clear c44
          try clear c45
          try clear hcz11_0
          try clear hcz11_1
          try clear hcz11_2
          try clear hcz11_3
          try clear hcz20_0
          try clear hcz20_1
          try clear hcz20_10
          try clear hcz20_11
          try clear hcz20_12
          try clear hcz20_2
          try clear hcz20_3
          try clear hcz20_4
          try clear hcz20_5
          try clear hcz20_6
          try clear hcz20_7
          try clear hcz20_8
          try clear hcz20_9
          try clear hcz22_0
          try clear hcz22_1
          try clear hcz22_2
          try clear hcz22_3
          try clear hcz25_0
          try clear hcz25_1
          try clear hcz25_2
          try clear hcz25_3
          try clear hcz30_0
          try clear hcz30_1
          try clear hcz30_10
          try clear hcz30_11
          try clear hcz30_12
          try clear hcz30_2
          try clear hcz30_3
          try clear hcz30_4
          try clear hcz30_5
          try clear hcz30_6
          try clear hcz30_7
          try clear hcz30_8
          try clear hcz30_9
          try clear hcz32_0
          try clear hcz32_1
          try clear hcz32_2
          try clear hcz32_3
          try clear hcz39_0
          try clear hcz39_1
          try clear hcz39_2
          try clear hcz39_3
          try clear hcz46_0
          try clear hcz46_1
          try clear hcz46_2
          try clear hcz46_3
          try clear hcz8_0
          try clear hcz8_1
          try clear hcz8_2
          try clear hcz8_3
          try clear hfz11_0
          try clear hfz11_1
          try clear hfz11_2
          try clear hfz11_3
          try clear hfz20_0
          try clear hfz20_1
          try clear hfz20_10
          try clear hfz20_11
          try clear hfz20_12
          try clear hfz20_2
          try clear hfz20_3
          try clear hfz20_4
          try clear hfz20_5
          try clear hfz20_6
          try clear hfz20_7
          try clear hfz20_8
          try clear hfz20_9
          try clear hfz22_0
          try clear hfz22_1
          try clear hfz22_2
          try clear hfz22_3
          try clear hfz25_0
          try clear hfz25_1
          try clear hfz25_2
          try clear hfz25_3
          try clear hfz30_0
          try clear hfz30_1
          try clear hfz30_10
          try clear hfz30_11
          try clear hfz30_12
          try clear hfz30_2
          try clear hfz30_3
          try clear hfz30_4
          try clear hfz30_5
          try clear hfz30_6
          try clear hfz30_7
          try clear hfz30_8
          try clear hfz30_9
          try clear hfz32_0
          try clear hfz32_1
          try clear hfz32_2
          try clear hfz32_3
          try clear hfz39_0
          try clear hfz39_1
          try clear hfz39_2
          try clear hfz39_3
          try clear hfz46_0
          try clear hfz46_1
          try clear hfz46_2
          try clear hfz46_3
          try clear hfz8_0
          try clear hfz8_1
          try clear hfz8_2
          try clear hfz8_3
          try clear p2
          try clear p6
          obtain ⟨x86_5,x1386002_5,x1386003_5,x1391001_5,u1391001,rfl,HA,HK5,HO_12,HO_1391000,HO_1391001,BK1385,BK1390,HB⟩:=hrel
          cases gk with
          | zero=>exact absurd HA.out (by simp [impl_GetState.l1])
          | succ k5 =>
           have H:=HA.out
           clear HA
           simp only [impl_GetState.l1] at H
           by_cases c47:x86_5 < t1410
           rotate_left
           ·rw [if_neg c47] at H
            have c47b0:decide (x86_5 < t1410)=false:=decide_eq_false c47
            clear c47
            obtain ⟨ji68,hji68⟩:∃ j_:Int,(wrap64 (3*t1410))=j_:=⟨_,rfl⟩
            replace H:(if 0≤(ji68) then (if (ji68) < (t1414.length:Int) then (if 0≤(wrap64 ((ji68)+1)) then (if (wrap64 ((ji68)+1)) < (t1414.length:Int) then ((impl_StateOk.f k5 x1391000_2 x1391001_5 (rd t1414 (ji68)) (rd t1414 (wrap64 ((ji68)+1)))).bind fun t1433=>(if t1433=true then (some (x1391000_2,x1391001_5,rd t1414 (ji68),rd t1414 (wrap64 ((ji68)+1)),true)) else (some (([]:List (S25)),([]:List (S71)),0,0,false)))) else (none)) else (none)) else (none)) else (none))=some (r1,r2,r3,r4,r5):=by first|(rw [hji68] at H;exact H)|(simp only [hji68] at H ⊢;exact H)
            have hji68w:(IntKind.i64.wrap (3*t1410))=ji68:=(i64_w _).trans hji68
            by_cases c69:0≤(ji68)
            rotate_left
            ·rw [if_neg c69] at H
             exact absurd H (by simp)
            rw [if_pos c69] at H
            have c69b0:decide (0≤(ji68))=true:=decide_eq_true c69
            clear c69
            by_cases c70:(ji68) < (t1414.length:Int)
            rotate_left
            ·rw [if_neg c70] at H
             exact absurd H (by simp)
            rw [if_pos c70] at H
            have c70b0:decide ((ji68) < (t1414.length:Int))=true:=decide_eq_true c70
            clear c70
            obtain ⟨ji71,hji71⟩:∃ j_:Int,(wrap64 ((ji68)+1))=j_:=⟨_,rfl⟩
            replace H:(if 0≤(ji71) then (if (ji71) < (t1414.length:Int) then ((impl_StateOk.f k5 x1391000_2 x1391001_5 (rd t1414 (ji68)) (rd t1414 (ji71))).bind fun t1433=>(if t1433=true then (some (x1391000_2,x1391001_5,rd t1414 (ji68),rd t1414 (ji71),true)) else (some (([]:List (S25)),([]:List (S71)),0,0,false)))) else (none)) else (none))=some (r1,r2,r3,r4,r5):=by first|(rw [hji71] at H;exact H)|(simp only [hji71] at H ⊢;exact H)
            have hji71w:(IntKind.i64.wrap ((ji68)+1))=ji71:=(i64_w _).trans hji71
            by_cases c72:0≤(ji71)
            rotate_left
            ·rw [if_neg c72] at H
             exact absurd H (by simp)
            rw [if_pos c72] at H
            have c72b0:decide (0≤(ji71))=true:=decide_eq_true c72
            clear c72
            by_cases c73:(ji71) < (t1414.length:Int)
            rotate_left
            ·rw [if_neg c73] at H
             exact absurd H (by simp)
            rw [if_pos c73] at H
            have c73b0:decide ((ji71) < (t1414.length:Int))=true:=decide_eq_true c73
            clear c73
            replace H:=Option.bind_eq_some_iff.mp H
            obtain ⟨t1433,A740,H⟩:=H
            (try dsimp only at H)
            have A74:=Aside0.mk A740
            clear A740
            by_cases c75:t1433=true
            rotate_left
            ·replace c75:=Bool.eq_false_iff.mpr c75
             subst c75
             have H1:(some (([]:List (S25)),([]:List (S71)),0,0,false))=some (r1,r2,r3,r4,r5):=by rw [if_neg (show ¬ (false=true) by decide)] at H;exact H
             clear H
             have H:=H1
             clear H1
             simp only [Option.some.injEq,Prod.mk.injEq] at H
             obtain ⟨rfl,rfl,rfl,rfl,rfl⟩:=H
             obtain ⟨Ao84,co84,eo84⟩:=Kd.R_slice HO_12.out
             subst eo84
             have p1431:0≤((ji68):Int):=of_decide_eq_true Z51_47
             have q1431:(ji68) < (t1414.length:Int):=of_decide_eq_true Z51_47
             obtain ⟨ad1431,e1431,hx1431_0⟩:=Kd.at_int (Kd.R_reads' HO_12.out).2.2 (ji68) p1431 q1431
             cases e1431
             replace p1431:=eq_true p1431
             replace q1431:=eq_true q1431
             have hnb85:=NB1390_1385.out
             have hnc85:=NB1385_1390.out
             obtain ⟨⟨hcz86_0,hcz86_1,hcz86_2,hcz86_3⟩,hfz86_0,hfz86_1,hfz86_2,hfz86_3⟩:=C_z1 BK1390.out
             have p1432:0≤((ji71):Int):=of_decide_eq_true Z51_47
             have q1432:(ji71) < (t1414.length:Int):=of_decide_eq_true Z51_47
             obtain ⟨ad1432,e1432,hx1432_0⟩:=Kd.at_int (Kd.R_reads' HO_12.out).2.2 (ji71) p1432 q1432
             obtain rfl:ad1431=ad1432:=(by injection e1432)
             have hn1432_0:ad1431.block≠gb1390:=Kd.own_blk (Kd.R_ne HO_12.out BK1390.out (by decide))
             replace hx1432_0:=(cell_far (p:=⟨gb1390,2,none⟩) Z51_37 (.int .i64 (rd t1414 (ji68)))).trans hx1432_0
             clear hn1432_0
             replace p1432:=eq_true p1432
             replace q1432:=eq_true q1432
             obtain ⟨Ao87,co87,eo87⟩:=Kd.R_slice HO_1391000.out
             subst eo87
             obtain ⟨Ao88,co88,eo88⟩:=Kd.R_slice HO_1391001.out
             subst eo88
             go_wp2_with (first|((with_reducible refine gate_callee (f:=38) rfl ?_);refine goesL_ (some 133) rfl rfl Try.func38 (by kernel_rfl) rfl #[.agg #[.slice Ao87 x1391000_2.length co87,.slice Ao88 x1391001_5.length co88,.int .i64 (rd t1414 (ji68)),.int .i64 (rd t1414 (ji71))]] rfl Z51_26 ?_;(with_reducible refine (impl_StateOk.calls k5 _ _ x1391000_2 _ _ x1391001_5 (rd t1414 (ji68)) (rd t1414 (ji71)) false _ ?side1 ?side2 ?side3 ?side4 A74.out).mono ?_);(case side1=>refine (Kd.R_reads' (e:=25) (base:=w.heap.size) (ok:=fun k_=>True) (n:=x1391000_2.length) (c:=co87) ?_).2.2;exact Z51_5);(case side2=>exact (Kd.R_reads' HO_1391000.out).2.1);(case side3=>refine (Kd.R_reads' (e:=71) (base:=w.heap.size) (ok:=fun k_=>True) (n:=x1391001_5.length) (c:=co88) ?_).2.2;exact Z51_6);(case side4=>exact (Kd.R_reads' HO_1391001.out).2.1);rintro e w89 ⟨rfl,hb⟩;refine ⟨_,rfl,?_⟩;have n0_:=Aside0.mk Z51_4;have n1_:=Aside0.mk Z51_2;have n2_:=Aside0.mk Z51_3;have n3_:=Aside0.mk Z51_1;have n4_:=Aside0.mk (blk_below (g:=gb1390) (o := .cells #[.slice Ao87 x1391000_2.length co87,.slice Ao88 x1391001_5.length co88,.int .i64 (rd t1414 (ji68)),.int .i64 (rd t1414 (ji71))] 56 (0,0)) (by (with_reducible repeat (first|refine blk_drewN ?_ _|refine blk_drew ?_|refine blk_alloc ?_ _));refine blk_put (cs:=#[.slice Ao87 x1391000_2.length co87,.slice Ao88 x1391001_5.length co88,.int .i64 (rd t1414 (ji68)),.int .i64 0]) ?_ 3 _ rfl;(with_reducible repeat (first|refine blk_drewN ?_ _|refine blk_drew ?_|refine blk_alloc ?_ _));refine blk_put (cs:=#[.slice Ao87 x1391000_2.length co87,.slice Ao88 x1391001_5.length co88,.int .i64 0,.int .i64 0]) ?_ 2 _ rfl;(with_reducible repeat (first|refine blk_drewN ?_ _|refine blk_drew ?_|refine blk_alloc ?_ _));exact BK1390.out) hb);have n5_:=Aside0.mk Z51_21;clear HO_12;clear HO_1391000;clear HO_1391001;clear BK1385;clear BK1390;clear HB;have HO_12:=n0_;have HO_1391000:=n1_;have HO_1391001:=n2_;have BK1385:=n3_;have BK1390:=n4_;have HB:=n5_;clear n0_ n1_ n2_ n3_ n4_ n5_;(try clear hb);(try clear hb2);(try clear hk);(try clear hi);obtain ⟨⟨hcz90_0,hcz90_1,hcz90_2,hcz90_3⟩,hfz90_0,hfz90_1,hfz90_2,hfz90_3⟩:=C_z1 BK1385.out))
             refine bodyPost_ret (results_ct rfl _ _ gb1385 56 #[.slice none 0 0,.slice none 0 0,.int .i64 0,.int .i64 0] (0,0) _ rfl Z51_15 Try.underlying56 rfl (by kernel_rfl)) rfl ?_
             exact ⟨_,_,Z51_25,Z51_31,Z51_31,Z51_22⟩
            subst c75
            have H1:(some (x1391000_2,x1391001_5,rd t1414 (ji68),rd t1414 (ji71),true))=some (r1,r2,r3,r4,r5):=by rw [if_pos rfl] at H;exact H
            clear H
            have H:=H1
            clear H1
            simp only [Option.some.injEq,Prod.mk.injEq] at H
            obtain ⟨rfl,rfl,rfl,rfl,rfl⟩:=H
            obtain ⟨Ao76,co76,eo76⟩:=Kd.R_slice HO_12.out
            subst eo76
            have p1431:0≤((ji68):Int):=of_decide_eq_true Z51_47
            have q1431:(ji68) < (t1414.length:Int):=of_decide_eq_true Z51_47
            obtain ⟨ad1431,e1431,hx1431_0⟩:=Kd.at_int (Kd.R_reads' HO_12.out).2.2 (ji68) p1431 q1431
            cases e1431
            replace p1431:=eq_true p1431
            replace q1431:=eq_true q1431
            have hnb77:=NB1390_1385.out
            have hnc77:=NB1385_1390.out
            obtain ⟨⟨hcz78_0,hcz78_1,hcz78_2,hcz78_3⟩,hfz78_0,hfz78_1,hfz78_2,hfz78_3⟩:=C_z1 BK1390.out
            have p1432:0≤((ji71):Int):=of_decide_eq_true Z51_47
            have q1432:(ji71) < (t1414.length:Int):=of_decide_eq_true Z51_47
            obtain ⟨ad1432,e1432,hx1432_0⟩:=Kd.at_int (Kd.R_reads' HO_12.out).2.2 (ji71) p1432 q1432
            obtain rfl:ad1431=ad1432:=(by injection e1432)
            have hn1432_0:ad1431.block≠gb1390:=Kd.own_blk (Kd.R_ne HO_12.out BK1390.out (by decide))
            replace hx1432_0:=(cell_far (p:=⟨gb1390,2,none⟩) Z51_37 (.int .i64 (rd t1414 (ji68)))).trans hx1432_0
            clear hn1432_0
            replace p1432:=eq_true p1432
            replace q1432:=eq_true q1432
            obtain ⟨Ao79,co79,eo79⟩:=Kd.R_slice HO_1391000.out
            subst eo79
            obtain ⟨Ao80,co80,eo80⟩:=Kd.R_slice HO_1391001.out
            subst eo80
            go_wp2_with (first|((with_reducible refine gate_callee (f:=38) rfl ?_);refine goesL_ (some 133) rfl rfl Try.func38 (by kernel_rfl) rfl #[.agg #[.slice Ao79 x1391000_2.length co79,.slice Ao80 x1391001_5.length co80,.int .i64 (rd t1414 (ji68)),.int .i64 (rd t1414 (ji71))]] rfl Z51_26 ?_;(with_reducible refine (impl_StateOk.calls k5 _ _ x1391000_2 _ _ x1391001_5 (rd t1414 (ji68)) (rd t1414 (ji71)) true _ ?side1 ?side2 ?side3 ?side4 A74.out).mono ?_);(case side1=>refine (Kd.R_reads' (e:=25) (base:=w.heap.size) (ok:=fun k_=>True) (n:=x1391000_2.length) (c:=co79) ?_).2.2;exact Z51_5);(case side2=>exact (Kd.R_reads' HO_1391000.out).2.1);(case side3=>refine (Kd.R_reads' (e:=71) (base:=w.heap.size) (ok:=fun k_=>True) (n:=x1391001_5.length) (c:=co80) ?_).2.2;exact Z51_6);(case side4=>exact (Kd.R_reads' HO_1391001.out).2.1);rintro e w81 ⟨rfl,hb⟩;refine ⟨_,rfl,?_⟩;have n0_:=Aside0.mk Z51_4;have n1_:=Aside0.mk Z51_2;have n2_:=Aside0.mk Z51_3;have n3_:=Aside0.mk Z51_1;have n4_:=Aside0.mk (blk_below (g:=gb1390) (o := .cells #[.slice Ao79 x1391000_2.length co79,.slice Ao80 x1391001_5.length co80,.int .i64 (rd t1414 (ji68)),.int .i64 (rd t1414 (ji71))] 56 (0,0)) (by (with_reducible repeat (first|refine blk_drewN ?_ _|refine blk_drew ?_|refine blk_alloc ?_ _));refine blk_put (cs:=#[.slice Ao79 x1391000_2.length co79,.slice Ao80 x1391001_5.length co80,.int .i64 (rd t1414 (ji68)),.int .i64 0]) ?_ 3 _ rfl;(with_reducible repeat (first|refine blk_drewN ?_ _|refine blk_drew ?_|refine blk_alloc ?_ _));refine blk_put (cs:=#[.slice Ao79 x1391000_2.length co79,.slice Ao80 x1391001_5.length co80,.int .i64 0,.int .i64 0]) ?_ 2 _ rfl;(with_reducible repeat (first|refine blk_drewN ?_ _|refine blk_drew ?_|refine blk_alloc ?_ _));exact BK1390.out) hb);have n5_:=Aside0.mk Z51_21;clear HO_12;clear HO_1391000;clear HO_1391001;clear BK1385;clear BK1390;clear HB;have HO_12:=n0_;have HO_1391000:=n1_;have HO_1391001:=n2_;have BK1385:=n3_;have BK1390:=n4_;have HB:=n5_;clear n0_ n1_ n2_ n3_ n4_ n5_;(try clear hb);(try clear hb2);(try clear hk);(try clear hi);obtain ⟨⟨hcz82_0,hcz82_1,hcz82_2,hcz82_3⟩,hfz82_0,hfz82_1,hfz82_2,hfz82_3⟩:=C_z1 BK1390.out;obtain ⟨⟨hcz83_0,hcz83_1,hcz83_2,hcz83_3⟩,hfz83_0,hfz83_1,hfz83_2,hfz83_3⟩:=C_z1 BK1385.out))
            refine bodyPost_ret (results_ct rfl _ _ gb1385 56 #[.slice Ao79 x1391000_2.length co79,.slice Ao80 x1391001_5.length co80,.int .i64 (rd t1414 (ji68)),.int .i64 (rd t1414 (ji71))] (0,0) _ rfl Z51_15 Try.underlying56 rfl (by kernel_rfl)) rfl ?_
            exact ⟨_,_,Z51_25,(by (with_reducible repeat (first|apply Kd.R_alloc|apply Kd.R_drewN|apply Kd.R_drew));exact Kd.R_mono (Kd.R_far (p:=⟨gb1385,3,none⟩) (Kd.R_far (p:=⟨gb1385,2,none⟩) (Kd.R_far (p:=⟨gb1385,1,none⟩) (Kd.R_far (p:=⟨gb1385,0,none⟩) (Kd.R_types HO_1391000.out BK1385.out (by decide)) (fun _ hk=>hk.2) (.slice Ao79 x1391000_2.length co79)) (fun _ hk=>hk.2) (.slice Ao80 x1391001_5.length co80)) (fun _ hk=>hk.2) (.int .i64 (rd t1414 (ji68)))) (fun _ hk=>hk.2) (.int .i64 (rd t1414 (ji71)))) (fun _ hk=>trivial)),(by (with_reducible repeat (first|apply Kd.R_alloc|apply Kd.R_drewN|apply Kd.R_drew));exact Kd.R_mono (Kd.R_far (p:=⟨gb1385,3,none⟩) (Kd.R_far (p:=⟨gb1385,2,none⟩) (Kd.R_far (p:=⟨gb1385,1,none⟩) (Kd.R_far (p:=⟨gb1385,0,none⟩) (Kd.R_types HO_1391001.out BK1385.out (by decide)) (fun _ hk=>hk.2) (.slice Ao79 x1391000_2.length co79)) (fun _ hk=>hk.2) (.slice Ao80 x1391001_5.length co80)) (fun _ hk=>hk.2) (.int .i64 (rd t1414 (ji68)))) (fun _ hk=>hk.2) (.int .i64 (rd t1414 (ji71)))) (fun _ hk=>trivial)),Z51_22⟩
           rw [if_pos c47] at H
           have c47b0:decide (x86_5 < t1410)=true:=decide_eq_true c47
           clear c47
           obtain ⟨ji48,hji48⟩:∃ j_:Int,(wrap64 (3*x86_5))=j_:=⟨_,rfl⟩
           replace H:(if 0≤(ji48) then (if (ji48)≤(wrap64 ((ji48)+3)) then (if (wrap64 ((ji48)+3))≤(t1414.length:Int) then ((some ((t1414.take ((wrap64 ((ji48)+3)):Int).toNat).drop ((ji48):Int).toNat:List Int)).bind fun y1419=>(if 2 < (y1419.length:Int) then ((impl_from.f (rd y1419 2) 0 1).bind fun t1424=>(if t1424=true then (if 0 < (y1419.length:Int) then (if 1 < (y1419.length:Int) then (if x1391001_5.length < 5864062014805 then (impl_GetState.l1 k5 t1410 t1414 t1410 (wrap64 (x86_5+1)) x1391000_2 (x1391001_5++[(⟨rd y1419 0,rd y1419 1,((rd y1419 2)==1)⟩:S71)]) 0 0) else (none)) else (none)) else (none)) else (some (([]:List (S25)),([]:List (S71)),0,0,false)))) else (none))) else (none)) else (none)) else (none))=some (r1,r2,r3,r4,r5):=by first|(rw [hji48] at H;exact H)|(simp only [hji48] at H ⊢;exact H)
           have hji48w:(IntKind.i64.wrap (3*x86_5))=ji48:=(i64_w _).trans hji48
           by_cases c49:0≤(ji48)
           rotate_left
           ·rw [if_neg c49] at H
            exact absurd H (by simp)
           rw [if_pos c49] at H
           have c49b0:=eq_true c49
           have c49b1:decide (0≤(ji48))=true:=decide_eq_true c49
           clear c49
           by_cases c50:(ji48)≤(wrap64 ((ji48)+3))
           rotate_left
           ·rw [if_neg c50] at H
            exact absurd H (by simp)
           rw [if_pos c50] at H
           have c50b0:=eq_true c50
           have c50b1:decide ((ji48)≤(wrap64 ((ji48)+3)))=true:=decide_eq_true c50
           by_cases c51:(wrap64 ((ji48)+3))≤(t1414.length:Int)
           rotate_left
           ·rw [if_neg c51] at H
            exact absurd H (by simp)
           rw [if_pos c51] at H
           have c51b0:=eq_true c51
           have c51b1:decide ((wrap64 ((ji48)+3))≤(t1414.length:Int))=true:=decide_eq_true c51
           obtain ⟨y1419,hy1419⟩:∃ y_:List Int,y_=((t1414.take ((wrap64 ((ji48)+3)):Int).toNat).drop ((ji48):Int).toNat):=⟨_,rfl⟩
           replace H:(if 2 < (y1419.length:Int) then ((impl_from.f (rd y1419 2) 0 1).bind fun t1424=>(if t1424=true then (if 0 < (y1419.length:Int) then (if 1 < (y1419.length:Int) then (if x1391001_5.length < 5864062014805 then (impl_GetState.l1 k5 t1410 t1414 t1410 (wrap64 (x86_5+1)) x1391000_2 (x1391001_5++[(⟨rd y1419 0,rd y1419 1,((rd y1419 2)==1)⟩:S71)]) 0 0) else (none)) else (none)) else (none)) else (some (([]:List (S25)),([]:List (S71)),0,0,false)))) else (none))=some (r1,r2,r3,r4,r5):=by first|(rw [hy1419];with_reducible exact H)|(have H2_:=(Option.bind_some _ _).symm.trans H;rw [hy1419];with_reducible exact H2_)|(have H2_:=(Option.bind_some _ _).symm.trans H;with_reducible exact H2_)|with_reducible exact H|(rw [hy1419];exact H)|exact H
           have Ny1419:=Aside0.mk hy1419
           clear hy1419
           by_cases c52:2 < (y1419.length:Int)
           rotate_left
           ·rw [if_neg c52] at H
            exact absurd H (by simp)
           rw [if_pos c52] at H
           have c52b0:decide (2 < (y1419.length:Int))=true:=decide_eq_true c52
           have c52b1:decide (2 < y1419.length)=true:=decide_eq_true (by omega)
           clear c52
           replace H:=Option.bind_eq_some_iff.mp H
           obtain ⟨t1424,A530,H⟩:=H
           (try dsimp only at H)
           have A53:=Aside0.mk A530
           clear A530
           by_cases c54:t1424=true
           rotate_left
           ·replace c54:=Bool.eq_false_iff.mpr c54
            subst c54
            have H1:(some (([]:List (S25)),([]:List (S71)),0,0,false))=some (r1,r2,r3,r4,r5):=by rw [if_neg (show ¬ (false=true) by decide)] at H;exact H
            clear H
            have H:=H1
            clear H1
            simp only [Option.some.injEq,Prod.mk.injEq] at H
            obtain ⟨rfl,rfl,rfl,rfl,rfl⟩:=H
            obtain ⟨Ao65,co65,eo65⟩:=Kd.R_slice HO_12.out
            subst eo65
            have q64:((wrap64 ((ji48)+3)):Int)≤((t1414.length:Int):Int):=of_decide_eq_true Z51_47
            obtain ⟨i064,hi064,_,hsz64,_⟩:=info_parts info3
            have hroom64:t1414.length≤co65:=(Kd.R_reads' HO_12.out).2.1
            have hC64:Kd.C (Kd.int .i64) _ Ao65 t1414.length t1414:=(Kd.R_reads' HO_12.out).2.2
            have ql64:((ji48):Int)≤((wrap64 ((ji48)+3)):Int):=of_decide_eq_true Z51_47
            have q064:(0:Int)≤((ji48):Int):=of_decide_eq_true Z51_47
            have hcut64:=cut_mid (P:=Try.prog) 67 3 .i64 .i64 Try.underlying67 hi064 1 hsz64 Ao65 t1414.length co65 (ji48) (wrap64 ((ji48)+3)) q064 ql64 q64 hroom64
            have hr64:=Kd.C_mid (lo:=((ji48):Int).toNat) (hi:=((wrap64 ((ji48)+3)):Int).toNat) (c:=co65) hC64 (by omega) (by omega) hroom64
            obtain ⟨A64,hA64⟩:∃ A1,A1=(if co65=((ji48):Int).toNat then Ao65 else (Ao65:Option Addr).map (·.add (((ji48):Int).toNat*1))):=⟨_,rfl⟩
            obtain ⟨c64,hc64⟩:∃ c1,c1=co65 - ((ji48):Int).toNat:=⟨_,rfl⟩
            have hy64:y1419.length=((wrap64 ((ji48)+3)):Int).toNat - ((ji48):Int).toNat:=(by rw [Ny1419.out,List.length_drop,List.length_take]<;>omega)
            rw [show ((t1414).take ((wrap64 ((ji48)+3)):Int).toNat).drop ((ji48):Int).toNat=y1419 from Ny1419.out.symm] at hr64
            replace hr64:Kd.C (Kd.int .i64) _ A64 y1419.length y1419:=(by rw [hA64];exact hr64)
            rw [← hy64,←hA64,←hc64] at hcut64
            have HR1422:=Aside0.mk hr64
            have HC1422:=Aside0.mk (show y1419.length≤c64 from by rw [hy64,hc64];exact Nat.sub_le_sub_right (Nat.le_trans (by omega) hroom64) _)
            clear hr64 hC64 hroom64 hi064 hsz64 hc64
            have KY64:=Aside0.mk hy64
            have KA64:=Aside0.mk hA64
            clear hy64 hA64
            have KL64:=Aside0.mk (show ((wrap64 ((ji48)+3)):Int).toNat≤t1414.length from by omega)
            have KM64:=Aside0.mk (show ((ji48):Int).toNat≤((wrap64 ((ji48)+3)):Int).toNat from by omega)
            replace q64:=eq_true q64
            have p1423:0≤(2:Int):=(by omega)
            have q1423:2 < (y1419.length:Int):=of_decide_eq_true Z51_47
            obtain ⟨ad1423,e1423,hx1423_0⟩:=Kd.at_int Z51_23 2 p1423 q1423
            cases e1423
            (try simp only [show (2:Int).toNat=2 from rfl,Nat.reduceMul,Nat.reduceEqDiff,Go.Addr.add,↓reduceIte] at hx1423_0)
            have qi1423:(2 < y1419.length)=True:=eq_true (by omega)
            (try rw [show ((2:Int)).toNat=2 from rfl] at hx1423_0)
            replace p1423:=eq_true p1423
            replace q1423:=eq_true q1423
            go_wp2_with (first|((with_reducible refine gate_callee (f:=81) rfl ?_);refine goesL_ (some 99) rfl rfl Try.func81 (by kernel_rfl) rfl #[.int .i64 (rd y1419 2),.int .i64 0,.int .i64 1] rfl Z51_32 ?_;(with_reducible refine (impl_from.calls (rd y1419 2) 0 1 false _ A53.out).mono ?_);rintro e w' ⟨rfl,⟨nd,rfl⟩⟩;refine ⟨_,rfl,?_⟩;(try (rw [drewN_self wr];generalize hq_:World.drewN wr _=wr;have n0_:Aside0 (Kd.R (Kd.int .i64) 3 wr w.heap.size (fun _=>True) (.slice Ao65 t1414.length co65) t1414):=⟨Z51_35⟩;have n1_:Aside0 (Kd.R k25 25 wr w.heap.size (fun _=>True) u1391000 x1391000_2):=⟨Z51_33⟩;have n2_:Aside0 (Kd.R k71 71 wr w.heap.size (fun _=>True) u1391001 x1391001_5):=⟨Z51_34⟩;have n3_:Aside0 (wr.heap[gb1385]?=some (.cells #[.slice none 0 0,.slice none 0 0,.int .i64 x1386002_5,.int .i64 x1386003_5] 56 (0,0))):=⟨Z51_29⟩;have n4_:Aside0 (wr.heap[gb1390]?=some (.cells #[u1391000,u1391001,.int .i64 0,.int .i64 0] 56 (0,0))):=⟨Z51_30⟩;have n5_:Aside0 (Below w.heap.size w wr):=⟨Z51_19⟩;have n6_:Aside0 (Kd.C (Kd.int .i64) wr (some ad1423) y1419.length y1419):=⟨Z51_20⟩;clear HO_12 HO_1391000 HO_1391001 BK1385 BK1390 HB HR1422 hq_;have HO_12:=n0_;have HO_1391000:=n1_;have HO_1391001:=n2_;have BK1385:=n3_;have BK1390:=n4_;have HB:=n5_;have HR1422:=n6_;clear n0_ n1_ n2_ n3_ n4_ n5_ n6_));have hnb66:=NB1385_1390.out;have hnc66:=NB1390_1385.out;obtain ⟨⟨hcz67_0,hcz67_1,hcz67_2,hcz67_3⟩,hfz67_0,hfz67_1,hfz67_2,hfz67_3⟩:=C_z1 BK1385.out))
            refine bodyPost_ret (results_ct rfl _ _ gb1385 56 #[.slice none 0 0,.slice none 0 0,.int .i64 0,.int .i64 0] (0,0) _ rfl Z51_15 Try.underlying56 rfl (by kernel_rfl)) rfl ?_
            exact ⟨_,_,(by first|rfl|(simp [errW_none,errW_some]<;>rfl)|(simp only [← hji48];first|rfl|(simp [errW_none,errW_some]<;>rfl))|(simp [*,errW_none,errW_some]<;>rfl)),Z51_31,Z51_31,Z51_22⟩
           subst c54
           rw [if_pos rfl] at H
           by_cases c55:0 < (y1419.length:Int)
           rotate_left
           ·rw [if_neg c55] at H
            exact absurd H (by simp)
           rw [if_pos c55] at H
           have c55b0:decide (0 < (y1419.length:Int))=true:=decide_eq_true c55
           have c55b1:decide (0 < y1419.length)=true:=decide_eq_true (by omega)
           clear c55
           by_cases c56:1 < (y1419.length:Int)
           rotate_left
           ·rw [if_neg c56] at H
            exact absurd H (by simp)
           rw [if_pos c56] at H
           have c56b0:decide (1 < (y1419.length:Int))=true:=decide_eq_true c56
           have c56b1:decide (1 < y1419.length)=true:=decide_eq_true (by omega)
           clear c56
           by_cases c57:x1391001_5.length < 5864062014805
           rotate_left
           ·rw [if_neg c57] at H
            exact absurd H (by simp)
           rw [if_pos c57] at H
           have LMc57:=Aside0.mk c57
           clear c57
           obtain ⟨y1428,hy1428⟩:∃ y_:List (S71),y_=(x1391001_5++[(⟨rd y1419 0,rd y1419 1,((rd y1419 2)==1)⟩:S71)]):=⟨_,rfl⟩
           replace H:(impl_GetState.l1 k5 t1410 t1414 t1410 (wrap64 (x86_5+1)) x1391000_2 y1428 0 0)=some (r1,r2,r3,r4,r5):=by first|(rw [hy1428];with_reducible exact H)|(have H2_:=(Option.bind_some _ _).symm.trans H;rw [hy1428];with_reducible exact H2_)|(have H2_:=(Option.bind_some _ _).symm.trans H;with_reducible exact H2_)|with_reducible exact H|(rw [hy1428];exact H)|exact H
           have Ny1428:=Aside0.mk hy1428
           clear hy1428
           have H':=Aside0.mk H
           clear H
           obtain ⟨Ao59,co59,eo59⟩:=Kd.R_slice HO_12.out
           subst eo59
           have q58:((wrap64 ((ji48)+3)):Int)≤((t1414.length:Int):Int):=of_decide_eq_true Z51_47
           obtain ⟨i058,hi058,_,hsz58,_⟩:=info_parts info3
           have hroom58:t1414.length≤co59:=(Kd.R_reads' HO_12.out).2.1
           have hC58:Kd.C (Kd.int .i64) _ Ao59 t1414.length t1414:=(Kd.R_reads' HO_12.out).2.2
           have ql58:((ji48):Int)≤((wrap64 ((ji48)+3)):Int):=of_decide_eq_true Z51_47
           have q058:(0:Int)≤((ji48):Int):=of_decide_eq_true Z51_47
           have hcut58:=cut_mid (P:=Try.prog) 67 3 .i64 .i64 Try.underlying67 hi058 1 hsz58 Ao59 t1414.length co59 (ji48) (wrap64 ((ji48)+3)) q058 ql58 q58 hroom58
           have hr58:=Kd.C_mid (lo:=((ji48):Int).toNat) (hi:=((wrap64 ((ji48)+3)):Int).toNat) (c:=co59) hC58 (by omega) (by omega) hroom58
           obtain ⟨A58,hA58⟩:∃ A1,A1=(if co59=((ji48):Int).toNat then Ao59 else (Ao59:Option Addr).map (·.add (((ji48):Int).toNat*1))):=⟨_,rfl⟩
           obtain ⟨c58,hc58⟩:∃ c1,c1=co59 - ((ji48):Int).toNat:=⟨_,rfl⟩
           have hy58:y1419.length=((wrap64 ((ji48)+3)):Int).toNat - ((ji48):Int).toNat:=(by rw [Ny1419.out,List.length_drop,List.length_take]<;>omega)
           rw [show ((t1414).take ((wrap64 ((ji48)+3)):Int).toNat).drop ((ji48):Int).toNat=y1419 from Ny1419.out.symm] at hr58
           replace hr58:Kd.C (Kd.int .i64) _ A58 y1419.length y1419:=(by rw [hA58];exact hr58)
           rw [← hy58,←hA58,←hc58] at hcut58
           have HR1422:=Aside0.mk hr58
           have HC1422:=Aside0.mk (show y1419.length≤c58 from by rw [hy58,hc58];exact Nat.sub_le_sub_right (Nat.le_trans (by omega) hroom58) _)
           clear hr58 hC58 hroom58 hi058 hsz58 hc58
           have KY58:=Aside0.mk hy58
           have KA58:=Aside0.mk hA58
           clear hy58 hA58
           have KL58:=Aside0.mk (show ((wrap64 ((ji48)+3)):Int).toNat≤t1414.length from by omega)
           have KM58:=Aside0.mk (show ((ji48):Int).toNat≤((wrap64 ((ji48)+3)):Int).toNat from by omega)
           replace q58:=eq_true q58
           have p1423:0≤(2:Int):=(by omega)
           have q1423:2 < (y1419.length:Int):=of_decide_eq_true Z51_47
           obtain ⟨ad1423,e1423,hx1423_0⟩:=Kd.at_int Z51_23 2 p1423 q1423
           cases e1423
           (try simp only [show (2:Int).toNat=2 from rfl,Nat.reduceMul,Nat.reduceEqDiff,Go.Addr.add,↓reduceIte] at hx1423_0)
           have qi1423:(2 < y1419.length)=True:=eq_true (by omega)
           (try rw [show ((2:Int)).toNat=2 from rfl] at hx1423_0)
           replace p1423:=eq_true p1423
           replace q1423:=eq_true q1423
           try go_wp2_with (first|((with_reducible refine gate_callee (f:=81) rfl ?_);refine goesL_ (some 99) rfl rfl Try.func81 (by kernel_rfl) rfl #[.int .i64 (rd y1419 2),.int .i64 0,.int .i64 1] rfl Z51_32 ?_;(with_reducible refine (impl_from.calls (rd y1419 2) 0 1 true _ A53.out).mono ?_);rintro e w' ⟨rfl,⟨nd,rfl⟩⟩;refine ⟨_,rfl,?_⟩;(try (rw [drewN_self wr];generalize hq_:World.drewN wr _=wr;have n0_:Aside0 (Kd.R (Kd.int .i64) 3 wr w.heap.size (fun _=>True) (.slice Ao59 t1414.length co59) t1414):=⟨Z51_35⟩;have n1_:Aside0 (Kd.R k25 25 wr w.heap.size (fun _=>True) u1391000 x1391000_2):=⟨Z51_33⟩;have n2_:Aside0 (Kd.R k71 71 wr w.heap.size (fun _=>True) u1391001 x1391001_5):=⟨Z51_34⟩;have n3_:Aside0 (wr.heap[gb1385]?=some (.cells #[.slice none 0 0,.slice none 0 0,.int .i64 x1386002_5,.int .i64 x1386003_5] 56 (0,0))):=⟨Z51_29⟩;have n4_:Aside0 (wr.heap[gb1390]?=some (.cells #[u1391000,u1391001,.int .i64 0,.int .i64 0] 56 (0,0))):=⟨Z51_30⟩;have n5_:Aside0 (Below w.heap.size w wr):=⟨Z51_19⟩;have n6_:Aside0 (Kd.C (Kd.int .i64) wr (some ad1423) y1419.length y1419):=⟨Z51_20⟩;clear HO_12 HO_1391000 HO_1391001 BK1385 BK1390 HB HR1422 hq_;have HO_12:=n0_;have HO_1391000:=n1_;have HO_1391001:=n2_;have BK1385:=n3_;have BK1390:=n4_;have HB:=n5_;have HR1422:=n6_;clear n0_ n1_ n2_ n3_ n4_ n5_ n6_))))
           have n0_:=Aside0.mk (Kd.R_drew HO_12.out)
           have n1_:=Aside0.mk (Kd.R_drew HO_1391000.out)
           have n2_:=Aside0.mk (Kd.R_drew HO_1391001.out)
           have n3_:=Aside0.mk (blk_drew BK1385.out)
           have n4_:=Aside0.mk (blk_drew BK1390.out)
           have n5_:=Aside0.mk (Kd.C_drew HR1422.out)
           have n6_:=Aside0.mk (below_drew1 HB.out)
           clear HO_12
           clear HO_1391000
           clear HO_1391001
           clear BK1385
           clear BK1390
           clear HR1422
           clear HB
           have HO_12:=n0_
           have HO_1391000:=n1_
           have HO_1391001:=n2_
           have BK1385:=n3_
           have BK1390:=n4_
           have HR1422:=n5_
           have HB:=n6_
           clear n0_ n1_ n2_ n3_ n4_ n5_ n6_
           have p1425:0≤(0:Int):=(by omega)
           have q1425:0 < (y1419.length:Int):=of_decide_eq_true Z51_47
           obtain ⟨ad1425,e1425,hx1425_0⟩:=Kd.at_int Z51_23 0 p1425 q1425
           obtain rfl:ad1423=ad1425:=(by injection e1425)
           have qi1425:(0 < y1419.length)=True:=eq_true (by omega)
           (try rw [show ((0:Int)).toNat=0 from rfl] at hx1425_0)
           (try rw [Addr.add_zero'] at hx1425_0)
           replace p1425:=eq_true p1425
           replace q1425:=eq_true q1425
           have p1426:0≤(1:Int):=(by omega)
           have q1426:1 < (y1419.length:Int):=of_decide_eq_true Z51_47
           obtain ⟨ad1426,e1426,hx1426_0⟩:=Kd.at_int Z51_23 1 p1426 q1426
           obtain rfl:ad1423=ad1426:=(by injection e1426)
           (try simp only [show (1:Int).toNat=1 from rfl,Nat.reduceMul,Nat.reduceEqDiff,Go.Addr.add,↓reduceIte] at hx1426_0)
           have qi1426:(1 < y1419.length)=True:=eq_true (by omega)
           (try rw [show ((1:Int)).toNat=1 from rfl] at hx1426_0)
           replace p1426:=eq_true p1426
           replace q1426:=eq_true q1426
           have p1427:0≤(2:Int):=(by omega)
           have q1427:2 < (y1419.length:Int):=of_decide_eq_true Z51_47
           obtain ⟨ad1427,e1427,hx1427_0⟩:=Kd.at_int Z51_23 2 p1427 q1427
           obtain rfl:ad1423=ad1427:=(by injection e1427)
           (try simp only [show (2:Int).toNat=2 from rfl,Nat.reduceMul,Nat.reduceEqDiff,Go.Addr.add,↓reduceIte] at hx1427_0)
           have qi1427:(2 < y1419.length)=True:=eq_true (by omega)
           (try rw [show ((2:Int)).toNat=2 from rfl] at hx1427_0)
           replace p1427:=eq_true p1427
           replace q1427:=eq_true q1427
           refine start_ (n:=17) (S:=fun w'=>w'.cell? ⟨gb1390,0,none⟩=some (u1391000)∧w'.cell? ⟨gb1390,1,none⟩=some (u1391001)∧w'.cell? ⟨gb1390,2,none⟩=some (.int .i64 0)∧w'.cell? ⟨gb1390,3,none⟩=some (.int .i64 0)∧w'.cell? ad1423=some (.int .i64 (rd y1419 0))∧w'.cell? ⟨ad1423.block,ad1423.off+1,none⟩=some (.int .i64 (rd y1419 1))∧w'.cell? ⟨ad1423.block,ad1423.off+2,none⟩=some (.int .i64 (rd y1419 2))) (ds:=[14,16]) #[false,false,false,false,false,false,false,false,false,false,false,false,false,false,false,false,false] (by kernel_rfl) rfl rfl ⟨(blk_cell BK1390.out 0).trans rfl,(blk_cell BK1390.out 1).trans rfl,(blk_cell BK1390.out 2).trans rfl,(blk_cell BK1390.out 3).trans rfl,hx1425_0,hx1426_0,hx1427_0⟩ (fun hHeld=>?_);refine with_tabW impl_GetState.tab25 impl_GetState.bits25 (fun HT_ HW_=>?_)
           generalize wr.drew=w60 at HO_12 HO_1391000 HO_1391001 BK1385 BK1390 HR1422 HB hx1425_0 hx1426_0 hx1427_0 hHeld ⊢
           refine pz 0 102 (M51_17 1) (b:=Z51_42) (h:=?_)
           refine pz 2 104 (M51_17 5) (b:=Z51_42) (h:=?_)
           refine pz 3 105 (M51_17 13) (b:=Z51_42) (h:=?_)
           refine pz 5 107 (M51_17 45) (b:=Z51_42) (h:=?_)
           refine pz 6 108 (M51_17 109) (b:=Z51_42) (h:=?_)
           refine pz 8 110 (M51_17 365) (b:=Z51_42) (h:=?_)
           refine pz 9 111 (M51_17 877) (b:=Z51_42) (h:=?_)
           refine tz 1 103 (M51_17 879) (r:=Z51_46) (b:=Z51_42) (h:=?_)
           refine tz 4 106 (M51_17 895) (r:=Z51_46) (b:=Z51_42) (h:=?_)
           refine tz 7 109 (M51_17 1023) (r:=Z51_46) (b:=Z51_42) (h:=?_)
           refine tz 10 112 (M51_17 2047) (r:=Z51_46) (b:=Z51_42) (h:=?_)
           refine pz 11 113 (M51_17 4095) (b:=Z51_42) (h:=?_)
           refine pz 12 114 (M51_17 8191) (b:=Z51_42) (h:=?_)
           refine one_ (i:=13) (N:=some 115) (M51_17 16383) rfl rfl (one_of HT_.out (by kernel_rfl)) (by decide) (fun K hK=>?_)
           refine value_ (w1:=?_) (v:=?_) (by rfl) rfl ?_ ?_
           rotate_left 2
           ·go_simp
            constructor
            ·rfl
            ·rfl
           refine hK.out _ _ ?_ (fun hHeld=>?_)
           ·exact ⟨(blk_cell (blk_alloc BK1390.out _) 0).trans rfl,(blk_cell (blk_alloc BK1390.out _) 1).trans rfl,(blk_cell (blk_alloc BK1390.out _) 2).trans rfl,(blk_cell (blk_alloc BK1390.out _) 3).trans rfl,(World.cell?_alloc_lt _ _ _ (World.block_lt_of_cell? _ _ (hHeld.2.2.2.2.1))).trans (hHeld.2.2.2.2.1),(World.cell?_alloc_lt _ _ _ (World.block_lt_of_cell? _ _ (hHeld.2.2.2.2.2.1))).trans (hHeld.2.2.2.2.2.1),(World.cell?_alloc_lt _ _ _ (World.block_lt_of_cell? _ _ (hHeld.2.2.2.2.2.2))).trans (hHeld.2.2.2.2.2.2)⟩
           clear hK K
           refine norm_ (a':=?_) ?_ ?_
           rotate_left
           ·show Act.put _ (some 115) _=_
            simp only [Act.put,List.setIfInBounds_toArray,List.set_cons_zero,List.set_cons_succ,i64_w,i32_w]
            rfl
           refine last_ (i:=14) (N:=some 116) (M51_17 32767) rfl rfl (one_of HT_.out (by kernel_rfl)) (by decide) (fun K hK=>?_)
           refine Kd.R_append_step k71 (w0:=w) w.heap.size (by rfl) (.tmp 103) (.tmp 115) 54 71 (.agg #[(.int .i64 0),(.int .i64 0),(.bool false)]) 24 rfl Try.underlying54 info71 rfl (by decide) (by omega) u1391001 x1391001_5 (⟨rd y1419 0,rd y1419 1,((rd y1419 2)==1)⟩:S71) [.int .i64 (rd y1419 0),.int .i64 (rd y1419 1),.bool ((rd y1419 2)==1)] (fun _=>True) (fun _=>False) rfl rfl ?aP (fun _ hk=>hk.elim) ?aF ?aO ?aB ?aS ?aL ?_
           (case aP=>exact k71_mkM _ _ _ (⟨rd y1419 0,rd y1419 1,((rd y1419 2)==1)⟩:S71))
           (case aB=>exact Z51_22)
           (case aF=>exact (fun _ _=>trivial))
           (case aO=>exact Z51_41)
           (case aS=>exact (below_size Z51_22))
           (case aL=>have:=LMc57.out;omega)
           intro v1429 w61 ho hb hg hat
           rw [← Ny1428.out] at ho
           have n0_:=Aside0.mk (Kd.R_over' Z51_44 (Kd.R_typed Z51_41) (by decide) hg)
           have n1_:=Aside0.mk (Kd.R_over' Z51_40 (Kd.R_typed Z51_41) (by decide) hg)
           have n2_:=Aside0.mk (blk_grown (g:=gb1385) (o := .cells #[.slice none 0 0,.slice none 0 0,.int .i64 x1386002_5,.int .i64 x1386003_5] 56 (0,0)) Z51_38 hg (Kd.R_ne HO_1391001.out BK1385.out (by decide)))
           have n3_:=Aside0.mk (blk_grown (g:=gb1390) (o := .cells #[u1391000,u1391001,.int .i64 0,.int .i64 0] 56 (0,0)) Z51_39 hg (Kd.R_ne HO_1391001.out BK1390.out (by decide)))
           have n4_:=Aside0.mk (hb)
           have n5_:=Aside0.mk ((show Kd.C (Kd.int .i64) w61 (some ad1423) y1419.length y1419 from by rw [Ny1419.out,KA58.out];exact Kd.C_mid (lo:=((ji48):Int).toNat) (hi:=((wrap64 ((ji48)+3)):Int).toNat) (c:=co59) ((Kd.R_reads' (Kd.R_over' Z51_44 (Kd.R_typed Z51_41) (by decide) hg)).2.2) KM58.out KL58.out ((Kd.R_reads' (Kd.R_over' Z51_44 (Kd.R_typed Z51_41) (by decide) hg)).2.1)))
           have n6_:=Aside0.mk (ho)
           clear HO_12
           clear HO_1391000
           clear BK1385
           clear BK1390
           clear HB
           clear HR1422
           clear HO_1391001
           have HO_12:=n0_
           have HO_1391000:=n1_
           have BK1385:=n2_
           have BK1390:=n3_
           have HB:=n4_
           have HR1422:=n5_
           have HO1430:=n6_
           clear n0_ n1_ n2_ n3_ n4_ n5_ n6_
           clear ho hb hg hat
           obtain ⟨Ao62,co62,eo62⟩:=Kd.R_slice HO1430.out
           (first|subst eo62|(injection eo62 with f1_ f2_ f3_;have f4_:=f1_.symm;have f5_:=f3_.symm;clear f1_ f2_ f3_;subst f4_;subst f5_))
           refine hK.out _ _ ?_
           clear hK K
           refine norm_ (a':=?_) ?_ ?_
           rotate_left
           ·show Act.put _ (some 116) _=_
            simp only [Act.put,List.setIfInBounds_toArray,List.set_cons_zero,List.set_cons_succ,i64_w,i32_w]
            rfl
           refine pz 15 117 (M51_17 65535) (b:=Z51_42) (h:=?_)
           refine last_ (i:=16) (N:=none) (M51_17 131071) rfl rfl (one_of HT_.out (by kernel_rfl)) (by decide) (fun K hK=>?_)
           have hs63:w61.cell? ⟨gb1390,1,none⟩=some (u1391001):=(blk_cell BK1390.out 1).trans rfl
           have hfs63:=blk_frozen BK1390.out 1
           have hns63_0:=NB1385_1390.out
           have hms63_0:=NB1390_1385.out
           refine skip_ (w1:=?_) (by rfl) rfl ?_ ?_
           rotate_left
           ·go_simp
            rfl
           refine hK.out _ _ ?_
           clear hK K
           refine done_ (done_of HT_.out (by kernel_rfl)) ?_
           try go_wp2
           go_roundg k5
           case measure=>have:=HJ2.out;have:=HK2.out;have:=HJ33.out;have:=HJ40.out;have:=HK5.out;omega
           case rel=>exact ⟨(wrap64 (x86_5+1)),(x1386002_5),(x1386003_5),(y1428),(.slice Ao62 y1428.length co62),Z51_48,H',⟨(by have:=HJ2.out;have:=HK2.out;have:=HJ33.out;have:=HJ40.out;have:=HK5.out;omega)⟩,⟨(by (with_reducible repeat (first|apply Kd.R_alloc|apply Kd.R_drewN|apply Kd.R_drew));exact Kd.R_mono (Kd.R_far (p:=⟨gb1390,1,none⟩) (Kd.R_types HO_12.out BK1390.out (by decide)) (fun _ hk=>hk.2) (.slice Ao62 y1428.length co62)) (fun _ hk=>trivial))⟩,⟨(by (with_reducible repeat (first|apply Kd.R_alloc|apply Kd.R_drewN|apply Kd.R_drew));exact Kd.R_mono (Kd.R_far (p:=⟨gb1390,1,none⟩) (Kd.R_types HO_1391000.out BK1390.out (by decide)) (fun _ hk=>hk.2) (.slice Ao62 y1428.length co62)) (fun _ hk=>trivial))⟩,⟨(by (with_reducible repeat (first|apply Kd.R_alloc|apply Kd.R_drewN|apply Kd.R_drew));exact Kd.R_mono (Kd.R_far (p:=⟨gb1390,1,none⟩) (Kd.R_types HO1430.out BK1390.out (by decide)) (fun _ hk=>hk.2) (.slice Ao62 y1428.length co62)) (fun _ hk=>trivial))⟩,⟨Z51_11⟩,⟨(by (with_reducible repeat (first|refine blk_drewN ?_ _|refine blk_drew ?_|refine blk_alloc ?_ _));refine blk_put (cs:=#[u1391000,u1391001,.int .i64 0,.int .i64 0]) ?_ 1 _ rfl;(with_reducible repeat (first|refine blk_drewN ?_ _|refine blk_drew ?_|refine blk_alloc ?_ _));exact BK1390.out)⟩,⟨Z51_22⟩⟩
end Go.Proofs.Ytfkidiagmekleaa.QAll
