import Derived.Test.YtfkidiagmekleaaNQAllx0
import Derived.Test.YtfkidiagmekleaaNRIOk
import Derived.Test.YtfkidiagmekleaaNRPn
namespace Go.Proofs.Ytfkidiagmekleaa.QAll
open Go.RowKit Go.Proofs.YtfkidiagmekleaaW.PrintWords Go.Proofs.YtfkidiagmekleaaW.PrintLast Go.Proofs.YtfkidiagmekleaaW.PrintMore
attribute [local go_sem] max2_int min2_int max_two min_two max_three min_three max_four min_four
set_option linter.unusedVariables false
set_option linter.unusedSimpArgs false
def impl_PutPiece.l0:Nat→List Int→List Int→Int→Int→Option (List Int)
 | 0,_,_,_,_=>none
 | k+1,x5,x42,x43,x44=>if x44 < x43 then (if 0≤x44 then (if x44 < (x42.length:Int) then ((impl_PutNum.f x5 (rd x42 x44)).bind fun t513=>(impl_PutPiece.l0 k t513 x42 x43 (wrap64 (x44+1)))) else (none)) else (none)) else (some x5)
def impl_PutPiece.f (k:Nat) (l0:List Int) (a1_0:Int) (a1_1:Int) (a1_2:Int) (a1_3:Int) (a1_4:Int) (a1_5:Int) (a1_6:Int) (a1_7:Int) (a1_8:Int) (a1_9:Int) (a1_10:Int) (a1_11:Bool) (a1_12:Bool):Option (List Int):=(slices_Clone_byte_byte.f l0).bind fun t503=>((impl_PieceOk.f k a1_0 a1_1 a1_2 a1_3 a1_4 a1_5 a1_6 a1_7 a1_8 a1_9 a1_10 a1_11 a1_12).bind fun t506=>(if t506=true then ((impl_bit.f a1_11).bind fun t507=>((impl_bit.f a1_12).bind fun t508=>((some (([a1_0,a1_1,a1_2,a1_3,a1_4,a1_5,a1_6,a1_7,a1_8,a1_9,a1_10,t507,t508]:List Int):List Int)).bind fun y509=>(impl_PutPiece.l0 k t503 y509 (y509.length:Int) 0)))) else (some t503)))
def impl_PutPiece.T4:Bool×List (List Nat×List Nat):=(true,[([],[]),([0],[0]),([],[]),([2],[2]),([],[]),([4],[4]),([],[]),([6],[6]),([],[]),([8],[8]),([],[]),([10],[10]),([],[]),([12],[12]),([],[]),([14],[14]),([],[]),([16],[16]),([],[]),([18],[18]),([],[]),([20],[20]),([],[]),([22],[22]),([23],[23]),([],[]),([25],[25]),([26,24],[26]),([1,3,5,7,9,11,13,15,17,19,21,24,27],[1,3,5,7,9,11,13,15,17,19,21,24,27]),([28],[28]),([],[])])
def impl_PutPiece.B4:List Nat:=[0,1,0,4,0,16,0,64,0,256,0,1024,0,4096,0,16384,0,65536,0,262144,0,1048576,0,4194304,12582912,0,33554432,130023424,268435455,536870911,0]
theorem impl_PutPiece.tab4:rtab .any (opsOf Try.f30 4)=impl_PutPiece.T4:=by kernel_rfl
theorem impl_PutPiece.bits4:waitsOk impl_PutPiece.T4.2 impl_PutPiece.B4=true:=by kernel_rfl
set_option maxHeartbeats 8000000 in
set_option maxRecDepth 100000 in
theorem impl_PutPiece.calls (k:Nat) (A0:Option Addr) (c0:Nat) (l0:List Int) (a1_0:Int) (a1_1:Int) (a1_2:Int) (a1_3:Int) (a1_4:Int) (a1_5:Int) (a1_6:Int) (a1_7:Int) (a1_8:Int) (a1_9:Int) (a1_10:Int) (a1_11:Bool) (a1_12:Bool) (r:List Int) (w:World) (hr0:Kd.C (Kd.int .u8) w A0 l0.length l0) (hc0:l0.length≤c0) (h:impl_PutPiece.f k l0 a1_0 a1_1 a1_2 a1_3 a1_4 a1_5 a1_6 a1_7 a1_8 a1_9 a1_10 a1_11 a1_12=some r) :
  Calls Try.prog 30 #[.slice A0 l0.length c0,.agg #[.int .i64 a1_0,.int .i64 a1_1,.int .i64 a1_2,.int .i64 a1_3,.int .i64 a1_4,.int .i64 a1_5,.int .i64 a1_6,.int .i64 a1_7,.int .i64 a1_8,.int .i64 a1_9,.int .i64 a1_10,.bool a1_11,.bool a1_12]] w fun e w'=>∃ v0_:Value,e = .returned (v0_)∧Kd.R (Kd.int .u8) 5 w' w.heap.size (fun _=>True) v0_ r∧Below w.heap.size w w':=by
 have hu25:=Try.underlying25
 have HR0:=Aside0.mk hr0
 have HC0:=Aside0.mk hc0
 clear hr0 hc0
 have HB:=Aside0.mk (Below.refl w.heap.size w)
 have H:((slices_Clone_byte_byte.f l0).bind fun t503=>((impl_PieceOk.f k a1_0 a1_1 a1_2 a1_3 a1_4 a1_5 a1_6 a1_7 a1_8 a1_9 a1_10 a1_11 a1_12).bind fun t506=>(if t506=true then ((impl_bit.f a1_11).bind fun t507=>((impl_bit.f a1_12).bind fun t508=>((some (([a1_0,a1_1,a1_2,a1_3,a1_4,a1_5,a1_6,a1_7,a1_8,a1_9,a1_10,t507,t508]:List Int):List Int)).bind fun y509=>(impl_PutPiece.l0 k t503 y509 (y509.length:Int) 0)))) else (some t503))))=some r:=h
 clear h
 replace H:=Option.bind_eq_some_iff.mp H
 obtain ⟨t503,A30,H⟩:=H
 replace H:((impl_PieceOk.f k a1_0 a1_1 a1_2 a1_3 a1_4 a1_5 a1_6 a1_7 a1_8 a1_9 a1_10 a1_11 a1_12).bind fun t506=>(if t506=true then ((impl_bit.f a1_11).bind fun t507=>((impl_bit.f a1_12).bind fun t508=>((some (([a1_0,a1_1,a1_2,a1_3,a1_4,a1_5,a1_6,a1_7,a1_8,a1_9,a1_10,t507,t508]:List Int):List Int)).bind fun y509=>(impl_PutPiece.l0 k t503 y509 (y509.length:Int) 0)))) else (some t503)))=some r:=H
 have A3:=Aside0.mk A30
 clear A30
 replace H:=Option.bind_eq_some_iff.mp H
 obtain ⟨t506,A40,H⟩:=H
 replace H:(if t506=true then ((impl_bit.f a1_11).bind fun t507=>((impl_bit.f a1_12).bind fun t508=>((some (([a1_0,a1_1,a1_2,a1_3,a1_4,a1_5,a1_6,a1_7,a1_8,a1_9,a1_10,t507,t508]:List Int):List Int)).bind fun y509=>(impl_PutPiece.l0 k t503 y509 (y509.length:Int) 0)))) else (some t503))=some r:=H
 have A4:=Aside0.mk A40
 clear A40
 by_cases c5:t506=true
 ·subst c5
  have H1:((impl_bit.f a1_11).bind fun t507=>((impl_bit.f a1_12).bind fun t508=>((some (([a1_0,a1_1,a1_2,a1_3,a1_4,a1_5,a1_6,a1_7,a1_8,a1_9,a1_10,t507,t508]:List Int):List Int)).bind fun y509=>(impl_PutPiece.l0 k t503 y509 (y509.length:Int) 0))))=some r:=by rw [if_pos rfl] at H;exact H
  clear H
  have H:=H1
  clear H1
  replace H:=Option.bind_eq_some_iff.mp H
  obtain ⟨t507,A60,H⟩:=H
  replace H:((impl_bit.f a1_12).bind fun t508=>((some (([a1_0,a1_1,a1_2,a1_3,a1_4,a1_5,a1_6,a1_7,a1_8,a1_9,a1_10,t507,t508]:List Int):List Int)).bind fun y509=>(impl_PutPiece.l0 k t503 y509 (y509.length:Int) 0)))=some r:=H
  have A6:=Aside0.mk A60
  clear A60
  replace H:=Option.bind_eq_some_iff.mp H
  obtain ⟨t508,A70,H⟩:=H
  replace H:((some (([a1_0,a1_1,a1_2,a1_3,a1_4,a1_5,a1_6,a1_7,a1_8,a1_9,a1_10,t507,t508]:List Int):List Int)).bind fun y509=>(impl_PutPiece.l0 k t503 y509 (y509.length:Int) 0))=some r:=H
  have A7:=Aside0.mk A70
  clear A70
  obtain ⟨y509,hy509⟩:∃ y_:List Int,y_=(([a1_0,a1_1,a1_2,a1_3,a1_4,a1_5,a1_6,a1_7,a1_8,a1_9,a1_10,t507,t508]:List Int)):=⟨_,rfl⟩
  replace H:(impl_PutPiece.l0 k t503 y509 (y509.length:Int) 0)=some r:=by first|(rw [hy509];with_reducible exact H)|(have H2_:=(Option.bind_some _ _).symm.trans H;rw [hy509];with_reducible exact H2_)|(have H2_:=(Option.bind_some _ _).symm.trans H;with_reducible exact H2_)|with_reducible exact H|(rw [hy509];exact H)|exact H
  have Ny509:=Aside0.mk hy509
  clear hy509
  have H':=Aside0.mk H
  clear H
  go_enter Try.func30,Try.ntmps30
  try go_wp2_with (first|((with_reducible refine gate_dst (N:=3) rfl ?_);refine box_event ?hg (N:=3) ?hd (cs:=#[.int .i64 a1_0,.int .i64 a1_1,.int .i64 a1_2,.int .i64 a1_3,.int .i64 a1_4,.int .i64 a1_5,.int .i64 a1_6,.int .i64 a1_7,.int .i64 a1_8,.int .i64 a1_9,.int .i64 a1_10,.bool a1_11,.bool a1_12]) (t:=25) ?hr ?_;(case hd=>rfl);(case hg=>rfl);(case hr=>first|(go_simp;done)|(go_simp;rfl));intro gb502 hg w8 hbox hb;have n0_:=Aside0.mk (below_step (by repeat (first|(with_reducible first|exact HB.out|apply below_alloc|apply pw_below_drewN|apply below_drew1)|exact HB.out)) hb);have n1_:=Aside0.mk (hbox);have n2_:=Aside0.mk ((by rw [hg];exact (below_size (by repeat (first|(with_reducible first|exact HB.out|apply below_alloc|apply pw_below_drewN|apply below_drew1)|exact HB.out))):w.heap.size≤gb502));have n3_:=Aside0.mk ((by rw [hg];exact (below_size (by repeat (first|(with_reducible first|exact HB.out|apply below_alloc|apply pw_below_drewN|apply below_drew1)|exact HB.out))):w.heap.size≤gb502));clear HB;have HB:=n0_;have BK502:=n1_;have GW502:=n2_;have GE502:=n3_;clear n0_ n1_ n2_ n3_;clear hb hbox hg)|((with_reducible refine gate_callee (f:=90) rfl ?_);refine goesL_ (some 9) rfl rfl Try.func90 (by kernel_rfl) rfl #[.slice A0 l0.length c0] rfl (by (try simp only [List.map_toArray,List.map_cons,List.map_nil]);first|done|rfl|(simp only [List.length_drop,List.length_take];rfl)) ?_;(with_reducible refine (slices_Clone_byte_byte.calls _ _ l0 t503 _ ?side1 ?side2 A3.out).mono ?_);(case side1=>repeat (first|exact (Kd.C_below HR0.out HB.out)|(with_reducible refine Kd.C_alloc ?_ _)|(with_reducible refine Kd.C_drewN ?_ _)|(with_reducible refine Kd.C_drew ?_)));(case side2=>exact HC0.out);rintro e w9 ⟨v504,rfl,ho0,hb⟩;refine ⟨_,rfl,?_⟩;have n0_:=Aside0.mk (Kd.R_lower ho0 (below_size (by repeat (first|(with_reducible first|exact HB.out|apply below_alloc|apply pw_below_drewN|apply below_drew1|refine below_set ?_ GE502.out)|exact HB.out))));have n1_:=Aside0.mk (blk_below (g:=gb502) (o := .cells #[.int .i64 a1_0,.int .i64 a1_1,.int .i64 a1_2,.int .i64 a1_3,.int .i64 a1_4,.int .i64 a1_5,.int .i64 a1_6,.int .i64 a1_7,.int .i64 a1_8,.int .i64 a1_9,.int .i64 a1_10,.bool a1_11,.bool a1_12] 25 (0,0)) (by (with_reducible repeat (first|refine blk_drewN ?_ _|refine blk_drew ?_|refine blk_alloc ?_ _));exact BK502.out) hb);have n2_:=Aside0.mk (below_step (by repeat (first|(with_reducible first|exact HB.out|apply below_alloc|apply pw_below_drewN|apply below_drew1|refine below_set ?_ GE502.out)|exact HB.out)) hb);clear BK502;clear HB;have HO505:=n0_;have BK502:=n1_;have HB:=n2_;clear n0_ n1_ n2_;(try clear hb);(try clear hb2);(try clear hk);(try clear hi);(try clear ho0);have hcz10_0:w9.cell? ⟨gb502,0,none⟩=some (.int .i64 a1_0):=(blk_cell BK502.out 0).trans rfl;have hcz10_1:w9.cell? ⟨gb502,1,none⟩=some (.int .i64 a1_1):=(blk_cell BK502.out 1).trans rfl;have hcz10_2:w9.cell? ⟨gb502,2,none⟩=some (.int .i64 a1_2):=(blk_cell BK502.out 2).trans rfl;have hcz10_3:w9.cell? ⟨gb502,3,none⟩=some (.int .i64 a1_3):=(blk_cell BK502.out 3).trans rfl;have hcz10_4:w9.cell? ⟨gb502,4,none⟩=some (.int .i64 a1_4):=(blk_cell BK502.out 4).trans rfl;have hcz10_5:w9.cell? ⟨gb502,5,none⟩=some (.int .i64 a1_5):=(blk_cell BK502.out 5).trans rfl;have hcz10_6:w9.cell? ⟨gb502,6,none⟩=some (.int .i64 a1_6):=(blk_cell BK502.out 6).trans rfl;have hcz10_7:w9.cell? ⟨gb502,7,none⟩=some (.int .i64 a1_7):=(blk_cell BK502.out 7).trans rfl;have hcz10_8:w9.cell? ⟨gb502,8,none⟩=some (.int .i64 a1_8):=(blk_cell BK502.out 8).trans rfl;have hcz10_9:w9.cell? ⟨gb502,9,none⟩=some (.int .i64 a1_9):=(blk_cell BK502.out 9).trans rfl;have hcz10_10:w9.cell? ⟨gb502,10,none⟩=some (.int .i64 a1_10):=(blk_cell BK502.out 10).trans rfl;have hcz10_11:w9.cell? ⟨gb502,11,none⟩=some (.bool a1_11):=(blk_cell BK502.out 11).trans rfl;have hcz10_12:w9.cell? ⟨gb502,12,none⟩=some (.bool a1_12):=(blk_cell BK502.out 12).trans rfl;have hfz10_0:=blk_frozen BK502.out 0;have hfz10_1:=blk_frozen BK502.out 1;have hfz10_2:=blk_frozen BK502.out 2;have hfz10_3:=blk_frozen BK502.out 3;have hfz10_4:=blk_frozen BK502.out 4;have hfz10_5:=blk_frozen BK502.out 5;have hfz10_6:=blk_frozen BK502.out 6;have hfz10_7:=blk_frozen BK502.out 7;have hfz10_8:=blk_frozen BK502.out 8;have hfz10_9:=blk_frozen BK502.out 9;have hfz10_10:=blk_frozen BK502.out 10;have hfz10_11:=blk_frozen BK502.out 11;have hfz10_12:=blk_frozen BK502.out 12)|((with_reducible refine gate_callee (f:=18) rfl ?_);refine goesL_ (some 11) rfl rfl Try.func18 (by kernel_rfl) rfl #[.agg #[.int .i64 a1_0,.int .i64 a1_1,.int .i64 a1_2,.int .i64 a1_3,.int .i64 a1_4,.int .i64 a1_5,.int .i64 a1_6,.int .i64 a1_7,.int .i64 a1_8,.int .i64 a1_9,.int .i64 a1_10,.bool a1_11,.bool a1_12]] rfl (by (try simp only [List.map_toArray,List.map_cons,List.map_nil]);first|done|rfl|(simp only [List.length_drop,List.length_take];rfl)) ?_;(with_reducible refine (impl_PieceOk.calls k a1_0 a1_1 a1_2 a1_3 a1_4 a1_5 a1_6 a1_7 a1_8 a1_9 a1_10 a1_11 a1_12 true _ A4.out).mono ?_);rintro e w11 ⟨rfl,hb⟩;refine ⟨_,rfl,?_⟩;have n0_:=Aside0.mk (Kd.R_below (by (with_reducible repeat (first|apply Kd.R_alloc|apply Kd.R_drewN|apply Kd.R_drew));exact HO505.out) hb);have n1_:=Aside0.mk (blk_below (g:=gb502) (o := .cells #[.int .i64 a1_0,.int .i64 a1_1,.int .i64 a1_2,.int .i64 a1_3,.int .i64 a1_4,.int .i64 a1_5,.int .i64 a1_6,.int .i64 a1_7,.int .i64 a1_8,.int .i64 a1_9,.int .i64 a1_10,.bool a1_11,.bool a1_12] 25 (0,0)) (by (with_reducible repeat (first|refine blk_drewN ?_ _|refine blk_drew ?_|refine blk_alloc ?_ _));exact BK502.out) hb);have n2_:=Aside0.mk (below_step (by repeat (first|(with_reducible first|exact HB.out|apply below_alloc|apply pw_below_drewN|apply below_drew1|refine below_set ?_ GE502.out)|exact HB.out)) hb);clear HO505;clear BK502;clear HB;have HO505:=n0_;have BK502:=n1_;have HB:=n2_;clear n0_ n1_ n2_;(try clear hb);(try clear hb2);(try clear hk);(try clear hi)))
  have n0_:=Aside0.mk (Kd.R_drew HO505.out)
  have n1_:=Aside0.mk (blk_drew BK502.out)
  have n2_:=Aside0.mk (below_drew1 HB.out)
  clear HO505
  clear BK502
  clear HB
  have HO505:=n0_
  have BK502:=n1_
  have HB:=n2_
  clear n0_ n1_ n2_
  refine start_ (n:=31) (S:=fun w'=>w'.cell? ⟨gb502,0,none⟩=some (.int .i64 a1_0)∧w'.cell? ⟨gb502,1,none⟩=some (.int .i64 a1_1)∧w'.cell? ⟨gb502,2,none⟩=some (.int .i64 a1_2)∧w'.cell? ⟨gb502,3,none⟩=some (.int .i64 a1_3)∧w'.cell? ⟨gb502,4,none⟩=some (.int .i64 a1_4)∧w'.cell? ⟨gb502,5,none⟩=some (.int .i64 a1_5)∧w'.cell? ⟨gb502,6,none⟩=some (.int .i64 a1_6)∧w'.cell? ⟨gb502,7,none⟩=some (.int .i64 a1_7)∧w'.cell? ⟨gb502,8,none⟩=some (.int .i64 a1_8)∧w'.cell? ⟨gb502,9,none⟩=some (.int .i64 a1_9)∧w'.cell? ⟨gb502,10,none⟩=some (.int .i64 a1_10)∧w'.cell? ⟨gb502,11,none⟩=some (.bool a1_11)∧w'.cell? ⟨gb502,12,none⟩=some (.bool a1_12)) (ds:=[]) #[false,false,false,false,false,false,false,false,false,false,false,false,false,false,false,false,false,false,false,false,false,false,false,false,false,false,false,false,false,false,false] (by kernel_rfl) rfl rfl ⟨(blk_cell BK502.out 0).trans rfl,(blk_cell BK502.out 1).trans rfl,(blk_cell BK502.out 2).trans rfl,(blk_cell BK502.out 3).trans rfl,(blk_cell BK502.out 4).trans rfl,(blk_cell BK502.out 5).trans rfl,(blk_cell BK502.out 6).trans rfl,(blk_cell BK502.out 7).trans rfl,(blk_cell BK502.out 8).trans rfl,(blk_cell BK502.out 9).trans rfl,(blk_cell BK502.out 10).trans rfl,(blk_cell BK502.out 11).trans rfl,(blk_cell BK502.out 12).trans rfl⟩ (fun hHeld=>?_);refine with_tabW impl_PutPiece.tab4 impl_PutPiece.bits4 (fun HT_ HW_=>?_)
  generalize w11.drew=w12 at HO505 BK502 HB hHeld ⊢
  refine pure_ (i:=0) (N:=some 14) (v:=?_) (a':=?_) #[true,false,false,false,false,false,false,false,false,false,false,false,false,false,false,false,false,false,false,false,false,false,false,false,false,false,false,false,false,false,false] rfl rfl (any_of HT_.out (by kernel_rfl)) (fun _ _ _ h=>h) (Or.inl ⟨by rfl,?_⟩) ?_ ?_
  rotate_left
  ·intro w'
   go_simp
   with_reducible rfl
  rotate_left
  ·simp only [Act.put,List.setIfInBounds_toArray,List.set_cons_zero,List.set_cons_succ,i64_w,i32_w]
   rfl
  refine pure_ (i:=2) (N:=some 16) (v:=?_) (a':=?_) #[true,false,true,false,false,false,false,false,false,false,false,false,false,false,false,false,false,false,false,false,false,false,false,false,false,false,false,false,false,false,false] rfl rfl (any_of HT_.out (by kernel_rfl)) (fun _ _ _ h=>h) (Or.inl ⟨by rfl,?_⟩) ?_ ?_
  rotate_left
  ·intro w'
   go_simp
   with_reducible rfl
  rotate_left
  ·simp only [Act.put,List.setIfInBounds_toArray,List.set_cons_zero,List.set_cons_succ,i64_w,i32_w]
   rfl
  refine pure_ (i:=4) (N:=some 18) (v:=?_) (a':=?_) #[true,false,true,false,true,false,false,false,false,false,false,false,false,false,false,false,false,false,false,false,false,false,false,false,false,false,false,false,false,false,false] rfl rfl (any_of HT_.out (by kernel_rfl)) (fun _ _ _ h=>h) (Or.inl ⟨by rfl,?_⟩) ?_ ?_
  rotate_left
  ·intro w'
   go_simp
   with_reducible rfl
  rotate_left
  ·simp only [Act.put,List.setIfInBounds_toArray,List.set_cons_zero,List.set_cons_succ,i64_w,i32_w]
   rfl
  refine pure_ (i:=6) (N:=some 20) (v:=?_) (a':=?_) #[true,false,true,false,true,false,true,false,false,false,false,false,false,false,false,false,false,false,false,false,false,false,false,false,false,false,false,false,false,false,false] rfl rfl (any_of HT_.out (by kernel_rfl)) (fun _ _ _ h=>h) (Or.inl ⟨by rfl,?_⟩) ?_ ?_
  rotate_left
  ·intro w'
   go_simp
   with_reducible rfl
  rotate_left
  ·simp only [Act.put,List.setIfInBounds_toArray,List.set_cons_zero,List.set_cons_succ,i64_w,i32_w]
   rfl
  refine pure_ (i:=8) (N:=some 22) (v:=?_) (a':=?_) #[true,false,true,false,true,false,true,false,true,false,false,false,false,false,false,false,false,false,false,false,false,false,false,false,false,false,false,false,false,false,false] rfl rfl (any_of HT_.out (by kernel_rfl)) (fun _ _ _ h=>h) (Or.inl ⟨by rfl,?_⟩) ?_ ?_
  rotate_left
  ·intro w'
   go_simp
   with_reducible rfl
  rotate_left
  ·simp only [Act.put,List.setIfInBounds_toArray,List.set_cons_zero,List.set_cons_succ,i64_w,i32_w]
   rfl
  refine pure_ (i:=10) (N:=some 24) (v:=?_) (a':=?_) #[true,false,true,false,true,false,true,false,true,false,true,false,false,false,false,false,false,false,false,false,false,false,false,false,false,false,false,false,false,false,false] rfl rfl (any_of HT_.out (by kernel_rfl)) (fun _ _ _ h=>h) (Or.inl ⟨by rfl,?_⟩) ?_ ?_
  rotate_left
  ·intro w'
   go_simp
   with_reducible rfl
  rotate_left
  ·simp only [Act.put,List.setIfInBounds_toArray,List.set_cons_zero,List.set_cons_succ,i64_w,i32_w]
   rfl
  refine pure_ (i:=12) (N:=some 26) (v:=?_) (a':=?_) #[true,false,true,false,true,false,true,false,true,false,true,false,true,false,false,false,false,false,false,false,false,false,false,false,false,false,false,false,false,false,false] rfl rfl (any_of HT_.out (by kernel_rfl)) (fun _ _ _ h=>h) (Or.inl ⟨by rfl,?_⟩) ?_ ?_
  rotate_left
  ·intro w'
   go_simp
   with_reducible rfl
  rotate_left
  ·simp only [Act.put,List.setIfInBounds_toArray,List.set_cons_zero,List.set_cons_succ,i64_w,i32_w]
   rfl
  refine pure_ (i:=14) (N:=some 28) (v:=?_) (a':=?_) #[true,false,true,false,true,false,true,false,true,false,true,false,true,false,true,false,false,false,false,false,false,false,false,false,false,false,false,false,false,false,false] rfl rfl (any_of HT_.out (by kernel_rfl)) (fun _ _ _ h=>h) (Or.inl ⟨by rfl,?_⟩) ?_ ?_
  rotate_left
  ·intro w'
   go_simp
   with_reducible rfl
  rotate_left
  ·simp only [Act.put,List.setIfInBounds_toArray,List.set_cons_zero,List.set_cons_succ,i64_w,i32_w]
   rfl
  refine pure_ (i:=16) (N:=some 30) (v:=?_) (a':=?_) #[true,false,true,false,true,false,true,false,true,false,true,false,true,false,true,false,true,false,false,false,false,false,false,false,false,false,false,false,false,false,false] rfl rfl (any_of HT_.out (by kernel_rfl)) (fun _ _ _ h=>h) (Or.inl ⟨by rfl,?_⟩) ?_ ?_
  rotate_left
  ·intro w'
   go_simp
   with_reducible rfl
  rotate_left
  ·simp only [Act.put,List.setIfInBounds_toArray,List.set_cons_zero,List.set_cons_succ,i64_w,i32_w]
   rfl
  refine pure_ (i:=18) (N:=some 32) (v:=?_) (a':=?_) #[true,false,true,false,true,false,true,false,true,false,true,false,true,false,true,false,true,false,true,false,false,false,false,false,false,false,false,false,false,false,false] rfl rfl (any_of HT_.out (by kernel_rfl)) (fun _ _ _ h=>h) (Or.inl ⟨by rfl,?_⟩) ?_ ?_
  rotate_left
  ·intro w'
   go_simp
   with_reducible rfl
  rotate_left
  ·simp only [Act.put,List.setIfInBounds_toArray,List.set_cons_zero,List.set_cons_succ,i64_w,i32_w]
   rfl
  refine pure_ (i:=20) (N:=some 34) (v:=?_) (a':=?_) #[true,false,true,false,true,false,true,false,true,false,true,false,true,false,true,false,true,false,true,false,true,false,false,false,false,false,false,false,false,false,false] rfl rfl (any_of HT_.out (by kernel_rfl)) (fun _ _ _ h=>h) (Or.inl ⟨by rfl,?_⟩) ?_ ?_
  rotate_left
  ·intro w'
   go_simp
   with_reducible rfl
  rotate_left
  ·simp only [Act.put,List.setIfInBounds_toArray,List.set_cons_zero,List.set_cons_succ,i64_w,i32_w]
   rfl
  refine pure_ (i:=22) (N:=some 36) (v:=?_) (a':=?_) #[true,false,true,false,true,false,true,false,true,false,true,false,true,false,true,false,true,false,true,false,true,false,true,false,false,false,false,false,false,false,false] rfl rfl (any_of HT_.out (by kernel_rfl)) (fun _ _ _ h=>h) (Or.inl ⟨by rfl,?_⟩) ?_ ?_
  rotate_left
  ·intro w'
   go_simp
   with_reducible rfl
  rotate_left
  ·simp only [Act.put,List.setIfInBounds_toArray,List.set_cons_zero,List.set_cons_succ,i64_w,i32_w]
   rfl
  refine pure_ (i:=25) (N:=some 39) (v:=?_) (a':=?_) #[true,false,true,false,true,false,true,false,true,false,true,false,true,false,true,false,true,false,true,false,true,false,true,false,false,true,false,false,false,false,false] rfl rfl (any_of HT_.out (by kernel_rfl)) (fun _ _ _ h=>h) (Or.inl ⟨by rfl,?_⟩) ?_ ?_
  rotate_left
  ·intro w'
   go_simp
   with_reducible rfl
  rotate_left
  ·simp only [Act.put,List.setIfInBounds_toArray,List.set_cons_zero,List.set_cons_succ,i64_w,i32_w]
   rfl
  refine pure_ (i:=30) (N:=some 44) (v:=?_) (a':=?_) #[true,false,true,false,true,false,true,false,true,false,true,false,true,false,true,false,true,false,true,false,true,false,true,false,false,true,false,false,false,false,true] rfl rfl (any_of HT_.out (by kernel_rfl)) (fun _ _ _ h=>h) (Or.inl ⟨by rfl,?_⟩) ?_ ?_
  rotate_left
  ·intro w'
   go_simp
   with_reducible rfl
  rotate_left
  ·simp only [Act.put,List.setIfInBounds_toArray,List.set_cons_zero,List.set_cons_succ,i64_w,i32_w]
   rfl
  refine take_ (i:=1) (N:=some 15) (v:=?_) (a':=?_) #[true,true,true,false,true,false,true,false,true,false,true,false,true,false,true,false,true,false,true,false,true,false,true,false,false,true,false,false,false,false,true] rfl rfl (take_ofW HT_.out HW_.out (by kernel_rfl)) (fun _ _ _ h=>h) (Or.inl ⟨by rfl,?_⟩) hHeld ?_ ?_
  rotate_left
  ·rintro w' ⟨s0,s1,s2,s3,s4,s5,s6,s7,s8,s9,s10,s11,s12⟩
   go_simp
   with_reducible rfl
  rotate_left
  ·simp only [Act.put,List.setIfInBounds_toArray,List.set_cons_zero,List.set_cons_succ,i64_w,i32_w]
   rfl
  refine take_ (i:=3) (N:=some 17) (v:=?_) (a':=?_) #[true,true,true,true,true,false,true,false,true,false,true,false,true,false,true,false,true,false,true,false,true,false,true,false,false,true,false,false,false,false,true] rfl rfl (take_ofW HT_.out HW_.out (by kernel_rfl)) (fun _ _ _ h=>h) (Or.inl ⟨by rfl,?_⟩) hHeld ?_ ?_
  rotate_left
  ·rintro w' ⟨s0,s1,s2,s3,s4,s5,s6,s7,s8,s9,s10,s11,s12⟩
   go_simp
   with_reducible rfl
  rotate_left
  ·simp only [Act.put,List.setIfInBounds_toArray,List.set_cons_zero,List.set_cons_succ,i64_w,i32_w]
   rfl
  refine take_ (i:=5) (N:=some 19) (v:=?_) (a':=?_) #[true,true,true,true,true,true,true,false,true,false,true,false,true,false,true,false,true,false,true,false,true,false,true,false,false,true,false,false,false,false,true] rfl rfl (take_ofW HT_.out HW_.out (by kernel_rfl)) (fun _ _ _ h=>h) (Or.inl ⟨by rfl,?_⟩) hHeld ?_ ?_
  rotate_left
  ·rintro w' ⟨s0,s1,s2,s3,s4,s5,s6,s7,s8,s9,s10,s11,s12⟩
   go_simp
   with_reducible rfl
  rotate_left
  ·simp only [Act.put,List.setIfInBounds_toArray,List.set_cons_zero,List.set_cons_succ,i64_w,i32_w]
   rfl
  refine take_ (i:=7) (N:=some 21) (v:=?_) (a':=?_) #[true,true,true,true,true,true,true,true,true,false,true,false,true,false,true,false,true,false,true,false,true,false,true,false,false,true,false,false,false,false,true] rfl rfl (take_ofW HT_.out HW_.out (by kernel_rfl)) (fun _ _ _ h=>h) (Or.inl ⟨by rfl,?_⟩) hHeld ?_ ?_
  rotate_left
  ·rintro w' ⟨s0,s1,s2,s3,s4,s5,s6,s7,s8,s9,s10,s11,s12⟩
   go_simp
   with_reducible rfl
  rotate_left
  ·simp only [Act.put,List.setIfInBounds_toArray,List.set_cons_zero,List.set_cons_succ,i64_w,i32_w]
   rfl
  refine take_ (i:=9) (N:=some 23) (v:=?_) (a':=?_) #[true,true,true,true,true,true,true,true,true,true,true,false,true,false,true,false,true,false,true,false,true,false,true,false,false,true,false,false,false,false,true] rfl rfl (take_ofW HT_.out HW_.out (by kernel_rfl)) (fun _ _ _ h=>h) (Or.inl ⟨by rfl,?_⟩) hHeld ?_ ?_
  rotate_left
  ·rintro w' ⟨s0,s1,s2,s3,s4,s5,s6,s7,s8,s9,s10,s11,s12⟩
   go_simp
   with_reducible rfl
  rotate_left
  ·simp only [Act.put,List.setIfInBounds_toArray,List.set_cons_zero,List.set_cons_succ,i64_w,i32_w]
   rfl
  refine take_ (i:=11) (N:=some 25) (v:=?_) (a':=?_) #[true,true,true,true,true,true,true,true,true,true,true,true,true,false,true,false,true,false,true,false,true,false,true,false,false,true,false,false,false,false,true] rfl rfl (take_ofW HT_.out HW_.out (by kernel_rfl)) (fun _ _ _ h=>h) (Or.inl ⟨by rfl,?_⟩) hHeld ?_ ?_
  rotate_left
  ·rintro w' ⟨s0,s1,s2,s3,s4,s5,s6,s7,s8,s9,s10,s11,s12⟩
   go_simp
   with_reducible rfl
  rotate_left
  ·simp only [Act.put,List.setIfInBounds_toArray,List.set_cons_zero,List.set_cons_succ,i64_w,i32_w]
   rfl
  refine take_ (i:=13) (N:=some 27) (v:=?_) (a':=?_) #[true,true,true,true,true,true,true,true,true,true,true,true,true,true,true,false,true,false,true,false,true,false,true,false,false,true,false,false,false,false,true] rfl rfl (take_ofW HT_.out HW_.out (by kernel_rfl)) (fun _ _ _ h=>h) (Or.inl ⟨by rfl,?_⟩) hHeld ?_ ?_
  rotate_left
  ·rintro w' ⟨s0,s1,s2,s3,s4,s5,s6,s7,s8,s9,s10,s11,s12⟩
   go_simp
   with_reducible rfl
  rotate_left
  ·simp only [Act.put,List.setIfInBounds_toArray,List.set_cons_zero,List.set_cons_succ,i64_w,i32_w]
   rfl
  refine take_ (i:=15) (N:=some 29) (v:=?_) (a':=?_) #[true,true,true,true,true,true,true,true,true,true,true,true,true,true,true,true,true,false,true,false,true,false,true,false,false,true,false,false,false,false,true] rfl rfl (take_ofW HT_.out HW_.out (by kernel_rfl)) (fun _ _ _ h=>h) (Or.inl ⟨by rfl,?_⟩) hHeld ?_ ?_
  rotate_left
  ·rintro w' ⟨s0,s1,s2,s3,s4,s5,s6,s7,s8,s9,s10,s11,s12⟩
   go_simp
   with_reducible rfl
  rotate_left
  ·simp only [Act.put,List.setIfInBounds_toArray,List.set_cons_zero,List.set_cons_succ,i64_w,i32_w]
   rfl
  refine take_ (i:=17) (N:=some 31) (v:=?_) (a':=?_) #[true,true,true,true,true,true,true,true,true,true,true,true,true,true,true,true,true,true,true,false,true,false,true,false,false,true,false,false,false,false,true] rfl rfl (take_ofW HT_.out HW_.out (by kernel_rfl)) (fun _ _ _ h=>h) (Or.inl ⟨by rfl,?_⟩) hHeld ?_ ?_
  rotate_left
  ·rintro w' ⟨s0,s1,s2,s3,s4,s5,s6,s7,s8,s9,s10,s11,s12⟩
   go_simp
   with_reducible rfl
  rotate_left
  ·simp only [Act.put,List.setIfInBounds_toArray,List.set_cons_zero,List.set_cons_succ,i64_w,i32_w]
   rfl
  refine take_ (i:=19) (N:=some 33) (v:=?_) (a':=?_) #[true,true,true,true,true,true,true,true,true,true,true,true,true,true,true,true,true,true,true,true,true,false,true,false,false,true,false,false,false,false,true] rfl rfl (take_ofW HT_.out HW_.out (by kernel_rfl)) (fun _ _ _ h=>h) (Or.inl ⟨by rfl,?_⟩) hHeld ?_ ?_
  rotate_left
  ·rintro w' ⟨s0,s1,s2,s3,s4,s5,s6,s7,s8,s9,s10,s11,s12⟩
   go_simp
   with_reducible rfl
  rotate_left
  ·simp only [Act.put,List.setIfInBounds_toArray,List.set_cons_zero,List.set_cons_succ,i64_w,i32_w]
   rfl
  refine take_ (i:=21) (N:=some 35) (v:=?_) (a':=?_) #[true,true,true,true,true,true,true,true,true,true,true,true,true,true,true,true,true,true,true,true,true,true,true,false,false,true,false,false,false,false,true] rfl rfl (take_ofW HT_.out HW_.out (by kernel_rfl)) (fun _ _ _ h=>h) (Or.inl ⟨by rfl,?_⟩) hHeld ?_ ?_
  rotate_left
  ·rintro w' ⟨s0,s1,s2,s3,s4,s5,s6,s7,s8,s9,s10,s11,s12⟩
   go_simp
   with_reducible rfl
  rotate_left
  ·simp only [Act.put,List.setIfInBounds_toArray,List.set_cons_zero,List.set_cons_succ,i64_w,i32_w]
   rfl
  refine take_ (i:=23) (N:=some 37) (v:=?_) (a':=?_) #[true,true,true,true,true,true,true,true,true,true,true,true,true,true,true,true,true,true,true,true,true,true,true,true,false,true,false,false,false,false,true] rfl rfl (take_ofW HT_.out HW_.out (by kernel_rfl)) (fun _ _ _ h=>h) (Or.inl ⟨by rfl,?_⟩) hHeld ?_ ?_
  rotate_left
  ·rintro w' ⟨s0,s1,s2,s3,s4,s5,s6,s7,s8,s9,s10,s11,s12⟩
   go_simp
   with_reducible rfl
  rotate_left
  ·simp only [Act.put,List.setIfInBounds_toArray,List.set_cons_zero,List.set_cons_succ,i64_w,i32_w]
   rfl
  refine take_ (i:=26) (N:=some 40) (v:=?_) (a':=?_) #[true,true,true,true,true,true,true,true,true,true,true,true,true,true,true,true,true,true,true,true,true,true,true,true,false,true,true,false,false,false,true] rfl rfl (take_ofW HT_.out HW_.out (by kernel_rfl)) (fun _ _ _ h=>h) (Or.inl ⟨by rfl,?_⟩) hHeld ?_ ?_
  rotate_left
  ·rintro w' ⟨s0,s1,s2,s3,s4,s5,s6,s7,s8,s9,s10,s11,s12⟩
   go_simp
   with_reducible rfl
  rotate_left
  ·simp only [Act.put,List.setIfInBounds_toArray,List.set_cons_zero,List.set_cons_succ,i64_w,i32_w]
   rfl
  refine one_ (i:=24) (N:=some 38) #[true,true,true,true,true,true,true,true,true,true,true,true,true,true,true,true,true,true,true,true,true,true,true,true,true,true,true,false,false,false,true] rfl rfl (one_of HT_.out (by kernel_rfl)) (by decide) (fun K hK=>?_)
  refine goes_ Try.func91 (by kernel_rfl) rfl #[.bool a1_11] (by rfl) rfl rfl (by (try simp only [List.map_toArray,List.map_cons,List.map_nil]);first|done|rfl|(simp only [List.length_drop,List.length_take];rfl)) ?_
  with_reducible refine (impl_bit.calls a1_11 t507 _ A6.out).mono ?_
  rintro e w' ⟨rfl,⟨nd,rfl⟩⟩
  refine ⟨_,rfl,?_⟩
  refine hK.out _ _ ⟨(blk_cell BK502.out 0).trans rfl,(blk_cell BK502.out 1).trans rfl,(blk_cell BK502.out 2).trans rfl,(blk_cell BK502.out 3).trans rfl,(blk_cell BK502.out 4).trans rfl,(blk_cell BK502.out 5).trans rfl,(blk_cell BK502.out 6).trans rfl,(blk_cell BK502.out 7).trans rfl,(blk_cell BK502.out 8).trans rfl,(blk_cell BK502.out 9).trans rfl,(blk_cell BK502.out 10).trans rfl,(blk_cell BK502.out 11).trans rfl,(blk_cell BK502.out 12).trans rfl⟩ (fun hHeld=>?_)
  clear hK K
  refine norm_ (a':=?_) ?_ ?_
  rotate_left
  ·show Act.put _ (some 38) _=_
   simp only [Act.put,List.setIfInBounds_toArray,List.set_cons_zero,List.set_cons_succ,i64_w,i32_w]
   rfl
  refine one_ (i:=27) (N:=some 41) #[true,true,true,true,true,true,true,true,true,true,true,true,true,true,true,true,true,true,true,true,true,true,true,true,true,true,true,true,false,false,true] rfl rfl (one_of HT_.out (by kernel_rfl)) (by decide) (fun K hK=>?_)
  refine goes_ Try.func91 (by kernel_rfl) rfl #[.bool a1_12] (by rfl) rfl rfl (by (try simp only [List.map_toArray,List.map_cons,List.map_nil]);first|done|rfl|(simp only [List.length_drop,List.length_take];rfl)) ?_
  with_reducible refine (impl_bit.calls a1_12 t508 _ A7.out).mono ?_
  rintro e w' ⟨rfl,⟨nd,rfl⟩⟩
  refine ⟨_,rfl,?_⟩
  refine hK.out _ _ ⟨(blk_cell BK502.out 0).trans rfl,(blk_cell BK502.out 1).trans rfl,(blk_cell BK502.out 2).trans rfl,(blk_cell BK502.out 3).trans rfl,(blk_cell BK502.out 4).trans rfl,(blk_cell BK502.out 5).trans rfl,(blk_cell BK502.out 6).trans rfl,(blk_cell BK502.out 7).trans rfl,(blk_cell BK502.out 8).trans rfl,(blk_cell BK502.out 9).trans rfl,(blk_cell BK502.out 10).trans rfl,(blk_cell BK502.out 11).trans rfl,(blk_cell BK502.out 12).trans rfl⟩ (fun hHeld=>?_)
  clear hK K
  refine norm_ (a':=?_) ?_ ?_
  rotate_left
  ·show Act.put _ (some 41) _=_
   simp only [Act.put,List.setIfInBounds_toArray,List.set_cons_zero,List.set_cons_succ,i64_w,i32_w]
   rfl
  refine one_ (i:=28) (N:=some 42) #[true,true,true,true,true,true,true,true,true,true,true,true,true,true,true,true,true,true,true,true,true,true,true,true,true,true,true,true,true,false,true] rfl rfl (one_of HT_.out (by kernel_rfl)) (by decide) (fun K hK=>?_)
  refine Kd.R_lit_step (Kd.int .i64) _ 3 ?hg (N:=42) ?hd (xs:=([a1_0,a1_1,a1_2,a1_3,a1_4,a1_5,a1_6,a1_7,a1_8,a1_9,a1_10,t507,t508]:List Int)) (inner:=[.int .i64 a1_0,.int .i64 a1_1,.int .i64 a1_2,.int .i64 a1_3,.int .i64 a1_4,.int .i64 a1_5,.int .i64 a1_6,.int .i64 a1_7,.int .i64 a1_8,.int .i64 a1_9,.int .i64 a1_10,.int .i64 t507,.int .i64 t508]) (ok:=fun _=>True) (okp:=fun _=>True) ?hr ?hp (fun _ hk=>hk) trivial (Below.refl _ _) (Nat.le_refl _) (by simp) ?_;(case hd=>rfl);(case hg=>rfl);(case hr=>first|(go_simp;done)|(go_simp;rfl));(case hp=>exact (Reps.one (show Kd.M (Kd.int .i64) _ _ _ a1_0 [.int .i64 a1_0] from rfl) (Reps.one (show Kd.M (Kd.int .i64) _ _ _ a1_1 [.int .i64 a1_1] from rfl) (Reps.one (show Kd.M (Kd.int .i64) _ _ _ a1_2 [.int .i64 a1_2] from rfl) (Reps.one (show Kd.M (Kd.int .i64) _ _ _ a1_3 [.int .i64 a1_3] from rfl) (Reps.one (show Kd.M (Kd.int .i64) _ _ _ a1_4 [.int .i64 a1_4] from rfl) (Reps.one (show Kd.M (Kd.int .i64) _ _ _ a1_5 [.int .i64 a1_5] from rfl) (Reps.one (show Kd.M (Kd.int .i64) _ _ _ a1_6 [.int .i64 a1_6] from rfl) (Reps.one (show Kd.M (Kd.int .i64) _ _ _ a1_7 [.int .i64 a1_7] from rfl) (Reps.one (show Kd.M (Kd.int .i64) _ _ _ a1_8 [.int .i64 a1_8] from rfl) (Reps.one (show Kd.M (Kd.int .i64) _ _ _ a1_9 [.int .i64 a1_9] from rfl) (Reps.one (show Kd.M (Kd.int .i64) _ _ _ a1_10 [.int .i64 a1_10] from rfl) (Reps.one (show Kd.M (Kd.int .i64) _ _ _ t507 [.int .i64 t507] from rfl) (Reps.one (show Kd.M (Kd.int .i64) _ _ _ t508 [.int .i64 t508] from rfl) (Reps.none _ _)))))))))))))))
  intro v510 w13 ho14 hb hg_ hnew_
  clear hg_ hnew_
  (first|rw [← Ny509.out] at ho14|(simp only [Int.reduceToNat] at ho14;rw [← Ny509.out] at ho14))
  have n0_:=Aside0.mk (Kd.R_below (by (with_reducible repeat (first|apply Kd.R_alloc|apply Kd.R_drewN|apply Kd.R_drew));exact HO505.out) hb)
  have n1_:=Aside0.mk (Kd.R_lower ho14 (below_size (by repeat (first|(with_reducible first|exact HB.out|apply below_alloc|apply pw_below_drewN|apply below_drew1|refine below_set ?_ GE502.out)|exact HB.out))))
  have n2_:=Aside0.mk (blk_below (g:=gb502) (o := .cells #[.int .i64 a1_0,.int .i64 a1_1,.int .i64 a1_2,.int .i64 a1_3,.int .i64 a1_4,.int .i64 a1_5,.int .i64 a1_6,.int .i64 a1_7,.int .i64 a1_8,.int .i64 a1_9,.int .i64 a1_10,.bool a1_11,.bool a1_12] 25 (0,0)) (by (with_reducible repeat (first|refine blk_drewN ?_ _|refine blk_drew ?_|refine blk_alloc ?_ _));exact BK502.out) hb)
  have n3_:=Aside0.mk (below_step (by repeat (first|(with_reducible first|exact HB.out|apply below_alloc|apply pw_below_drewN|apply below_drew1|refine below_set ?_ GE502.out)|exact HB.out)) hb)
  clear HO505
  clear BK502
  clear HB
  have HO505:=n0_
  have HO511:=n1_
  have BK502:=n2_
  have HB:=n3_
  clear n0_ n1_ n2_ n3_
  clear hb ho14
  obtain ⟨Ao15,co15,eo15⟩:=Kd.R_slice HO511.out
  (first|subst eo15|(injection eo15 with f1_ f2_ f3_;have f4_:=f1_.symm;have f5_:=f3_.symm;clear f1_ f2_ f3_;subst f4_;subst f5_))
  refine hK.out _ _ ⟨(blk_cell BK502.out 0).trans rfl,(blk_cell BK502.out 1).trans rfl,(blk_cell BK502.out 2).trans rfl,(blk_cell BK502.out 3).trans rfl,(blk_cell BK502.out 4).trans rfl,(blk_cell BK502.out 5).trans rfl,(blk_cell BK502.out 6).trans rfl,(blk_cell BK502.out 7).trans rfl,(blk_cell BK502.out 8).trans rfl,(blk_cell BK502.out 9).trans rfl,(blk_cell BK502.out 10).trans rfl,(blk_cell BK502.out 11).trans rfl,(blk_cell BK502.out 12).trans rfl⟩ (fun hHeld=>?_)
  clear hK K
  refine norm_ (a':=?_) ?_ ?_
  rotate_left
  ·show Act.put _ (some 42) _=_
   simp only [Act.put,List.setIfInBounds_toArray,List.set_cons_zero,List.set_cons_succ,i64_w,i32_w]
   rfl
  refine pure_ (i:=29) (N:=some 43) (v:=?_) (a':=?_) #[true,true,true,true,true,true,true,true,true,true,true,true,true,true,true,true,true,true,true,true,true,true,true,true,true,true,true,true,true,true,true] rfl rfl (any_of HT_.out (by kernel_rfl)) (fun _ _ _ h=>h) (Or.inl ⟨by rfl,?_⟩) ?_ ?_
  rotate_left
  ·intro w'
   go_simp
   with_reducible rfl
  rotate_left
  ·simp only [Act.put,List.setIfInBounds_toArray,List.set_cons_zero,List.set_cons_succ,i64_w,i32_w]
   rfl
  refine done_ (done_of HT_.out (by kernel_rfl)) ?_
  try go_wp2
  go_loopg [5,44] k (fun kq v5 v44 w'=>∃ (x5_1:List Int) (x44_1:Int),v44 = .int .i64 x44_1∧Aside0 (impl_PutPiece.l0 kq x5_1 y509 (y509.length:Int) x44_1=some r)∧Aside0 (kq≤k)∧Aside0 (Kd.R (Kd.int .u8) 5 w' w.heap.size (fun _=>True) v5 x5_1)∧Aside0 (Kd.R (Kd.int .i64) 3 w' w.heap.size (fun _=>True) (.slice Ao15 y509.length co15) y509)∧Aside0 (w'.heap[gb502]?=some (.cells #[.int .i64 a1_0,.int .i64 a1_1,.int .i64 a1_2,.int .i64 a1_3,.int .i64 a1_4,.int .i64 a1_5,.int .i64 a1_6,.int .i64 a1_7,.int .i64 a1_8,.int .i64 a1_9,.int .i64 a1_10,.bool a1_11,.bool a1_12] 25 (0,0)))∧Aside0 (Below w.heap.size w w'))
  case atStart=>exact ⟨(t503),(0),(by first|rfl|(simp;done)|(simp [*];done)),H',⟨Nat.le_refl _⟩,⟨by (with_reducible repeat (first|apply Kd.R_alloc|apply Kd.R_drewN|apply Kd.R_drew));exact HO505.out⟩,⟨by (with_reducible repeat (first|apply Kd.R_alloc|apply Kd.R_drewN|apply Kd.R_drew));exact HO511.out⟩,⟨by (with_reducible repeat (first|refine blk_drewN ?_ _|refine blk_drew ?_|refine blk_alloc ?_ _));exact BK502.out⟩,⟨by repeat (first|(with_reducible first|exact HB.out|apply below_alloc|apply pw_below_drewN|apply below_drew1|refine below_set ?_ GE502.out)|exact HB.out)⟩⟩
  case round =>
   clear H'
   try clear c1
   try clear p2
   try clear c3
   try clear c5
   try clear c9
   try clear hcz10_0
   try clear hcz10_1
   try clear hcz10_10
   try clear hcz10_11
   try clear hcz10_12
   try clear hcz10_2
   try clear hcz10_3
   try clear hcz10_4
   try clear hcz10_5
   try clear hcz10_6
   try clear hcz10_7
   try clear hcz10_8
   try clear hcz10_9
   try clear hfz10_0
   try clear hfz10_1
   try clear hfz10_10
   try clear hfz10_11
   try clear hfz10_12
   try clear hfz10_2
   try clear hfz10_3
   try clear hfz10_4
   try clear hfz10_5
   try clear hfz10_6
   try clear hfz10_7
   try clear hfz10_8
   try clear hfz10_9
   obtain ⟨x5_1,x44_1,rfl,HA,HK1,HO_5,HO_42,BK502,HB⟩:=hrel
   cases gk with
   | zero=>exact absurd HA.out (by simp [impl_PutPiece.l0])
   | succ k1 =>
    have H:=HA.out
    clear HA
    simp only [impl_PutPiece.l0] at H
    by_cases c16:x44_1 < (y509.length:Int)
    ·rw [if_pos c16] at H
     have c16b0:decide (x44_1 < (y509.length:Int))=true:=decide_eq_true c16
     clear c16
     by_cases c17:0≤x44_1
     ·rw [if_pos c17] at H
      have c17b0:decide (0≤x44_1)=true:=decide_eq_true c17
      clear c17
      by_cases c18:x44_1 < (y509.length:Int)
      ·rw [if_pos c18] at H
       have c18b0:decide (x44_1 < (y509.length:Int))=true:=decide_eq_true c18
       clear c18
       replace H:=Option.bind_eq_some_iff.mp H
       obtain ⟨t513,A190,H⟩:=H
       replace H:(impl_PutPiece.l0 k1 t513 y509 (y509.length:Int) (wrap64 (x44_1+1)))=some r:=H
       have A19:=Aside0.mk A190
       clear A190
       have H':=Aside0.mk H
       clear H
       have p512:0≤(x44_1:Int):=of_decide_eq_true (by first|(with_reducible assumption)|assumption)
       have q512:x44_1 < (y509.length:Int):=of_decide_eq_true (by first|(with_reducible assumption)|assumption)
       obtain ⟨ad512,e512,hx512_0⟩:=Kd.at_int (Kd.R_reads' HO_42.out).2.2 x44_1 p512 q512
       cases e512
       replace p512:=eq_true p512
       replace q512:=eq_true q512
       obtain ⟨Ao20,co20,eo20⟩:=Kd.R_slice HO_5.out
       subst eo20
       go_wp2_with (first|((with_reducible refine gate_callee (f:=92) rfl ?_);refine goesL_ (some 50) rfl rfl Try.func92 (by kernel_rfl) rfl #[.slice Ao20 x5_1.length co20,.int .i64 (rd y509 x44_1)] rfl (by (try simp only [List.map_toArray,List.map_cons,List.map_nil]);first|done|rfl|(simp only [List.length_drop,List.length_take];rfl)) ?_;(with_reducible refine (impl_PutNum.calls _ _ x5_1 (rd y509 x44_1) t513 _ ?side1 ?side2 A19.out).mono ?_);(case side1=>repeat (first|exact (Kd.R_reads' HO_5.out).2.2|(with_reducible refine Kd.C_alloc ?_ _)|(with_reducible refine Kd.C_drewN ?_ _)|(with_reducible refine Kd.C_drew ?_)));(case side2=>exact (Kd.R_reads' HO_5.out).2.1);rintro e w21 ⟨v514,rfl,ho0,hb⟩;refine ⟨_,rfl,?_⟩;have n0_:=Aside0.mk (Kd.R_elder' (by (with_reducible repeat (first|apply Kd.R_alloc|apply Kd.R_drewN|apply Kd.R_drew));exact HO_5.out) (Kd.R_base ho0) hb);have n1_:=Aside0.mk (Kd.R_below (by (with_reducible repeat (first|apply Kd.R_alloc|apply Kd.R_drewN|apply Kd.R_drew));exact HO_42.out) hb);have n2_:=Aside0.mk (Kd.R_lower (Kd.R_new' ho0 (Kd.R_lt (by (with_reducible repeat (first|apply Kd.R_alloc|apply Kd.R_drewN|apply Kd.R_drew));exact HO_5.out))) (below_size (by repeat (first|(with_reducible first|exact HB.out|apply below_alloc|apply pw_below_drewN|apply below_drew1|refine below_set ?_ GE502.out)|exact HB.out))));have n3_:=Aside0.mk (blk_below (g:=gb502) (o := .cells #[.int .i64 a1_0,.int .i64 a1_1,.int .i64 a1_2,.int .i64 a1_3,.int .i64 a1_4,.int .i64 a1_5,.int .i64 a1_6,.int .i64 a1_7,.int .i64 a1_8,.int .i64 a1_9,.int .i64 a1_10,.bool a1_11,.bool a1_12] 25 (0,0)) (by (with_reducible repeat (first|refine blk_drewN ?_ _|refine blk_drew ?_|refine blk_alloc ?_ _));exact BK502.out) hb);have n4_:=Aside0.mk (below_step (by repeat (first|(with_reducible first|exact HB.out|apply below_alloc|apply pw_below_drewN|apply below_drew1|refine below_set ?_ GE502.out)|exact HB.out)) hb);clear HO_5;clear HO_42;clear BK502;clear HB;have HO_5:=n0_;have HO_42:=n1_;have HO515:=n2_;have BK502:=n3_;have HB:=n4_;clear n0_ n1_ n2_ n3_ n4_;(try clear hb);(try clear hb2);(try clear hk);(try clear hi);(try clear ho0)))
       go_roundg k1
       case measure=>have:=HK1.out;omega
       case rel=>exact ⟨(t513),(wrap64 (x44_1+1)),(by first|rfl|(simp;done)|(simp [*];done)),H',⟨by have:=HK1.out;omega⟩,⟨by (with_reducible repeat (first|apply Kd.R_alloc|apply Kd.R_drewN|apply Kd.R_drew));exact Kd.R_mono HO515.out (fun _ hk=>trivial)⟩,⟨by (with_reducible repeat (first|apply Kd.R_alloc|apply Kd.R_drewN|apply Kd.R_drew));exact HO_42.out⟩,⟨by (with_reducible repeat (first|refine blk_drewN ?_ _|refine blk_drew ?_|refine blk_alloc ?_ _));exact BK502.out⟩,⟨by repeat (first|(with_reducible first|exact HB.out|apply below_alloc|apply pw_below_drewN|apply below_drew1|refine below_set ?_ GE502.out)|exact HB.out)⟩⟩
      ·rw [if_neg c18] at H
       exact absurd H (by simp)
     ·rw [if_neg c17] at H
      exact absurd H (by simp)
    ·rw [if_neg c16] at H
     have c16b0:decide (x44_1 < (y509.length:Int))=false:=decide_eq_false c16
     clear c16
     obtain rfl:=Option.some.inj H
     go_wp2
     go_ret
     exact ⟨_,by first|rfl|(simp [errW_none,errW_some]<;>rfl)|(simp [*,errW_none,errW_some]<;>rfl),by (with_reducible repeat (first|apply Kd.R_alloc|apply Kd.R_drewN|apply Kd.R_drew));exact HO_5.out,by repeat (first|(with_reducible first|exact HB.out|apply below_alloc|apply pw_below_drewN|apply below_drew1|refine below_set ?_ GE502.out)|exact HB.out)⟩
 ·replace c5:=Bool.eq_false_iff.mpr c5
  subst c5
  have H1:(some t503)=some r:=by rw [if_neg (show ¬ (false=true) by decide)] at H;exact H
  clear H
  have H:=H1
  clear H1
  obtain rfl:=Option.some.inj H
  go_enter Try.func30,Try.ntmps30
  go_wp2_with (first|((with_reducible refine gate_dst (N:=3) rfl ?_);refine box_event ?hg (N:=3) ?hd (cs:=#[.int .i64 a1_0,.int .i64 a1_1,.int .i64 a1_2,.int .i64 a1_3,.int .i64 a1_4,.int .i64 a1_5,.int .i64 a1_6,.int .i64 a1_7,.int .i64 a1_8,.int .i64 a1_9,.int .i64 a1_10,.bool a1_11,.bool a1_12]) (t:=25) ?hr ?_;(case hd=>rfl);(case hg=>rfl);(case hr=>first|(go_simp;done)|(go_simp;rfl));intro gb502 hg w22 hbox hb;have n0_:=Aside0.mk (below_step (by repeat (first|(with_reducible first|exact HB.out|apply below_alloc|apply pw_below_drewN|apply below_drew1)|exact HB.out)) hb);have n1_:=Aside0.mk (hbox);have n2_:=Aside0.mk ((by rw [hg];exact (below_size (by repeat (first|(with_reducible first|exact HB.out|apply below_alloc|apply pw_below_drewN|apply below_drew1)|exact HB.out))):w.heap.size≤gb502));have n3_:=Aside0.mk ((by rw [hg];exact (below_size (by repeat (first|(with_reducible first|exact HB.out|apply below_alloc|apply pw_below_drewN|apply below_drew1)|exact HB.out))):w.heap.size≤gb502));clear HB;have HB:=n0_;have BK502:=n1_;have GW502:=n2_;have GE502:=n3_;clear n0_ n1_ n2_ n3_;clear hb hbox hg)|((with_reducible refine gate_callee (f:=90) rfl ?_);refine goesL_ (some 9) rfl rfl Try.func90 (by kernel_rfl) rfl #[.slice A0 l0.length c0] rfl (by (try simp only [List.map_toArray,List.map_cons,List.map_nil]);first|done|rfl|(simp only [List.length_drop,List.length_take];rfl)) ?_;(with_reducible refine (slices_Clone_byte_byte.calls _ _ l0 t503 _ ?side1 ?side2 A3.out).mono ?_);(case side1=>repeat (first|exact (Kd.C_below HR0.out HB.out)|(with_reducible refine Kd.C_alloc ?_ _)|(with_reducible refine Kd.C_drewN ?_ _)|(with_reducible refine Kd.C_drew ?_)));(case side2=>exact HC0.out);rintro e w23 ⟨v504,rfl,ho0,hb⟩;refine ⟨_,rfl,?_⟩;have n0_:=Aside0.mk (Kd.R_lower ho0 (below_size (by repeat (first|(with_reducible first|exact HB.out|apply below_alloc|apply pw_below_drewN|apply below_drew1|refine below_set ?_ GE502.out)|exact HB.out))));have n1_:=Aside0.mk (blk_below (g:=gb502) (o := .cells #[.int .i64 a1_0,.int .i64 a1_1,.int .i64 a1_2,.int .i64 a1_3,.int .i64 a1_4,.int .i64 a1_5,.int .i64 a1_6,.int .i64 a1_7,.int .i64 a1_8,.int .i64 a1_9,.int .i64 a1_10,.bool a1_11,.bool a1_12] 25 (0,0)) (by (with_reducible repeat (first|refine blk_drewN ?_ _|refine blk_drew ?_|refine blk_alloc ?_ _));exact BK502.out) hb);have n2_:=Aside0.mk (below_step (by repeat (first|(with_reducible first|exact HB.out|apply below_alloc|apply pw_below_drewN|apply below_drew1|refine below_set ?_ GE502.out)|exact HB.out)) hb);clear BK502;clear HB;have HO505:=n0_;have BK502:=n1_;have HB:=n2_;clear n0_ n1_ n2_;(try clear hb);(try clear hb2);(try clear hk);(try clear hi);(try clear ho0);have hcz24_0:w23.cell? ⟨gb502,0,none⟩=some (.int .i64 a1_0):=(blk_cell BK502.out 0).trans rfl;have hcz24_1:w23.cell? ⟨gb502,1,none⟩=some (.int .i64 a1_1):=(blk_cell BK502.out 1).trans rfl;have hcz24_2:w23.cell? ⟨gb502,2,none⟩=some (.int .i64 a1_2):=(blk_cell BK502.out 2).trans rfl;have hcz24_3:w23.cell? ⟨gb502,3,none⟩=some (.int .i64 a1_3):=(blk_cell BK502.out 3).trans rfl;have hcz24_4:w23.cell? ⟨gb502,4,none⟩=some (.int .i64 a1_4):=(blk_cell BK502.out 4).trans rfl;have hcz24_5:w23.cell? ⟨gb502,5,none⟩=some (.int .i64 a1_5):=(blk_cell BK502.out 5).trans rfl;have hcz24_6:w23.cell? ⟨gb502,6,none⟩=some (.int .i64 a1_6):=(blk_cell BK502.out 6).trans rfl;have hcz24_7:w23.cell? ⟨gb502,7,none⟩=some (.int .i64 a1_7):=(blk_cell BK502.out 7).trans rfl;have hcz24_8:w23.cell? ⟨gb502,8,none⟩=some (.int .i64 a1_8):=(blk_cell BK502.out 8).trans rfl;have hcz24_9:w23.cell? ⟨gb502,9,none⟩=some (.int .i64 a1_9):=(blk_cell BK502.out 9).trans rfl;have hcz24_10:w23.cell? ⟨gb502,10,none⟩=some (.int .i64 a1_10):=(blk_cell BK502.out 10).trans rfl;have hcz24_11:w23.cell? ⟨gb502,11,none⟩=some (.bool a1_11):=(blk_cell BK502.out 11).trans rfl;have hcz24_12:w23.cell? ⟨gb502,12,none⟩=some (.bool a1_12):=(blk_cell BK502.out 12).trans rfl;have hfz24_0:=blk_frozen BK502.out 0;have hfz24_1:=blk_frozen BK502.out 1;have hfz24_2:=blk_frozen BK502.out 2;have hfz24_3:=blk_frozen BK502.out 3;have hfz24_4:=blk_frozen BK502.out 4;have hfz24_5:=blk_frozen BK502.out 5;have hfz24_6:=blk_frozen BK502.out 6;have hfz24_7:=blk_frozen BK502.out 7;have hfz24_8:=blk_frozen BK502.out 8;have hfz24_9:=blk_frozen BK502.out 9;have hfz24_10:=blk_frozen BK502.out 10;have hfz24_11:=blk_frozen BK502.out 11;have hfz24_12:=blk_frozen BK502.out 12)|((with_reducible refine gate_callee (f:=18) rfl ?_);refine goesL_ (some 11) rfl rfl Try.func18 (by kernel_rfl) rfl #[.agg #[.int .i64 a1_0,.int .i64 a1_1,.int .i64 a1_2,.int .i64 a1_3,.int .i64 a1_4,.int .i64 a1_5,.int .i64 a1_6,.int .i64 a1_7,.int .i64 a1_8,.int .i64 a1_9,.int .i64 a1_10,.bool a1_11,.bool a1_12]] rfl (by (try simp only [List.map_toArray,List.map_cons,List.map_nil]);first|done|rfl|(simp only [List.length_drop,List.length_take];rfl)) ?_;(with_reducible refine (impl_PieceOk.calls k a1_0 a1_1 a1_2 a1_3 a1_4 a1_5 a1_6 a1_7 a1_8 a1_9 a1_10 a1_11 a1_12 false _ A4.out).mono ?_);rintro e w25 ⟨rfl,hb⟩;refine ⟨_,rfl,?_⟩;have n0_:=Aside0.mk (Kd.R_below (by (with_reducible repeat (first|apply Kd.R_alloc|apply Kd.R_drewN|apply Kd.R_drew));exact HO505.out) hb);have n1_:=Aside0.mk (blk_below (g:=gb502) (o := .cells #[.int .i64 a1_0,.int .i64 a1_1,.int .i64 a1_2,.int .i64 a1_3,.int .i64 a1_4,.int .i64 a1_5,.int .i64 a1_6,.int .i64 a1_7,.int .i64 a1_8,.int .i64 a1_9,.int .i64 a1_10,.bool a1_11,.bool a1_12] 25 (0,0)) (by (with_reducible repeat (first|refine blk_drewN ?_ _|refine blk_drew ?_|refine blk_alloc ?_ _));exact BK502.out) hb);have n2_:=Aside0.mk (below_step (by repeat (first|(with_reducible first|exact HB.out|apply below_alloc|apply pw_below_drewN|apply below_drew1|refine below_set ?_ GE502.out)|exact HB.out)) hb);clear HO505;clear BK502;clear HB;have HO505:=n0_;have BK502:=n1_;have HB:=n2_;clear n0_ n1_ n2_;(try clear hb);(try clear hb2);(try clear hk);(try clear hi)))
  go_ret
  exact ⟨_,by first|rfl|(simp [errW_none,errW_some]<;>rfl)|(simp [*,errW_none,errW_some]<;>rfl),by (with_reducible repeat (first|apply Kd.R_alloc|apply Kd.R_drewN|apply Kd.R_drew));exact HO505.out,by repeat (first|(with_reducible first|exact HB.out|apply below_alloc|apply pw_below_drewN|apply below_drew1|refine below_set ?_ GE502.out)|exact HB.out)⟩
end Go.Proofs.Ytfkidiagmekleaa.QAll
