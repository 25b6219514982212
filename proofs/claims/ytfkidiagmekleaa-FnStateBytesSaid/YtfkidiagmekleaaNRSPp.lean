import Derived.Test.YtfkidiagmekleaaNQAllx0
import Derived.Test.YtfkidiagmekleaaNRPn
import Derived.Test.YtfkidiagmekleaaNRSOk
namespace Go.Proofs.Ytfkidiagmekleaa.QAll
open Go.RowKit Go.Proofs.YtfkidiagmekleaaW.PrintWords Go.Proofs.YtfkidiagmekleaaW.PrintLast Go.Proofs.YtfkidiagmekleaaW.PrintMore
attribute [local go_sem] max2_int min2_int max_two min_two max_three min_three max_four min_four
set_option linter.unusedVariables false
set_option linter.unusedSimpArgs false
def spec_PutPiece.l0:Nat→List Int→List Int→Int→Option (List Int)
 | 0,_,_,_=>none
 | k+1,x5,x6,x7=>if x7 < (x6.length:Int) then (if 0≤x7 then ((spec_PutNum.f x5 (rd x6 x7)).bind fun t610=>(spec_PutPiece.l0 k t610 x6 (wrap64 (x7+1)))) else (none)) else (some x5)
def spec_PutPiece.f (k:Nat) (l0:List Int) (a1_0:Int) (a1_1:Int) (a1_2:Int) (a1_3:Int) (a1_4:Int) (a1_5:Int) (a1_6:Int) (a1_7:Int) (a1_8:Int) (a1_9:Int) (a1_10:Int) (a1_11:Bool) (a1_12:Bool):Option (List Int):=(some (([]:List Int):List Int)).bind fun y597=>(if y597.length+l0.length < 140737488355328 then ((some (y597++l0:List Int)).bind fun y600=>((spec_PieceOk.f k a1_0 a1_1 a1_2 a1_3 a1_4 a1_5 a1_6 a1_7 a1_8 a1_9 a1_10 a1_11 a1_12).bind fun t603=>(if t603=true then ((spec_l4Bit.f a1_11).bind fun t604=>((spec_l4Bit.f a1_12).bind fun t605=>(spec_PutPiece.l0 k y600 (([a1_0,a1_1,a1_2,a1_3,a1_4,a1_5,a1_6,a1_7,a1_8,a1_9,a1_10,t604,t605]:List Int)) 0))) else (some y600)))) else (none))
def spec_PutPiece.T4:Bool×List (List Nat×List Nat):=(true,[([],[]),([0],[0]),([],[]),([2],[2]),([],[]),([4],[4]),([],[]),([6],[6]),([],[]),([8],[8]),([],[]),([10],[10]),([],[]),([12],[12]),([],[]),([14],[14]),([],[]),([16],[16]),([],[]),([18],[18]),([],[]),([20],[20]),([],[]),([22],[22]),([23],[23]),([],[]),([25],[25]),([26,24],[26]),([1,3,5,7,9,11,13,15,17,19,21,24,27],[1,3,5,7,9,11,13,15,17,19,21,24,27]),([28,27,0,1,2,3,4,5,6,7,8,9,10,11,12,13,14,15,16,17,18,19,20,21,22,23,24,25,26,27,28],[28])])
def spec_PutPiece.B4:List Nat:=[0,1,0,4,0,16,0,64,0,256,0,1024,0,4096,0,16384,0,65536,0,262144,0,1048576,0,4194304,12582912,0,33554432,130023424,268435455,536870911]
theorem spec_PutPiece.tab4:rtab .any (opsOf Try.f95 4)=spec_PutPiece.T4:=by kernel_rfl
theorem spec_PutPiece.bits4:waitsOk spec_PutPiece.T4.2 spec_PutPiece.B4=true:=by kernel_rfl
set_option maxHeartbeats 8000000 in
set_option maxRecDepth 100000 in
theorem spec_PutPiece.calls (k:Nat) (A0:Option Addr) (c0:Nat) (l0:List Int) (a1_0:Int) (a1_1:Int) (a1_2:Int) (a1_3:Int) (a1_4:Int) (a1_5:Int) (a1_6:Int) (a1_7:Int) (a1_8:Int) (a1_9:Int) (a1_10:Int) (a1_11:Bool) (a1_12:Bool) (r:List Int) (w:World) (hr0:Kd.C (Kd.int .u8) w A0 l0.length l0) (hc0:l0.length≤c0) (h:spec_PutPiece.f k l0 a1_0 a1_1 a1_2 a1_3 a1_4 a1_5 a1_6 a1_7 a1_8 a1_9 a1_10 a1_11 a1_12=some r) :
  Calls Try.prog 95 #[.slice A0 l0.length c0,.agg #[.int .i64 a1_0,.int .i64 a1_1,.int .i64 a1_2,.int .i64 a1_3,.int .i64 a1_4,.int .i64 a1_5,.int .i64 a1_6,.int .i64 a1_7,.int .i64 a1_8,.int .i64 a1_9,.int .i64 a1_10,.bool a1_11,.bool a1_12]] w fun e w'=>∃ v0_:Value,e = .returned (v0_)∧Kd.R (Kd.int .u8) 5 w' w.heap.size (fun _=>True) v0_ r∧Below w.heap.size w w':=by
 have hu25:=Try.underlying25
 have HR0:=Aside0.mk hr0
 have HC0:=Aside0.mk hc0
 clear hr0 hc0
 have HB:=Aside0.mk (Below.refl w.heap.size w)
 have H:((some (([]:List Int):List Int)).bind fun y597=>(if y597.length+l0.length < 140737488355328 then ((some (y597++l0:List Int)).bind fun y600=>((spec_PieceOk.f k a1_0 a1_1 a1_2 a1_3 a1_4 a1_5 a1_6 a1_7 a1_8 a1_9 a1_10 a1_11 a1_12).bind fun t603=>(if t603=true then ((spec_l4Bit.f a1_11).bind fun t604=>((spec_l4Bit.f a1_12).bind fun t605=>(spec_PutPiece.l0 k y600 (([a1_0,a1_1,a1_2,a1_3,a1_4,a1_5,a1_6,a1_7,a1_8,a1_9,a1_10,t604,t605]:List Int)) 0))) else (some y600)))) else (none)))=some r:=h
 clear h
 obtain ⟨y597,hy597⟩:∃ y_:List Int,y_=(([]:List Int)):=⟨_,rfl⟩
 replace H:(if y597.length+l0.length < 140737488355328 then ((some (y597++l0:List Int)).bind fun y600=>((spec_PieceOk.f k a1_0 a1_1 a1_2 a1_3 a1_4 a1_5 a1_6 a1_7 a1_8 a1_9 a1_10 a1_11 a1_12).bind fun t603=>(if t603=true then ((spec_l4Bit.f a1_11).bind fun t604=>((spec_l4Bit.f a1_12).bind fun t605=>(spec_PutPiece.l0 k y600 (([a1_0,a1_1,a1_2,a1_3,a1_4,a1_5,a1_6,a1_7,a1_8,a1_9,a1_10,t604,t605]:List Int)) 0))) else (some y600)))) else (none))=some r:=by first|(rw [hy597];with_reducible exact H)|(have H2_:=(Option.bind_some _ _).symm.trans H;rw [hy597];with_reducible exact H2_)|(have H2_:=(Option.bind_some _ _).symm.trans H;with_reducible exact H2_)|with_reducible exact H|(rw [hy597];exact H)|exact H
 have Ny597:=Aside0.mk hy597
 clear hy597
 by_cases c3:y597.length+l0.length < 140737488355328
 ·rw [if_pos c3] at H
  have LMc3:=Aside0.mk c3
  clear c3
  obtain ⟨y600,hy600⟩:∃ y_:List Int,y_=(y597++l0):=⟨_,rfl⟩
  replace H:((spec_PieceOk.f k a1_0 a1_1 a1_2 a1_3 a1_4 a1_5 a1_6 a1_7 a1_8 a1_9 a1_10 a1_11 a1_12).bind fun t603=>(if t603=true then ((spec_l4Bit.f a1_11).bind fun t604=>((spec_l4Bit.f a1_12).bind fun t605=>(spec_PutPiece.l0 k y600 (([a1_0,a1_1,a1_2,a1_3,a1_4,a1_5,a1_6,a1_7,a1_8,a1_9,a1_10,t604,t605]:List Int)) 0))) else (some y600)))=some r:=by first|(rw [hy600];with_reducible exact H)|(have H2_:=(Option.bind_some _ _).symm.trans H;rw [hy600];with_reducible exact H2_)|(have H2_:=(Option.bind_some _ _).symm.trans H;with_reducible exact H2_)|with_reducible exact H|(rw [hy600];exact H)|exact H
  have Ny600:=Aside0.mk hy600
  clear hy600
  replace H:=Option.bind_eq_some_iff.mp H
  obtain ⟨t603,A40,H⟩:=H
  replace H:(if t603=true then ((spec_l4Bit.f a1_11).bind fun t604=>((spec_l4Bit.f a1_12).bind fun t605=>(spec_PutPiece.l0 k y600 (([a1_0,a1_1,a1_2,a1_3,a1_4,a1_5,a1_6,a1_7,a1_8,a1_9,a1_10,t604,t605]:List Int)) 0))) else (some y600))=some r:=H
  have A4:=Aside0.mk A40
  clear A40
  by_cases c5:t603=true
  ·subst c5
   have H1:((spec_l4Bit.f a1_11).bind fun t604=>((spec_l4Bit.f a1_12).bind fun t605=>(spec_PutPiece.l0 k y600 (([a1_0,a1_1,a1_2,a1_3,a1_4,a1_5,a1_6,a1_7,a1_8,a1_9,a1_10,t604,t605]:List Int)) 0)))=some r:=by rw [if_pos rfl] at H;exact H
   clear H
   have H:=H1
   clear H1
   replace H:=Option.bind_eq_some_iff.mp H
   obtain ⟨t604,A60,H⟩:=H
   replace H:((spec_l4Bit.f a1_12).bind fun t605=>(spec_PutPiece.l0 k y600 (([a1_0,a1_1,a1_2,a1_3,a1_4,a1_5,a1_6,a1_7,a1_8,a1_9,a1_10,t604,t605]:List Int)) 0))=some r:=H
   have A6:=Aside0.mk A60
   clear A60
   replace H:=Option.bind_eq_some_iff.mp H
   obtain ⟨t605,A70,H⟩:=H
   replace H:(spec_PutPiece.l0 k y600 (([a1_0,a1_1,a1_2,a1_3,a1_4,a1_5,a1_6,a1_7,a1_8,a1_9,a1_10,t604,t605]:List Int)) 0)=some r:=H
   have A7:=Aside0.mk A70
   clear A70
   obtain ⟨y606,hy606⟩:∃ y_:List Int,y_=(([a1_0,a1_1,a1_2,a1_3,a1_4,a1_5,a1_6,a1_7,a1_8,a1_9,a1_10,t604,t605]:List Int)):=⟨_,rfl⟩
   replace H:(spec_PutPiece.l0 k y600 y606 0)=some r:=by first|(rw [hy606];with_reducible exact H)|(have H2_:=(Option.bind_some _ _).symm.trans H;rw [hy606];with_reducible exact H2_)|(have H2_:=(Option.bind_some _ _).symm.trans H;with_reducible exact H2_)|with_reducible exact H|(rw [hy606];exact H)|exact H
   have Ny606:=Aside0.mk hy606
   clear hy606
   have H':=Aside0.mk H
   clear H
   go_enter Try.func95,Try.ntmps95
   try go_wp2_with (first|((with_reducible refine gate_dst (N:=3) rfl ?_);refine box_event ?hg (N:=3) ?hd (cs:=#[.int .i64 a1_0,.int .i64 a1_1,.int .i64 a1_2,.int .i64 a1_3,.int .i64 a1_4,.int .i64 a1_5,.int .i64 a1_6,.int .i64 a1_7,.int .i64 a1_8,.int .i64 a1_9,.int .i64 a1_10,.bool a1_11,.bool a1_12]) (t:=25) ?hr ?_;(case hd=>rfl);(case hg=>rfl);(case hr=>first|(go_simp;done)|(go_simp;rfl));intro gb596 hg w8 hbox hb;have n0_:=Aside0.mk (below_step (by repeat (first|(with_reducible first|exact HB.out|apply below_alloc|apply pw_below_drewN|apply below_drew1)|exact HB.out)) hb);have n1_:=Aside0.mk (hbox);have n2_:=Aside0.mk ((by rw [hg];exact (below_size (by repeat (first|(with_reducible first|exact HB.out|apply below_alloc|apply pw_below_drewN|apply below_drew1)|exact HB.out))):w.heap.size≤gb596));have n3_:=Aside0.mk ((by rw [hg];exact (below_size (by repeat (first|(with_reducible first|exact HB.out|apply below_alloc|apply pw_below_drewN|apply below_drew1)|exact HB.out))):w.heap.size≤gb596));clear HB;have HB:=n0_;have BK596:=n1_;have GW596:=n2_;have GE596:=n3_;clear n0_ n1_ n2_ n3_;clear hb hbox hg)|((with_reducible refine gate_dst (N:=8) rfl ?_);refine Kd.R_lit (Kd.int .u8) _ 5 ?hg (N:=8) ?hd (xs:=([]:List Int)) (inner:=[]) (ok:=fun _=>True) (okp:=fun _=>True) ?hr ?hp (fun _ hk=>hk) trivial (Below.refl _ _) (Nat.le_refl _) (by simp) ?_;(case hd=>rfl);(case hg=>rfl);(case hr=>first|(go_simp;done)|(go_simp;rfl));(case hp=>exact (Reps.none _ _));intro v598 w9 ho10 hb hg_ hnew_;clear hg_ hnew_;(first|rw [← Ny597.out] at ho10|(simp only [Int.reduceToNat] at ho10;rw [← Ny597.out] at ho10));have n0_:=Aside0.mk (Kd.R_lower ho10 (below_size (by repeat (first|(with_reducible first|exact HB.out|apply below_alloc|apply pw_below_drewN|apply below_drew1|refine below_set ?_ GE596.out)|exact HB.out))));have n1_:=Aside0.mk (blk_below (g:=gb596) (o := .cells #[.int .i64 a1_0,.int .i64 a1_1,.int .i64 a1_2,.int .i64 a1_3,.int .i64 a1_4,.int .i64 a1_5,.int .i64 a1_6,.int .i64 a1_7,.int .i64 a1_8,.int .i64 a1_9,.int .i64 a1_10,.bool a1_11,.bool a1_12] 25 (0,0)) (by (with_reducible repeat (first|refine blk_drewN ?_ _|refine blk_drew ?_|refine blk_alloc ?_ _));exact BK596.out) hb);have n2_:=Aside0.mk (below_step (by repeat (first|(with_reducible first|exact HB.out|apply below_alloc|apply pw_below_drewN|apply below_drew1|refine below_set ?_ GE596.out)|exact HB.out)) hb);clear BK596;clear HB;have HO599:=n0_;have BK596:=n1_;have HB:=n2_;clear n0_ n1_ n2_;clear hb ho10)|((with_reducible refine gate_builtin (b := .append) (xs:=#[.tmp 8,.tmp 9]) rfl ?_);at_builtin;refine Kd.R_append_rows (Kd.int .u8) (w0:=w) w.heap.size rfl (.tmp 8) (.tmp 9) 22 5 (.int .u8 0) 1 rfl Try.underlying22 info5 rfl (by decide) (by omega) v598 y597 l0 _ _ _ (fun _=>True) (fun _=>False) rfl rfl ?aO ?aR (fun _ _ h=>h) (fun _ h=>h.elim) ?aF ?aB ?aS ?aL ?_;(case aR=>repeat (first|exact (Kd.C_below HR0.out HB.out)|(with_reducible refine Kd.C_alloc ?_ _)|(with_reducible refine Kd.C_drewN ?_ _)|(with_reducible refine Kd.C_drew ?_)));(case aB=>exact (by repeat (first|(with_reducible first|exact HB.out|apply below_alloc|apply pw_below_drewN|apply below_drew1|refine below_set ?_ GE596.out)|exact HB.out)));(case aF=>exact (fun _ _=>trivial));(case aO=>exact (by (with_reducible repeat (first|apply Kd.R_alloc|apply Kd.R_drewN|apply Kd.R_drew));exact HO599.out));(case aS=>exact (below_size (by repeat (first|(with_reducible first|exact HB.out|apply below_alloc|apply pw_below_drewN|apply below_drew1|refine below_set ?_ GE596.out)|exact HB.out))));(case aL=>have:=LMc3.out;omega);intro v601 w11 ho hb hg hat;rw [← Ny600.out] at ho;have n0_:=Aside0.mk (blk_grown (g:=gb596) (o := .cells #[.int .i64 a1_0,.int .i64 a1_1,.int .i64 a1_2,.int .i64 a1_3,.int .i64 a1_4,.int .i64 a1_5,.int .i64 a1_6,.int .i64 a1_7,.int .i64 a1_8,.int .i64 a1_9,.int .i64 a1_10,.bool a1_11,.bool a1_12] 25 (0,0)) (by (with_reducible repeat (first|refine blk_drewN ?_ _|refine blk_drew ?_|refine blk_alloc ?_ _));exact BK596.out) hg (Kd.R_ne HO599.out BK596.out (by decide)));have n1_:=Aside0.mk (hb);have n2_:=Aside0.mk (ho);clear BK596;clear HB;clear HO599;have BK596:=n0_;have HB:=n1_;have HO602:=n2_;clear n0_ n1_ n2_;clear ho hb hg hat;have hcz12_0:w11.cell? ⟨gb596,0,none⟩=some (.int .i64 a1_0):=(blk_cell BK596.out 0).trans rfl;have hcz12_1:w11.cell? ⟨gb596,1,none⟩=some (.int .i64 a1_1):=(blk_cell BK596.out 1).trans rfl;have hcz12_2:w11.cell? ⟨gb596,2,none⟩=some (.int .i64 a1_2):=(blk_cell BK596.out 2).trans rfl;have hcz12_3:w11.cell? ⟨gb596,3,none⟩=some (.int .i64 a1_3):=(blk_cell BK596.out 3).trans rfl;have hcz12_4:w11.cell? ⟨gb596,4,none⟩=some (.int .i64 a1_4):=(blk_cell BK596.out 4).trans rfl;have hcz12_5:w11.cell? ⟨gb596,5,none⟩=some (.int .i64 a1_5):=(blk_cell BK596.out 5).trans rfl;have hcz12_6:w11.cell? ⟨gb596,6,none⟩=some (.int .i64 a1_6):=(blk_cell BK596.out 6).trans rfl;have hcz12_7:w11.cell? ⟨gb596,7,none⟩=some (.int .i64 a1_7):=(blk_cell BK596.out 7).trans rfl;have hcz12_8:w11.cell? ⟨gb596,8,none⟩=some (.int .i64 a1_8):=(blk_cell BK596.out 8).trans rfl;have hcz12_9:w11.cell? ⟨gb596,9,none⟩=some (.int .i64 a1_9):=(blk_cell BK596.out 9).trans rfl;have hcz12_10:w11.cell? ⟨gb596,10,none⟩=some (.int .i64 a1_10):=(blk_cell BK596.out 10).trans rfl;have hcz12_11:w11.cell? ⟨gb596,11,none⟩=some (.bool a1_11):=(blk_cell BK596.out 11).trans rfl;have hcz12_12:w11.cell? ⟨gb596,12,none⟩=some (.bool a1_12):=(blk_cell BK596.out 12).trans rfl;have hfz12_0:=blk_frozen BK596.out 0;have hfz12_1:=blk_frozen BK596.out 1;have hfz12_2:=blk_frozen BK596.out 2;have hfz12_3:=blk_frozen BK596.out 3;have hfz12_4:=blk_frozen BK596.out 4;have hfz12_5:=blk_frozen BK596.out 5;have hfz12_6:=blk_frozen BK596.out 6;have hfz12_7:=blk_frozen BK596.out 7;have hfz12_8:=blk_frozen BK596.out 8;have hfz12_9:=blk_frozen BK596.out 9;have hfz12_10:=blk_frozen BK596.out 10;have hfz12_11:=blk_frozen BK596.out 11;have hfz12_12:=blk_frozen BK596.out 12)|((with_reducible refine gate_callee (f:=19) rfl ?_);refine goesL_ (some 12) rfl rfl Try.func19 (by kernel_rfl) rfl #[.agg #[.int .i64 a1_0,.int .i64 a1_1,.int .i64 a1_2,.int .i64 a1_3,.int .i64 a1_4,.int .i64 a1_5,.int .i64 a1_6,.int .i64 a1_7,.int .i64 a1_8,.int .i64 a1_9,.int .i64 a1_10,.bool a1_11,.bool a1_12]] rfl (by (try simp only [List.map_toArray,List.map_cons,List.map_nil]);first|done|rfl|(simp only [List.length_drop,List.length_take];rfl)) ?_;(with_reducible refine (spec_PieceOk.calls k a1_0 a1_1 a1_2 a1_3 a1_4 a1_5 a1_6 a1_7 a1_8 a1_9 a1_10 a1_11 a1_12 true _ A4.out).mono ?_);rintro e w13 ⟨rfl,hb⟩;refine ⟨_,rfl,?_⟩;have n0_:=Aside0.mk (Kd.R_below (by (with_reducible repeat (first|apply Kd.R_alloc|apply Kd.R_drewN|apply Kd.R_drew));exact HO602.out) hb);have n1_:=Aside0.mk (blk_below (g:=gb596) (o := .cells #[.int .i64 a1_0,.int .i64 a1_1,.int .i64 a1_2,.int .i64 a1_3,.int .i64 a1_4,.int .i64 a1_5,.int .i64 a1_6,.int .i64 a1_7,.int .i64 a1_8,.int .i64 a1_9,.int .i64 a1_10,.bool a1_11,.bool a1_12] 25 (0,0)) (by (with_reducible repeat (first|refine blk_drewN ?_ _|refine blk_drew ?_|refine blk_alloc ?_ _));exact BK596.out) hb);have n2_:=Aside0.mk (below_step (by repeat (first|(with_reducible first|exact HB.out|apply below_alloc|apply pw_below_drewN|apply below_drew1|refine below_set ?_ GE596.out)|exact HB.out)) hb);clear HO602;clear BK596;clear HB;have HO602:=n0_;have BK596:=n1_;have HB:=n2_;clear n0_ n1_ n2_;(try clear hb);(try clear hb2);(try clear hk);(try clear hi)))
   have n0_:=Aside0.mk (Kd.R_drew HO602.out)
   have n1_:=Aside0.mk (blk_drew BK596.out)
   have n2_:=Aside0.mk (below_drew1 HB.out)
   clear HO602
   clear BK596
   clear HB
   have HO602:=n0_
   have BK596:=n1_
   have HB:=n2_
   clear n0_ n1_ n2_
   refine start_ (n:=30) (S:=fun w'=>w'.cell? ⟨gb596,0,none⟩=some (.int .i64 a1_0)∧w'.cell? ⟨gb596,1,none⟩=some (.int .i64 a1_1)∧w'.cell? ⟨gb596,2,none⟩=some (.int .i64 a1_2)∧w'.cell? ⟨gb596,3,none⟩=some (.int .i64 a1_3)∧w'.cell? ⟨gb596,4,none⟩=some (.int .i64 a1_4)∧w'.cell? ⟨gb596,5,none⟩=some (.int .i64 a1_5)∧w'.cell? ⟨gb596,6,none⟩=some (.int .i64 a1_6)∧w'.cell? ⟨gb596,7,none⟩=some (.int .i64 a1_7)∧w'.cell? ⟨gb596,8,none⟩=some (.int .i64 a1_8)∧w'.cell? ⟨gb596,9,none⟩=some (.int .i64 a1_9)∧w'.cell? ⟨gb596,10,none⟩=some (.int .i64 a1_10)∧w'.cell? ⟨gb596,11,none⟩=some (.bool a1_11)∧w'.cell? ⟨gb596,12,none⟩=some (.bool a1_12)) (ds:=[]) #[false,false,false,false,false,false,false,false,false,false,false,false,false,false,false,false,false,false,false,false,false,false,false,false,false,false,false,false,false,false] (by kernel_rfl) rfl rfl ⟨(blk_cell BK596.out 0).trans rfl,(blk_cell BK596.out 1).trans rfl,(blk_cell BK596.out 2).trans rfl,(blk_cell BK596.out 3).trans rfl,(blk_cell BK596.out 4).trans rfl,(blk_cell BK596.out 5).trans rfl,(blk_cell BK596.out 6).trans rfl,(blk_cell BK596.out 7).trans rfl,(blk_cell BK596.out 8).trans rfl,(blk_cell BK596.out 9).trans rfl,(blk_cell BK596.out 10).trans rfl,(blk_cell BK596.out 11).trans rfl,(blk_cell BK596.out 12).trans rfl⟩ (fun hHeld=>?_);refine with_tabW spec_PutPiece.tab4 spec_PutPiece.bits4 (fun HT_ HW_=>?_)
   generalize w13.drew=w14 at HO602 BK596 HB hHeld ⊢
   refine pure_ (i:=0) (N:=some 15) (v:=?_) (a':=?_) #[true,false,false,false,false,false,false,false,false,false,false,false,false,false,false,false,false,false,false,false,false,false,false,false,false,false,false,false,false,false] rfl rfl (any_of HT_.out (by kernel_rfl)) (fun _ _ _ h=>h) (Or.inl ⟨by rfl,?_⟩) ?_ ?_
   rotate_left
   ·intro w'
    go_simp
    with_reducible rfl
   rotate_left
   ·simp only [Act.put,List.setIfInBounds_toArray,List.set_cons_zero,List.set_cons_succ,i64_w,i32_w]
    rfl
   refine pure_ (i:=2) (N:=some 17) (v:=?_) (a':=?_) #[true,false,true,false,false,false,false,false,false,false,false,false,false,false,false,false,false,false,false,false,false,false,false,false,false,false,false,false,false,false] rfl rfl (any_of HT_.out (by kernel_rfl)) (fun _ _ _ h=>h) (Or.inl ⟨by rfl,?_⟩) ?_ ?_
   rotate_left
   ·intro w'
    go_simp
    with_reducible rfl
   rotate_left
   ·simp only [Act.put,List.setIfInBounds_toArray,List.set_cons_zero,List.set_cons_succ,i64_w,i32_w]
    rfl
   refine pure_ (i:=4) (N:=some 19) (v:=?_) (a':=?_) #[true,false,true,false,true,false,false,false,false,false,false,false,false,false,false,false,false,false,false,false,false,false,false,false,false,false,false,false,false,false] rfl rfl (any_of HT_.out (by kernel_rfl)) (fun _ _ _ h=>h) (Or.inl ⟨by rfl,?_⟩) ?_ ?_
   rotate_left
   ·intro w'
    go_simp
    with_reducible rfl
   rotate_left
   ·simp only [Act.put,List.setIfInBounds_toArray,List.set_cons_zero,List.set_cons_succ,i64_w,i32_w]
    rfl
   refine pure_ (i:=6) (N:=some 21) (v:=?_) (a':=?_) #[true,false,true,false,true,false,true,false,false,false,false,false,false,false,false,false,false,false,false,false,false,false,false,false,false,false,false,false,false,false] rfl rfl (any_of HT_.out (by kernel_rfl)) (fun _ _ _ h=>h) (Or.inl ⟨by rfl,?_⟩) ?_ ?_
   rotate_left
   ·intro w'
    go_simp
    with_reducible rfl
   rotate_left
   ·simp only [Act.put,List.setIfInBounds_toArray,List.set_cons_zero,List.set_cons_succ,i64_w,i32_w]
    rfl
   refine pure_ (i:=8) (N:=some 23) (v:=?_) (a':=?_) #[true,false,true,false,true,false,true,false,true,false,false,false,false,false,false,false,false,false,false,false,false,false,false,false,false,false,false,false,false,false] rfl rfl (any_of HT_.out (by kernel_rfl)) (fun _ _ _ h=>h) (Or.inl ⟨by rfl,?_⟩) ?_ ?_
   rotate_left
   ·intro w'
    go_simp
    with_reducible rfl
   rotate_left
   ·simp only [Act.put,List.setIfInBounds_toArray,List.set_cons_zero,List.set_cons_succ,i64_w,i32_w]
    rfl
   refine pure_ (i:=10) (N:=some 25) (v:=?_) (a':=?_) #[true,false,true,false,true,false,true,false,true,false,true,false,false,false,false,false,false,false,false,false,false,false,false,false,false,false,false,false,false,false] rfl rfl (any_of HT_.out (by kernel_rfl)) (fun _ _ _ h=>h) (Or.inl ⟨by rfl,?_⟩) ?_ ?_
   rotate_left
   ·intro w'
    go_simp
    with_reducible rfl
   rotate_left
   ·simp only [Act.put,List.setIfInBounds_toArray,List.set_cons_zero,List.set_cons_succ,i64_w,i32_w]
    rfl
   refine pure_ (i:=12) (N:=some 27) (v:=?_) (a':=?_) #[true,false,true,false,true,false,true,false,true,false,true,false,true,false,false,false,false,false,false,false,false,false,false,false,false,false,false,false,false,false] rfl rfl (any_of HT_.out (by kernel_rfl)) (fun _ _ _ h=>h) (Or.inl ⟨by rfl,?_⟩) ?_ ?_
   rotate_left
   ·intro w'
    go_simp
    with_reducible rfl
   rotate_left
   ·simp only [Act.put,List.setIfInBounds_toArray,List.set_cons_zero,List.set_cons_succ,i64_w,i32_w]
    rfl
   refine pure_ (i:=14) (N:=some 29) (v:=?_) (a':=?_) #[true,false,true,false,true,false,true,false,true,false,true,false,true,false,true,false,false,false,false,false,false,false,false,false,false,false,false,false,false,false] rfl rfl (any_of HT_.out (by kernel_rfl)) (fun _ _ _ h=>h) (Or.inl ⟨by rfl,?_⟩) ?_ ?_
   rotate_left
   ·intro w'
    go_simp
    with_reducible rfl
   rotate_left
   ·simp only [Act.put,List.setIfInBounds_toArray,List.set_cons_zero,List.set_cons_succ,i64_w,i32_w]
    rfl
   refine pure_ (i:=16) (N:=some 31) (v:=?_) (a':=?_) #[true,false,true,false,true,false,true,false,true,false,true,false,true,false,true,false,true,false,false,false,false,false,false,false,false,false,false,false,false,false] rfl rfl (any_of HT_.out (by kernel_rfl)) (fun _ _ _ h=>h) (Or.inl ⟨by rfl,?_⟩) ?_ ?_
   rotate_left
   ·intro w'
    go_simp
    with_reducible rfl
   rotate_left
   ·simp only [Act.put,List.setIfInBounds_toArray,List.set_cons_zero,List.set_cons_succ,i64_w,i32_w]
    rfl
   refine pure_ (i:=18) (N:=some 33) (v:=?_) (a':=?_) #[true,false,true,false,true,false,true,false,true,false,true,false,true,false,true,false,true,false,true,false,false,false,false,false,false,false,false,false,false,false] rfl rfl (any_of HT_.out (by kernel_rfl)) (fun _ _ _ h=>h) (Or.inl ⟨by rfl,?_⟩) ?_ ?_
   rotate_left
   ·intro w'
    go_simp
    with_reducible rfl
   rotate_left
   ·simp only [Act.put,List.setIfInBounds_toArray,List.set_cons_zero,List.set_cons_succ,i64_w,i32_w]
    rfl
   refine pure_ (i:=20) (N:=some 35) (v:=?_) (a':=?_) #[true,false,true,false,true,false,true,false,true,false,true,false,true,false,true,false,true,false,true,false,true,false,false,false,false,false,false,false,false,false] rfl rfl (any_of HT_.out (by kernel_rfl)) (fun _ _ _ h=>h) (Or.inl ⟨by rfl,?_⟩) ?_ ?_
   rotate_left
   ·intro w'
    go_simp
    with_reducible rfl
   rotate_left
   ·simp only [Act.put,List.setIfInBounds_toArray,List.set_cons_zero,List.set_cons_succ,i64_w,i32_w]
    rfl
   refine pure_ (i:=22) (N:=some 37) (v:=?_) (a':=?_) #[true,false,true,false,true,false,true,false,true,false,true,false,true,false,true,false,true,false,true,false,true,false,true,false,false,false,false,false,false,false] rfl rfl (any_of HT_.out (by kernel_rfl)) (fun _ _ _ h=>h) (Or.inl ⟨by rfl,?_⟩) ?_ ?_
   rotate_left
   ·intro w'
    go_simp
    with_reducible rfl
   rotate_left
   ·simp only [Act.put,List.setIfInBounds_toArray,List.set_cons_zero,List.set_cons_succ,i64_w,i32_w]
    rfl
   refine pure_ (i:=25) (N:=some 40) (v:=?_) (a':=?_) #[true,false,true,false,true,false,true,false,true,false,true,false,true,false,true,false,true,false,true,false,true,false,true,false,false,true,false,false,false,false] rfl rfl (any_of HT_.out (by kernel_rfl)) (fun _ _ _ h=>h) (Or.inl ⟨by rfl,?_⟩) ?_ ?_
   rotate_left
   ·intro w'
    go_simp
    with_reducible rfl
   rotate_left
   ·simp only [Act.put,List.setIfInBounds_toArray,List.set_cons_zero,List.set_cons_succ,i64_w,i32_w]
    rfl
   refine take_ (i:=1) (N:=some 16) (v:=?_) (a':=?_) #[true,true,true,false,true,false,true,false,true,false,true,false,true,false,true,false,true,false,true,false,true,false,true,false,false,true,false,false,false,false] rfl rfl (take_ofW HT_.out HW_.out (by kernel_rfl)) (fun _ _ _ h=>h) (Or.inl ⟨by rfl,?_⟩) hHeld ?_ ?_
   rotate_left
   ·rintro w' ⟨s0,s1,s2,s3,s4,s5,s6,s7,s8,s9,s10,s11,s12⟩
    go_simp
    with_reducible rfl
   rotate_left
   ·simp only [Act.put,List.setIfInBounds_toArray,List.set_cons_zero,List.set_cons_succ,i64_w,i32_w]
    rfl
   refine take_ (i:=3) (N:=some 18) (v:=?_) (a':=?_) #[true,true,true,true,true,false,true,false,true,false,true,false,true,false,true,false,true,false,true,false,true,false,true,false,false,true,false,false,false,false] rfl rfl (take_ofW HT_.out HW_.out (by kernel_rfl)) (fun _ _ _ h=>h) (Or.inl ⟨by rfl,?_⟩) hHeld ?_ ?_
   rotate_left
   ·rintro w' ⟨s0,s1,s2,s3,s4,s5,s6,s7,s8,s9,s10,s11,s12⟩
    go_simp
    with_reducible rfl
   rotate_left
   ·simp only [Act.put,List.setIfInBounds_toArray,List.set_cons_zero,List.set_cons_succ,i64_w,i32_w]
    rfl
   refine take_ (i:=5) (N:=some 20) (v:=?_) (a':=?_) #[true,true,true,true,true,true,true,false,true,false,true,false,true,false,true,false,true,false,true,false,true,false,true,false,false,true,false,false,false,false] rfl rfl (take_ofW HT_.out HW_.out (by kernel_rfl)) (fun _ _ _ h=>h) (Or.inl ⟨by rfl,?_⟩) hHeld ?_ ?_
   rotate_left
   ·rintro w' ⟨s0,s1,s2,s3,s4,s5,s6,s7,s8,s9,s10,s11,s12⟩
    go_simp
    with_reducible rfl
   rotate_left
   ·simp only [Act.put,List.setIfInBounds_toArray,List.set_cons_zero,List.set_cons_succ,i64_w,i32_w]
    rfl
   refine take_ (i:=7) (N:=some 22) (v:=?_) (a':=?_) #[true,true,true,true,true,true,true,true,true,false,true,false,true,false,true,false,true,false,true,false,true,false,true,false,false,true,false,false,false,false] rfl rfl (take_ofW HT_.out HW_.out (by kernel_rfl)) (fun _ _ _ h=>h) (Or.inl ⟨by rfl,?_⟩) hHeld ?_ ?_
   rotate_left
   ·rintro w' ⟨s0,s1,s2,s3,s4,s5,s6,s7,s8,s9,s10,s11,s12⟩
    go_simp
    with_reducible rfl
   rotate_left
   ·simp only [Act.put,List.setIfInBounds_toArray,List.set_cons_zero,List.set_cons_succ,i64_w,i32_w]
    rfl
   refine take_ (i:=9) (N:=some 24) (v:=?_) (a':=?_) #[true,true,true,true,true,true,true,true,true,true,true,false,true,false,true,false,true,false,true,false,true,false,true,false,false,true,false,false,false,false] rfl rfl (take_ofW HT_.out HW_.out (by kernel_rfl)) (fun _ _ _ h=>h) (Or.inl ⟨by rfl,?_⟩) hHeld ?_ ?_
   rotate_left
   ·rintro w' ⟨s0,s1,s2,s3,s4,s5,s6,s7,s8,s9,s10,s11,s12⟩
    go_simp
    with_reducible rfl
   rotate_left
   ·simp only [Act.put,List.setIfInBounds_toArray,List.set_cons_zero,List.set_cons_succ,i64_w,i32_w]
    rfl
   refine take_ (i:=11) (N:=some 26) (v:=?_) (a':=?_) #[true,true,true,true,true,true,true,true,true,true,true,true,true,false,true,false,true,false,true,false,true,false,true,false,false,true,false,false,false,false] rfl rfl (take_ofW HT_.out HW_.out (by kernel_rfl)) (fun _ _ _ h=>h) (Or.inl ⟨by rfl,?_⟩) hHeld ?_ ?_
   rotate_left
   ·rintro w' ⟨s0,s1,s2,s3,s4,s5,s6,s7,s8,s9,s10,s11,s12⟩
    go_simp
    with_reducible rfl
   rotate_left
   ·simp only [Act.put,List.setIfInBounds_toArray,List.set_cons_zero,List.set_cons_succ,i64_w,i32_w]
    rfl
   refine take_ (i:=13) (N:=some 28) (v:=?_) (a':=?_) #[true,true,true,true,true,true,true,true,true,true,true,true,true,true,true,false,true,false,true,false,true,false,true,false,false,true,false,false,false,false] rfl rfl (take_ofW HT_.out HW_.out (by kernel_rfl)) (fun _ _ _ h=>h) (Or.inl ⟨by rfl,?_⟩) hHeld ?_ ?_
   rotate_left
   ·rintro w' ⟨s0,s1,s2,s3,s4,s5,s6,s7,s8,s9,s10,s11,s12⟩
    go_simp
    with_reducible rfl
   rotate_left
   ·simp only [Act.put,List.setIfInBounds_toArray,List.set_cons_zero,List.set_cons_succ,i64_w,i32_w]
    rfl
   refine take_ (i:=15) (N:=some 30) (v:=?_) (a':=?_) #[true,true,true,true,true,true,true,true,true,true,true,true,true,true,true,true,true,false,true,false,true,false,true,false,false,true,false,false,false,false] rfl rfl (take_ofW HT_.out HW_.out (by kernel_rfl)) (fun _ _ _ h=>h) (Or.inl ⟨by rfl,?_⟩) hHeld ?_ ?_
   rotate_left
   ·rintro w' ⟨s0,s1,s2,s3,s4,s5,s6,s7,s8,s9,s10,s11,s12⟩
    go_simp
    with_reducible rfl
   rotate_left
   ·simp only [Act.put,List.setIfInBounds_toArray,List.set_cons_zero,List.set_cons_succ,i64_w,i32_w]
    rfl
   refine take_ (i:=17) (N:=some 32) (v:=?_) (a':=?_) #[true,true,true,true,true,true,true,true,true,true,true,true,true,true,true,true,true,true,true,false,true,false,true,false,false,true,false,false,false,false] rfl rfl (take_ofW HT_.out HW_.out (by kernel_rfl)) (fun _ _ _ h=>h) (Or.inl ⟨by rfl,?_⟩) hHeld ?_ ?_
   rotate_left
   ·rintro w' ⟨s0,s1,s2,s3,s4,s5,s6,s7,s8,s9,s10,s11,s12⟩
    go_simp
    with_reducible rfl
   rotate_left
   ·simp only [Act.put,List.setIfInBounds_toArray,List.set_cons_zero,List.set_cons_succ,i64_w,i32_w]
    rfl
   refine take_ (i:=19) (N:=some 34) (v:=?_) (a':=?_) #[true,true,true,true,true,true,true,true,true,true,true,true,true,true,true,true,true,true,true,true,true,false,true,false,false,true,false,false,false,false] rfl rfl (take_ofW HT_.out HW_.out (by kernel_rfl)) (fun _ _ _ h=>h) (Or.inl ⟨by rfl,?_⟩) hHeld ?_ ?_
   rotate_left
   ·rintro w' ⟨s0,s1,s2,s3,s4,s5,s6,s7,s8,s9,s10,s11,s12⟩
    go_simp
    with_reducible rfl
   rotate_left
   ·simp only [Act.put,List.setIfInBounds_toArray,List.set_cons_zero,List.set_cons_succ,i64_w,i32_w]
    rfl
   refine take_ (i:=21) (N:=some 36) (v:=?_) (a':=?_) #[true,true,true,true,true,true,true,true,true,true,true,true,true,true,true,true,true,true,true,true,true,true,true,false,false,true,false,false,false,false] rfl rfl (take_ofW HT_.out HW_.out (by kernel_rfl)) (fun _ _ _ h=>h) (Or.inl ⟨by rfl,?_⟩) hHeld ?_ ?_
   rotate_left
   ·rintro w' ⟨s0,s1,s2,s3,s4,s5,s6,s7,s8,s9,s10,s11,s12⟩
    go_simp
    with_reducible rfl
   rotate_left
   ·simp only [Act.put,List.setIfInBounds_toArray,List.set_cons_zero,List.set_cons_succ,i64_w,i32_w]
    rfl
   refine take_ (i:=23) (N:=some 38) (v:=?_) (a':=?_) #[true,true,true,true,true,true,true,true,true,true,true,true,true,true,true,true,true,true,true,true,true,true,true,true,false,true,false,false,false,false] rfl rfl (take_ofW HT_.out HW_.out (by kernel_rfl)) (fun _ _ _ h=>h) (Or.inl ⟨by rfl,?_⟩) hHeld ?_ ?_
   rotate_left
   ·rintro w' ⟨s0,s1,s2,s3,s4,s5,s6,s7,s8,s9,s10,s11,s12⟩
    go_simp
    with_reducible rfl
   rotate_left
   ·simp only [Act.put,List.setIfInBounds_toArray,List.set_cons_zero,List.set_cons_succ,i64_w,i32_w]
    rfl
   refine take_ (i:=26) (N:=some 41) (v:=?_) (a':=?_) #[true,true,true,true,true,true,true,true,true,true,true,true,true,true,true,true,true,true,true,true,true,true,true,true,false,true,true,false,false,false] rfl rfl (take_ofW HT_.out HW_.out (by kernel_rfl)) (fun _ _ _ h=>h) (Or.inl ⟨by rfl,?_⟩) hHeld ?_ ?_
   rotate_left
   ·rintro w' ⟨s0,s1,s2,s3,s4,s5,s6,s7,s8,s9,s10,s11,s12⟩
    go_simp
    with_reducible rfl
   rotate_left
   ·simp only [Act.put,List.setIfInBounds_toArray,List.set_cons_zero,List.set_cons_succ,i64_w,i32_w]
    rfl
   refine one_ (i:=24) (N:=some 39) #[true,true,true,true,true,true,true,true,true,true,true,true,true,true,true,true,true,true,true,true,true,true,true,true,true,true,true,false,false,false] rfl rfl (one_of HT_.out (by kernel_rfl)) (by decide) (fun K hK=>?_)
   refine goes_ Try.func114 (by kernel_rfl) rfl #[.bool a1_11] (by rfl) rfl rfl (by (try simp only [List.map_toArray,List.map_cons,List.map_nil]);first|done|rfl|(simp only [List.length_drop,List.length_take];rfl)) ?_
   with_reducible refine (spec_l4Bit.calls a1_11 t604 _ A6.out).mono ?_
   rintro e w' ⟨rfl,⟨nd,rfl⟩⟩
   refine ⟨_,rfl,?_⟩
   refine hK.out _ _ ⟨(blk_cell BK596.out 0).trans rfl,(blk_cell BK596.out 1).trans rfl,(blk_cell BK596.out 2).trans rfl,(blk_cell BK596.out 3).trans rfl,(blk_cell BK596.out 4).trans rfl,(blk_cell BK596.out 5).trans rfl,(blk_cell BK596.out 6).trans rfl,(blk_cell BK596.out 7).trans rfl,(blk_cell BK596.out 8).trans rfl,(blk_cell BK596.out 9).trans rfl,(blk_cell BK596.out 10).trans rfl,(blk_cell BK596.out 11).trans rfl,(blk_cell BK596.out 12).trans rfl⟩ (fun hHeld=>?_)
   clear hK K
   refine norm_ (a':=?_) ?_ ?_
   rotate_left
   ·show Act.put _ (some 39) _=_
    simp only [Act.put,List.setIfInBounds_toArray,List.set_cons_zero,List.set_cons_succ,i64_w,i32_w]
    rfl
   refine one_ (i:=27) (N:=some 42) #[true,true,true,true,true,true,true,true,true,true,true,true,true,true,true,true,true,true,true,true,true,true,true,true,true,true,true,true,false,false] rfl rfl (one_of HT_.out (by kernel_rfl)) (by decide) (fun K hK=>?_)
   refine goes_ Try.func114 (by kernel_rfl) rfl #[.bool a1_12] (by rfl) rfl rfl (by (try simp only [List.map_toArray,List.map_cons,List.map_nil]);first|done|rfl|(simp only [List.length_drop,List.length_take];rfl)) ?_
   with_reducible refine (spec_l4Bit.calls a1_12 t605 _ A7.out).mono ?_
   rintro e w' ⟨rfl,⟨nd,rfl⟩⟩
   refine ⟨_,rfl,?_⟩
   refine hK.out _ _ ⟨(blk_cell BK596.out 0).trans rfl,(blk_cell BK596.out 1).trans rfl,(blk_cell BK596.out 2).trans rfl,(blk_cell BK596.out 3).trans rfl,(blk_cell BK596.out 4).trans rfl,(blk_cell BK596.out 5).trans rfl,(blk_cell BK596.out 6).trans rfl,(blk_cell BK596.out 7).trans rfl,(blk_cell BK596.out 8).trans rfl,(blk_cell BK596.out 9).trans rfl,(blk_cell BK596.out 10).trans rfl,(blk_cell BK596.out 11).trans rfl,(blk_cell BK596.out 12).trans rfl⟩ (fun hHeld=>?_)
   clear hK K
   refine norm_ (a':=?_) ?_ ?_
   rotate_left
   ·show Act.put _ (some 42) _=_
    simp only [Act.put,List.setIfInBounds_toArray,List.set_cons_zero,List.set_cons_succ,i64_w,i32_w]
    rfl
   refine one_ (i:=28) (N:=some 43) #[true,true,true,true,true,true,true,true,true,true,true,true,true,true,true,true,true,true,true,true,true,true,true,true,true,true,true,true,true,false] rfl rfl (one_of HT_.out (by kernel_rfl)) (by decide) (fun K hK=>?_)
   refine Kd.R_lit_step (Kd.int .i64) _ 3 ?hg (N:=43) ?hd (xs:=([a1_0,a1_1,a1_2,a1_3,a1_4,a1_5,a1_6,a1_7,a1_8,a1_9,a1_10,t604,t605]:List Int)) (inner:=[.int .i64 a1_0,.int .i64 a1_1,.int .i64 a1_2,.int .i64 a1_3,.int .i64 a1_4,.int .i64 a1_5,.int .i64 a1_6,.int .i64 a1_7,.int .i64 a1_8,.int .i64 a1_9,.int .i64 a1_10,.int .i64 t604,.int .i64 t605]) (ok:=fun _=>True) (okp:=fun _=>True) ?hr ?hp (fun _ hk=>hk) trivial (Below.refl _ _) (Nat.le_refl _) (by simp) ?_;(case hd=>rfl);(case hg=>rfl);(case hr=>first|(go_simp;done)|(go_simp;rfl));(case hp=>exact (Reps.one (show Kd.M (Kd.int .i64) _ _ _ a1_0 [.int .i64 a1_0] from rfl) (Reps.one (show Kd.M (Kd.int .i64) _ _ _ a1_1 [.int .i64 a1_1] from rfl) (Reps.one (show Kd.M (Kd.int .i64) _ _ _ a1_2 [.int .i64 a1_2] from rfl) (Reps.one (show Kd.M (Kd.int .i64) _ _ _ a1_3 [.int .i64 a1_3] from rfl) (Reps.one (show Kd.M (Kd.int .i64) _ _ _ a1_4 [.int .i64 a1_4] from rfl) (Reps.one (show Kd.M (Kd.int .i64) _ _ _ a1_5 [.int .i64 a1_5] from rfl) (Reps.one (show Kd.M (Kd.int .i64) _ _ _ a1_6 [.int .i64 a1_6] from rfl) (Reps.one (show Kd.M (Kd.int .i64) _ _ _ a1_7 [.int .i64 a1_7] from rfl) (Reps.one (show Kd.M (Kd.int .i64) _ _ _ a1_8 [.int .i64 a1_8] from rfl) (Reps.one (show Kd.M (Kd.int .i64) _ _ _ a1_9 [.int .i64 a1_9] from rfl) (Reps.one (show Kd.M (Kd.int .i64) _ _ _ a1_10 [.int .i64 a1_10] from rfl) (Reps.one (show Kd.M (Kd.int .i64) _ _ _ t604 [.int .i64 t604] from rfl) (Reps.one (show Kd.M (Kd.int .i64) _ _ _ t605 [.int .i64 t605] from rfl) (Reps.none _ _)))))))))))))))
   intro v607 w15 ho16 hb hg_ hnew_
   clear hg_ hnew_
   (first|rw [← Ny606.out] at ho16|(simp only [Int.reduceToNat] at ho16;rw [← Ny606.out] at ho16))
   have n0_:=Aside0.mk (Kd.R_below (by (with_reducible repeat (first|apply Kd.R_alloc|apply Kd.R_drewN|apply Kd.R_drew));exact HO602.out) hb)
   have n1_:=Aside0.mk (Kd.R_lower ho16 (below_size (by repeat (first|(with_reducible first|exact HB.out|apply below_alloc|apply pw_below_drewN|apply below_drew1|refine below_set ?_ GE596.out)|exact HB.out))))
   have n2_:=Aside0.mk (blk_below (g:=gb596) (o := .cells #[.int .i64 a1_0,.int .i64 a1_1,.int .i64 a1_2,.int .i64 a1_3,.int .i64 a1_4,.int .i64 a1_5,.int .i64 a1_6,.int .i64 a1_7,.int .i64 a1_8,.int .i64 a1_9,.int .i64 a1_10,.bool a1_11,.bool a1_12] 25 (0,0)) (by (with_reducible repeat (first|refine blk_drewN ?_ _|refine blk_drew ?_|refine blk_alloc ?_ _));exact BK596.out) hb)
   have n3_:=Aside0.mk (below_step (by repeat (first|(with_reducible first|exact HB.out|apply below_alloc|apply pw_below_drewN|apply below_drew1|refine below_set ?_ GE596.out)|exact HB.out)) hb)
   clear HO602
   clear BK596
   clear HB
   have HO602:=n0_
   have HO608:=n1_
   have BK596:=n2_
   have HB:=n3_
   clear n0_ n1_ n2_ n3_
   clear hb ho16
   refine hK.out _ _ ⟨(blk_cell BK596.out 0).trans rfl,(blk_cell BK596.out 1).trans rfl,(blk_cell BK596.out 2).trans rfl,(blk_cell BK596.out 3).trans rfl,(blk_cell BK596.out 4).trans rfl,(blk_cell BK596.out 5).trans rfl,(blk_cell BK596.out 6).trans rfl,(blk_cell BK596.out 7).trans rfl,(blk_cell BK596.out 8).trans rfl,(blk_cell BK596.out 9).trans rfl,(blk_cell BK596.out 10).trans rfl,(blk_cell BK596.out 11).trans rfl,(blk_cell BK596.out 12).trans rfl⟩ (fun hHeld=>?_)
   clear hK K
   refine norm_ (a':=?_) ?_ ?_
   rotate_left
   ·show Act.put _ (some 43) _=_
    simp only [Act.put,List.setIfInBounds_toArray,List.set_cons_zero,List.set_cons_succ,i64_w,i32_w]
    rfl
   refine pure_ (i:=29) (N:=some 6) (v:=?_) (a':=?_) #[true,true,true,true,true,true,true,true,true,true,true,true,true,true,true,true,true,true,true,true,true,true,true,true,true,true,true,true,true,true] rfl rfl (any_of HT_.out (by kernel_rfl)) (fun _ _ _ h=>h) (Or.inl ⟨by rfl,?_⟩) ?_ ?_
   rotate_left
   ·intro w'
    go_simp
    with_reducible rfl
   rotate_left
   ·simp only [Act.put,List.setIfInBounds_toArray,List.set_cons_zero,List.set_cons_succ,i64_w,i32_w]
    rfl
   refine done_ (done_of HT_.out (by kernel_rfl)) ?_
   try go_wp2
   go_loopg [5,7] k (fun kq v5 v7 w'=>∃ (x5_1:List Int) (x7_1:Int),v7 = .int .i64 x7_1∧Aside0 (spec_PutPiece.l0 kq x5_1 y606 x7_1=some r)∧Aside0 (kq≤k)∧Aside0 (Kd.R (Kd.int .u8) 5 w' w.heap.size (fun _=>True) v5 x5_1)∧Aside0 (Kd.R (Kd.int .i64) 3 w' w.heap.size (fun _=>True) v607 y606)∧Aside0 (w'.heap[gb596]?=some (.cells #[.int .i64 a1_0,.int .i64 a1_1,.int .i64 a1_2,.int .i64 a1_3,.int .i64 a1_4,.int .i64 a1_5,.int .i64 a1_6,.int .i64 a1_7,.int .i64 a1_8,.int .i64 a1_9,.int .i64 a1_10,.bool a1_11,.bool a1_12] 25 (0,0)))∧Aside0 (Below w.heap.size w w'))
   case atStart=>exact ⟨(y600),(0),(by first|rfl|(simp;done)|(simp [*];done)),H',⟨Nat.le_refl _⟩,⟨by (with_reducible repeat (first|apply Kd.R_alloc|apply Kd.R_drewN|apply Kd.R_drew));exact HO602.out⟩,⟨by (with_reducible repeat (first|apply Kd.R_alloc|apply Kd.R_drewN|apply Kd.R_drew));exact HO608.out⟩,⟨by (with_reducible repeat (first|refine blk_drewN ?_ _|refine blk_drew ?_|refine blk_alloc ?_ _));exact BK596.out⟩,⟨by repeat (first|(with_reducible first|exact HB.out|apply below_alloc|apply pw_below_drewN|apply below_drew1|refine below_set ?_ GE596.out)|exact HB.out)⟩⟩
   case round =>
    clear H'
    try clear c1
    try clear p2
    try clear c3
    try clear c5
    try clear c9
    try clear c11
    try clear hcz12_0
    try clear hcz12_1
    try clear hcz12_10
    try clear hcz12_11
    try clear hcz12_12
    try clear hcz12_2
    try clear hcz12_3
    try clear hcz12_4
    try clear hcz12_5
    try clear hcz12_6
    try clear hcz12_7
    try clear hcz12_8
    try clear hcz12_9
    try clear hfz12_0
    try clear hfz12_1
    try clear hfz12_10
    try clear hfz12_11
    try clear hfz12_12
    try clear hfz12_2
    try clear hfz12_3
    try clear hfz12_4
    try clear hfz12_5
    try clear hfz12_6
    try clear hfz12_7
    try clear hfz12_8
    try clear hfz12_9
    obtain ⟨x5_1,x7_1,rfl,HA,HK1,HO_5,HO_6,BK596,HB⟩:=hrel
    cases gk with
    | zero=>exact absurd HA.out (by simp [spec_PutPiece.l0])
    | succ k1 =>
     have H:=HA.out
     clear HA
     simp only [spec_PutPiece.l0] at H
     by_cases c17:x7_1 < (y606.length:Int)
     ·rw [if_pos c17] at H
      have c17b0:decide (x7_1 < (y606.length:Int))=true:=decide_eq_true c17
      clear c17
      by_cases c18:0≤x7_1
      ·rw [if_pos c18] at H
       have c18b0:decide (0≤x7_1)=true:=decide_eq_true c18
       clear c18
       replace H:=Option.bind_eq_some_iff.mp H
       obtain ⟨t610,A190,H⟩:=H
       replace H:(spec_PutPiece.l0 k1 t610 y606 (wrap64 (x7_1+1)))=some r:=H
       have A19:=Aside0.mk A190
       clear A190
       have H':=Aside0.mk H
       clear H
       obtain ⟨Ao20,co20,eo20⟩:=Kd.R_slice HO_6.out
       subst eo20
       have p609:0≤(x7_1:Int):=of_decide_eq_true (by first|(with_reducible assumption)|assumption)
       have q609:x7_1 < (y606.length:Int):=of_decide_eq_true (by first|(with_reducible assumption)|assumption)
       obtain ⟨ad609,e609,hx609_0⟩:=Kd.at_int (Kd.R_reads' HO_6.out).2.2 x7_1 p609 q609
       cases e609
       replace p609:=eq_true p609
       replace q609:=eq_true q609
       obtain ⟨Ao21,co21,eo21⟩:=Kd.R_slice HO_5.out
       subst eo21
       go_wp2_with (first|((with_reducible refine gate_callee (f:=113) rfl ?_);refine goesL_ (some 55) rfl rfl Try.func113 (by kernel_rfl) rfl #[.slice Ao21 x5_1.length co21,.int .i64 (rd y606 x7_1)] rfl (by (try simp only [List.map_toArray,List.map_cons,List.map_nil]);first|done|rfl|(simp only [List.length_drop,List.length_take];rfl)) ?_;(with_reducible refine (spec_PutNum.calls _ _ x5_1 (rd y606 x7_1) t610 _ ?side1 ?side2 A19.out).mono ?_);(case side1=>repeat (first|exact (Kd.R_reads' HO_5.out).2.2|(with_reducible refine Kd.C_alloc ?_ _)|(with_reducible refine Kd.C_drewN ?_ _)|(with_reducible refine Kd.C_drew ?_)));(case side2=>exact (Kd.R_reads' HO_5.out).2.1);rintro e w22 ⟨v611,rfl,ho0,hb⟩;refine ⟨_,rfl,?_⟩;have n0_:=Aside0.mk (Kd.R_elder' (by (with_reducible repeat (first|apply Kd.R_alloc|apply Kd.R_drewN|apply Kd.R_drew));exact HO_5.out) (Kd.R_base ho0) hb);have n1_:=Aside0.mk (Kd.R_below (by (with_reducible repeat (first|apply Kd.R_alloc|apply Kd.R_drewN|apply Kd.R_drew));exact HO_6.out) hb);have n2_:=Aside0.mk (Kd.R_lower (Kd.R_new' ho0 (Kd.R_lt (by (with_reducible repeat (first|apply Kd.R_alloc|apply Kd.R_drewN|apply Kd.R_drew));exact HO_5.out))) (below_size (by repeat (first|(with_reducible first|exact HB.out|apply below_alloc|apply pw_below_drewN|apply below_drew1|refine below_set ?_ GE596.out)|exact HB.out))));have n3_:=Aside0.mk (blk_below (g:=gb596) (o := .cells #[.int .i64 a1_0,.int .i64 a1_1,.int .i64 a1_2,.int .i64 a1_3,.int .i64 a1_4,.int .i64 a1_5,.int .i64 a1_6,.int .i64 a1_7,.int .i64 a1_8,.int .i64 a1_9,.int .i64 a1_10,.bool a1_11,.bool a1_12] 25 (0,0)) (by (with_reducible repeat (first|refine blk_drewN ?_ _|refine blk_drew ?_|refine blk_alloc ?_ _));exact BK596.out) hb);have n4_:=Aside0.mk (below_step (by repeat (first|(with_reducible first|exact HB.out|apply below_alloc|apply pw_below_drewN|apply below_drew1|refine below_set ?_ GE596.out)|exact HB.out)) hb);clear HO_5;clear HO_6;clear BK596;clear HB;have HO_5:=n0_;have HO_6:=n1_;have HO612:=n2_;have BK596:=n3_;have HB:=n4_;clear n0_ n1_ n2_ n3_ n4_;(try clear hb);(try clear hb2);(try clear hk);(try clear hi);(try clear ho0)))
       go_roundg k1
       case measure=>have:=HK1.out;omega
       case rel=>exact ⟨(t610),(wrap64 (x7_1+1)),(by first|rfl|(simp;done)|(simp [*];done)),H',⟨by have:=HK1.out;omega⟩,⟨by (with_reducible repeat (first|apply Kd.R_alloc|apply Kd.R_drewN|apply Kd.R_drew));exact Kd.R_mono HO612.out (fun _ hk=>trivial)⟩,⟨by (with_reducible repeat (first|apply Kd.R_alloc|apply Kd.R_drewN|apply Kd.R_drew));exact HO_6.out⟩,⟨by (with_reducible repeat (first|refine blk_drewN ?_ _|refine blk_drew ?_|refine blk_alloc ?_ _));exact BK596.out⟩,⟨by repeat (first|(with_reducible first|exact HB.out|apply below_alloc|apply pw_below_drewN|apply below_drew1|refine below_set ?_ GE596.out)|exact HB.out)⟩⟩
      ·rw [if_neg c18] at H
       exact absurd H (by simp)
     ·rw [if_neg c17] at H
      have c17b0:decide (x7_1 < (y606.length:Int))=false:=decide_eq_false c17
      clear c17
      obtain rfl:=Option.some.inj H
      obtain ⟨Ao23,co23,eo23⟩:=Kd.R_slice HO_6.out
      subst eo23
      go_wp2
      go_ret
      exact ⟨_,by first|rfl|(simp [errW_none,errW_some]<;>rfl)|(simp [*,errW_none,errW_some]<;>rfl),by (with_reducible repeat (first|apply Kd.R_alloc|apply Kd.R_drewN|apply Kd.R_drew));exact HO_5.out,by repeat (first|(with_reducible first|exact HB.out|apply below_alloc|apply pw_below_drewN|apply below_drew1|refine below_set ?_ GE596.out)|exact HB.out)⟩
  ·replace c5:=Bool.eq_false_iff.mpr c5
   subst c5
   have H1:(some y600)=some r:=by rw [if_neg (show ¬ (false=true) by decide)] at H;exact H
   clear H
   have H:=H1
   clear H1
   obtain rfl:=Option.some.inj H
   go_enter Try.func95,Try.ntmps95
   go_wp2_with (first|((with_reducible refine gate_dst (N:=3) rfl ?_);refine box_event ?hg (N:=3) ?hd (cs:=#[.int .i64 a1_0,.int .i64 a1_1,.int .i64 a1_2,.int .i64 a1_3,.int .i64 a1_4,.int .i64 a1_5,.int .i64 a1_6,.int .i64 a1_7,.int .i64 a1_8,.int .i64 a1_9,.int .i64 a1_10,.bool a1_11,.bool a1_12]) (t:=25) ?hr ?_;(case hd=>rfl);(case hg=>rfl);(case hr=>first|(go_simp;done)|(go_simp;rfl));intro gb596 hg w24 hbox hb;have n0_:=Aside0.mk (below_step (by repeat (first|(with_reducible first|exact HB.out|apply below_alloc|apply pw_below_drewN|apply below_drew1)|exact HB.out)) hb);have n1_:=Aside0.mk (hbox);have n2_:=Aside0.mk ((by rw [hg];exact (below_size (by repeat (first|(with_reducible first|exact HB.out|apply below_alloc|apply pw_below_drewN|apply below_drew1)|exact HB.out))):w.heap.size≤gb596));have n3_:=Aside0.mk ((by rw [hg];exact (below_size (by repeat (first|(with_reducible first|exact HB.out|apply below_alloc|apply pw_below_drewN|apply below_drew1)|exact HB.out))):w.heap.size≤gb596));clear HB;have HB:=n0_;have BK596:=n1_;have GW596:=n2_;have GE596:=n3_;clear n0_ n1_ n2_ n3_;clear hb hbox hg)|((with_reducible refine gate_dst (N:=8) rfl ?_);refine Kd.R_lit (Kd.int .u8) _ 5 ?hg (N:=8) ?hd (xs:=([]:List Int)) (inner:=[]) (ok:=fun _=>True) (okp:=fun _=>True) ?hr ?hp (fun _ hk=>hk) trivial (Below.refl _ _) (Nat.le_refl _) (by simp) ?_;(case hd=>rfl);(case hg=>rfl);(case hr=>first|(go_simp;done)|(go_simp;rfl));(case hp=>exact (Reps.none _ _));intro v598 w25 ho26 hb hg_ hnew_;clear hg_ hnew_;(first|rw [← Ny597.out] at ho26|(simp only [Int.reduceToNat] at ho26;rw [← Ny597.out] at ho26));have n0_:=Aside0.mk (Kd.R_lower ho26 (below_size (by repeat (first|(with_reducible first|exact HB.out|apply below_alloc|apply pw_below_drewN|apply below_drew1|refine below_set ?_ GE596.out)|exact HB.out))));have n1_:=Aside0.mk (blk_below (g:=gb596) (o := .cells #[.int .i64 a1_0,.int .i64 a1_1,.int .i64 a1_2,.int .i64 a1_3,.int .i64 a1_4,.int .i64 a1_5,.int .i64 a1_6,.int .i64 a1_7,.int .i64 a1_8,.int .i64 a1_9,.int .i64 a1_10,.bool a1_11,.bool a1_12] 25 (0,0)) (by (with_reducible repeat (first|refine blk_drewN ?_ _|refine blk_drew ?_|refine blk_alloc ?_ _));exact BK596.out) hb);have n2_:=Aside0.mk (below_step (by repeat (first|(with_reducible first|exact HB.out|apply below_alloc|apply pw_below_drewN|apply below_drew1|refine below_set ?_ GE596.out)|exact HB.out)) hb);clear BK596;clear HB;have HO599:=n0_;have BK596:=n1_;have HB:=n2_;clear n0_ n1_ n2_;clear hb ho26)|((with_reducible refine gate_builtin (b := .append) (xs:=#[.tmp 8,.tmp 9]) rfl ?_);at_builtin;refine Kd.R_append_rows (Kd.int .u8) (w0:=w) w.heap.size rfl (.tmp 8) (.tmp 9) 22 5 (.int .u8 0) 1 rfl Try.underlying22 info5 rfl (by decide) (by omega) v598 y597 l0 _ _ _ (fun _=>True) (fun _=>False) rfl rfl ?aO ?aR (fun _ _ h=>h) (fun _ h=>h.elim) ?aF ?aB ?aS ?aL ?_;(case aR=>repeat (first|exact (Kd.C_below HR0.out HB.out)|(with_reducible refine Kd.C_alloc ?_ _)|(with_reducible refine Kd.C_drewN ?_ _)|(with_reducible refine Kd.C_drew ?_)));(case aB=>exact (by repeat (first|(with_reducible first|exact HB.out|apply below_alloc|apply pw_below_drewN|apply below_drew1|refine below_set ?_ GE596.out)|exact HB.out)));(case aF=>exact (fun _ _=>trivial));(case aO=>exact (by (with_reducible repeat (first|apply Kd.R_alloc|apply Kd.R_drewN|apply Kd.R_drew));exact HO599.out));(case aS=>exact (below_size (by repeat (first|(with_reducible first|exact HB.out|apply below_alloc|apply pw_below_drewN|apply below_drew1|refine below_set ?_ GE596.out)|exact HB.out))));(case aL=>have:=LMc3.out;omega);intro v601 w27 ho hb hg hat;rw [← Ny600.out] at ho;have n0_:=Aside0.mk (blk_grown (g:=gb596) (o := .cells #[.int .i64 a1_0,.int .i64 a1_1,.int .i64 a1_2,.int .i64 a1_3,.int .i64 a1_4,.int .i64 a1_5,.int .i64 a1_6,.int .i64 a1_7,.int .i64 a1_8,.int .i64 a1_9,.int .i64 a1_10,.bool a1_11,.bool a1_12] 25 (0,0)) (by (with_reducible repeat (first|refine blk_drewN ?_ _|refine blk_drew ?_|refine blk_alloc ?_ _));exact BK596.out) hg (Kd.R_ne HO599.out BK596.out (by decide)));have n1_:=Aside0.mk (hb);have n2_:=Aside0.mk (ho);clear BK596;clear HB;clear HO599;have BK596:=n0_;have HB:=n1_;have HO602:=n2_;clear n0_ n1_ n2_;clear ho hb hg hat;have hcz28_0:w27.cell? ⟨gb596,0,none⟩=some (.int .i64 a1_0):=(blk_cell BK596.out 0).trans rfl;have hcz28_1:w27.cell? ⟨gb596,1,none⟩=some (.int .i64 a1_1):=(blk_cell BK596.out 1).trans rfl;have hcz28_2:w27.cell? ⟨gb596,2,none⟩=some (.int .i64 a1_2):=(blk_cell BK596.out 2).trans rfl;have hcz28_3:w27.cell? ⟨gb596,3,none⟩=some (.int .i64 a1_3):=(blk_cell BK596.out 3).trans rfl;have hcz28_4:w27.cell? ⟨gb596,4,none⟩=some (.int .i64 a1_4):=(blk_cell BK596.out 4).trans rfl;have hcz28_5:w27.cell? ⟨gb596,5,none⟩=some (.int .i64 a1_5):=(blk_cell BK596.out 5).trans rfl;have hcz28_6:w27.cell? ⟨gb596,6,none⟩=some (.int .i64 a1_6):=(blk_cell BK596.out 6).trans rfl;have hcz28_7:w27.cell? ⟨gb596,7,none⟩=some (.int .i64 a1_7):=(blk_cell BK596.out 7).trans rfl;have hcz28_8:w27.cell? ⟨gb596,8,none⟩=some (.int .i64 a1_8):=(blk_cell BK596.out 8).trans rfl;have hcz28_9:w27.cell? ⟨gb596,9,none⟩=some (.int .i64 a1_9):=(blk_cell BK596.out 9).trans rfl;have hcz28_10:w27.cell? ⟨gb596,10,none⟩=some (.int .i64 a1_10):=(blk_cell BK596.out 10).trans rfl;have hcz28_11:w27.cell? ⟨gb596,11,none⟩=some (.bool a1_11):=(blk_cell BK596.out 11).trans rfl;have hcz28_12:w27.cell? ⟨gb596,12,none⟩=some (.bool a1_12):=(blk_cell BK596.out 12).trans rfl;have hfz28_0:=blk_frozen BK596.out 0;have hfz28_1:=blk_frozen BK596.out 1;have hfz28_2:=blk_frozen BK596.out 2;have hfz28_3:=blk_frozen BK596.out 3;have hfz28_4:=blk_frozen BK596.out 4;have hfz28_5:=blk_frozen BK596.out 5;have hfz28_6:=blk_frozen BK596.out 6;have hfz28_7:=blk_frozen BK596.out 7;have hfz28_8:=blk_frozen BK596.out 8;have hfz28_9:=blk_frozen BK596.out 9;have hfz28_10:=blk_frozen BK596.out 10;have hfz28_11:=blk_frozen BK596.out 11;have hfz28_12:=blk_frozen BK596.out 12)|((with_reducible refine gate_callee (f:=19) rfl ?_);refine goesL_ (some 12) rfl rfl Try.func19 (by kernel_rfl) rfl #[.agg #[.int .i64 a1_0,.int .i64 a1_1,.int .i64 a1_2,.int .i64 a1_3,.int .i64 a1_4,.int .i64 a1_5,.int .i64 a1_6,.int .i64 a1_7,.int .i64 a1_8,.int .i64 a1_9,.int .i64 a1_10,.bool a1_11,.bool a1_12]] rfl (by (try simp only [List.map_toArray,List.map_cons,List.map_nil]);first|done|rfl|(simp only [List.length_drop,List.length_take];rfl)) ?_;(with_reducible refine (spec_PieceOk.calls k a1_0 a1_1 a1_2 a1_3 a1_4 a1_5 a1_6 a1_7 a1_8 a1_9 a1_10 a1_11 a1_12 false _ A4.out).mono ?_);rintro e w29 ⟨rfl,hb⟩;refine ⟨_,rfl,?_⟩;have n0_:=Aside0.mk (Kd.R_below (by (with_reducible repeat (first|apply Kd.R_alloc|apply Kd.R_drewN|apply Kd.R_drew));exact HO602.out) hb);have n1_:=Aside0.mk (blk_below (g:=gb596) (o := .cells #[.int .i64 a1_0,.int .i64 a1_1,.int .i64 a1_2,.int .i64 a1_3,.int .i64 a1_4,.int .i64 a1_5,.int .i64 a1_6,.int .i64 a1_7,.int .i64 a1_8,.int .i64 a1_9,.int .i64 a1_10,.bool a1_11,.bool a1_12] 25 (0,0)) (by (with_reducible repeat (first|refine blk_drewN ?_ _|refine blk_drew ?_|refine blk_alloc ?_ _));exact BK596.out) hb);have n2_:=Aside0.mk (below_step (by repeat (first|(with_reducible first|exact HB.out|apply below_alloc|apply pw_below_drewN|apply below_drew1|refine below_set ?_ GE596.out)|exact HB.out)) hb);clear HO602;clear BK596;clear HB;have HO602:=n0_;have BK596:=n1_;have HB:=n2_;clear n0_ n1_ n2_;(try clear hb);(try clear hb2);(try clear hk);(try clear hi)))
   go_ret
   exact ⟨_,by first|rfl|(simp [errW_none,errW_some]<;>rfl)|(simp [*,errW_none,errW_some]<;>rfl),by (with_reducible repeat (first|apply Kd.R_alloc|apply Kd.R_drewN|apply Kd.R_drew));exact HO602.out,by repeat (first|(with_reducible first|exact HB.out|apply below_alloc|apply pw_below_drewN|apply below_drew1|refine below_set ?_ GE596.out)|exact HB.out)⟩
 ·rw [if_neg c3] at H
  exact absurd H (by simp)
end Go.Proofs.Ytfkidiagmekleaa.QAll
