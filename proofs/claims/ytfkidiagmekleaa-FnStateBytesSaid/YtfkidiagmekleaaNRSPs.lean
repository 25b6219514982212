import Derived.Test.YtfkidiagmekleaaNVZ
import Derived.Test.YtfkidiagmekleaaNHOk
import Derived.Test.YtfkidiagmekleaaNQAllx0
import Derived.Test.YtfkidiagmekleaaNRPn
import Derived.Test.YtfkidiagmekleaaNRSPp
namespace Go.Proofs.Ytfkidiagmekleaa.QAll
open Go.RowKit Go.Proofs.YtfkidiagmekleaaW.PrintWords Go.Proofs.YtfkidiagmekleaaW.PrintLast Go.Proofs.YtfkidiagmekleaaW.PrintMore
attribute [local go_sem] max2_int min2_int max_two min_two max_three min_three max_four min_four
set_option linter.unusedVariables false
set_option linter.unusedSimpArgs false
def M40_8 (k:Nat):Array Bool:=((List.range 8).map fun j=>k.testBit j).toArray
def M40_24 (k:Nat):Array Bool:=((List.range 24).map fun j=>k.testBit j).toArray
theorem D40_4 {W:World} {g:Nat} {T:TypeId} {v0 v1 v2 v3:Value} (h:W.heap[g]?=some (.cells #[v0,v1,v2,v3] T (0,0))) {R:Prop} (r:R):W.cell? ⟨g,0,none⟩=some v0∧W.cell? ⟨g,1,none⟩=some v1∧W.cell? ⟨g,2,none⟩=some v2∧W.cell? ⟨g,3,none⟩=some v3∧R:=⟨(blk_cell h 0).trans rfl,(blk_cell h 1).trans rfl,(blk_cell h 2).trans rfl,(blk_cell h 3).trans rfl,r⟩
theorem Z40_17 {p:Prop} (h:p:=by (with_reducible repeat (first|apply Kd.R_alloc|apply Kd.R_drewN|apply Kd.R_drew));exact HO_3.out):p:=h
theorem Z40_6 {p:Prop} (h:p:=by repeat (first|(with_reducible first|exact HB.out|apply below_alloc|apply pw_below_drewN|apply below_drew1|refine below_set ?_ GE1101.out)|exact HB.out)):p:=h
theorem Z40_1 {p:Prop} (h:p:=by exact (Kd.R_lower (Kd.R_new' ho0 (Kd.R_lt Z40_17)) (below_size Z40_6))):p:=h
theorem Z40_11 {p:Prop} (h:p:=by (with_reducible repeat (first|refine blk_drewN ?_ _|refine blk_drew ?_|refine blk_alloc ?_ _));exact BK1101.out):p:=h
theorem Z40_2 {p:Prop} (h:p:=by exact (blk_below (g:=gb1101) (o := .cells #[.slice A0_0 l0_0.length c0_0,.slice (some ad1125) l0_1.length c0_1,.int .i64 a0_2,.int .i64 a0_3] 56 (0,0)) Z40_11 hb)):p:=h
theorem Z40_3 {p:Prop} (h:p:=by exact (blk_below (g:=gb1101) (o := .cells #[.slice A0_0 l0_0.length c0_0,.slice A0_1 l0_1.length c0_1,.int .i64 a0_2,.int .i64 a0_3] 56 (0,0)) Z40_11 hb)):p:=h
theorem Z40_4 {p:Prop} (h:p:=by exact ((by rw [hg];exact (below_size (by repeat (first|(with_reducible first|exact HB.out|apply below_alloc|apply pw_below_drewN|apply below_drew1)|exact HB.out))):w.heap.size≤gb1101))):p:=h
theorem Z40_5 {p:Prop} (h:p:=by exact (below_step Z40_6 hb)):p:=h
theorem Z40_7 {p:Prop} (h:p:=by exact (below_step (by repeat (first|(with_reducible first|exact HB.out|apply below_alloc|apply pw_below_drewN|apply below_drew1)|exact HB.out)) hb)):p:=h
theorem Z40_8 {p:Prop} (h:p:=by (try simp only [List.map_toArray,List.map_cons,List.map_nil]);first|done|rfl|(simp only [List.length_drop,List.length_take];rfl)):p:=h
theorem Z40_15 {p:Prop} (h:p:=by (with_reducible repeat (first|apply Kd.R_alloc|apply Kd.R_drewN|apply Kd.R_drew));exact HO1128.out):p:=h
theorem Z40_9 {p:Prop} (h:p:=by exact (Kd.R_elder' Z40_15 (Kd.R_base ho0) hb)):p:=h
theorem Z40_10 {p:Prop} (h:p:=by exact (Kd.R_elder' Z40_17 (Kd.R_base ho0) hb)):p:=h
theorem Z40_12 {p:Prop} (h:p:=by simp only [Act.put,List.setIfInBounds_toArray,List.set_cons_zero,List.set_cons_succ,i64_w,i32_w];rfl):p:=h
theorem Z40_13 {p:Prop} (h:p:=by (with_reducible repeat (first|apply Kd.R_alloc|apply Kd.R_drewN|apply Kd.R_drew));exact HO1108.out):p:=h
theorem Z40_14 {p:Prop} (h:p:=by (with_reducible repeat (first|apply Kd.R_alloc|apply Kd.R_drewN|apply Kd.R_drew));exact HO1121.out):p:=h
theorem Z40_16 {p:Prop} (h:p:=by (with_reducible repeat (first|apply Kd.R_alloc|apply Kd.R_drewN|apply Kd.R_drew));exact HO1132.out):p:=h
theorem Z40_18 {p:Prop} (h:p:=by rintro w' ⟨s0,s1,s2,s3,s4,s5,s6,s7,s8,s9,s10,s11,s12⟩;go_simp;with_reducible rfl):p:=h
theorem Z40_19 {p:Prop} (h:p:=by first|(with_reducible assumption)|assumption):p:=h
theorem Z40_20 {p:Prop} (h:p:=by first|rfl|(simp;done)|(simp [*];done)):p:=h
mutual
def spec_PutState.l0:Nat→List Int→Int→List (S25)→List (S71)→Int→Int→Option (List Int)
 | 0,_,_,_,_,_,_=>none
 | k+1,x3,x4,x1102000,x1102001,x1102002,x1102003=>if x4 < (x1102000.length:Int) then (if 0≤x4 then ((spec_PutPiece.f k x3 ((rd_T25 x1102000 x4).f0) ((rd_T25 x1102000 x4).f1) ((rd_T25 x1102000 x4).f2) ((rd_T25 x1102000 x4).f3) ((rd_T25 x1102000 x4).f4) ((rd_T25 x1102000 x4).f5) ((rd_T25 x1102000 x4).f6) ((rd_T25 x1102000 x4).f7) ((rd_T25 x1102000 x4).f8) ((rd_T25 x1102000 x4).f9) ((rd_T25 x1102000 x4).f10) ((rd_T25 x1102000 x4).f11) ((rd_T25 x1102000 x4).f12)).bind fun t1113=>(spec_PutState.l0 k t1113 (wrap64 (x4+1)) x1102000 x1102001 x1102002 x1102003)) else (none)) else ((spec_PutNum.f x3 (x1102001.length:Int)).bind fun t1116=>(spec_PutState.l1 k t1116 0 x1102000 x1102001 x1102002 x1102003))
def spec_PutState.l1:Nat→List Int→Int→List (S25)→List (S71)→Int→Int→Option (List Int)
 | 0,_,_,_,_,_,_=>none
 | k+1,x3,x5,x1102000,x1102001,x1102002,x1102003=>if x5 < (x1102001.length:Int) then (if 0≤x5 then ((spec_PutNum.f x3 ((rd_T71 x1102001 x5).f0)).bind fun t1126=>((spec_PutNum.f t1126 ((rd_T71 x1102001 x5).f1)).bind fun t1130=>((spec_l4Bit.f ((rd_T71 x1102001 x5).f2)).bind fun t1134=>((spec_PutNum.f t1130 t1134).bind fun t1135=>(spec_PutState.l1 k t1135 (wrap64 (x5+1)) x1102000 x1102001 x1102002 x1102003))))) else (none)) else ((spec_PutNum.f x3 x1102002).bind fun t1119=>((spec_PutNum.f t1119 x1102003).bind fun t1122=>(some t1122)))
end
def spec_PutState.f (k:Nat) (l0_0:List (S25)) (l0_1:List (S71)) (a0_2:Int) (a0_3:Int):Option (List Int):=(spec_StateOk.f k l0_0 l0_1 a0_2 a0_3).bind fun t1102=>(if t1102=true then ((spec_PutNum.f (([]:List Int)) (l0_0.length:Int)).bind fun t1109=>(spec_PutState.l0 k t1109 0 l0_0 l0_1 a0_2 a0_3)) else (some (([]:List Int))))
def spec_PutState.T12:Bool×List (List Nat×List Nat):=(true,[([],[]),([],[]),([1],[1]),([],[]),([2,3],[2,3]),([4],[4]),([5],[5]),([0,6],[0,6]),([],[]),([8],[8]),([],[]),([9,10],[9,10]),([11],[11]),([12],[12]),([7,13,7],[7,13]),([],[]),([15],[15]),([],[]),([16,17],[16,17]),([18],[18]),([19],[19]),([20,14],[20]),([14,21,21],[14,21]),([22,22,0,1,2,3,4,5,6,7,8,9,10,11,12,13,14,15,16,17,18,19,20,21,22],[0,22])])
def spec_PutState.B12:List Nat:=[0,0,2,0,14,30,62,127,0,256,0,1792,3840,7936,16383,0,32768,0,229376,491520,1015808,2097151,4194303,8388607]
theorem spec_PutState.tab12:rtab .any (opsOf Try.f52 12)=spec_PutState.T12:=by kernel_rfl
theorem spec_PutState.bits12:waitsOk spec_PutState.T12.2 spec_PutState.B12=true:=by kernel_rfl
def spec_PutState.T13:Bool×List (List Nat×List Nat):=(true,[([],[]),([],[]),([1],[1]),([0,2],[0,2]),([],[]),([4],[4]),([3,5,3],[3,5]),([6,6,0,1,2,3,4,5,6],[6])])
def spec_PutState.B13:List Nat:=[0,0,2,7,0,16,63,127]
theorem spec_PutState.tab13:rtab .any (opsOf Try.f52 13)=spec_PutState.T13:=by kernel_rfl
theorem spec_PutState.bits13:waitsOk spec_PutState.T13.2 spec_PutState.B13=true:=by kernel_rfl
set_option maxHeartbeats 8000000 in
set_option maxRecDepth 100000 in
theorem spec_PutState.calls (k:Nat) (A0_0:Option Addr) (c0_0:Nat) (l0_0:List (S25)) (A0_1:Option Addr) (c0_1:Nat) (l0_1:List (S71)) (a0_2:Int) (a0_3:Int) (r:List Int) (w:World) (hr0_0:Kd.C k25 w A0_0 l0_0.length l0_0) (hc0_0:l0_0.length≤c0_0) (hr0_1:Kd.C k71 w A0_1 l0_1.length l0_1) (hc0_1:l0_1.length≤c0_1) (h:spec_PutState.f k l0_0 l0_1 a0_2 a0_3=some r) :
  Calls Try.prog 52 #[.agg #[.slice A0_0 l0_0.length c0_0,.slice A0_1 l0_1.length c0_1,.int .i64 a0_2,.int .i64 a0_3]] w fun e w'=>∃ v0_:Value,e = .returned (v0_)∧Kd.R (Kd.int .u8) 5 w' w.heap.size (fun _=>True) v0_ r∧Below w.heap.size w w':=by
 have hu56:=Try.underlying56
 have hu25:=Try.underlying25
 have HR0_0:=Aside0.mk hr0_0
 have HC0_0:=Aside0.mk hc0_0
 clear hr0_0 hc0_0
 have HR0_1:=Aside0.mk hr0_1
 have HC0_1:=Aside0.mk hc0_1
 clear hr0_1 hc0_1
 have HB:=Aside0.mk (Below.refl w.heap.size w)
 have H:((spec_StateOk.f k l0_0 l0_1 a0_2 a0_3).bind fun t1102=>(if t1102=true then ((spec_PutNum.f (([]:List Int)) (l0_0.length:Int)).bind fun t1109=>(spec_PutState.l0 k t1109 0 l0_0 l0_1 a0_2 a0_3)) else (some (([]:List Int)))))=some r:=h
 clear h
 replace H:=Option.bind_eq_some_iff.mp H
 obtain ⟨t1102,A20,H⟩:=H
 (try dsimp only at H)
 have A2:=Aside0.mk A20
 clear A20
 by_cases c3:t1102=true
 rotate_left
 ·replace c3:=Bool.eq_false_iff.mpr c3
  subst c3
  have H1:(some (([]:List Int)))=some r:=by rw [if_neg (show ¬ (false=true) by decide)] at H;exact H
  clear H
  have H:=H1
  clear H1
  obtain ⟨y1103,hy1103⟩:∃ y_:List Int,y_=(([]:List Int)):=⟨_,rfl⟩
  replace H:(some y1103)=some r:=by first|(rw [hy1103];with_reducible exact H)|(have H2_:=(Option.bind_some _ _).symm.trans H;rw [hy1103];with_reducible exact H2_)|(have H2_:=(Option.bind_some _ _).symm.trans H;with_reducible exact H2_)|with_reducible exact H|(rw [hy1103];exact H)|exact H
  have Ny1103:=Aside0.mk hy1103
  clear hy1103
  obtain rfl:=Option.some.inj H
  go_enter Try.func52,Try.ntmps52
  go_wp2_with (first|((with_reducible refine gate_dst (N:=1) rfl ?_);refine box_event ?hg (N:=1) ?hd (cs:=#[.slice A0_0 l0_0.length c0_0,.slice A0_1 l0_1.length c0_1,.int .i64 a0_2,.int .i64 a0_3]) (t:=56) ?hr ?_;(case hd=>rfl);(case hg=>rfl);(case hr=>first|(go_simp;done)|(go_simp;rfl));intro gb1101 hg w45 hbox hb;have n0_:=Aside0.mk Z40_7;have n1_:=Aside0.mk (hbox);have n2_:=Aside0.mk Z40_4;have n3_:=Aside0.mk Z40_4;clear HB;have HB:=n0_;have BK1101:=n1_;have GW1101:=n2_;have GE1101:=n3_;clear n0_ n1_ n2_ n3_;clear hb hbox hg;obtain ⟨⟨hcz46_0,hcz46_1,hcz46_2,hcz46_3⟩,hfz46_0,hfz46_1,hfz46_2,hfz46_3⟩:=C_z1 BK1101.out)|((with_reducible refine gate_callee (f:=36) rfl ?_);refine goesL_ (some 7) rfl rfl Try.func36 (by kernel_rfl) rfl #[.agg #[.slice A0_0 l0_0.length c0_0,.slice A0_1 l0_1.length c0_1,.int .i64 a0_2,.int .i64 a0_3]] rfl Z40_8 ?_;(with_reducible refine (spec_StateOk.calls k _ _ l0_0 _ _ l0_1 a0_2 a0_3 false _ ?side1 ?side2 ?side3 ?side4 A2.out).mono ?_);(case side1=>repeat (first|exact (Kd.C_below HR0_0.out HB.out)|(with_reducible refine Kd.C_alloc ?_ _)|(with_reducible refine Kd.C_drewN ?_ _)|(with_reducible refine Kd.C_drew ?_)));(case side2=>exact HC0_0.out);(case side3=>repeat (first|exact (Kd.C_below HR0_1.out HB.out)|(with_reducible refine Kd.C_alloc ?_ _)|(with_reducible refine Kd.C_drewN ?_ _)|(with_reducible refine Kd.C_drew ?_)));(case side4=>exact HC0_1.out);rintro e w47 ⟨rfl,hb⟩;refine ⟨_,rfl,?_⟩;have n0_:=Aside0.mk Z40_3;have n1_:=Aside0.mk Z40_5;clear BK1101;clear HB;have BK1101:=n0_;have HB:=n1_;clear n0_ n1_;(try clear hb);(try clear hb2);(try clear hk);(try clear hi))|((with_reducible refine gate_dst (N:=9) rfl ?_);refine Kd.R_lit (Kd.int .u8) _ 5 ?hg (N:=9) ?hd (xs:=([]:List Int)) (inner:=[]) (ok:=fun _=>True) (okp:=fun _=>True) ?hr ?hp (fun _ hk=>hk) trivial (Below.refl _ _) (Nat.le_refl _) (by simp) ?_;(case hd=>rfl);(case hg=>rfl);(case hr=>first|(go_simp;done)|(go_simp;rfl));(case hp=>exact (Reps.none _ _));intro v1104 w48 ho49 hb hg_ hnew_;clear hg_ hnew_;(first|rw [← Ny1103.out] at ho49|(simp only [Int.reduceToNat] at ho49;rw [← Ny1103.out] at ho49));have n0_:=Aside0.mk (Kd.R_lower ho49 (below_size Z40_6));have n1_:=Aside0.mk Z40_3;have n2_:=Aside0.mk Z40_5;clear BK1101;clear HB;have HO1105:=n0_;have BK1101:=n1_;have HB:=n2_;clear n0_ n1_ n2_;clear hb ho49))
  go_ret
  exact ⟨_,(by first|rfl|(simp [errW_none,errW_some]<;>rfl)|(simp [*,errW_none,errW_some]<;>rfl)),(by (with_reducible repeat (first|apply Kd.R_alloc|apply Kd.R_drewN|apply Kd.R_drew));exact HO1105.out),Z40_6⟩
 subst c3
 have H1:((spec_PutNum.f (([]:List Int)) (l0_0.length:Int)).bind fun t1109=>(spec_PutState.l0 k t1109 0 l0_0 l0_1 a0_2 a0_3))=some r:=by rw [if_pos rfl] at H;exact H
 clear H
 have H:=H1
 clear H1
 obtain ⟨y1106,hy1106⟩:∃ y_:List Int,y_=(([]:List Int)):=⟨_,rfl⟩
 replace H:((spec_PutNum.f y1106 (l0_0.length:Int)).bind fun t1109=>(spec_PutState.l0 k t1109 0 l0_0 l0_1 a0_2 a0_3))=some r:=by first|(rw [hy1106];with_reducible exact H)|(have H2_:=(Option.bind_some _ _).symm.trans H;rw [hy1106];with_reducible exact H2_)|(have H2_:=(Option.bind_some _ _).symm.trans H;with_reducible exact H2_)|with_reducible exact H|(rw [hy1106];exact H)|exact H
 have Ny1106:=Aside0.mk hy1106
 clear hy1106
 replace H:=Option.bind_eq_some_iff.mp H
 obtain ⟨t1109,A40,H⟩:=H
 replace H:(spec_PutState.l0 k t1109 0 l0_0 l0_1 a0_2 a0_3)=some r:=H
 have A4:=Aside0.mk A40
 clear A40
 have H':=Aside0.mk H
 clear H
 go_enter Try.func52,Try.ntmps52
 go_wp2_with (first|((with_reducible refine gate_dst (N:=1) rfl ?_);refine box_event ?hg (N:=1) ?hd (cs:=#[.slice A0_0 l0_0.length c0_0,.slice A0_1 l0_1.length c0_1,.int .i64 a0_2,.int .i64 a0_3]) (t:=56) ?hr ?_;(case hd=>rfl);(case hg=>rfl);(case hr=>first|(go_simp;done)|(go_simp;rfl));intro gb1101 hg w5 hbox hb;have n0_:=Aside0.mk Z40_7;have n1_:=Aside0.mk (hbox);have n2_:=Aside0.mk Z40_4;have n3_:=Aside0.mk Z40_4;clear HB;have HB:=n0_;have BK1101:=n1_;have GW1101:=n2_;have GE1101:=n3_;clear n0_ n1_ n2_ n3_;clear hb hbox hg;obtain ⟨⟨hcz6_0,hcz6_1,hcz6_2,hcz6_3⟩,hfz6_0,hfz6_1,hfz6_2,hfz6_3⟩:=C_z1 BK1101.out)|((with_reducible refine gate_callee (f:=36) rfl ?_);refine goesL_ (some 7) rfl rfl Try.func36 (by kernel_rfl) rfl #[.agg #[.slice A0_0 l0_0.length c0_0,.slice A0_1 l0_1.length c0_1,.int .i64 a0_2,.int .i64 a0_3]] rfl Z40_8 ?_;(with_reducible refine (spec_StateOk.calls k _ _ l0_0 _ _ l0_1 a0_2 a0_3 true _ ?side1 ?side2 ?side3 ?side4 A2.out).mono ?_);(case side1=>repeat (first|exact (Kd.C_below HR0_0.out HB.out)|(with_reducible refine Kd.C_alloc ?_ _)|(with_reducible refine Kd.C_drewN ?_ _)|(with_reducible refine Kd.C_drew ?_)));(case side2=>exact HC0_0.out);(case side3=>repeat (first|exact (Kd.C_below HR0_1.out HB.out)|(with_reducible refine Kd.C_alloc ?_ _)|(with_reducible refine Kd.C_drewN ?_ _)|(with_reducible refine Kd.C_drew ?_)));(case side4=>exact HC0_1.out);rintro e w7 ⟨rfl,hb⟩;refine ⟨_,rfl,?_⟩;have n0_:=Aside0.mk Z40_3;have n1_:=Aside0.mk Z40_5;clear BK1101;clear HB;have BK1101:=n0_;have HB:=n1_;clear n0_ n1_;(try clear hb);(try clear hb2);(try clear hk);(try clear hi))|((with_reducible refine gate_dst (N:=10) rfl ?_);refine Kd.R_lit (Kd.int .u8) _ 5 ?hg (N:=10) ?hd (xs:=([]:List Int)) (inner:=[]) (ok:=fun _=>True) (okp:=fun _=>True) ?hr ?hp (fun _ hk=>hk) trivial (Below.refl _ _) (Nat.le_refl _) (by simp) ?_;(case hd=>rfl);(case hg=>rfl);(case hr=>first|(go_simp;done)|(go_simp;rfl));(case hp=>exact (Reps.none _ _));intro v1107 w8 ho9 hb hg_ hnew_;clear hg_ hnew_;(first|rw [← Ny1106.out] at ho9|(simp only [Int.reduceToNat] at ho9;rw [← Ny1106.out] at ho9));have n0_:=Aside0.mk (Kd.R_lower ho9 (below_size Z40_6));have n1_:=Aside0.mk Z40_3;have n2_:=Aside0.mk Z40_5;clear BK1101;clear HB;have HO1108:=n0_;have BK1101:=n1_;have HB:=n2_;clear n0_ n1_ n2_;clear hb ho9;obtain ⟨⟨hcz10_0,hcz10_1,hcz10_2,hcz10_3⟩,hfz10_0,hfz10_1,hfz10_2,hfz10_3⟩:=C_z1 BK1101.out;obtain ⟨Ao11,co11,eo11⟩:=Kd.R_slice HO1108.out;subst eo11)|((with_reducible refine gate_callee (f:=113) rfl ?_);refine goesL_ (some 14) rfl rfl Try.func113 (by kernel_rfl) rfl #[.slice Ao11 y1106.length co11,.int .i64 (l0_0.length:Int)] rfl Z40_8 ?_;(with_reducible refine (spec_PutNum.calls _ _ y1106 (l0_0.length:Int) t1109 _ ?side1 ?side2 A4.out).mono ?_);(case side1=>repeat (first|exact (Kd.R_reads' HO1108.out).2.2|(with_reducible refine Kd.C_alloc ?_ _)|(with_reducible refine Kd.C_drewN ?_ _)|(with_reducible refine Kd.C_drew ?_)));(case side2=>exact (Kd.R_reads' HO1108.out).2.1);rintro e w12 ⟨v1110,rfl,ho0,hb⟩;refine ⟨_,rfl,?_⟩;have n0_:=Aside0.mk (Kd.R_elder' Z40_13 (Kd.R_base ho0) hb);have n1_:=Aside0.mk (Kd.R_lower (Kd.R_new' ho0 (Kd.R_lt Z40_13)) (below_size Z40_6));have n2_:=Aside0.mk Z40_3;have n3_:=Aside0.mk Z40_5;clear HO1108;clear BK1101;clear HB;have HO1108:=n0_;have HO1111:=n1_;have BK1101:=n2_;have HB:=n3_;clear n0_ n1_ n2_ n3_;(try clear hb);(try clear hb2);(try clear hk);(try clear hi);(try clear ho0)))
 go_loopg [3,4] k (fun kq v3 v4 w'=>∃ (x3_1:List Int) (x4_1:Int),v4 = .int .i64 x4_1∧Aside0 (spec_PutState.l0 kq x3_1 x4_1 l0_0 l0_1 a0_2 a0_3=some r)∧Aside0 (kq≤k)∧Aside0 (Kd.R (Kd.int .u8) 5 w' w.heap.size (fun _=>True) v3 x3_1)∧Aside0 (w'.heap[gb1101]?=some (.cells #[(.slice A0_0 l0_0.length c0_0),(.slice A0_1 l0_1.length c0_1),.int .i64 a0_2,.int .i64 a0_3] 56 (0,0)))∧Aside0 (Below w.heap.size w w'))
 case atStart=>exact ⟨(t1109),(0),Z40_20,H',⟨Nat.le_refl _⟩,⟨(by (with_reducible repeat (first|apply Kd.R_alloc|apply Kd.R_drewN|apply Kd.R_drew));exact Kd.R_mono HO1111.out (fun _ hk=>trivial))⟩,⟨Z40_11⟩,⟨Z40_6⟩⟩
 case round =>
  clear H'
  try clear c1
  try clear p2
  try clear c3
  try clear c5
  try clear c11
  try clear hcz10_0
  try clear hcz10_1
  try clear hcz10_2
  try clear hcz10_3
  try clear hcz6_0
  try clear hcz6_1
  try clear hcz6_2
  try clear hcz6_3
  try clear hfz10_0
  try clear hfz10_1
  try clear hfz10_2
  try clear hfz10_3
  try clear hfz6_0
  try clear hfz6_1
  try clear hfz6_2
  try clear hfz6_3
  obtain ⟨x3_1,x4_1,rfl,HA,HK1,HO_3,BK1101,HB⟩:=hrel
  cases gk with
  | zero=>exact absurd HA.out (by simp [spec_PutState.l0])
  | succ k1 =>
   have H:=HA.out
   clear HA
   simp only [spec_PutState.l0] at H
   by_cases c13:x4_1 < (l0_0.length:Int)
   ·rw [if_pos c13] at H
    have c13b0:decide (x4_1 < (l0_0.length:Int))=true:=decide_eq_true c13
    clear c13
    by_cases c14:0≤x4_1
    rotate_left
    ·rw [if_neg c14] at H
     exact absurd H (by simp)
    rw [if_pos c14] at H
    have c14b0:decide (0≤x4_1)=true:=decide_eq_true c14
    clear c14
    replace H:=Option.bind_eq_some_iff.mp H
    obtain ⟨t1113,A150,H⟩:=H
    replace H:(spec_PutState.l0 k1 t1113 (wrap64 (x4_1+1)) l0_0 l0_1 a0_2 a0_3)=some r:=H
    have A15:=Aside0.mk A150
    clear A150
    have H':=Aside0.mk H
    clear H
    obtain ⟨⟨hcz16_0,hcz16_1,hcz16_2,hcz16_3⟩,hfz16_0,hfz16_1,hfz16_2,hfz16_3⟩:=C_z1 BK1101.out
    have p1112:0≤(x4_1:Int):=of_decide_eq_true Z40_19
    have q1112:x4_1 < (l0_0.length:Int):=of_decide_eq_true Z40_19
    obtain ⟨ad1112,e1112,hx1112_0,hx1112_1,hx1112_2,hx1112_3,hx1112_4,hx1112_5,hx1112_6,hx1112_7,hx1112_8,hx1112_9,hx1112_10,hx1112_11,hx1112_12⟩:=at_T25 HR0_0.out x4_1 p1112 q1112
    cases e1112
    replace hx1112_0:=(HB.out.cell (World.block_lt_of_cell? w _ hx1112_0)).trans hx1112_0
    replace hx1112_1:=(HB.out.cell (World.block_lt_of_cell? w _ hx1112_1)).trans hx1112_1
    replace hx1112_2:=(HB.out.cell (World.block_lt_of_cell? w _ hx1112_2)).trans hx1112_2
    replace hx1112_3:=(HB.out.cell (World.block_lt_of_cell? w _ hx1112_3)).trans hx1112_3
    replace hx1112_4:=(HB.out.cell (World.block_lt_of_cell? w _ hx1112_4)).trans hx1112_4
    replace hx1112_5:=(HB.out.cell (World.block_lt_of_cell? w _ hx1112_5)).trans hx1112_5
    replace hx1112_6:=(HB.out.cell (World.block_lt_of_cell? w _ hx1112_6)).trans hx1112_6
    replace hx1112_7:=(HB.out.cell (World.block_lt_of_cell? w _ hx1112_7)).trans hx1112_7
    replace hx1112_8:=(HB.out.cell (World.block_lt_of_cell? w _ hx1112_8)).trans hx1112_8
    replace hx1112_9:=(HB.out.cell (World.block_lt_of_cell? w _ hx1112_9)).trans hx1112_9
    replace hx1112_10:=(HB.out.cell (World.block_lt_of_cell? w _ hx1112_10)).trans hx1112_10
    replace hx1112_11:=(HB.out.cell (World.block_lt_of_cell? w _ hx1112_11)).trans hx1112_11
    replace hx1112_12:=(HB.out.cell (World.block_lt_of_cell? w _ hx1112_12)).trans hx1112_12
    replace p1112:=eq_true p1112
    replace q1112:=eq_true q1112
    obtain ⟨Ao17,co17,eo17⟩:=Kd.R_slice HO_3.out
    subst eo17
    go_wp2_with (first|((with_reducible refine gate_callee (f:=95) rfl ?_);refine goesL_ (some 28) rfl rfl Try.func95 (by kernel_rfl) rfl #[.slice Ao17 x3_1.length co17,.agg #[.int .i64 ((rd_T25 l0_0 x4_1).f0),.int .i64 ((rd_T25 l0_0 x4_1).f1),.int .i64 ((rd_T25 l0_0 x4_1).f2),.int .i64 ((rd_T25 l0_0 x4_1).f3),.int .i64 ((rd_T25 l0_0 x4_1).f4),.int .i64 ((rd_T25 l0_0 x4_1).f5),.int .i64 ((rd_T25 l0_0 x4_1).f6),.int .i64 ((rd_T25 l0_0 x4_1).f7),.int .i64 ((rd_T25 l0_0 x4_1).f8),.int .i64 ((rd_T25 l0_0 x4_1).f9),.int .i64 ((rd_T25 l0_0 x4_1).f10),.bool ((rd_T25 l0_0 x4_1).f11),.bool ((rd_T25 l0_0 x4_1).f12)]] rfl Z40_8 ?_;(with_reducible refine (spec_PutPiece.calls k1 _ _ x3_1 ((rd_T25 l0_0 x4_1).f0) ((rd_T25 l0_0 x4_1).f1) ((rd_T25 l0_0 x4_1).f2) ((rd_T25 l0_0 x4_1).f3) ((rd_T25 l0_0 x4_1).f4) ((rd_T25 l0_0 x4_1).f5) ((rd_T25 l0_0 x4_1).f6) ((rd_T25 l0_0 x4_1).f7) ((rd_T25 l0_0 x4_1).f8) ((rd_T25 l0_0 x4_1).f9) ((rd_T25 l0_0 x4_1).f10) ((rd_T25 l0_0 x4_1).f11) ((rd_T25 l0_0 x4_1).f12) t1113 _ ?side1 ?side2 A15.out).mono ?_);(case side1=>repeat (first|exact (Kd.R_reads' HO_3.out).2.2|(with_reducible refine Kd.C_alloc ?_ _)|(with_reducible refine Kd.C_drewN ?_ _)|(with_reducible refine Kd.C_drew ?_)));(case side2=>exact (Kd.R_reads' HO_3.out).2.1);rintro e w18 ⟨v1114,rfl,ho0,hb⟩;refine ⟨_,rfl,?_⟩;have n0_:=Aside0.mk Z40_10;have n1_:=Aside0.mk Z40_1;have n2_:=Aside0.mk (blk_below (g:=gb1101) (o := .cells #[.slice (some ad1112) l0_0.length c0_0,.slice A0_1 l0_1.length c0_1,.int .i64 a0_2,.int .i64 a0_3] 56 (0,0)) Z40_11 hb);have n3_:=Aside0.mk Z40_5;clear HO_3;clear BK1101;clear HB;have HO_3:=n0_;have HO1115:=n1_;have BK1101:=n2_;have HB:=n3_;clear n0_ n1_ n2_ n3_;(try clear hb);(try clear hb2);(try clear hk);(try clear hi);(try clear ho0)))
    go_roundg k1
    case measure=>have:=HK1.out;omega
    case rel=>exact ⟨(t1113),(wrap64 (x4_1+1)),Z40_20,H',⟨(by have:=HK1.out;omega)⟩,⟨(by (with_reducible repeat (first|apply Kd.R_alloc|apply Kd.R_drewN|apply Kd.R_drew));exact Kd.R_mono HO1115.out (fun _ hk=>trivial))⟩,⟨Z40_11⟩,⟨Z40_6⟩⟩
   rw [if_neg c13] at H
   have c13b0:decide (x4_1 < (l0_0.length:Int))=false:=decide_eq_false c13
   clear c13
   replace H:=Option.bind_eq_some_iff.mp H
   obtain ⟨t1116,A190,H⟩:=H
   replace H:(spec_PutState.l1 k1 t1116 0 l0_0 l0_1 a0_2 a0_3)=some r:=H
   have A19:=Aside0.mk A190
   clear A190
   have H':=Aside0.mk H
   clear H
   obtain ⟨⟨hcz20_0,hcz20_1,hcz20_2,hcz20_3⟩,hfz20_0,hfz20_1,hfz20_2,hfz20_3⟩:=C_z1 BK1101.out
   obtain ⟨Ao21,co21,eo21⟩:=Kd.R_slice HO_3.out
   subst eo21
   go_wp2_with (first|((with_reducible refine gate_callee (f:=113) rfl ?_);refine goesL_ (some 33) rfl rfl Try.func113 (by kernel_rfl) rfl #[.slice Ao21 x3_1.length co21,.int .i64 (l0_1.length:Int)] rfl Z40_8 ?_;(with_reducible refine (spec_PutNum.calls _ _ x3_1 (l0_1.length:Int) t1116 _ ?side1 ?side2 A19.out).mono ?_);(case side1=>repeat (first|exact (Kd.R_reads' HO_3.out).2.2|(with_reducible refine Kd.C_alloc ?_ _)|(with_reducible refine Kd.C_drewN ?_ _)|(with_reducible refine Kd.C_drew ?_)));(case side2=>exact (Kd.R_reads' HO_3.out).2.1);rintro e w22 ⟨v1117,rfl,ho0,hb⟩;refine ⟨_,rfl,?_⟩;have n0_:=Aside0.mk Z40_10;have n1_:=Aside0.mk Z40_1;have n2_:=Aside0.mk Z40_3;have n3_:=Aside0.mk Z40_5;clear HO_3;clear BK1101;clear HB;have HO_3:=n0_;have HO1118:=n1_;have BK1101:=n2_;have HB:=n3_;clear n0_ n1_ n2_ n3_;(try clear hb);(try clear hb2);(try clear hk);(try clear hi);(try clear ho0)))
   go_loopg [3,5] k1 (fun kq v3 v5 w'=>∃ (x3_2:List Int) (x5_2:Int),v5 = .int .i64 x5_2∧Aside0 (spec_PutState.l1 kq x3_2 x5_2 l0_0 l0_1 a0_2 a0_3=some r)∧Aside0 (kq≤k1)∧Aside0 (Kd.R (Kd.int .u8) 5 w' w.heap.size (fun _=>True) v3 x3_2)∧Aside0 (w'.heap[gb1101]?=some (.cells #[(.slice A0_0 l0_0.length c0_0),(.slice A0_1 l0_1.length c0_1),.int .i64 a0_2,.int .i64 a0_3] 56 (0,0)))∧Aside0 (Below w.heap.size w w'))
   case atStart=>exact ⟨(t1116),(0),Z40_20,H',⟨Nat.le_refl _⟩,⟨(by (with_reducible repeat (first|apply Kd.R_alloc|apply Kd.R_drewN|apply Kd.R_drew));exact Kd.R_mono HO1118.out (fun _ hk=>trivial))⟩,⟨Z40_11⟩,⟨Z40_6⟩⟩
   case round =>
    clear H'
    try clear c1
    try clear p1
    try clear q1
    try clear hx1
    try clear p2
    try clear c3
    try clear c5
    try clear p6
    try clear c9
    try clear c11
    try clear p11
    try clear q11
    try clear hx11
    try clear c13
    try clear c13b0
    try clear c14
    try clear c14b0
    try clear hcz10_0
    try clear hcz10_1
    try clear hcz10_2
    try clear hcz10_3
    try clear hcz16_0
    try clear hcz16_1
    try clear hcz16_2
    try clear hcz16_3
    try clear hcz20_0
    try clear hcz20_1
    try clear hcz20_2
    try clear hcz20_3
    try clear hcz6_0
    try clear hcz6_1
    try clear hcz6_2
    try clear hcz6_3
    try clear hfz10_0
    try clear hfz10_1
    try clear hfz10_2
    try clear hfz10_3
    try clear hfz16_0
    try clear hfz16_1
    try clear hfz16_2
    try clear hfz16_3
    try clear hfz20_0
    try clear hfz20_1
    try clear hfz20_2
    try clear hfz20_3
    try clear hfz6_0
    try clear hfz6_1
    try clear hfz6_2
    try clear hfz6_3
    try clear hx1112_0
    try clear hx1112_1
    try clear hx1112_10
    try clear hx1112_11
    try clear hx1112_12
    try clear hx1112_2
    try clear hx1112_3
    try clear hx1112_4
    try clear hx1112_5
    try clear hx1112_6
    try clear hx1112_7
    try clear hx1112_8
    try clear hx1112_9
    try clear p1112
    try clear p2
    try clear q1112
    obtain ⟨x3_2,x5_2,rfl,HA,HK2,HO_3,BK1101,HB⟩:=hrel
    cases gk with
    | zero=>exact absurd HA.out (by simp [spec_PutState.l1])
    | succ k2 =>
     have H:=HA.out
     clear HA
     simp only [spec_PutState.l1] at H
     by_cases c23:x5_2 < (l0_1.length:Int)
     rotate_left
     ·rw [if_neg c23] at H
      have c23b0:decide (x5_2 < (l0_1.length:Int))=false:=decide_eq_false c23
      clear c23
      replace H:=Option.bind_eq_some_iff.mp H
      obtain ⟨t1119,A370,H⟩:=H
      replace H:((spec_PutNum.f t1119 a0_3).bind fun t1122=>(some t1122))=some r:=H
      have A37:=Aside0.mk A370
      clear A370
      replace H:=Option.bind_eq_some_iff.mp H
      obtain ⟨t1122,A380,H⟩:=H
      replace H:(some t1122)=some r:=H
      have A38:=Aside0.mk A380
      clear A380
      obtain rfl:=Option.some.inj H
      obtain ⟨⟨hcz39_0,hcz39_1,hcz39_2,hcz39_3⟩,hfz39_0,hfz39_1,hfz39_2,hfz39_3⟩:=C_z1 BK1101.out
      try go_wp2
      have n0_:=Aside0.mk (Kd.R_drew HO_3.out)
      have n1_:=Aside0.mk (blk_drew BK1101.out)
      have n2_:=Aside0.mk (below_drew1 HB.out)
      clear HO_3
      clear BK1101
      clear HB
      have HO_3:=n0_
      have BK1101:=n1_
      have HB:=n2_
      clear n0_ n1_ n2_
      obtain ⟨Ao41,co41,eo41⟩:=Kd.R_slice HO_3.out
      (first|subst eo41|(injection eo41 with f1_ f2_ f3_;have f4_:=f1_.symm;have f5_:=f3_.symm;clear f1_ f2_ f3_;subst f4_;subst f5_))
      refine start_ (n:=8) (S:=fun w'=>w'.cell? ⟨gb1101,0,none⟩=some (.slice A0_0 l0_0.length c0_0)∧w'.cell? ⟨gb1101,1,none⟩=some (.slice A0_1 l0_1.length c0_1)∧w'.cell? ⟨gb1101,2,none⟩=some (.int .i64 a0_2)∧w'.cell? ⟨gb1101,3,none⟩=some (.int .i64 a0_3)) (ds:=[]) #[false,false,false,false,false,false,false,false] (by kernel_rfl) rfl rfl ⟨(blk_cell BK1101.out 0).trans rfl,(blk_cell BK1101.out 1).trans rfl,(blk_cell BK1101.out 2).trans rfl,(blk_cell BK1101.out 3).trans rfl⟩ (fun hHeld=>?_);refine with_tabW spec_PutState.tab13 spec_PutState.bits13 (fun HT_ HW_=>?_)
      generalize wr.drew=w40 at HO_3 BK1101 HB hHeld ⊢
      refine pz 0 64 (M40_8 1) (b:=Z40_12) (h:=?_)
      refine pz 1 65 (M40_8 3) (b:=Z40_12) (h:=?_)
      refine pz 4 68 (M40_8 19) (b:=Z40_12) (h:=?_)
      refine take_ (i:=2) (N:=some 66) (v:=_) (a':=_) (M40_8 23) rfl rfl (take_ofW HT_.out HW_.out (by kernel_rfl)) (fun _ _ _ h=>h) (Or.inl ⟨(by rfl),(by rintro w' ⟨s0,s1,s2,s3⟩;go_simp;with_reducible rfl)⟩) hHeld Z40_12 ?_
      refine take_ (i:=5) (N:=some 69) (v:=_) (a':=_) (M40_8 55) rfl rfl (take_ofW HT_.out HW_.out (by kernel_rfl)) (fun _ _ _ h=>h) (Or.inl ⟨(by rfl),(by rintro w' ⟨s0,s1,s2,s3⟩;go_simp;with_reducible rfl)⟩) hHeld Z40_12 ?_
      refine one_ (i:=3) (N:=some 67) (M40_8 63) rfl rfl (one_of HT_.out (by kernel_rfl)) (by decide) (fun K hK=>?_)
      refine goes_ Try.func113 (by kernel_rfl) rfl #[.slice Ao41 x3_2.length co41,.int .i64 a0_2] (by rfl) rfl rfl Z40_8 ?_
      with_reducible refine (spec_PutNum.calls _ _ x3_2 a0_2 t1119 _ ?side1 ?side2 A37.out).mono ?_
      (case side1=>repeat (first|exact (Kd.R_reads' HO_3.out).2.2|(with_reducible refine Kd.C_alloc ?_ _)|(with_reducible refine Kd.C_drewN ?_ _)|(with_reducible refine Kd.C_drew ?_)))
      (case side2=>exact (Kd.R_reads' HO_3.out).2.1)
      rintro e w42 ⟨v1120,rfl,ho0,hb⟩
      refine ⟨_,rfl,?_⟩
      have n0_:=Aside0.mk Z40_10
      have n1_:=Aside0.mk Z40_1
      have n2_:=Aside0.mk Z40_3
      have n3_:=Aside0.mk Z40_5
      clear HO_3
      clear BK1101
      clear HB
      have HO_3:=n0_
      have HO1121:=n1_
      have BK1101:=n2_
      have HB:=n3_
      clear n0_ n1_ n2_ n3_
      (try clear hb)
      (try clear hb2)
      (try clear hk)
      (try clear hi)
      (try clear ho0)
      obtain ⟨Ao43,co43,eo43⟩:=Kd.R_slice HO1121.out
      (first|subst eo43|(injection eo43 with f1_ f2_ f3_;have f4_:=f1_.symm;have f5_:=f3_.symm;clear f1_ f2_ f3_;subst f4_;subst f5_))
      refine hK.out _ _ (C_z1 BK1101.out).1 (fun hHeld=>?_)
      clear hK K
      refine norm_ (a':=?_) ?_ ?_
      rotate_left
      ·show Act.put _ (some 67) _=_
       simp only [Act.put,List.setIfInBounds_toArray,List.set_cons_zero,List.set_cons_succ,i64_w,i32_w]
       rfl
      refine one_ (i:=6) (N:=some 70) (M40_8 127) rfl rfl (one_of HT_.out (by kernel_rfl)) (by decide) (fun K hK=>?_)
      refine goes_ Try.func113 (by kernel_rfl) rfl #[.slice Ao43 t1119.length co43,.int .i64 a0_3] (by rfl) rfl rfl Z40_8 ?_
      with_reducible refine (spec_PutNum.calls _ _ t1119 a0_3 t1122 _ ?side1 ?side2 A38.out).mono ?_
      (case side1=>repeat (first|exact (Kd.R_reads' HO1121.out).2.2|(with_reducible refine Kd.C_alloc ?_ _)|(with_reducible refine Kd.C_drewN ?_ _)|(with_reducible refine Kd.C_drew ?_)))
      (case side2=>exact (Kd.R_reads' HO1121.out).2.1)
      rintro e w44 ⟨v1123,rfl,ho0,hb⟩
      refine ⟨_,rfl,?_⟩
      have n0_:=Aside0.mk Z40_10
      have n1_:=Aside0.mk (Kd.R_elder' Z40_14 (Kd.R_base ho0) hb)
      have n2_:=Aside0.mk (Kd.R_lower (Kd.R_new' (Kd.R_new' ho0 (Kd.R_lt Z40_17)) (Kd.R_lt Z40_14)) (below_size Z40_6))
      have n3_:=Aside0.mk Z40_3
      have n4_:=Aside0.mk Z40_5
      clear HO_3
      clear HO1121
      clear BK1101
      clear HB
      have HO_3:=n0_
      have HO1121:=n1_
      have HO1124:=n2_
      have BK1101:=n3_
      have HB:=n4_
      clear n0_ n1_ n2_ n3_ n4_
      (try clear hb)
      (try clear hb2)
      (try clear hk)
      (try clear hi)
      (try clear ho0)
      refine hK.out _ _ (C_z1 BK1101.out).1 (fun hHeld=>?_)
      clear hK K
      refine norm_ (a':=?_) ?_ ?_
      rotate_left
      ·show Act.put _ (some 70) _=_
       simp only [Act.put,List.setIfInBounds_toArray,List.set_cons_zero,List.set_cons_succ,i64_w,i32_w]
       rfl
      refine pz 7 2 (M40_8 255) (b:=Z40_12) (h:=?_)
      refine done_ (done_of HT_.out (by kernel_rfl)) ?_
      try go_wp2
      go_ret
      exact ⟨_,(by first|rfl|(simp [errW_none,errW_some]<;>rfl)|(simp [*,errW_none,errW_some]<;>rfl)),(by (with_reducible repeat (first|apply Kd.R_alloc|apply Kd.R_drewN|apply Kd.R_drew));exact Kd.R_mono HO1124.out (fun _ hk=>trivial)),Z40_6⟩
     rw [if_pos c23] at H
     have c23b0:decide (x5_2 < (l0_1.length:Int))=true:=decide_eq_true c23
     clear c23
     by_cases c24:0≤x5_2
     rotate_left
     ·rw [if_neg c24] at H
      exact absurd H (by simp)
     rw [if_pos c24] at H
     have c24b0:decide (0≤x5_2)=true:=decide_eq_true c24
     clear c24
     replace H:=Option.bind_eq_some_iff.mp H
     obtain ⟨t1126,A250,H⟩:=H
     (try dsimp only at H)
     have A25:=Aside0.mk A250
     clear A250
     replace H:=Option.bind_eq_some_iff.mp H
     obtain ⟨t1130,A260,H⟩:=H
     replace H:((spec_l4Bit.f ((rd_T71 l0_1 x5_2).f2)).bind fun t1134=>((spec_PutNum.f t1130 t1134).bind fun t1135=>(spec_PutState.l1 k2 t1135 (wrap64 (x5_2+1)) l0_0 l0_1 a0_2 a0_3)))=some r:=H
     have A26:=Aside0.mk A260
     clear A260
     replace H:=Option.bind_eq_some_iff.mp H
     obtain ⟨t1134,A270,H⟩:=H
     replace H:((spec_PutNum.f t1130 t1134).bind fun t1135=>(spec_PutState.l1 k2 t1135 (wrap64 (x5_2+1)) l0_0 l0_1 a0_2 a0_3))=some r:=H
     have A27:=Aside0.mk A270
     clear A270
     replace H:=Option.bind_eq_some_iff.mp H
     obtain ⟨t1135,A280,H⟩:=H
     replace H:(spec_PutState.l1 k2 t1135 (wrap64 (x5_2+1)) l0_0 l0_1 a0_2 a0_3)=some r:=H
     have A28:=Aside0.mk A280
     clear A280
     have H':=Aside0.mk H
     clear H
     obtain ⟨⟨hcz29_0,hcz29_1,hcz29_2,hcz29_3⟩,hfz29_0,hfz29_1,hfz29_2,hfz29_3⟩:=C_z1 BK1101.out
     try go_wp2
     have n0_:=Aside0.mk (Kd.R_drew HO_3.out)
     have n1_:=Aside0.mk (blk_drew BK1101.out)
     have n2_:=Aside0.mk (below_drew1 HB.out)
     clear HO_3
     clear BK1101
     clear HB
     have HO_3:=n0_
     have BK1101:=n1_
     have HB:=n2_
     clear n0_ n1_ n2_
     have p1125:0≤(x5_2:Int):=of_decide_eq_true Z40_19
     have q1125:x5_2 < (l0_1.length:Int):=of_decide_eq_true Z40_19
     obtain ⟨ad1125,e1125,hx1125_0,hx1125_1,hx1125_2⟩:=at_T71 HR0_1.out x5_2 p1125 q1125
     have hw1125_2:=hx1125_2
     have hw1125_1:=hx1125_1
     have hw1125_0:=hx1125_0
     cases e1125
     replace hx1125_0:=(HB.out.cell (World.block_lt_of_cell? w _ hx1125_0)).trans hx1125_0
     replace hx1125_1:=(HB.out.cell (World.block_lt_of_cell? w _ hx1125_1)).trans hx1125_1
     replace hx1125_2:=(HB.out.cell (World.block_lt_of_cell? w _ hx1125_2)).trans hx1125_2
     replace p1125:=eq_true p1125
     replace q1125:=eq_true q1125
     have p1129:0≤(x5_2:Int):=of_decide_eq_true Z40_19
     have q1129:x5_2 < (l0_1.length:Int):=of_decide_eq_true Z40_19
     obtain ⟨ad1129,e1129,hx1129_0,hx1129_1,hx1129_2⟩:=at_T71 HR0_1.out x5_2 p1129 q1129
     have hw1129_2:=hx1129_2
     have hw1129_1:=hx1129_1
     have hw1129_0:=hx1129_0
     obtain rfl:ad1125=ad1129:=(by injection e1129)
     replace hx1129_0:=(HB.out.cell (World.block_lt_of_cell? w _ hx1129_0)).trans hx1129_0
     replace hx1129_1:=(HB.out.cell (World.block_lt_of_cell? w _ hx1129_1)).trans hx1129_1
     replace hx1129_2:=(HB.out.cell (World.block_lt_of_cell? w _ hx1129_2)).trans hx1129_2
     replace p1129:=eq_true p1129
     replace q1129:=eq_true q1129
     have p1133:0≤(x5_2:Int):=of_decide_eq_true Z40_19
     have q1133:x5_2 < (l0_1.length:Int):=of_decide_eq_true Z40_19
     obtain ⟨ad1133,e1133,hx1133_0,hx1133_1,hx1133_2⟩:=at_T71 HR0_1.out x5_2 p1133 q1133
     have hw1133_2:=hx1133_2
     have hw1133_1:=hx1133_1
     have hw1133_0:=hx1133_0
     obtain rfl:ad1125=ad1133:=(by injection e1133)
     replace hx1133_0:=(HB.out.cell (World.block_lt_of_cell? w _ hx1133_0)).trans hx1133_0
     replace hx1133_1:=(HB.out.cell (World.block_lt_of_cell? w _ hx1133_1)).trans hx1133_1
     replace hx1133_2:=(HB.out.cell (World.block_lt_of_cell? w _ hx1133_2)).trans hx1133_2
     replace p1133:=eq_true p1133
     replace q1133:=eq_true q1133
     obtain ⟨Ao31,co31,eo31⟩:=Kd.R_slice HO_3.out
     (first|subst eo31|(injection eo31 with f1_ f2_ f3_;have f4_:=f1_.symm;have f5_:=f3_.symm;clear f1_ f2_ f3_;subst f4_;subst f5_))
     refine start_ (n:=24) (S:=fun w'=>w'.cell? ⟨gb1101,0,none⟩=some (.slice A0_0 l0_0.length c0_0)∧w'.cell? ⟨gb1101,1,none⟩=some (.slice (some ad1125) l0_1.length c0_1)∧w'.cell? ⟨gb1101,2,none⟩=some (.int .i64 a0_2)∧w'.cell? ⟨gb1101,3,none⟩=some (.int .i64 a0_3)∧w'.cell? (ad1125.add ((x5_2).toNat*3))=some (.int .i64 ((rd_T71 l0_1 x5_2).f0))∧w'.cell? ⟨(ad1125.add ((x5_2).toNat*3)).block,(ad1125.add ((x5_2).toNat*3)).off+1,none⟩=some (.int .i64 ((rd_T71 l0_1 x5_2).f1))∧w'.cell? ⟨(ad1125.add ((x5_2).toNat*3)).block,(ad1125.add ((x5_2).toNat*3)).off+2,none⟩=some (.bool ((rd_T71 l0_1 x5_2).f2))∧w'.cell? (ad1125.add ((x5_2).toNat*3))=some (.int .i64 ((rd_T71 l0_1 x5_2).f0))∧w'.cell? ⟨(ad1125.add ((x5_2).toNat*3)).block,(ad1125.add ((x5_2).toNat*3)).off+1,none⟩=some (.int .i64 ((rd_T71 l0_1 x5_2).f1))∧w'.cell? ⟨(ad1125.add ((x5_2).toNat*3)).block,(ad1125.add ((x5_2).toNat*3)).off+2,none⟩=some (.bool ((rd_T71 l0_1 x5_2).f2))∧w'.cell? (ad1125.add ((x5_2).toNat*3))=some (.int .i64 ((rd_T71 l0_1 x5_2).f0))∧w'.cell? ⟨(ad1125.add ((x5_2).toNat*3)).block,(ad1125.add ((x5_2).toNat*3)).off+1,none⟩=some (.int .i64 ((rd_T71 l0_1 x5_2).f1))∧w'.cell? ⟨(ad1125.add ((x5_2).toNat*3)).block,(ad1125.add ((x5_2).toNat*3)).off+2,none⟩=some (.bool ((rd_T71 l0_1 x5_2).f2))) (ds:=[]) #[false,false,false,false,false,false,false,false,false,false,false,false,false,false,false,false,false,false,false,false,false,false,false,false] (by kernel_rfl) rfl rfl ⟨(blk_cell BK1101.out 0).trans rfl,(blk_cell BK1101.out 1).trans rfl,(blk_cell BK1101.out 2).trans rfl,(blk_cell BK1101.out 3).trans rfl,((HB.out.cell (World.block_lt_of_cell? w _ hw1125_0)).trans hw1125_0),((HB.out.cell (World.block_lt_of_cell? w _ hw1125_1)).trans hw1125_1),((HB.out.cell (World.block_lt_of_cell? w _ hw1125_2)).trans hw1125_2),((HB.out.cell (World.block_lt_of_cell? w _ hw1129_0)).trans hw1129_0),((HB.out.cell (World.block_lt_of_cell? w _ hw1129_1)).trans hw1129_1),((HB.out.cell (World.block_lt_of_cell? w _ hw1129_2)).trans hw1129_2),((HB.out.cell (World.block_lt_of_cell? w _ hw1133_0)).trans hw1133_0),((HB.out.cell (World.block_lt_of_cell? w _ hw1133_1)).trans hw1133_1),((HB.out.cell (World.block_lt_of_cell? w _ hw1133_2)).trans hw1133_2)⟩ (fun hHeld=>?_);refine with_tabW spec_PutState.tab12 spec_PutState.bits12 (fun HT_ HW_=>?_)
     generalize wr.drew=w30 at HO_3 BK1101 HB hx1125_0 hx1125_1 hx1125_2 hx1129_0 hx1129_1 hx1129_2 hx1133_0 hx1133_1 hx1133_2 hHeld ⊢
     refine pz 0 41 (M40_24 1) (b:=Z40_12) (h:=?_)
     refine pz 1 42 (M40_24 3) (b:=Z40_12) (h:=?_)
     refine pz 3 44 (M40_24 11) (b:=Z40_12) (h:=?_)
     refine pz 8 49 (M40_24 267) (b:=Z40_12) (h:=?_)
     refine pz 10 51 (M40_24 1291) (b:=Z40_12) (h:=?_)
     refine pz 15 56 (M40_24 34059) (b:=Z40_12) (h:=?_)
     refine pz 17 58 (M40_24 165131) (b:=Z40_12) (h:=?_)
     refine tz 2 43 (M40_24 165135) (r:=Z40_18) (b:=Z40_12) (h:=?_)
     refine pz 4 45 (M40_24 165151) (b:=Z40_12) (h:=?_)
     refine pz 5 46 (M40_24 165183) (b:=Z40_12) (h:=?_)
     refine tz 6 47 (M40_24 165247) (r:=Z40_18) (b:=Z40_12) (h:=?_)
     refine tz 9 50 (M40_24 165759) (r:=Z40_18) (b:=Z40_12) (h:=?_)
     refine pz 11 52 (M40_24 167807) (b:=Z40_12) (h:=?_)
     refine pz 12 53 (M40_24 171903) (b:=Z40_12) (h:=?_)
     refine tz 13 54 (M40_24 180095) (r:=Z40_18) (b:=Z40_12) (h:=?_)
     refine tz 16 57 (M40_24 245631) (r:=Z40_18) (b:=Z40_12) (h:=?_)
     refine pz 18 59 (M40_24 507775) (b:=Z40_12) (h:=?_)
     refine pz 19 60 (M40_24 1032063) (b:=Z40_12) (h:=?_)
     refine tz 20 61 (M40_24 2080639) (r:=Z40_18) (b:=Z40_12) (h:=?_)
     refine one_ (i:=7) (N:=some 48) (M40_24 2080767) rfl rfl (one_of HT_.out (by kernel_rfl)) (by decide) (fun K hK=>?_)
     refine goes_ Try.func113 (by kernel_rfl) rfl #[.slice Ao31 x3_2.length co31,.int .i64 ((rd_T71 l0_1 x5_2).f0)] (by rfl) rfl rfl Z40_8 ?_
     with_reducible refine (spec_PutNum.calls _ _ x3_2 ((rd_T71 l0_1 x5_2).f0) t1126 _ ?side1 ?side2 A25.out).mono ?_
     (case side1=>repeat (first|exact (Kd.R_reads' HO_3.out).2.2|(with_reducible refine Kd.C_alloc ?_ _)|(with_reducible refine Kd.C_drewN ?_ _)|(with_reducible refine Kd.C_drew ?_)))
     (case side2=>exact (Kd.R_reads' HO_3.out).2.1)
     rintro e w32 ⟨v1127,rfl,ho0,hb⟩
     refine ⟨_,rfl,?_⟩
     have n0_:=Aside0.mk Z40_10
     have n1_:=Aside0.mk Z40_1
     have n2_:=Aside0.mk Z40_2
     have n3_:=Aside0.mk Z40_5
     clear HO_3
     clear BK1101
     clear HB
     have HO_3:=n0_
     have HO1128:=n1_
     have BK1101:=n2_
     have HB:=n3_
     clear n0_ n1_ n2_ n3_
     (try clear hb)
     (try clear hb2)
     (try clear hk)
     (try clear hi)
     (try clear ho0)
     obtain ⟨Ao33,co33,eo33⟩:=Kd.R_slice HO1128.out
     (first|subst eo33|(injection eo33 with f1_ f2_ f3_;have f4_:=f1_.symm;have f5_:=f3_.symm;clear f1_ f2_ f3_;subst f4_;subst f5_))
     refine hK.out _ _ (D40_4 BK1101.out ⟨((HB.out.cell (World.block_lt_of_cell? w _ hw1125_0)).trans hw1125_0),⟨((HB.out.cell (World.block_lt_of_cell? w _ hw1125_1)).trans hw1125_1),⟨((HB.out.cell (World.block_lt_of_cell? w _ hw1125_2)).trans hw1125_2),⟨((HB.out.cell (World.block_lt_of_cell? w _ hw1129_0)).trans hw1129_0),⟨((HB.out.cell (World.block_lt_of_cell? w _ hw1129_1)).trans hw1129_1),⟨((HB.out.cell (World.block_lt_of_cell? w _ hw1129_2)).trans hw1129_2),⟨((HB.out.cell (World.block_lt_of_cell? w _ hw1133_0)).trans hw1133_0),⟨((HB.out.cell (World.block_lt_of_cell? w _ hw1133_1)).trans hw1133_1),(((HB.out.cell (World.block_lt_of_cell? w _ hw1133_2)).trans hw1133_2))⟩⟩⟩⟩⟩⟩⟩⟩) (fun hHeld=>?_)
     clear hK K
     refine norm_ (a':=?_) ?_ ?_
     rotate_left
     ·show Act.put _ (some 48) _=_
      simp only [Act.put,List.setIfInBounds_toArray,List.set_cons_zero,List.set_cons_succ,i64_w,i32_w]
      rfl
     refine one_ (i:=14) (N:=some 55) (M40_24 2097151) rfl rfl (one_of HT_.out (by kernel_rfl)) (by decide) (fun K hK=>?_)
     refine goes_ Try.func113 (by kernel_rfl) rfl #[.slice Ao33 t1126.length co33,.int .i64 ((rd_T71 l0_1 x5_2).f1)] (by rfl) rfl rfl Z40_8 ?_
     with_reducible refine (spec_PutNum.calls _ _ t1126 ((rd_T71 l0_1 x5_2).f1) t1130 _ ?side1 ?side2 A26.out).mono ?_
     (case side1=>repeat (first|exact (Kd.R_reads' HO1128.out).2.2|(with_reducible refine Kd.C_alloc ?_ _)|(with_reducible refine Kd.C_drewN ?_ _)|(with_reducible refine Kd.C_drew ?_)))
     (case side2=>exact (Kd.R_reads' HO1128.out).2.1)
     rintro e w34 ⟨v1131,rfl,ho0,hb⟩
     refine ⟨_,rfl,?_⟩
     have n0_:=Aside0.mk Z40_10
     have n1_:=Aside0.mk Z40_9
     have n2_:=Aside0.mk (Kd.R_lower (Kd.R_new' (Kd.R_new' ho0 (Kd.R_lt Z40_17)) (Kd.R_lt Z40_15)) (below_size Z40_6))
     have n3_:=Aside0.mk Z40_2
     have n4_:=Aside0.mk Z40_5
     clear HO_3
     clear HO1128
     clear BK1101
     clear HB
     have HO_3:=n0_
     have HO1128:=n1_
     have HO1132:=n2_
     have BK1101:=n3_
     have HB:=n4_
     clear n0_ n1_ n2_ n3_ n4_
     (try clear hb)
     (try clear hb2)
     (try clear hk)
     (try clear hi)
     (try clear ho0)
     refine hK.out _ _ (D40_4 BK1101.out ⟨((HB.out.cell (World.block_lt_of_cell? w _ hw1125_0)).trans hw1125_0),⟨((HB.out.cell (World.block_lt_of_cell? w _ hw1125_1)).trans hw1125_1),⟨((HB.out.cell (World.block_lt_of_cell? w _ hw1125_2)).trans hw1125_2),⟨((HB.out.cell (World.block_lt_of_cell? w _ hw1129_0)).trans hw1129_0),⟨((HB.out.cell (World.block_lt_of_cell? w _ hw1129_1)).trans hw1129_1),⟨((HB.out.cell (World.block_lt_of_cell? w _ hw1129_2)).trans hw1129_2),⟨((HB.out.cell (World.block_lt_of_cell? w _ hw1133_0)).trans hw1133_0),⟨((HB.out.cell (World.block_lt_of_cell? w _ hw1133_1)).trans hw1133_1),(((HB.out.cell (World.block_lt_of_cell? w _ hw1133_2)).trans hw1133_2))⟩⟩⟩⟩⟩⟩⟩⟩) (fun hHeld=>?_)
     clear hK K
     refine norm_ (a':=?_) ?_ ?_
     rotate_left
     ·show Act.put _ (some 55) _=_
      simp only [Act.put,List.setIfInBounds_toArray,List.set_cons_zero,List.set_cons_succ,i64_w,i32_w]
      rfl
     refine one_ (i:=21) (N:=some 62) (M40_24 4194303) rfl rfl (one_of HT_.out (by kernel_rfl)) (by decide) (fun K hK=>?_)
     refine goes_ Try.func114 (by kernel_rfl) rfl #[.bool ((rd_T71 l0_1 x5_2).f2)] (by rfl) rfl rfl Z40_8 ?_
     with_reducible refine (spec_l4Bit.calls ((rd_T71 l0_1 x5_2).f2) t1134 _ A27.out).mono ?_
     rintro e w' ⟨rfl,⟨nd,rfl⟩⟩
     refine ⟨_,rfl,?_⟩
     obtain ⟨Ao35,co35,eo35⟩:=Kd.R_slice HO1132.out
     (first|subst eo35|(injection eo35 with f1_ f2_ f3_;have f4_:=f1_.symm;have f5_:=f3_.symm;clear f1_ f2_ f3_;subst f4_;subst f5_))
     refine hK.out _ _ (D40_4 BK1101.out ⟨((HB.out.cell (World.block_lt_of_cell? w _ hw1125_0)).trans hw1125_0),⟨((HB.out.cell (World.block_lt_of_cell? w _ hw1125_1)).trans hw1125_1),⟨((HB.out.cell (World.block_lt_of_cell? w _ hw1125_2)).trans hw1125_2),⟨((HB.out.cell (World.block_lt_of_cell? w _ hw1129_0)).trans hw1129_0),⟨((HB.out.cell (World.block_lt_of_cell? w _ hw1129_1)).trans hw1129_1),⟨((HB.out.cell (World.block_lt_of_cell? w _ hw1129_2)).trans hw1129_2),⟨((HB.out.cell (World.block_lt_of_cell? w _ hw1133_0)).trans hw1133_0),⟨((HB.out.cell (World.block_lt_of_cell? w _ hw1133_1)).trans hw1133_1),(((HB.out.cell (World.block_lt_of_cell? w _ hw1133_2)).trans hw1133_2))⟩⟩⟩⟩⟩⟩⟩⟩) (fun hHeld=>?_)
     clear hK K
     refine norm_ (a':=?_) ?_ ?_
     rotate_left
     ·show Act.put _ (some 62) _=_
      simp only [Act.put,List.setIfInBounds_toArray,List.set_cons_zero,List.set_cons_succ,i64_w,i32_w]
      rfl
     refine one_ (i:=22) (N:=some 63) (M40_24 8388607) rfl rfl (one_of HT_.out (by kernel_rfl)) (by decide) (fun K hK=>?_)
     refine goes_ Try.func113 (by kernel_rfl) rfl #[.slice Ao35 t1130.length co35,.int .i64 t1134] (by rfl) rfl rfl Z40_8 ?_
     with_reducible refine (spec_PutNum.calls _ _ t1130 t1134 t1135 _ ?side1 ?side2 A28.out).mono ?_
     (case side1=>repeat (first|exact (Kd.R_reads' HO1132.out).2.2|(with_reducible refine Kd.C_alloc ?_ _)|(with_reducible refine Kd.C_drewN ?_ _)|(with_reducible refine Kd.C_drew ?_)))
     (case side2=>exact (Kd.R_reads' HO1132.out).2.1)
     rintro e w36 ⟨v1136,rfl,ho0,hb⟩
     refine ⟨_,rfl,?_⟩
     have n0_:=Aside0.mk Z40_10
     have n1_:=Aside0.mk Z40_9
     have n2_:=Aside0.mk (Kd.R_elder' Z40_16 (Kd.R_base ho0) hb)
     have n3_:=Aside0.mk (Kd.R_lower (Kd.R_new' (Kd.R_new' (Kd.R_new' ho0 (Kd.R_lt Z40_17)) (Kd.R_lt Z40_15)) (Kd.R_lt Z40_16)) (below_size Z40_6))
     have n4_:=Aside0.mk Z40_2
     have n5_:=Aside0.mk Z40_5
     clear HO_3
     clear HO1128
     clear HO1132
     clear BK1101
     clear HB
     have HO_3:=n0_
     have HO1128:=n1_
     have HO1132:=n2_
     have HO1137:=n3_
     have BK1101:=n4_
     have HB:=n5_
     clear n0_ n1_ n2_ n3_ n4_ n5_
     (try clear hb)
     (try clear hb2)
     (try clear hk)
     (try clear hi)
     (try clear ho0)
     refine hK.out _ _ (D40_4 BK1101.out ⟨((HB.out.cell (World.block_lt_of_cell? w _ hw1125_0)).trans hw1125_0),⟨((HB.out.cell (World.block_lt_of_cell? w _ hw1125_1)).trans hw1125_1),⟨((HB.out.cell (World.block_lt_of_cell? w _ hw1125_2)).trans hw1125_2),⟨((HB.out.cell (World.block_lt_of_cell? w _ hw1129_0)).trans hw1129_0),⟨((HB.out.cell (World.block_lt_of_cell? w _ hw1129_1)).trans hw1129_1),⟨((HB.out.cell (World.block_lt_of_cell? w _ hw1129_2)).trans hw1129_2),⟨((HB.out.cell (World.block_lt_of_cell? w _ hw1133_0)).trans hw1133_0),⟨((HB.out.cell (World.block_lt_of_cell? w _ hw1133_1)).trans hw1133_1),(((HB.out.cell (World.block_lt_of_cell? w _ hw1133_2)).trans hw1133_2))⟩⟩⟩⟩⟩⟩⟩⟩) (fun hHeld=>?_)
     clear hK K
     refine norm_ (a':=?_) ?_ ?_
     rotate_left
     ·show Act.put _ (some 63) _=_
      simp only [Act.put,List.setIfInBounds_toArray,List.set_cons_zero,List.set_cons_succ,i64_w,i32_w]
      rfl
     refine pz 23 3 (M40_24 16777215) (b:=Z40_12) (h:=?_)
     refine done_ (done_of HT_.out (by kernel_rfl)) ?_
     try go_wp2
     go_roundg k2
     case measure=>have:=HK1.out;have:=HK2.out;omega
     case rel=>exact ⟨(t1135),(wrap64 (x5_2+1)),Z40_20,H',⟨(by have:=HK1.out;have:=HK2.out;omega)⟩,⟨(by (with_reducible repeat (first|apply Kd.R_alloc|apply Kd.R_drewN|apply Kd.R_drew));exact Kd.R_mono HO1137.out (fun _ hk=>trivial))⟩,⟨Z40_11⟩,⟨Z40_6⟩⟩
end Go.Proofs.Ytfkidiagmekleaa.QAll
