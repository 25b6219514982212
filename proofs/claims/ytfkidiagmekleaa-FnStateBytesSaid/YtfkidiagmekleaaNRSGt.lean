import Derived.Test.YtfkidiagmekleaaNVZ
import Derived.Test.YtfkidiagmekleaaNHOk
import Derived.Test.YtfkidiagmekleaaNQAllx0
import Derived.Test.YtfkidiagmekleaaNRBas
import Derived.Test.YtfkidiagmekleaaNRSGn
import Derived.Test.YtfkidiagmekleaaNRSGp
namespace Go.Proofs.Ytfkidiagmekleaa.QAll
open Go.RowKit Go.Proofs.YtfkidiagmekleaaW.PrintWords Go.Proofs.YtfkidiagmekleaaW.PrintLast Go.Proofs.YtfkidiagmekleaaW.PrintMore
attribute [local go_sem] max2_int min2_int max_two min_two max_three min_three max_four min_four
set_option linter.unusedVariables false
set_option linter.unusedSimpArgs false
def M49_25 (k:Nat):Array Bool:=((List.range 25).map fun j=>k.testBit j).toArray
theorem Z49_1 {p:Prop} (h:p:=by (with_reducible repeat (first|refine blk_drewN ?_ _|refine blk_drew ?_|refine blk_alloc ?_ _));refine blk_far ?_ NB1324_1325.out _;(with_reducible repeat (first|refine blk_drewN ?_ _|refine blk_drew ?_|refine blk_alloc ?_ _));refine blk_far ?_ NB1324_1325.out _;(with_reducible repeat (first|refine blk_drewN ?_ _|refine blk_drew ?_|refine blk_alloc ?_ _));refine blk_far ?_ NB1324_1325.out _;(with_reducible repeat (first|refine blk_drewN ?_ _|refine blk_drew ?_|refine blk_alloc ?_ _));refine blk_far ?_ NB1324_1325.out _;(with_reducible repeat (first|refine blk_drewN ?_ _|refine blk_drew ?_|refine blk_alloc ?_ _));exact BK1324.out):p:=h
theorem Z49_2 {p:Prop} (h:p:=by exact (blk_below (g:=gb1324) (o := .cells #[.slice none 0 0,.slice none 0 0,.int .i64 x1325002_4,.int .i64 x1325003_4] 56 (0,0)) (by (with_reducible repeat (first|refine blk_drewN ?_ _|refine blk_drew ?_|refine blk_alloc ?_ _));refine blk_far ?_ NB1324_1325.out _;(with_reducible repeat (first|refine blk_drewN ?_ _|refine blk_drew ?_|refine blk_alloc ?_ _));refine blk_far ?_ NB1324_1325.out _;(with_reducible repeat (first|refine blk_drewN ?_ _|refine blk_drew ?_|refine blk_alloc ?_ _));exact BK1324.out) hb)):p:=h
theorem Z49_6 {p:Prop} (h:p:=by (with_reducible repeat (first|apply Kd.R_alloc|apply Kd.R_drewN|apply Kd.R_drew));exact (Kd.R_mono (Kd.R_far (p:=⟨gb1325,3,none⟩) (Kd.R_far (p:=⟨gb1325,2,none⟩) (Kd.R_types HO_1326000.out BK1325.out (by decide)) (fun _ hk=>hk.2) (.int .i64 (rd t1353 (ji74)))) (fun _ hk=>hk.2) (.int .i64 (rd t1353 (ji77)))) (fun _ h_=>h_.1))):p:=h
theorem Z49_3 {p:Prop} (h:p:=by exact (Kd.R_below Z49_6 hb)):p:=h
theorem Z49_7 {p:Prop} (h:p:=by (with_reducible repeat (first|apply Kd.R_alloc|apply Kd.R_drewN|apply Kd.R_drew));exact (Kd.R_mono (Kd.R_far (p:=⟨gb1325,3,none⟩) (Kd.R_far (p:=⟨gb1325,2,none⟩) (Kd.R_types HO_1326001.out BK1325.out (by decide)) (fun _ hk=>hk.2) (.int .i64 (rd t1353 (ji74)))) (fun _ hk=>hk.2) (.int .i64 (rd t1353 (ji77)))) (fun _ h_=>h_.1))):p:=h
theorem Z49_4 {p:Prop} (h:p:=by exact (Kd.R_below Z49_7 hb)):p:=h
theorem Z49_5 {p:Prop} (h:p:=by exact (Kd.R_below (by (with_reducible repeat (first|apply Kd.R_alloc|apply Kd.R_drewN|apply Kd.R_drew));exact (Kd.R_mono (Kd.R_far (p:=⟨gb1325,3,none⟩) (Kd.R_far (p:=⟨gb1325,2,none⟩) (Kd.R_types HO_17.out BK1325.out (by decide)) (fun _ hk=>hk.2) (.int .i64 (rd t1353 (ji74)))) (fun _ hk=>hk.2) (.int .i64 (rd t1353 (ji77)))) (fun _ h_=>h_.1))) hb)):p:=h
theorem Z49_39 {p:Prop} (h:p:=by (with_reducible repeat (first|refine blk_drewN ?_ _|refine blk_drew ?_|refine blk_alloc ?_ _));exact BK1324.out):p:=h
theorem Z49_8 {p:Prop} (h:p:=by exact ((by rw [hg];exact Nat.ne_of_lt (blk_lt (g:=gb1324) (o := .cells #[.slice none 0 0,.slice none 0 0,.int .i64 x1325002_2,.int .i64 x1325003_2] 56 (0,0)) Z49_39):gb1324≠gb1345))):p:=h
theorem Z49_9 {p:Prop} (h:p:=by exact ((by rw [hg];exact Nat.ne_of_gt (blk_lt (g:=gb1324) (o := .cells #[.slice none 0 0,.slice none 0 0,.int .i64 x1325002_2,.int .i64 x1325003_2] 56 (0,0)) Z49_39):gb1345≠gb1324))):p:=h
theorem Z49_40 {p:Prop} (h:p:=by (with_reducible repeat (first|refine blk_drewN ?_ _|refine blk_drew ?_|refine blk_alloc ?_ _));exact BK1325.out):p:=h
theorem Z49_10 {p:Prop} (h:p:=by exact ((by rw [hg];exact Nat.ne_of_lt (blk_lt (g:=gb1325) (o := .cells #[u1326000,.slice none 0 0,.int .i64 0,.int .i64 0] 56 (0,0)) Z49_40):gb1325≠gb1345))):p:=h
theorem Z49_11 {p:Prop} (h:p:=by exact ((by rw [hg];exact Nat.ne_of_gt (blk_lt (g:=gb1325) (o := .cells #[u1326000,.slice none 0 0,.int .i64 0,.int .i64 0] 56 (0,0)) Z49_40):gb1345≠gb1325))):p:=h
theorem Z49_12 {p:Prop} (h:p:=by (with_reducible repeat (first|refine blk_drewN ?_ _|refine blk_drew ?_|refine blk_alloc ?_ _));refine blk_far ?_ NB1324_1325.out _;(with_reducible repeat (first|refine blk_drewN ?_ _|refine blk_drew ?_|refine blk_alloc ?_ _));exact BK1324.out):p:=h
theorem Z49_24 {p:Prop} (h:p:=by repeat (first|(with_reducible first|exact HB.out|apply below_alloc|apply pw_below_drewN|apply below_drew1|refine below_set ?_ GE1324.out|refine below_set ?_ GE1325.out)|exact HB.out)):p:=h
theorem Z49_13 {p:Prop} (h:p:=by exact ((by rw [hg];exact (below_size Z49_24):w.heap.size≤gb1345))):p:=h
theorem Z49_14 {p:Prop} (h:p:=by exact (blk_below (g:=gb1324) (o := .cells #[.slice none 0 0,.slice none 0 0,.int .i64 x1325002_2,.int .i64 x1325003_2] 56 (0,0)) Z49_39 hb)):p:=h
theorem Z49_15 {p:Prop} (h:p:=by (with_reducible repeat (first|refine blk_drewN ?_ _|refine blk_drew ?_|refine blk_alloc ?_ _));apply E_z2;(with_reducible repeat (first|refine blk_drewN ?_ _|refine blk_drew ?_|refine blk_alloc ?_ _));exact BK1345.out):p:=h
theorem Z49_16 {p:Prop} (h:p:=by (with_reducible repeat (first|refine blk_drewN ?_ _|refine blk_drew ?_|refine blk_alloc ?_ _));apply E_z3;(with_reducible repeat (first|refine blk_drewN ?_ _|refine blk_drew ?_|refine blk_alloc ?_ _));exact BK1325.out):p:=h
theorem Z49_17 {p:Prop} (h:p:=by (with_reducible repeat (first|refine blk_drewN ?_ _|refine blk_drew ?_|refine blk_alloc ?_ _));apply E_z3;(with_reducible repeat (first|refine blk_drewN ?_ _|refine blk_drew ?_|refine blk_alloc ?_ _));exact BK1324.out):p:=h
theorem Z49_18 {p:Prop} (h:p:=by repeat (first|(with_reducible first|exact HB.out|apply below_alloc|apply pw_below_drewN|apply below_drew1|refine below_set ?_ GE1324.out|refine below_set ?_ GE1325.out|refine below_set ?_ GE1345.out)|exact HB.out)):p:=h
theorem Z49_19 {p:Prop} (h:p:=by exact (Kd.R_lower ho0 (below_size Z49_24))):p:=h
theorem Z49_20 {p:Prop} (h:p:=by exact (blk_below (g:=gb1325) (o := .cells #[u1326000,.slice none 0 0,.int .i64 0,.int .i64 0] 56 (0,0)) Z49_40 hb)):p:=h
theorem Z49_21 {p:Prop} (h:p:=by exact ((by rw [hg];exact (below_size (by repeat (first|(with_reducible first|exact HB.out|apply below_alloc|apply pw_below_drewN|apply below_drew1|refine below_set ?_ GE1324.out)|exact HB.out))):w.heap.size≤gb1325))):p:=h
theorem Z49_22 {p:Prop} (h:p:=by rw [← hq_];exact Z49_24):p:=h
theorem Z49_23 {p:Prop} (h:p:=by exact (below_step Z49_24 hb)):p:=h
theorem Z49_25 {p:Prop} (h:p:=by exact ((by rw [hg];exact (below_size (by repeat (first|(with_reducible first|exact HB.out|apply below_alloc|apply pw_below_drewN|apply below_drew1)|exact HB.out))):w.heap.size≤gb1324))):p:=h
theorem Z49_26 {p:Prop} (h:p:=by first|rfl|(simp [errW_none,errW_some]<;>rfl)|(simp only [← hji74,←hji77];first|rfl|(simp [errW_none,errW_some]<;>rfl))|(simp [*,errW_none,errW_some]<;>rfl)):p:=h
theorem Z49_27 {p:Prop} (h:p:=by (try simp only [List.map_toArray,List.map_cons,List.map_nil]);first|done|(simp only [hji74,hji77];rfl)|rfl|(simp only [List.length_drop,List.length_take];rfl)):p:=h
theorem Z49_41 {p:Prop} (h:p:=by (with_reducible repeat (first|apply Kd.R_alloc|apply Kd.R_drewN|apply Kd.R_drew));exact HO_1326000.out):p:=h
theorem Z49_28 {p:Prop} (h:p:=by exact (Kd.R_below (Kd.R_elderB Z49_41 gb1345 (Nat.le_of_eq hg.symm)) hb)):p:=h
theorem Z49_29 {p:Prop} (h:p:=by (try simp only [List.map_toArray,List.map_cons,List.map_nil]);first|done|(simp only [hji51];rfl)|rfl|(simp only [List.length_drop,List.length_take];rfl)):p:=h
theorem Z49_30 {p:Prop} (h:p:=by rw [← hq_];exact Z49_39):p:=h
theorem Z49_31 {p:Prop} (h:p:=by rw [← hq_];exact Z49_40):p:=h
theorem Z49_32 {p:Prop} (h:p:=by first|exact Kd.R_nil _ _ _ _ _|exact Kd.N_nil _ _ _ _ _|exact Kd.V_nil _ _ _ _ _|exact Kd.Q_nil _ _ _ _ _|exact Kd.S_nil _ _ _ _ _):p:=h
theorem Z49_33 {p:Prop} (h:p:=by (try simp only [List.map_toArray,List.map_cons,List.map_nil]);first|done|rfl|(simp only [List.length_drop,List.length_take];rfl)):p:=h
theorem Z49_34 {p:Prop} (h:p:=by rw [← hq_];exact Z49_41):p:=h
theorem Z49_42 {p:Prop} (h:p:=by (with_reducible repeat (first|apply Kd.R_alloc|apply Kd.R_drewN|apply Kd.R_drew));exact HO_1326001.out):p:=h
theorem Z49_35 {p:Prop} (h:p:=by rw [← hq_];exact Z49_42):p:=h
theorem Z49_36 {p:Prop} (h:p:=by rw [← hq_];exact (by (with_reducible repeat (first|apply Kd.R_alloc|apply Kd.R_drewN|apply Kd.R_drew));exact HO_17.out)):p:=h
theorem Z49_37 {p:Prop} (h:p:=by exact (Kd.R_below Z49_41 hb)):p:=h
theorem Z49_38 {p:Prop} (h:p:=by first|(rw [add_block];exact hn1367_0)|(show (Addr.add _ _).block≠_;rw [add_block];exact hn1367_0)|exact hn1367_0):p:=h
theorem Z49_43 {p:Prop} (h:p:=by simp only [Act.put,List.setIfInBounds_toArray,List.set_cons_zero,List.set_cons_succ,i64_w,i32_w];rfl):p:=h
theorem Z49_44 {p:Prop} (h:p:=by first|rfl|(simp [errW_none,errW_some]<;>rfl)|(simp [*,errW_none,errW_some]<;>rfl)):p:=h
theorem Z49_45 {p:Prop} (h:p:=by rintro w' ⟨s0,s1,s2,s3,s4,s5,s6⟩;go_simp;with_reducible rfl):p:=h
theorem Z49_46 {p:Prop} (h:p:=by first|(with_reducible assumption)|assumption):p:=h
theorem Z49_47 {p:Prop} (h:p:=by first|rfl|(simp;done)|(simp [*];done)):p:=h
mutual
def spec_l5Get.j0:Nat→List Int→Int→Int→Bool→Int→Int→Option ((List (S25))×(List (S71))×Int×Int×Int)
 | 0,_,_,_,_,_,_=>none
 | k+1,x0,x7,x8,x35,x1326002,x1326003=>if x35=true then (some (([]:List (S25)),([]:List (S71)),x1326002,x1326003,(-1))) else (spec_l5Get.l0 k x0 x7 x8 0 ([]:List (S25)) x1326002 x1326003)
def spec_l5Get.l0:Nat→List Int→Int→Int→Int→List (S25)→Int→Int→Option ((List (S25))×(List (S71))×Int×Int×Int)
 | 0,_,_,_,_,_,_,_=>none
 | k+1,x0,x7,x8,x10,x1326000,x1326002,x1326003=>if x10 < x7 then ((spec_GetPiece.f k x0 x8).bind fun bt1330=>(if bt1330.2.2.2.2.2.2.2.2.2.2.2.2.2.2=true then (if x1326000.length < 1466015503701 then (spec_l5Get.l0 k x0 x7 bt1330.2.2.2.2.2.2.2.2.2.2.2.2.2.1 (wrap64 (x10+1)) (x1326000++[(⟨bt1330.1,bt1330.2.1,bt1330.2.2.1,bt1330.2.2.2.1,bt1330.2.2.2.2.1,bt1330.2.2.2.2.2.1,bt1330.2.2.2.2.2.2.1,bt1330.2.2.2.2.2.2.2.1,bt1330.2.2.2.2.2.2.2.2.1,bt1330.2.2.2.2.2.2.2.2.2.1,bt1330.2.2.2.2.2.2.2.2.2.2.1,bt1330.2.2.2.2.2.2.2.2.2.2.2.1,bt1330.2.2.2.2.2.2.2.2.2.2.2.2.1⟩:S25)]) x1326002 x1326003) else (none)) else (some (x1326000,([]:List (S71)),x1326002,x1326003,(-1))))) else ((spec_GetNum.f k x0 x8).bind fun bt1349=>(if bt1349.2.2=true then ((spec_l1In.f bt1349.1 2 3).bind fun t1352=>(spec_l5Get.j2 k x0 bt1349.1 bt1349.2.1 (!t1352) x1326000 x1326002 x1326003)) else (spec_l5Get.j2 k x0 bt1349.1 bt1349.2.1 true x1326000 x1326002 x1326003)))
def spec_l5Get.j2:Nat→List Int→Int→Int→Bool→List (S25)→Int→Int→Option ((List (S25))×(List (S71))×Int×Int×Int)
 | 0,_,_,_,_,_,_,_=>none
 | k+1,x0,x14,x15,x72,x1326000,x1326002,x1326003=>if x72=true then (some (x1326000,([]:List (S71)),x1326002,x1326003,(-1))) else ((spec_l4Nums.f k x0 x15 (wrap64 ((wrap64 (3*x14))+2))).bind fun bt1353=>(if bt1353.2.2=true then (spec_l5Get.l1 k x14 bt1353.1 bt1353.2.1 0 x1326000 ([]:List (S71)) x1326002 x1326003) else (some (x1326000,([]:List (S71)),x1326002,x1326003,(-1)))))
def spec_l5Get.l1:Nat→Int→List Int→Int→Int→List (S25)→List (S71)→Int→Int→Option ((List (S25))×(List (S71))×Int×Int×Int)
 | 0,_,_,_,_,_,_,_,_=>none
 | k+1,x14,x17,x18,x20,x1326000,x1326001,x1326002,x1326003=>if x20 < x14 then (if 0≤(wrap64 ((wrap64 (3*x20))+2)) then (if (wrap64 ((wrap64 (3*x20))+2)) < (x17.length:Int) then ((spec_l1In.f (rd x17 (wrap64 ((wrap64 (3*x20))+2))) 0 1).bind fun t1359=>(if t1359=true then (if 0≤(wrap64 (3*x20)) then (if (wrap64 (3*x20)) < (x17.length:Int) then (if 0≤(wrap64 ((wrap64 (3*x20))+1)) then (if (wrap64 ((wrap64 (3*x20))+1)) < (x17.length:Int) then (if x1326001.length < 5864062014805 then (spec_l5Get.l1 k x14 x17 x18 (wrap64 (x20+1)) x1326000 (x1326001++[(⟨rd x17 (wrap64 (3*x20)),rd x17 (wrap64 ((wrap64 (3*x20))+1)),((rd x17 (wrap64 ((wrap64 (3*x20))+2)))==1)⟩:S71)]) x1326002 x1326003) else (none)) else (none)) else (none)) else (none)) else (none)) else (some (x1326000,x1326001,x1326002,x1326003,(-1))))) else (none)) else (none)) else (if 0≤(wrap64 (3*x14)) then (if (wrap64 (3*x14)) < (x17.length:Int) then (if 0≤(wrap64 ((wrap64 (3*x14))+1)) then (if (wrap64 ((wrap64 (3*x14))+1)) < (x17.length:Int) then ((spec_StateOk.f k x1326000 x1326001 (rd x17 (wrap64 (3*x14))) (rd x17 (wrap64 ((wrap64 (3*x14))+1)))).bind fun t1368=>(if t1368=true then (some (x1326000,x1326001,rd x17 (wrap64 (3*x14)),rd x17 (wrap64 ((wrap64 (3*x14))+1)),x18)) else (some (x1326000,x1326001,rd x17 (wrap64 (3*x14)),rd x17 (wrap64 ((wrap64 (3*x14))+1)),(-1))))) else (none)) else (none)) else (none)) else (none))
end
def spec_l5Get.f (k:Nat) (l0:List Int) (a1:Int):Option ((List (S25))×(List (S71))×Int×Int×Int):=(spec_GetNum.f k l0 a1).bind fun bt1326=>(if bt1326.2.2=true then ((spec_l1In.f bt1326.1 0 8).bind fun t1329=>(spec_l5Get.j0 k l0 bt1326.1 bt1326.2.1 (!t1329) 0 0)) else (spec_l5Get.j0 k l0 bt1326.1 bt1326.2.1 true 0 0))
def spec_l5Get.T24:Bool×List (List Nat×List Nat):=(true,[([],[]),([0],[0]),([],[]),([],[]),([3],[3]),([2,4],[2,4]),([5],[5]),([],[]),([],[]),([8],[8]),([9],[9]),([7,10],[7,10]),([11],[11]),([],[]),([],[]),([14],[14]),([15],[15]),([13,16],[13,16]),([17],[17]),([18],[18]),([6,12,19],[6,12,19]),([20],[20]),([1,21],[1,21]),([0,1,2,3,4,5,6,7,8,9,10,11,12,13,14,15,16,17,18,19,20,21,22],[]),([23,22,22,0,1,2,3,4,5,6,7,8,9,10,11,12,13,14,15,16,17,18,19,20,21,22],[22,23])])
def spec_l5Get.B24:List Nat:=[0,1,0,0,8,28,60,0,0,256,768,1920,3968,0,0,16384,49152,122880,253952,516096,1048572,2097148,4194303,8388607,16777215]
theorem spec_l5Get.tab24:rtab .any (opsOf Try.f123 24)=spec_l5Get.T24:=by kernel_rfl
theorem spec_l5Get.bits24:waitsOk spec_l5Get.T24.2 spec_l5Get.B24=true:=by kernel_rfl
set_option maxHeartbeats 8000000 in
set_option maxRecDepth 100000 in
theorem spec_l5Get.calls (k:Nat) (A0:Option Addr) (c0:Nat) (l0:List Int) (a1:Int) (r1:List (S25)) (r2:List (S71)) (r3:Int) (r4:Int) (r5:Int) (w:World) (hr0:Kd.C (Kd.int .u8) w A0 l0.length l0) (hc0:l0.length≤c0) (h:spec_l5Get.f k l0 a1=some (r1,r2,r3,r4,r5)) :
  Calls Try.prog 123 #[.slice A0 l0.length c0,.int .i64 a1] w fun e w'=>∃ v0_ v1_:Value,e = .returned (.tuple #[.agg #[v0_,v1_,.int .i64 r3,.int .i64 r4],.int .i64 r5])∧Kd.R k25 25 w' w.heap.size (fun _=>True) v0_ r1∧Kd.R k71 71 w' w.heap.size (fun _=>True) v1_ r2∧Below w.heap.size w w':=by
 have hu56:=Try.underlying56
 have hu25:=Try.underlying25
 have hu71:=Try.underlying71
 have HR0:=Aside0.mk hr0
 have HC0:=Aside0.mk hc0
 clear hr0 hc0
 have HB:=Aside0.mk (Below.refl w.heap.size w)
 have H:((spec_GetNum.f k l0 a1).bind fun bt1326=>(if bt1326.2.2=true then ((spec_l1In.f bt1326.1 0 8).bind fun t1329=>(spec_l5Get.j0 k l0 bt1326.1 bt1326.2.1 (!t1329) 0 0)) else (spec_l5Get.j0 k l0 bt1326.1 bt1326.2.1 true 0 0)))=some (r1,r2,r3,r4,r5):=h
 clear h
 replace H:=Option.bind_eq_some_iff.mp H
 obtain ⟨⟨t1326,t1327,t1328⟩,A30,H⟩:=H
 (try dsimp only at H)
 have A3:=Aside0.mk A30
 clear A30
 have HC4:=Aside0.mk H
 clear H
 go_enter Try.func123,Try.ntmps123
 go_upto_region 3 with (first|((with_reducible refine gate_dst (N:=4) rfl ?_);refine box_event ?hg (N:=4) ?hd (cs:=#[.slice none 0 0,.slice none 0 0,.int .i64 0,.int .i64 0]) (t:=56) ?hr ?_;(case hd=>rfl);(case hg=>rfl);(case hr=>first|(go_simp;done)|(go_simp;rfl));intro gb1324 hg w5 hbox hb;have n0_:=Aside0.mk (below_step (by repeat (first|(with_reducible first|exact HB.out|apply below_alloc|apply pw_below_drewN|apply below_drew1)|exact HB.out)) hb);have n1_:=Aside0.mk (hbox);have n2_:=Aside0.mk Z49_25;have n3_:=Aside0.mk Z49_25;clear HB;have HB:=n0_;have BK1324:=n1_;have GW1324:=n2_;have GE1324:=n3_;clear n0_ n1_ n2_ n3_;clear hb hbox hg)|((with_reducible refine gate_dst (N:=6) rfl ?_);refine box_event ?hg (N:=6) ?hd (cs:=#[.slice none 0 0,.slice none 0 0,.int .i64 0,.int .i64 0]) (t:=56) ?hr ?_;(case hd=>rfl);(case hg=>rfl);(case hr=>first|(go_simp;done)|(go_simp;rfl));intro gb1325 hg w6 hbox hb;have n0_:=Aside0.mk (blk_below (g:=gb1324) (o := .cells #[.slice none 0 0,.slice none 0 0,.int .i64 0,.int .i64 0] 56 (0,0)) Z49_39 hb);have n1_:=Aside0.mk (below_step (by repeat (first|(with_reducible first|exact HB.out|apply below_alloc|apply pw_below_drewN|apply below_drew1|refine below_set ?_ GE1324.out)|exact HB.out)) hb);have n2_:=Aside0.mk (hbox);have n3_:=Aside0.mk Z49_21;have n4_:=Aside0.mk Z49_21;have n5_:=Aside0.mk ((by rw [hg];exact Nat.ne_of_lt (blk_lt (g:=gb1324) (o := .cells #[.slice none 0 0,.slice none 0 0,.int .i64 0,.int .i64 0] 56 (0,0)) Z49_39):gb1324≠gb1325));have n6_:=Aside0.mk ((by rw [hg];exact Nat.ne_of_gt (blk_lt (g:=gb1324) (o := .cells #[.slice none 0 0,.slice none 0 0,.int .i64 0,.int .i64 0] 56 (0,0)) Z49_39):gb1325≠gb1324));clear BK1324;clear HB;have BK1324:=n0_;have HB:=n1_;have BK1325:=n2_;have GW1325:=n3_;have GE1325:=n4_;have NB1324_1325:=n5_;have NB1325_1324:=n6_;clear n0_ n1_ n2_ n3_ n4_ n5_ n6_;clear hb hbox hg;have hnb7:=NB1325_1324.out;have hnc7:=NB1324_1325.out;obtain ⟨⟨hcz8_0,hcz8_1,hcz8_2,hcz8_3⟩,hfz8_0,hfz8_1,hfz8_2,hfz8_3⟩:=C_z1 BK1325.out)|((with_reducible refine gate_callee (f:=129) rfl ?_);refine goesL_ (some 25) rfl rfl Try.func129 (by kernel_rfl) rfl #[.slice A0 l0.length c0,.int .i64 a1] rfl Z49_33 ?_;(with_reducible refine (spec_GetNum.calls k _ _ l0 a1 t1326 t1327 t1328 _ ?side1 ?side2 A3.out).mono ?_);(case side1=>exact Kd.C_below HR0.out Z49_24);(case side2=>exact HC0.out);rintro e w' ⟨rfl,⟨nd,rfl⟩⟩;refine ⟨_,rfl,?_⟩))
 (try simp only [Act.put,List.setIfInBounds_toArray,List.set_cons_zero,List.set_cons_succ])
 go_cut [35] (fun v35 wc=>∃ (kq:Nat) (x35_3:Bool),v35 = .bool x35_3∧Aside0 (spec_l5Get.j0 kq l0 t1326 t1327 x35_3 0 0=some (r1,r2,r3,r4,r5))∧Aside0 (kq≤k)∧Aside0 (wc.heap[gb1324]?=some (.cells #[(.slice none 0 0),(.slice none 0 0),.int .i64 0,.int .i64 0] 56 (0,0)))∧Aside0 (wc.heap[gb1325]?=some (.cells #[(.slice none 0 0),(.slice none 0 0),.int .i64 0,.int .i64 0] 56 (0,0)))∧Aside0 (Below w.heap.size w wc))
 case first =>
  have H:=HC4.out
  clear HC4
  by_cases c9:t1328=true
  rotate_left
  ·replace c9:=Bool.eq_false_iff.mpr c9
   subst c9
   have H1:(spec_l5Get.j0 k l0 t1326 t1327 true 0 0)=some (r1,r2,r3,r4,r5):=by rw [if_neg (show ¬ (false=true) by decide)] at H;exact H
   clear H
   have H:=H1
   clear H1
   have H':=Aside0.mk H
   clear H
   go_wp2
   go_meet
   case rel=>exact ⟨_,(true),Z49_47,H',⟨(by first|omega|exact Nat.le_refl _)⟩,⟨Z49_1⟩,⟨Z49_16⟩,⟨Z49_24⟩⟩
  subst c9
  have H1:((spec_l1In.f t1326 0 8).bind fun t1329=>(spec_l5Get.j0 k l0 t1326 t1327 (!t1329) 0 0))=some (r1,r2,r3,r4,r5):=by rw [if_pos rfl] at H;exact H
  clear H
  have H:=H1
  clear H1
  replace H:=Option.bind_eq_some_iff.mp H
  obtain ⟨t1329,A100,H⟩:=H
  replace H:(spec_l5Get.j0 k l0 t1326 t1327 (!t1329) 0 0)=some (r1,r2,r3,r4,r5):=H
  have A10:=Aside0.mk A100
  clear A100
  have H':=Aside0.mk H
  clear H
  go_wp2_with (first|(go_at_call 84;(with_reducible refine (spec_l1In.calls t1326 0 8 t1329 _ A10.out).mono ?_);rintro e w' ⟨rfl,⟨nd,rfl⟩⟩))
  go_meet
  case rel=>exact ⟨_,(!t1329),Z49_47,H',⟨(by first|omega|exact Nat.le_refl _)⟩,⟨Z49_1⟩,⟨Z49_16⟩,⟨Z49_24⟩⟩
 case rest =>
  clear HC4
  try clear c1
  try clear p2
  try clear c7
  try clear c9
  try clear hcz8_0
  try clear hcz8_1
  try clear hcz8_2
  try clear hcz8_3
  try clear hfz8_0
  try clear hfz8_1
  try clear hfz8_2
  try clear hfz8_3
  obtain ⟨kq,x35_3,rfl,HA,HJ3,BK1324,BK1325,HB⟩:=hcut
  cases kq with
  | zero=>exact absurd HA.out (by simp [spec_l5Get.j0])
  | succ kj3 =>
   have H:=HA.out
   clear HA
   simp only [spec_l5Get.j0] at H
   by_cases c11:x35_3=true
   ·subst c11
    have H1:(some (([]:List (S25)),([]:List (S71)),0,0,(-1)))=some (r1,r2,r3,r4,r5):=by rw [if_pos rfl] at H;exact H
    clear H
    have H:=H1
    clear H1
    simp only [Option.some.injEq,Prod.mk.injEq] at H
    obtain ⟨rfl,rfl,rfl,rfl,rfl⟩:=H
    have hnb12:=NB1325_1324.out
    have hnc12:=NB1324_1325.out
    obtain ⟨⟨hcz13_0,hcz13_1,hcz13_2,hcz13_3⟩,hfz13_0,hfz13_1,hfz13_2,hfz13_3⟩:=C_z1 BK1325.out
    obtain ⟨⟨hcz14_0,hcz14_1,hcz14_2,hcz14_3⟩,hfz14_0,hfz14_1,hfz14_2,hfz14_3⟩:=C_z1 BK1324.out
    go_wp2
    refine bodyPost_ret (results_ct rfl _ _ gb1324 56 #[.slice none 0 0,.slice none 0 0,.int .i64 0,.int .i64 0] (0,0) _ rfl Z49_17 Try.underlying56 rfl (by kernel_rfl)) rfl ?_
    exact ⟨_,_,Z49_44,Z49_32,Z49_32,Z49_24⟩
   replace c11:=Bool.eq_false_iff.mpr c11
   subst c11
   have H1:(spec_l5Get.l0 kj3 l0 t1326 t1327 0 ([]:List (S25)) 0 0)=some (r1,r2,r3,r4,r5):=by rw [if_neg (show ¬ (false=true) by decide)] at H;exact H
   clear H
   have H:=H1
   clear H1
   have H':=Aside0.mk H
   clear H
   go_wp2
   go_loopg [8,10] kj3 (fun kq v8 v10 w'=>∃ (x8_2:Int) (x10_2:Int) (x1325002_2:Int) (x1325003_2:Int) (x1326000_2:List (S25)) (u1326000:Value),v8 = .int .i64 x8_2∧v10 = .int .i64 x10_2∧Aside0 (spec_l5Get.l0 kq l0 t1326 x8_2 x10_2 x1326000_2 0 0=some (r1,r2,r3,r4,r5))∧Aside0 (kq≤kj3)∧Aside0 (Kd.R k25 25 w' w.heap.size (fun _=>True) u1326000 x1326000_2)∧Aside0 (w'.heap[gb1324]?=some (.cells #[(.slice none 0 0),(.slice none 0 0),.int .i64 x1325002_2,.int .i64 x1325003_2] 56 (0,0)))∧Aside0 (w'.heap[gb1325]?=some (.cells #[u1326000,(.slice none 0 0),.int .i64 0,.int .i64 0] 56 (0,0)))∧Aside0 (Below w.heap.size w w'))
   case atStart=>exact ⟨(t1327),(0),(0),(0),(([]:List (S25))),(.slice none 0 0),Z49_47,Z49_47,H',⟨Nat.le_refl _⟩,⟨Z49_32⟩,⟨Z49_39⟩,⟨Z49_40⟩,⟨Z49_24⟩⟩
   case round =>
    clear H'
    try clear c1
    try clear p2
    try clear c7
    try clear c9
    try clear c11
    try clear c12
    try clear hcz13_0
    try clear hcz13_1
    try clear hcz13_2
    try clear hcz13_3
    try clear hcz14_0
    try clear hcz14_1
    try clear hcz14_2
    try clear hcz14_3
    try clear hcz8_0
    try clear hcz8_1
    try clear hcz8_2
    try clear hcz8_3
    try clear hfz13_0
    try clear hfz13_1
    try clear hfz13_2
    try clear hfz13_3
    try clear hfz14_0
    try clear hfz14_1
    try clear hfz14_2
    try clear hfz14_3
    try clear hfz8_0
    try clear hfz8_1
    try clear hfz8_2
    try clear hfz8_3
    try clear p2
    obtain ⟨x8_2,x10_2,x1325002_2,x1325003_2,x1326000_2,u1326000,rfl,rfl,HA,HK2,HO_1326000,BK1324,BK1325,HB⟩:=hrel
    cases gk with
    | zero=>exact absurd HA.out (by simp [spec_l5Get.l0])
    | succ k2 =>
     have H:=HA.out
     clear HA
     simp only [spec_l5Get.l0] at H
     by_cases c15:x10_2 < t1326
     ·rw [if_pos c15] at H
      have c15b0:decide (x10_2 < t1326)=true:=decide_eq_true c15
      clear c15
      replace H:=Option.bind_eq_some_iff.mp H
      obtain ⟨⟨t1330,t1331,t1332,t1333,t1334,t1335,t1336,t1337,t1338,t1339,t1340,t1341,t1342,t1343,t1344⟩,A160,H⟩:=H
      (try dsimp only at H)
      have A16:=Aside0.mk A160
      clear A160
      by_cases c17:t1344=true
      rotate_left
      ·replace c17:=Bool.eq_false_iff.mpr c17
       subst c17
       have H1:(some (x1326000_2,([]:List (S71)),0,0,(-1)))=some (r1,r2,r3,r4,r5):=by rw [if_neg (show ¬ (false=true) by decide)] at H;exact H
       clear H
       have H:=H1
       clear H1
       simp only [Option.some.injEq,Prod.mk.injEq] at H
       obtain ⟨rfl,rfl,rfl,rfl,rfl⟩:=H
       go_wp2_with (first|((with_reducible refine gate_callee (f:=33) rfl ?_);refine goesL_ (some 45) rfl rfl Try.func33 (by kernel_rfl) rfl #[.slice A0 l0.length c0,.int .i64 x8_2] rfl Z49_33 ?_;(with_reducible refine (spec_GetPiece.calls k2 _ _ l0 x8_2 t1330 t1331 t1332 t1333 t1334 t1335 t1336 t1337 t1338 t1339 t1340 t1341 t1342 t1343 false _ ?side1 ?side2 A16.out).mono ?_);(case side1=>repeat (first|exact (Kd.C_below HR0.out HB.out)|(with_reducible refine Kd.C_alloc ?_ _)|(with_reducible refine Kd.C_drewN ?_ _)|(with_reducible refine Kd.C_drew ?_)));(case side2=>exact HC0.out);rintro e w29 ⟨rfl,hb⟩;refine ⟨_,rfl,?_⟩;have n0_:=Aside0.mk Z49_37;have n1_:=Aside0.mk Z49_14;have n2_:=Aside0.mk Z49_20;have n3_:=Aside0.mk Z49_23;clear HO_1326000;clear BK1324;clear BK1325;clear HB;have HO_1326000:=n0_;have BK1324:=n1_;have BK1325:=n2_;have HB:=n3_;clear n0_ n1_ n2_ n3_;(try clear hb);(try clear hb2);(try clear hk);(try clear hi))|((with_reducible refine gate_dst (N:=11) rfl ?_);refine box_event ?hg (N:=11) ?hd (cs:=#[.int .i64 0,.int .i64 0,.int .i64 0,.int .i64 0,.int .i64 0,.int .i64 0,.int .i64 0,.int .i64 0,.int .i64 0,.int .i64 0,.int .i64 0,.bool false,.bool false]) (t:=25) ?hr ?_;(case hd=>rfl);(case hg=>rfl);(case hr=>first|(go_simp;done)|(go_simp;rfl));intro gb1345 hg w30 hbox hb;have n0_:=Aside0.mk Z49_28;have n1_:=Aside0.mk Z49_14;have n2_:=Aside0.mk Z49_20;have n3_:=Aside0.mk Z49_23;have n4_:=Aside0.mk (hbox);have n5_:=Aside0.mk Z49_13;have n6_:=Aside0.mk Z49_13;have n7_:=Aside0.mk Z49_8;have n8_:=Aside0.mk Z49_9;have n9_:=Aside0.mk Z49_10;have n10_:=Aside0.mk Z49_11;clear HO_1326000;clear BK1324;clear BK1325;clear HB;have HO_1326000:=n0_;have BK1324:=n1_;have BK1325:=n2_;have HB:=n3_;have BK1345:=n4_;have GW1345:=n5_;have GE1345:=n6_;have NB1324_1345:=n7_;have NB1345_1324:=n8_;have NB1325_1345:=n9_;have NB1345_1325:=n10_;clear n0_ n1_ n2_ n3_ n4_ n5_ n6_ n7_ n8_ n9_ n10_;clear hb hbox hg;have hnb31:=NB1345_1324.out;have hnc31:=NB1324_1345.out;have hnb32:=NB1345_1325.out;have hnc32:=NB1325_1345.out;obtain ⟨⟨hcz33_0,hcz33_1,hcz33_2,hcz33_3,hcz33_4,hcz33_5,hcz33_6,hcz33_7,hcz33_8,hcz33_9,hcz33_10,hcz33_11,hcz33_12⟩,hfz33_0,hfz33_1,hfz33_2,hfz33_3,hfz33_4,hfz33_5,hfz33_6,hfz33_7,hfz33_8,hfz33_9,hfz33_10,hfz33_11,hfz33_12⟩:=C_z0 BK1345.out;have hnb34:=NB1325_1324.out;have hnc34:=NB1324_1325.out;obtain ⟨⟨hcz35_0,hcz35_1,hcz35_2,hcz35_3⟩,hfz35_0,hfz35_1,hfz35_2,hfz35_3⟩:=C_z1 BK1325.out;obtain ⟨Ao36,co36,eo36⟩:=Kd.R_slice HO_1326000.out;subst eo36;obtain ⟨⟨hcz37_0,hcz37_1,hcz37_2,hcz37_3⟩,hfz37_0,hfz37_1,hfz37_2,hfz37_3⟩:=C_z1 BK1324.out))
       refine bodyPost_ret (results_ct rfl _ _ gb1324 56 #[.slice Ao36 x1326000_2.length co36,.slice none 0 0,.int .i64 0,.int .i64 0] (0,0) _ rfl (by (with_reducible repeat (first|refine blk_drewN ?_ _|refine blk_drew ?_|refine blk_alloc ?_ _));apply E_z3;(with_reducible repeat (first|refine blk_drewN ?_ _|refine blk_drew ?_|refine blk_alloc ?_ _));refine blk_far ?_ NB1324_1345.out _;(with_reducible repeat (first|refine blk_drewN ?_ _|refine blk_drew ?_|refine blk_alloc ?_ _));refine blk_far ?_ NB1324_1345.out _;(with_reducible repeat (first|refine blk_drewN ?_ _|refine blk_drew ?_|refine blk_alloc ?_ _));refine blk_far ?_ NB1324_1345.out _;(with_reducible repeat (first|refine blk_drewN ?_ _|refine blk_drew ?_|refine blk_alloc ?_ _));refine blk_far ?_ NB1324_1345.out _;(with_reducible repeat (first|refine blk_drewN ?_ _|refine blk_drew ?_|refine blk_alloc ?_ _));refine blk_far ?_ NB1324_1345.out _;(with_reducible repeat (first|refine blk_drewN ?_ _|refine blk_drew ?_|refine blk_alloc ?_ _));refine blk_far ?_ NB1324_1345.out _;(with_reducible repeat (first|refine blk_drewN ?_ _|refine blk_drew ?_|refine blk_alloc ?_ _));refine blk_far ?_ NB1324_1345.out _;(with_reducible repeat (first|refine blk_drewN ?_ _|refine blk_drew ?_|refine blk_alloc ?_ _));refine blk_far ?_ NB1324_1345.out _;(with_reducible repeat (first|refine blk_drewN ?_ _|refine blk_drew ?_|refine blk_alloc ?_ _));refine blk_far ?_ NB1324_1345.out _;(with_reducible repeat (first|refine blk_drewN ?_ _|refine blk_drew ?_|refine blk_alloc ?_ _));refine blk_far ?_ NB1324_1345.out _;(with_reducible repeat (first|refine blk_drewN ?_ _|refine blk_drew ?_|refine blk_alloc ?_ _));refine blk_far ?_ NB1324_1345.out _;(with_reducible repeat (first|refine blk_drewN ?_ _|refine blk_drew ?_|refine blk_alloc ?_ _));refine blk_far ?_ NB1324_1345.out _;(with_reducible repeat (first|refine blk_drewN ?_ _|refine blk_drew ?_|refine blk_alloc ?_ _));refine blk_far ?_ NB1324_1345.out _;(with_reducible repeat (first|refine blk_drewN ?_ _|refine blk_drew ?_|refine blk_alloc ?_ _));exact BK1324.out) Try.underlying56 rfl (by kernel_rfl)) rfl ?_
       exact ⟨_,_,Z49_44,(by (with_reducible repeat (first|apply Kd.R_alloc|apply Kd.R_drewN|apply Kd.R_drew));exact Kd.R_mono (Kd.R_far (p:=⟨gb1324,3,none⟩) (Kd.R_far (p:=⟨gb1324,2,none⟩) (Kd.R_far (p:=⟨gb1324,1,none⟩) (Kd.R_far (p:=⟨gb1324,0,none⟩) (Kd.R_far (p:=⟨gb1345,12,none⟩) (Kd.R_far (p:=⟨gb1345,11,none⟩) (Kd.R_far (p:=⟨gb1345,10,none⟩) (Kd.R_far (p:=⟨gb1345,9,none⟩) (Kd.R_far (p:=⟨gb1345,8,none⟩) (Kd.R_far (p:=⟨gb1345,7,none⟩) (Kd.R_far (p:=⟨gb1345,6,none⟩) (Kd.R_far (p:=⟨gb1345,5,none⟩) (Kd.R_far (p:=⟨gb1345,4,none⟩) (Kd.R_far (p:=⟨gb1345,3,none⟩) (Kd.R_far (p:=⟨gb1345,2,none⟩) (Kd.R_far (p:=⟨gb1345,1,none⟩) (Kd.R_far (p:=⟨gb1345,0,none⟩) (Kd.R_types (Kd.R_mono HO_1326000.out (fun k_ hk=>(⟨hk,hk.2⟩:_∧k_≠gb1345))) BK1324.out (by decide)) (fun _ hk=>hk.1.2) (.int .i64 t1330)) (fun _ hk=>hk.1.2) (.int .i64 t1331)) (fun _ hk=>hk.1.2) (.int .i64 t1332)) (fun _ hk=>hk.1.2) (.int .i64 t1333)) (fun _ hk=>hk.1.2) (.int .i64 t1334)) (fun _ hk=>hk.1.2) (.int .i64 t1335)) (fun _ hk=>hk.1.2) (.int .i64 t1336)) (fun _ hk=>hk.1.2) (.int .i64 t1337)) (fun _ hk=>hk.1.2) (.int .i64 t1338)) (fun _ hk=>hk.1.2) (.int .i64 t1339)) (fun _ hk=>hk.1.2) (.int .i64 t1340)) (fun _ hk=>hk.1.2) (.bool t1341)) (fun _ hk=>hk.1.2) (.bool t1342)) (fun _ hk=>hk.2) (.slice Ao36 x1326000_2.length co36)) (fun _ hk=>hk.2) (.slice none 0 0)) (fun _ hk=>hk.2) (.int .i64 0)) (fun _ hk=>hk.2) (.int .i64 0)) (fun _ hk=>trivial)),Z49_32,Z49_18⟩
      subst c17
      rw [if_pos rfl] at H
      by_cases c18:x1326000_2.length < 1466015503701
      rotate_left
      ·rw [if_neg c18] at H
       exact absurd H (by simp)
      rw [if_pos c18] at H
      have LMc18:=Aside0.mk c18
      clear c18
      obtain ⟨y1346,hy1346⟩:∃ y_:List (S25),y_=(x1326000_2++[(⟨t1330,t1331,t1332,t1333,t1334,t1335,t1336,t1337,t1338,t1339,t1340,t1341,t1342⟩:S25)]):=⟨_,rfl⟩
      replace H:(spec_l5Get.l0 k2 l0 t1326 t1343 (wrap64 (x10_2+1)) y1346 0 0)=some (r1,r2,r3,r4,r5):=by first|(rw [hy1346];with_reducible exact H)|(have H2_:=(Option.bind_some _ _).symm.trans H;rw [hy1346];with_reducible exact H2_)|(have H2_:=(Option.bind_some _ _).symm.trans H;with_reducible exact H2_)|with_reducible exact H|(rw [hy1346];exact H)|exact H
      have Ny1346:=Aside0.mk hy1346
      clear hy1346
      have H':=Aside0.mk H
      clear H
      go_wp2_with (first|((with_reducible refine gate_callee (f:=33) rfl ?_);refine goesL_ (some 45) rfl rfl Try.func33 (by kernel_rfl) rfl #[.slice A0 l0.length c0,.int .i64 x8_2] rfl Z49_33 ?_;(with_reducible refine (spec_GetPiece.calls k2 _ _ l0 x8_2 t1330 t1331 t1332 t1333 t1334 t1335 t1336 t1337 t1338 t1339 t1340 t1341 t1342 t1343 true _ ?side1 ?side2 A16.out).mono ?_);(case side1=>repeat (first|exact (Kd.C_below HR0.out HB.out)|(with_reducible refine Kd.C_alloc ?_ _)|(with_reducible refine Kd.C_drewN ?_ _)|(with_reducible refine Kd.C_drew ?_)));(case side2=>exact HC0.out);rintro e w19 ⟨rfl,hb⟩;refine ⟨_,rfl,?_⟩;have n0_:=Aside0.mk Z49_37;have n1_:=Aside0.mk Z49_14;have n2_:=Aside0.mk Z49_20;have n3_:=Aside0.mk Z49_23;clear HO_1326000;clear BK1324;clear BK1325;clear HB;have HO_1326000:=n0_;have BK1324:=n1_;have BK1325:=n2_;have HB:=n3_;clear n0_ n1_ n2_ n3_;(try clear hb);(try clear hb2);(try clear hk);(try clear hi))|((with_reducible refine gate_dst (N:=11) rfl ?_);refine box_event ?hg (N:=11) ?hd (cs:=#[.int .i64 0,.int .i64 0,.int .i64 0,.int .i64 0,.int .i64 0,.int .i64 0,.int .i64 0,.int .i64 0,.int .i64 0,.int .i64 0,.int .i64 0,.bool false,.bool false]) (t:=25) ?hr ?_;(case hd=>rfl);(case hg=>rfl);(case hr=>first|(go_simp;done)|(go_simp;rfl));intro gb1345 hg w20 hbox hb;have n0_:=Aside0.mk Z49_28;have n1_:=Aside0.mk Z49_14;have n2_:=Aside0.mk Z49_20;have n3_:=Aside0.mk Z49_23;have n4_:=Aside0.mk (hbox);have n5_:=Aside0.mk Z49_13;have n6_:=Aside0.mk Z49_13;have n7_:=Aside0.mk Z49_8;have n8_:=Aside0.mk Z49_9;have n9_:=Aside0.mk Z49_10;have n10_:=Aside0.mk Z49_11;clear HO_1326000;clear BK1324;clear BK1325;clear HB;have HO_1326000:=n0_;have BK1324:=n1_;have BK1325:=n2_;have HB:=n3_;have BK1345:=n4_;have GW1345:=n5_;have GE1345:=n6_;have NB1324_1345:=n7_;have NB1345_1324:=n8_;have NB1325_1345:=n9_;have NB1345_1325:=n10_;clear n0_ n1_ n2_ n3_ n4_ n5_ n6_ n7_ n8_ n9_ n10_;clear hb hbox hg;have hnb21:=NB1345_1324.out;have hnc21:=NB1324_1345.out;have hnb22:=NB1345_1325.out;have hnc22:=NB1325_1345.out;obtain ⟨⟨hcz23_0,hcz23_1,hcz23_2,hcz23_3,hcz23_4,hcz23_5,hcz23_6,hcz23_7,hcz23_8,hcz23_9,hcz23_10,hcz23_11,hcz23_12⟩,hfz23_0,hfz23_1,hfz23_2,hfz23_3,hfz23_4,hfz23_5,hfz23_6,hfz23_7,hfz23_8,hfz23_9,hfz23_10,hfz23_11,hfz23_12⟩:=C_z0 BK1345.out;have hnb24:=NB1325_1324.out;have hnc24:=NB1324_1325.out;obtain ⟨⟨hcz25_0,hcz25_1,hcz25_2,hcz25_3⟩,hfz25_0,hfz25_1,hfz25_2,hfz25_3⟩:=C_z1 BK1325.out)|((with_reducible refine gate_builtin (b := .append) (xs:=#[.tmp 53,.tmp 55]) rfl ?_);at_builtin;refine Kd.R_append k25 (w0:=w) w.heap.size rfl (.tmp 53) (.tmp 55) 53 25 (.agg #[(.int .i64 0),(.int .i64 0),(.int .i64 0),(.int .i64 0),(.int .i64 0),(.int .i64 0),(.int .i64 0),(.int .i64 0),(.int .i64 0),(.int .i64 0),(.int .i64 0),(.bool false),(.bool false)]) 96 rfl Try.underlying53 info25 rfl (by decide) (by omega) u1326000 x1326000_2 (⟨t1330,t1331,t1332,t1333,t1334,t1335,t1336,t1337,t1338,t1339,t1340,t1341,t1342⟩:S25) [.int .i64 t1330,.int .i64 t1331,.int .i64 t1332,.int .i64 t1333,.int .i64 t1334,.int .i64 t1335,.int .i64 t1336,.int .i64 t1337,.int .i64 t1338,.int .i64 t1339,.int .i64 t1340,.bool t1341,.bool t1342] (fun k_=>k_≠gb1345) (fun _=>False) rfl (by first|(go_simp;done)|(go_simp;rfl)) ?aP (fun _ hk=>hk.elim) ?aF ?aO ?aB ?aS ?aL ?_;(case aP=>exact k25_mkM _ _ _ (⟨t1330,t1331,t1332,t1333,t1334,t1335,t1336,t1337,t1338,t1339,t1340,t1341,t1342⟩:S25));(case aB=>exact Z49_18);(case aF=>exact (fun k_ hk=>Kd.freshB (g:=gb1345) (o := .cells #[.int .i64 t1330,.int .i64 t1331,.int .i64 t1332,.int .i64 t1333,.int .i64 t1334,.int .i64 t1335,.int .i64 t1336,.int .i64 t1337,.int .i64 t1338,.int .i64 t1339,.int .i64 t1340,.bool t1341,.bool t1342] 25 (0,0)) Z49_15 k_ hk));(case aO=>exact (by (with_reducible repeat (first|apply Kd.R_alloc|apply Kd.R_drewN|apply Kd.R_drew));exact Kd.R_mono (Kd.R_far (p:=⟨gb1345,12,none⟩) (Kd.R_far (p:=⟨gb1345,11,none⟩) (Kd.R_far (p:=⟨gb1345,10,none⟩) (Kd.R_far (p:=⟨gb1345,9,none⟩) (Kd.R_far (p:=⟨gb1345,8,none⟩) (Kd.R_far (p:=⟨gb1345,7,none⟩) (Kd.R_far (p:=⟨gb1345,6,none⟩) (Kd.R_far (p:=⟨gb1345,5,none⟩) (Kd.R_far (p:=⟨gb1345,4,none⟩) (Kd.R_far (p:=⟨gb1345,3,none⟩) (Kd.R_far (p:=⟨gb1345,2,none⟩) (Kd.R_far (p:=⟨gb1345,1,none⟩) (Kd.R_far (p:=⟨gb1345,0,none⟩) (Kd.R_mono HO_1326000.out (fun k_ hk=>(⟨hk,hk.2⟩:_∧k_≠gb1345))) (fun _ hk=>hk.2) (.int .i64 t1330)) (fun _ hk=>hk.2) (.int .i64 t1331)) (fun _ hk=>hk.2) (.int .i64 t1332)) (fun _ hk=>hk.2) (.int .i64 t1333)) (fun _ hk=>hk.2) (.int .i64 t1334)) (fun _ hk=>hk.2) (.int .i64 t1335)) (fun _ hk=>hk.2) (.int .i64 t1336)) (fun _ hk=>hk.2) (.int .i64 t1337)) (fun _ hk=>hk.2) (.int .i64 t1338)) (fun _ hk=>hk.2) (.int .i64 t1339)) (fun _ hk=>hk.2) (.int .i64 t1340)) (fun _ hk=>hk.2) (.bool t1341)) (fun _ hk=>hk.2) (.bool t1342)) (fun _ hk=>hk.1.2)));(case aS=>exact (below_size Z49_18));(case aL=>have:=LMc18.out;omega);intro v1347 w26 ho hb hg hat;rw [← Ny1346.out] at ho;have n0_:=Aside0.mk (blk_grown (g:=gb1324) (o := .cells #[.slice none 0 0,.slice none 0 0,.int .i64 x1325002_2,.int .i64 x1325003_2] 56 (0,0)) (by (with_reducible repeat (first|refine blk_drewN ?_ _|refine blk_drew ?_|refine blk_alloc ?_ _));refine blk_far ?_ NB1324_1345.out _;(with_reducible repeat (first|refine blk_drewN ?_ _|refine blk_drew ?_|refine blk_alloc ?_ _));refine blk_far ?_ NB1324_1345.out _;(with_reducible repeat (first|refine blk_drewN ?_ _|refine blk_drew ?_|refine blk_alloc ?_ _));refine blk_far ?_ NB1324_1345.out _;(with_reducible repeat (first|refine blk_drewN ?_ _|refine blk_drew ?_|refine blk_alloc ?_ _));refine blk_far ?_ NB1324_1345.out _;(with_reducible repeat (first|refine blk_drewN ?_ _|refine blk_drew ?_|refine blk_alloc ?_ _));refine blk_far ?_ NB1324_1345.out _;(with_reducible repeat (first|refine blk_drewN ?_ _|refine blk_drew ?_|refine blk_alloc ?_ _));refine blk_far ?_ NB1324_1345.out _;(with_reducible repeat (first|refine blk_drewN ?_ _|refine blk_drew ?_|refine blk_alloc ?_ _));refine blk_far ?_ NB1324_1345.out _;(with_reducible repeat (first|refine blk_drewN ?_ _|refine blk_drew ?_|refine blk_alloc ?_ _));refine blk_far ?_ NB1324_1345.out _;(with_reducible repeat (first|refine blk_drewN ?_ _|refine blk_drew ?_|refine blk_alloc ?_ _));refine blk_far ?_ NB1324_1345.out _;(with_reducible repeat (first|refine blk_drewN ?_ _|refine blk_drew ?_|refine blk_alloc ?_ _));refine blk_far ?_ NB1324_1345.out _;(with_reducible repeat (first|refine blk_drewN ?_ _|refine blk_drew ?_|refine blk_alloc ?_ _));refine blk_far ?_ NB1324_1345.out _;(with_reducible repeat (first|refine blk_drewN ?_ _|refine blk_drew ?_|refine blk_alloc ?_ _));refine blk_far ?_ NB1324_1345.out _;(with_reducible repeat (first|refine blk_drewN ?_ _|refine blk_drew ?_|refine blk_alloc ?_ _));refine blk_far ?_ NB1324_1345.out _;(with_reducible repeat (first|refine blk_drewN ?_ _|refine blk_drew ?_|refine blk_alloc ?_ _));exact BK1324.out) hg (Kd.R_ne HO_1326000.out BK1324.out (by decide)));have n1_:=Aside0.mk (blk_grown (g:=gb1325) (o := .cells #[u1326000,.slice none 0 0,.int .i64 0,.int .i64 0] 56 (0,0)) (by (with_reducible repeat (first|refine blk_drewN ?_ _|refine blk_drew ?_|refine blk_alloc ?_ _));refine blk_far ?_ NB1325_1345.out _;(with_reducible repeat (first|refine blk_drewN ?_ _|refine blk_drew ?_|refine blk_alloc ?_ _));refine blk_far ?_ NB1325_1345.out _;(with_reducible repeat (first|refine blk_drewN ?_ _|refine blk_drew ?_|refine blk_alloc ?_ _));refine blk_far ?_ NB1325_1345.out _;(with_reducible repeat (first|refine blk_drewN ?_ _|refine blk_drew ?_|refine blk_alloc ?_ _));refine blk_far ?_ NB1325_1345.out _;(with_reducible repeat (first|refine blk_drewN ?_ _|refine blk_drew ?_|refine blk_alloc ?_ _));refine blk_far ?_ NB1325_1345.out _;(with_reducible repeat (first|refine blk_drewN ?_ _|refine blk_drew ?_|refine blk_alloc ?_ _));refine blk_far ?_ NB1325_1345.out _;(with_reducible repeat (first|refine blk_drewN ?_ _|refine blk_drew ?_|refine blk_alloc ?_ _));refine blk_far ?_ NB1325_1345.out _;(with_reducible repeat (first|refine blk_drewN ?_ _|refine blk_drew ?_|refine blk_alloc ?_ _));refine blk_far ?_ NB1325_1345.out _;(with_reducible repeat (first|refine blk_drewN ?_ _|refine blk_drew ?_|refine blk_alloc ?_ _));refine blk_far ?_ NB1325_1345.out _;(with_reducible repeat (first|refine blk_drewN ?_ _|refine blk_drew ?_|refine blk_alloc ?_ _));refine blk_far ?_ NB1325_1345.out _;(with_reducible repeat (first|refine blk_drewN ?_ _|refine blk_drew ?_|refine blk_alloc ?_ _));refine blk_far ?_ NB1325_1345.out _;(with_reducible repeat (first|refine blk_drewN ?_ _|refine blk_drew ?_|refine blk_alloc ?_ _));refine blk_far ?_ NB1325_1345.out _;(with_reducible repeat (first|refine blk_drewN ?_ _|refine blk_drew ?_|refine blk_alloc ?_ _));refine blk_far ?_ NB1325_1345.out _;(with_reducible repeat (first|refine blk_drewN ?_ _|refine blk_drew ?_|refine blk_alloc ?_ _));exact BK1325.out) hg (Kd.R_ne HO_1326000.out BK1325.out (by decide)));have n2_:=Aside0.mk (blk_grown (g:=gb1345) (o := .cells #[.int .i64 t1330,.int .i64 t1331,.int .i64 t1332,.int .i64 t1333,.int .i64 t1334,.int .i64 t1335,.int .i64 t1336,.int .i64 t1337,.int .i64 t1338,.int .i64 t1339,.int .i64 t1340,.bool t1341,.bool t1342] 25 (0,0)) Z49_15 hg (Kd.R_away HO_1326000.out (fun _ hk=>hk.2)));have n3_:=Aside0.mk (hb);have n4_:=Aside0.mk (ho);clear BK1324;clear BK1325;clear BK1345;clear HB;clear HO_1326000;have BK1324:=n0_;have BK1325:=n1_;have BK1345:=n2_;have HB:=n3_;have HO1348:=n4_;clear n0_ n1_ n2_ n3_ n4_;clear ho hb hg hat;obtain ⟨Ao27,co27,eo27⟩:=Kd.R_slice HO1348.out;subst eo27;obtain ⟨⟨hcz28_0,hcz28_1,hcz28_2,hcz28_3⟩,hfz28_0,hfz28_1,hfz28_2,hfz28_3⟩:=C_z1 BK1325.out))
      go_roundg k2
      case measure=>have:=HJ3.out;have:=HK2.out;omega
      case rel=>exact ⟨(t1343),(wrap64 (x10_2+1)),(x1325002_2),(x1325003_2),(y1346),(.slice Ao27 y1346.length co27),Z49_47,Z49_47,H',⟨(by have:=HJ3.out;have:=HK2.out;omega)⟩,⟨(by (with_reducible repeat (first|apply Kd.R_alloc|apply Kd.R_drewN|apply Kd.R_drew));exact Kd.R_mono (Kd.R_far (p:=⟨gb1325,0,none⟩) (Kd.R_types HO1348.out BK1325.out (by decide)) (fun _ hk=>hk.2) (.slice Ao27 y1346.length co27)) (fun _ hk=>trivial))⟩,⟨Z49_12⟩,⟨(by (with_reducible repeat (first|refine blk_drewN ?_ _|refine blk_drew ?_|refine blk_alloc ?_ _));refine blk_put (cs:=#[u1326000,.slice none 0 0,.int .i64 0,.int .i64 0]) ?_ 0 _ rfl;(with_reducible repeat (first|refine blk_drewN ?_ _|refine blk_drew ?_|refine blk_alloc ?_ _));exact BK1325.out)⟩,⟨Z49_18⟩⟩
     rw [if_neg c15] at H
     have c15b0:decide (x10_2 < t1326)=false:=decide_eq_false c15
     clear c15
     replace H:=Option.bind_eq_some_iff.mp H
     obtain ⟨⟨t1349,t1350,t1351⟩,A380,H⟩:=H
     (try dsimp only at H)
     have A38:=Aside0.mk A380
     clear A380
     have HC39:=Aside0.mk H
     clear H
     go_upto_region 14 with (first|((with_reducible refine gate_callee (f:=129) rfl ?_);refine goesL_ (some 62) rfl rfl Try.func129 (by kernel_rfl) rfl #[.slice A0 l0.length c0,.int .i64 x8_2] rfl Z49_33 ?_;(with_reducible refine (spec_GetNum.calls k2 _ _ l0 x8_2 t1349 t1350 t1351 _ ?side1 ?side2 A38.out).mono ?_);(case side1=>repeat (first|exact (Kd.C_below HR0.out HB.out)|(with_reducible refine Kd.C_alloc ?_ _)|(with_reducible refine Kd.C_drewN ?_ _)|(with_reducible refine Kd.C_drew ?_)));(case side2=>exact HC0.out);rintro e w' ⟨rfl,⟨nd,rfl⟩⟩;refine ⟨_,rfl,?_⟩))
     (try simp only [Act.put,List.setIfInBounds_toArray,List.set_cons_zero,List.set_cons_succ])
     go_cut [72] (fun v72 wc=>∃ (kq:Nat) (x72_38:Bool),v72 = .bool x72_38∧Aside0 (spec_l5Get.j2 kq l0 t1349 t1350 x72_38 x1326000_2 0 0=some (r1,r2,r3,r4,r5))∧Aside0 (kq≤k2)∧Aside0 (Kd.R k25 25 wc w.heap.size (fun _=>True) u1326000 x1326000_2)∧Aside0 (wc.heap[gb1324]?=some (.cells #[(.slice none 0 0),(.slice none 0 0),.int .i64 x1325002_2,.int .i64 x1325003_2] 56 (0,0)))∧Aside0 (wc.heap[gb1325]?=some (.cells #[u1326000,(.slice none 0 0),.int .i64 0,.int .i64 0] 56 (0,0)))∧Aside0 (Below w.heap.size w wc))
     case first =>
      have H:=HC39.out
      clear HC39
      by_cases c40:t1351=true
      rotate_left
      ·replace c40:=Bool.eq_false_iff.mpr c40
       subst c40
       have H1:(spec_l5Get.j2 k2 l0 t1349 t1350 true x1326000_2 0 0)=some (r1,r2,r3,r4,r5):=by rw [if_neg (show ¬ (false=true) by decide)] at H;exact H
       clear H
       have H:=H1
       clear H1
       have H':=Aside0.mk H
       clear H
       go_wp2
       go_meet
       case rel=>exact ⟨_,(true),Z49_47,H',⟨(by have:=HJ3.out;have:=HK2.out;first|omega|exact Nat.le_refl _)⟩,⟨Z49_41⟩,⟨Z49_39⟩,⟨Z49_40⟩,⟨Z49_24⟩⟩
      subst c40
      have H1:((spec_l1In.f t1349 2 3).bind fun t1352=>(spec_l5Get.j2 k2 l0 t1349 t1350 (!t1352) x1326000_2 0 0))=some (r1,r2,r3,r4,r5):=by rw [if_pos rfl] at H;exact H
      clear H
      have H:=H1
      clear H1
      replace H:=Option.bind_eq_some_iff.mp H
      obtain ⟨t1352,A410,H⟩:=H
      replace H:(spec_l5Get.j2 k2 l0 t1349 t1350 (!t1352) x1326000_2 0 0)=some (r1,r2,r3,r4,r5):=H
      have A41:=Aside0.mk A410
      clear A410
      have H':=Aside0.mk H
      clear H
      go_wp2_with (first|(go_at_call 84;(with_reducible refine (spec_l1In.calls t1349 2 3 t1352 _ A41.out).mono ?_);rintro e w' ⟨rfl,⟨nd,rfl⟩⟩))
      go_meet
      case rel=>exact ⟨_,(!t1352),Z49_47,H',⟨(by have:=HJ3.out;have:=HK2.out;first|omega|exact Nat.le_refl _)⟩,⟨Z49_41⟩,⟨Z49_39⟩,⟨Z49_40⟩,⟨Z49_24⟩⟩
     case rest =>
      clear HC39
      try clear c1
      try clear c2
      try clear p2
      try clear c3
      try clear c4
      try clear p6
      try clear c7
      try clear c9
      try clear c11
      try clear c12
      try clear c15
      try clear c15b0
      try clear c17
      try clear c18
      try clear c21
      try clear c22
      try clear c24
      try clear c31
      try clear c32
      try clear c33
      try clear c34
      try clear c40
      try clear hcz13_0
      try clear hcz13_1
      try clear hcz13_2
      try clear hcz13_3
      try clear hcz14_0
      try clear hcz14_1
      try clear hcz14_2
      try clear hcz14_3
      try clear hcz23_0
      try clear hcz23_1
      try clear hcz23_10
      try clear hcz23_11
      try clear hcz23_12
      try clear hcz23_2
      try clear hcz23_3
      try clear hcz23_4
      try clear hcz23_5
      try clear hcz23_6
      try clear hcz23_7
      try clear hcz23_8
      try clear hcz23_9
      try clear hcz25_0
      try clear hcz25_1
      try clear hcz25_2
      try clear hcz25_3
      try clear hcz28_0
      try clear hcz28_1
      try clear hcz28_2
      try clear hcz28_3
      try clear hcz33_0
      try clear hcz33_1
      try clear hcz33_10
      try clear hcz33_11
      try clear hcz33_12
      try clear hcz33_2
      try clear hcz33_3
      try clear hcz33_4
      try clear hcz33_5
      try clear hcz33_6
      try clear hcz33_7
      try clear hcz33_8
      try clear hcz33_9
      try clear hcz35_0
      try clear hcz35_1
      try clear hcz35_2
      try clear hcz35_3
      try clear hcz37_0
      try clear hcz37_1
      try clear hcz37_2
      try clear hcz37_3
      try clear hcz8_0
      try clear hcz8_1
      try clear hcz8_2
      try clear hcz8_3
      try clear hfz13_0
      try clear hfz13_1
      try clear hfz13_2
      try clear hfz13_3
      try clear hfz14_0
      try clear hfz14_1
      try clear hfz14_2
      try clear hfz14_3
      try clear hfz23_0
      try clear hfz23_1
      try clear hfz23_10
      try clear hfz23_11
      try clear hfz23_12
      try clear hfz23_2
      try clear hfz23_3
      try clear hfz23_4
      try clear hfz23_5
      try clear hfz23_6
      try clear hfz23_7
      try clear hfz23_8
      try clear hfz23_9
      try clear hfz25_0
      try clear hfz25_1
      try clear hfz25_2
      try clear hfz25_3
      try clear hfz28_0
      try clear hfz28_1
      try clear hfz28_2
      try clear hfz28_3
      try clear hfz33_0
      try clear hfz33_1
      try clear hfz33_10
      try clear hfz33_11
      try clear hfz33_12
      try clear hfz33_2
      try clear hfz33_3
      try clear hfz33_4
      try clear hfz33_5
      try clear hfz33_6
      try clear hfz33_7
      try clear hfz33_8
      try clear hfz33_9
      try clear hfz35_0
      try clear hfz35_1
      try clear hfz35_2
      try clear hfz35_3
      try clear hfz37_0
      try clear hfz37_1
      try clear hfz37_2
      try clear hfz37_3
      try clear hfz8_0
      try clear hfz8_1
      try clear hfz8_2
      try clear hfz8_3
      try clear p2
      obtain ⟨kq,x72_38,rfl,HA,HJ38,HO_1326000,BK1324,BK1325,HB⟩:=hcut
      cases kq with
      | zero=>exact absurd HA.out (by simp [spec_l5Get.j2])
      | succ kj38 =>
       have H:=HA.out
       clear HA
       simp only [spec_l5Get.j2] at H
       by_cases c42:x72_38=true
       ·subst c42
        have H1:(some (x1326000_2,([]:List (S71)),0,0,(-1)))=some (r1,r2,r3,r4,r5):=by rw [if_pos rfl] at H;exact H
        clear H
        have H:=H1
        clear H1
        simp only [Option.some.injEq,Prod.mk.injEq] at H
        obtain ⟨rfl,rfl,rfl,rfl,rfl⟩:=H
        have hnb43:=NB1325_1324.out
        have hnc43:=NB1324_1325.out
        obtain ⟨⟨hcz44_0,hcz44_1,hcz44_2,hcz44_3⟩,hfz44_0,hfz44_1,hfz44_2,hfz44_3⟩:=C_z1 BK1325.out
        obtain ⟨Ao45,co45,eo45⟩:=Kd.R_slice HO_1326000.out
        subst eo45
        obtain ⟨⟨hcz46_0,hcz46_1,hcz46_2,hcz46_3⟩,hfz46_0,hfz46_1,hfz46_2,hfz46_3⟩:=C_z1 BK1324.out
        go_wp2
        refine bodyPost_ret (results_ct rfl _ _ gb1324 56 #[.slice Ao45 x1326000_2.length co45,.slice none 0 0,.int .i64 0,.int .i64 0] (0,0) _ rfl Z49_17 Try.underlying56 rfl (by kernel_rfl)) rfl ?_
        exact ⟨_,_,Z49_44,(by (with_reducible repeat (first|apply Kd.R_alloc|apply Kd.R_drewN|apply Kd.R_drew));exact Kd.R_mono (Kd.R_far (p:=⟨gb1324,3,none⟩) (Kd.R_far (p:=⟨gb1324,2,none⟩) (Kd.R_far (p:=⟨gb1324,1,none⟩) (Kd.R_far (p:=⟨gb1324,0,none⟩) (Kd.R_types HO_1326000.out BK1324.out (by decide)) (fun _ hk=>hk.2) (.slice Ao45 x1326000_2.length co45)) (fun _ hk=>hk.2) (.slice none 0 0)) (fun _ hk=>hk.2) (.int .i64 0)) (fun _ hk=>hk.2) (.int .i64 0)) (fun _ hk=>trivial)),Z49_32,Z49_24⟩
       replace c42:=Bool.eq_false_iff.mpr c42
       subst c42
       rw [if_neg (show ¬ (false=true) by decide)] at H
       replace H:=Option.bind_eq_some_iff.mp H
       obtain ⟨⟨t1353,t1354,t1355⟩,A470,H⟩:=H
       replace H:(if t1355=true then (spec_l5Get.l1 kj38 t1349 t1353 t1354 0 x1326000_2 ([]:List (S71)) 0 0) else (some (x1326000_2,([]:List (S71)),0,0,(-1))))=some (r1,r2,r3,r4,r5):=H
       have A47:=Aside0.mk A470
       clear A470
       by_cases c48:t1355=true
       rotate_left
       ·replace c48:=Bool.eq_false_iff.mpr c48
        subst c48
        have H1:(some (x1326000_2,([]:List (S71)),0,0,(-1)))=some (r1,r2,r3,r4,r5):=by rw [if_neg (show ¬ (false=true) by decide)] at H;exact H
        clear H
        have H:=H1
        clear H1
        simp only [Option.some.injEq,Prod.mk.injEq] at H
        obtain ⟨rfl,rfl,rfl,rfl,rfl⟩:=H
        go_wp2_with (first|((with_reducible refine gate_callee (f:=96) rfl ?_);refine goesL_ (some 80) rfl rfl Try.func96 (by kernel_rfl) rfl #[.slice A0 l0.length c0,.int .i64 t1350,.int .i64 (wrap64 ((wrap64 (3*t1349))+2))] rfl Z49_33 ?_;(with_reducible refine (spec_l4Nums.calls kj38 _ _ l0 t1350 (wrap64 ((wrap64 (3*t1349))+2)) t1353 t1354 false _ ?side1 ?side2 A47.out).mono ?_);(case side1=>repeat (first|exact (Kd.C_below HR0.out HB.out)|(with_reducible refine Kd.C_alloc ?_ _)|(with_reducible refine Kd.C_drewN ?_ _)|(with_reducible refine Kd.C_drew ?_)));(case side2=>exact HC0.out);rintro e w98 ⟨v1356,rfl,ho0,hb⟩;refine ⟨_,rfl,?_⟩;have n0_:=Aside0.mk Z49_37;have n1_:=Aside0.mk Z49_19;have n2_:=Aside0.mk Z49_14;have n3_:=Aside0.mk Z49_20;have n4_:=Aside0.mk Z49_23;clear HO_1326000;clear BK1324;clear BK1325;clear HB;have HO_1326000:=n0_;have HO1357:=n1_;have BK1324:=n2_;have BK1325:=n3_;have HB:=n4_;clear n0_ n1_ n2_ n3_ n4_;(try clear hb);(try clear hb2);(try clear hk);(try clear hi);(try clear ho0);have hnb99:=NB1325_1324.out;have hnc99:=NB1324_1325.out;obtain ⟨⟨hcz100_0,hcz100_1,hcz100_2,hcz100_3⟩,hfz100_0,hfz100_1,hfz100_2,hfz100_3⟩:=C_z1 BK1325.out;obtain ⟨Ao101,co101,eo101⟩:=Kd.R_slice HO_1326000.out;subst eo101;obtain ⟨⟨hcz102_0,hcz102_1,hcz102_2,hcz102_3⟩,hfz102_0,hfz102_1,hfz102_2,hfz102_3⟩:=C_z1 BK1324.out))
        refine bodyPost_ret (results_ct rfl _ _ gb1324 56 #[.slice Ao101 x1326000_2.length co101,.slice none 0 0,.int .i64 0,.int .i64 0] (0,0) _ rfl Z49_17 Try.underlying56 rfl (by kernel_rfl)) rfl ?_
        exact ⟨_,_,Z49_44,(by (with_reducible repeat (first|apply Kd.R_alloc|apply Kd.R_drewN|apply Kd.R_drew));exact Kd.R_mono (Kd.R_far (p:=⟨gb1324,3,none⟩) (Kd.R_far (p:=⟨gb1324,2,none⟩) (Kd.R_far (p:=⟨gb1324,1,none⟩) (Kd.R_far (p:=⟨gb1324,0,none⟩) (Kd.R_types HO_1326000.out BK1324.out (by decide)) (fun _ hk=>hk.2) (.slice Ao101 x1326000_2.length co101)) (fun _ hk=>hk.2) (.slice none 0 0)) (fun _ hk=>hk.2) (.int .i64 0)) (fun _ hk=>hk.2) (.int .i64 0)) (fun _ hk=>trivial)),Z49_32,Z49_24⟩
       subst c48
       have H1:(spec_l5Get.l1 kj38 t1349 t1353 t1354 0 x1326000_2 ([]:List (S71)) 0 0)=some (r1,r2,r3,r4,r5):=by rw [if_pos rfl] at H;exact H
       clear H
       have H:=H1
       clear H1
       have H':=Aside0.mk H
       clear H
       go_wp2_with (first|((with_reducible refine gate_callee (f:=96) rfl ?_);refine goesL_ (some 80) rfl rfl Try.func96 (by kernel_rfl) rfl #[.slice A0 l0.length c0,.int .i64 t1350,.int .i64 (wrap64 ((wrap64 (3*t1349))+2))] rfl Z49_33 ?_;(with_reducible refine (spec_l4Nums.calls kj38 _ _ l0 t1350 (wrap64 ((wrap64 (3*t1349))+2)) t1353 t1354 true _ ?side1 ?side2 A47.out).mono ?_);(case side1=>repeat (first|exact (Kd.C_below HR0.out HB.out)|(with_reducible refine Kd.C_alloc ?_ _)|(with_reducible refine Kd.C_drewN ?_ _)|(with_reducible refine Kd.C_drew ?_)));(case side2=>exact HC0.out);rintro e w49 ⟨v1356,rfl,ho0,hb⟩;refine ⟨_,rfl,?_⟩;have n0_:=Aside0.mk Z49_37;have n1_:=Aside0.mk Z49_19;have n2_:=Aside0.mk Z49_14;have n3_:=Aside0.mk Z49_20;have n4_:=Aside0.mk Z49_23;clear HO_1326000;clear BK1324;clear BK1325;clear HB;have HO_1326000:=n0_;have HO1357:=n1_;have BK1324:=n2_;have BK1325:=n3_;have HB:=n4_;clear n0_ n1_ n2_ n3_ n4_;(try clear hb);(try clear hb2);(try clear hk);(try clear hi);(try clear ho0)))
       go_loopg [20] kj38 (fun kq v20 w'=>∃ (x20_4:Int) (x1325002_4:Int) (x1325003_4:Int) (x1326001_4:List (S71)) (u1326001:Value),v20 = .int .i64 x20_4∧Aside0 (spec_l5Get.l1 kq t1349 t1353 t1354 x20_4 x1326000_2 x1326001_4 0 0=some (r1,r2,r3,r4,r5))∧Aside0 (kq≤kj38)∧Aside0 (Kd.R (Kd.int .i64) 3 w' w.heap.size (fun _=>True) v1356 t1353)∧Aside0 (Kd.R k25 25 w' w.heap.size (fun _=>True) u1326000 x1326000_2)∧Aside0 (Kd.R k71 71 w' w.heap.size (fun _=>True) u1326001 x1326001_4)∧Aside0 (w'.heap[gb1324]?=some (.cells #[(.slice none 0 0),(.slice none 0 0),.int .i64 x1325002_4,.int .i64 x1325003_4] 56 (0,0)))∧Aside0 (w'.heap[gb1325]?=some (.cells #[u1326000,u1326001,.int .i64 0,.int .i64 0] 56 (0,0)))∧Aside0 (Below w.heap.size w w'))
       case atStart=>exact ⟨(0),(x1325002_2),(x1325003_2),(([]:List (S71))),(.slice none 0 0),Z49_47,H',⟨Nat.le_refl _⟩,⟨(by (with_reducible repeat (first|apply Kd.R_alloc|apply Kd.R_drewN|apply Kd.R_drew));exact HO1357.out)⟩,⟨Z49_41⟩,⟨Z49_32⟩,⟨Z49_39⟩,⟨Z49_40⟩,⟨Z49_24⟩⟩
       case round =>
        clear H'
        try clear c1
        try clear c2
        try clear p2
        try clear c3
        try clear c4
        try clear p6
        try clear c7
        try clear c9
        try clear c11
        try clear c12
        try clear c15
        try clear c15b0
        try clear c17
        try clear c18
        try clear c21
        try clear c22
        try clear c24
        try clear c31
        try clear c32
        try clear c33
        try clear c34
        try clear c40
        try clear c42
        try clear c43
        try clear c48
        try clear hcz13_0
        try clear hcz13_1
        try clear hcz13_2
        try clear hcz13_3
        try clear hcz14_0
        try clear hcz14_1
        try clear hcz14_2
        try clear hcz14_3
        try clear hcz23_0
        try clear hcz23_1
        try clear hcz23_10
        try clear hcz23_11
        try clear hcz23_12
        try clear hcz23_2
        try clear hcz23_3
        try clear hcz23_4
        try clear hcz23_5
        try clear hcz23_6
        try clear hcz23_7
        try clear hcz23_8
        try clear hcz23_9
        try clear hcz25_0
        try clear hcz25_1
        try clear hcz25_2
        try clear hcz25_3
        try clear hcz28_0
        try clear hcz28_1
        try clear hcz28_2
        try clear hcz28_3
        try clear hcz33_0
        try clear hcz33_1
        try clear hcz33_10
        try clear hcz33_11
        try clear hcz33_12
        try clear hcz33_2
        try clear hcz33_3
        try clear hcz33_4
        try clear hcz33_5
        try clear hcz33_6
        try clear hcz33_7
        try clear hcz33_8
        try clear hcz33_9
        try clear hcz35_0
        try clear hcz35_1
        try clear hcz35_2
        try clear hcz35_3
        try clear hcz37_0
        try clear hcz37_1
        try clear hcz37_2
        try clear hcz37_3
        try clear hcz44_0
        try clear hcz44_1
        try clear hcz44_2
        try clear hcz44_3
        try clear hcz46_0
        try clear hcz46_1
        try clear hcz46_2
        try clear hcz46_3
        try clear hcz8_0
        try clear hcz8_1
        try clear hcz8_2
        try clear hcz8_3
        try clear hfz13_0
        try clear hfz13_1
        try clear hfz13_2
        try clear hfz13_3
        try clear hfz14_0
        try clear hfz14_1
        try clear hfz14_2
        try clear hfz14_3
        try clear hfz23_0
        try clear hfz23_1
        try clear hfz23_10
        try clear hfz23_11
        try clear hfz23_12
        try clear hfz23_2
        try clear hfz23_3
        try clear hfz23_4
        try clear hfz23_5
        try clear hfz23_6
        try clear hfz23_7
        try clear hfz23_8
        try clear hfz23_9
        try clear hfz25_0
        try clear hfz25_1
        try clear hfz25_2
        try clear hfz25_3
        try clear hfz28_0
        try clear hfz28_1
        try clear hfz28_2
        try clear hfz28_3
        try clear hfz33_0
        try clear hfz33_1
        try clear hfz33_10
        try clear hfz33_11
        try clear hfz33_12
        try clear hfz33_2
        try clear hfz33_3
        try clear hfz33_4
        try clear hfz33_5
        try clear hfz33_6
        try clear hfz33_7
        try clear hfz33_8
        try clear hfz33_9
        try clear hfz35_0
        try clear hfz35_1
        try clear hfz35_2
        try clear hfz35_3
        try clear hfz37_0
        try clear hfz37_1
        try clear hfz37_2
        try clear hfz37_3
        try clear hfz44_0
        try clear hfz44_1
        try clear hfz44_2
        try clear hfz44_3
        try clear hfz46_0
        try clear hfz46_1
        try clear hfz46_2
        try clear hfz46_3
        try clear hfz8_0
        try clear hfz8_1
        try clear hfz8_2
        try clear hfz8_3
        try clear p2
        try clear p6
        obtain ⟨x20_4,x1325002_4,x1325003_4,x1326001_4,u1326001,rfl,HA,HK4,HO_17,HO_1326000,HO_1326001,BK1324,BK1325,HB⟩:=hrel
        cases gk with
        | zero=>exact absurd HA.out (by simp [spec_l5Get.l1])
        | succ k4 =>
         have H:=HA.out
         clear HA
         simp only [spec_l5Get.l1] at H
         by_cases c50:x20_4 < t1349
         rotate_left
         ·rw [if_neg c50] at H
          have c50b0:decide (x20_4 < t1349)=false:=decide_eq_false c50
          clear c50
          obtain ⟨ji74,hji74⟩:∃ j_:Int,(wrap64 (3*t1349))=j_:=⟨_,rfl⟩
          replace H:(if 0≤(ji74) then (if (ji74) < (t1353.length:Int) then (if 0≤(wrap64 ((ji74)+1)) then (if (wrap64 ((ji74)+1)) < (t1353.length:Int) then ((spec_StateOk.f k4 x1326000_2 x1326001_4 (rd t1353 (ji74)) (rd t1353 (wrap64 ((ji74)+1)))).bind fun t1368=>(if t1368=true then (some (x1326000_2,x1326001_4,rd t1353 (ji74),rd t1353 (wrap64 ((ji74)+1)),t1354)) else (some (x1326000_2,x1326001_4,rd t1353 (ji74),rd t1353 (wrap64 ((ji74)+1)),(-1))))) else (none)) else (none)) else (none)) else (none))=some (r1,r2,r3,r4,r5):=by first|(rw [hji74] at H;exact H)|(simp only [hji74] at H ⊢;exact H)
          have hji74w:(IntKind.i64.wrap (3*t1349))=ji74:=(i64_w _).trans hji74
          by_cases c75:0≤(ji74)
          rotate_left
          ·rw [if_neg c75] at H
           exact absurd H (by simp)
          rw [if_pos c75] at H
          have c75b0:decide (0≤(ji74))=true:=decide_eq_true c75
          clear c75
          by_cases c76:(ji74) < (t1353.length:Int)
          rotate_left
          ·rw [if_neg c76] at H
           exact absurd H (by simp)
          rw [if_pos c76] at H
          have c76b0:decide ((ji74) < (t1353.length:Int))=true:=decide_eq_true c76
          clear c76
          obtain ⟨ji77,hji77⟩:∃ j_:Int,(wrap64 ((ji74)+1))=j_:=⟨_,rfl⟩
          replace H:(if 0≤(ji77) then (if (ji77) < (t1353.length:Int) then ((spec_StateOk.f k4 x1326000_2 x1326001_4 (rd t1353 (ji74)) (rd t1353 (ji77))).bind fun t1368=>(if t1368=true then (some (x1326000_2,x1326001_4,rd t1353 (ji74),rd t1353 (ji77),t1354)) else (some (x1326000_2,x1326001_4,rd t1353 (ji74),rd t1353 (ji77),(-1))))) else (none)) else (none))=some (r1,r2,r3,r4,r5):=by first|(rw [hji77] at H;exact H)|(simp only [hji77] at H ⊢;exact H)
          have hji77w:(IntKind.i64.wrap ((ji74)+1))=ji77:=(i64_w _).trans hji77
          by_cases c78:0≤(ji77)
          rotate_left
          ·rw [if_neg c78] at H
           exact absurd H (by simp)
          rw [if_pos c78] at H
          have c78b0:decide (0≤(ji77))=true:=decide_eq_true c78
          clear c78
          by_cases c79:(ji77) < (t1353.length:Int)
          rotate_left
          ·rw [if_neg c79] at H
           exact absurd H (by simp)
          rw [if_pos c79] at H
          have c79b0:decide ((ji77) < (t1353.length:Int))=true:=decide_eq_true c79
          clear c79
          replace H:=Option.bind_eq_some_iff.mp H
          obtain ⟨t1368,A800,H⟩:=H
          (try dsimp only at H)
          have A80:=Aside0.mk A800
          clear A800
          by_cases c81:t1368=true
          ·subst c81
           have H1:(some (x1326000_2,x1326001_4,rd t1353 (ji74),rd t1353 (ji77),t1354))=some (r1,r2,r3,r4,r5):=by rw [if_pos rfl] at H;exact H
           clear H
           have H:=H1
           clear H1
           simp only [Option.some.injEq,Prod.mk.injEq] at H
           obtain ⟨rfl,rfl,rfl,rfl,rfl⟩:=H
           obtain ⟨Ao82,co82,eo82⟩:=Kd.R_slice HO_17.out
           subst eo82
           have p1366:0≤((ji74):Int):=of_decide_eq_true Z49_46
           have q1366:(ji74) < (t1353.length:Int):=of_decide_eq_true Z49_46
           obtain ⟨ad1366,e1366,hx1366_0⟩:=Kd.at_int (Kd.R_reads' HO_17.out).2.2 (ji74) p1366 q1366
           cases e1366
           replace p1366:=eq_true p1366
           replace q1366:=eq_true q1366
           have hnb83:=NB1325_1324.out
           have hnc83:=NB1324_1325.out
           obtain ⟨⟨hcz84_0,hcz84_1,hcz84_2,hcz84_3⟩,hfz84_0,hfz84_1,hfz84_2,hfz84_3⟩:=C_z1 BK1325.out
           have p1367:0≤((ji77):Int):=of_decide_eq_true Z49_46
           have q1367:(ji77) < (t1353.length:Int):=of_decide_eq_true Z49_46
           obtain ⟨ad1367,e1367,hx1367_0⟩:=Kd.at_int (Kd.R_reads' HO_17.out).2.2 (ji77) p1367 q1367
           obtain rfl:ad1366=ad1367:=(by injection e1367)
           have hn1367_0:ad1366.block≠gb1325:=Kd.own_blk (Kd.R_ne HO_17.out BK1325.out (by decide))
           replace hx1367_0:=(cell_far (p:=⟨gb1325,2,none⟩) Z49_38 (.int .i64 (rd t1353 (ji74)))).trans hx1367_0
           clear hn1367_0
           replace p1367:=eq_true p1367
           replace q1367:=eq_true q1367
           obtain ⟨Ao85,co85,eo85⟩:=Kd.R_slice HO_1326000.out
           subst eo85
           obtain ⟨Ao86,co86,eo86⟩:=Kd.R_slice HO_1326001.out
           subst eo86
           go_wp2_with (first|((with_reducible refine gate_callee (f:=36) rfl ?_);refine goesL_ (some 139) rfl rfl Try.func36 (by kernel_rfl) rfl #[.agg #[.slice Ao85 x1326000_2.length co85,.slice Ao86 x1326001_4.length co86,.int .i64 (rd t1353 (ji74)),.int .i64 (rd t1353 (ji77))]] rfl Z49_27 ?_;(with_reducible refine (spec_StateOk.calls k4 _ _ x1326000_2 _ _ x1326001_4 (rd t1353 (ji74)) (rd t1353 (ji77)) true _ ?side1 ?side2 ?side3 ?side4 A80.out).mono ?_);(case side1=>refine (Kd.R_reads' (e:=25) (base:=w.heap.size) (ok:=fun k_=>True) (n:=x1326000_2.length) (c:=co85) ?_).2.2;exact Z49_6);(case side2=>exact (Kd.R_reads' HO_1326000.out).2.1);(case side3=>refine (Kd.R_reads' (e:=71) (base:=w.heap.size) (ok:=fun k_=>True) (n:=x1326001_4.length) (c:=co86) ?_).2.2;exact Z49_7);(case side4=>exact (Kd.R_reads' HO_1326001.out).2.1);rintro e w87 ⟨rfl,hb⟩;refine ⟨_,rfl,?_⟩;have n0_:=Aside0.mk Z49_5;have n1_:=Aside0.mk Z49_3;have n2_:=Aside0.mk Z49_4;have n3_:=Aside0.mk Z49_2;have n4_:=Aside0.mk (blk_below (g:=gb1325) (o := .cells #[.slice Ao85 x1326000_2.length co85,.slice Ao86 x1326001_4.length co86,.int .i64 (rd t1353 (ji74)),.int .i64 (rd t1353 (ji77))] 56 (0,0)) (by (with_reducible repeat (first|refine blk_drewN ?_ _|refine blk_drew ?_|refine blk_alloc ?_ _));refine blk_put (cs:=#[.slice Ao85 x1326000_2.length co85,.slice Ao86 x1326001_4.length co86,.int .i64 (rd t1353 (ji74)),.int .i64 0]) ?_ 3 _ rfl;(with_reducible repeat (first|refine blk_drewN ?_ _|refine blk_drew ?_|refine blk_alloc ?_ _));refine blk_put (cs:=#[.slice Ao85 x1326000_2.length co85,.slice Ao86 x1326001_4.length co86,.int .i64 0,.int .i64 0]) ?_ 2 _ rfl;(with_reducible repeat (first|refine blk_drewN ?_ _|refine blk_drew ?_|refine blk_alloc ?_ _));exact BK1325.out) hb);have n5_:=Aside0.mk Z49_23;clear HO_17;clear HO_1326000;clear HO_1326001;clear BK1324;clear BK1325;clear HB;have HO_17:=n0_;have HO_1326000:=n1_;have HO_1326001:=n2_;have BK1324:=n3_;have BK1325:=n4_;have HB:=n5_;clear n0_ n1_ n2_ n3_ n4_ n5_;(try clear hb);(try clear hb2);(try clear hk);(try clear hi);obtain ⟨⟨hcz88_0,hcz88_1,hcz88_2,hcz88_3⟩,hfz88_0,hfz88_1,hfz88_2,hfz88_3⟩:=C_z1 BK1325.out;obtain ⟨⟨hcz89_0,hcz89_1,hcz89_2,hcz89_3⟩,hfz89_0,hfz89_1,hfz89_2,hfz89_3⟩:=C_z1 BK1324.out))
           refine bodyPost_ret (results_ct rfl _ _ gb1324 56 #[.slice Ao85 x1326000_2.length co85,.slice Ao86 x1326001_4.length co86,.int .i64 (rd t1353 (ji74)),.int .i64 (rd t1353 (ji77))] (0,0) _ rfl Z49_17 Try.underlying56 rfl (by kernel_rfl)) rfl ?_
           exact ⟨_,_,Z49_26,(by (with_reducible repeat (first|apply Kd.R_alloc|apply Kd.R_drewN|apply Kd.R_drew));exact Kd.R_mono (Kd.R_far (p:=⟨gb1324,3,none⟩) (Kd.R_far (p:=⟨gb1324,2,none⟩) (Kd.R_far (p:=⟨gb1324,1,none⟩) (Kd.R_far (p:=⟨gb1324,0,none⟩) (Kd.R_types HO_1326000.out BK1324.out (by decide)) (fun _ hk=>hk.2) (.slice Ao85 x1326000_2.length co85)) (fun _ hk=>hk.2) (.slice Ao86 x1326001_4.length co86)) (fun _ hk=>hk.2) (.int .i64 (rd t1353 (ji74)))) (fun _ hk=>hk.2) (.int .i64 (rd t1353 (ji77)))) (fun _ hk=>trivial)),(by (with_reducible repeat (first|apply Kd.R_alloc|apply Kd.R_drewN|apply Kd.R_drew));exact Kd.R_mono (Kd.R_far (p:=⟨gb1324,3,none⟩) (Kd.R_far (p:=⟨gb1324,2,none⟩) (Kd.R_far (p:=⟨gb1324,1,none⟩) (Kd.R_far (p:=⟨gb1324,0,none⟩) (Kd.R_types HO_1326001.out BK1324.out (by decide)) (fun _ hk=>hk.2) (.slice Ao85 x1326000_2.length co85)) (fun _ hk=>hk.2) (.slice Ao86 x1326001_4.length co86)) (fun _ hk=>hk.2) (.int .i64 (rd t1353 (ji74)))) (fun _ hk=>hk.2) (.int .i64 (rd t1353 (ji77)))) (fun _ hk=>trivial)),Z49_24⟩
          replace c81:=Bool.eq_false_iff.mpr c81
          subst c81
          have H1:(some (x1326000_2,x1326001_4,rd t1353 (ji74),rd t1353 (ji77),(-1)))=some (r1,r2,r3,r4,r5):=by rw [if_neg (show ¬ (false=true) by decide)] at H;exact H
          clear H
          have H:=H1
          clear H1
          simp only [Option.some.injEq,Prod.mk.injEq] at H
          obtain ⟨rfl,rfl,rfl,rfl,rfl⟩:=H
          obtain ⟨Ao90,co90,eo90⟩:=Kd.R_slice HO_17.out
          subst eo90
          have p1366:0≤((ji74):Int):=of_decide_eq_true Z49_46
          have q1366:(ji74) < (t1353.length:Int):=of_decide_eq_true Z49_46
          obtain ⟨ad1366,e1366,hx1366_0⟩:=Kd.at_int (Kd.R_reads' HO_17.out).2.2 (ji74) p1366 q1366
          cases e1366
          replace p1366:=eq_true p1366
          replace q1366:=eq_true q1366
          have hnb91:=NB1325_1324.out
          have hnc91:=NB1324_1325.out
          obtain ⟨⟨hcz92_0,hcz92_1,hcz92_2,hcz92_3⟩,hfz92_0,hfz92_1,hfz92_2,hfz92_3⟩:=C_z1 BK1325.out
          have p1367:0≤((ji77):Int):=of_decide_eq_true Z49_46
          have q1367:(ji77) < (t1353.length:Int):=of_decide_eq_true Z49_46
          obtain ⟨ad1367,e1367,hx1367_0⟩:=Kd.at_int (Kd.R_reads' HO_17.out).2.2 (ji77) p1367 q1367
          obtain rfl:ad1366=ad1367:=(by injection e1367)
          have hn1367_0:ad1366.block≠gb1325:=Kd.own_blk (Kd.R_ne HO_17.out BK1325.out (by decide))
          replace hx1367_0:=(cell_far (p:=⟨gb1325,2,none⟩) Z49_38 (.int .i64 (rd t1353 (ji74)))).trans hx1367_0
          clear hn1367_0
          replace p1367:=eq_true p1367
          replace q1367:=eq_true q1367
          obtain ⟨Ao93,co93,eo93⟩:=Kd.R_slice HO_1326000.out
          subst eo93
          obtain ⟨Ao94,co94,eo94⟩:=Kd.R_slice HO_1326001.out
          subst eo94
          go_wp2_with (first|((with_reducible refine gate_callee (f:=36) rfl ?_);refine goesL_ (some 139) rfl rfl Try.func36 (by kernel_rfl) rfl #[.agg #[.slice Ao93 x1326000_2.length co93,.slice Ao94 x1326001_4.length co94,.int .i64 (rd t1353 (ji74)),.int .i64 (rd t1353 (ji77))]] rfl Z49_27 ?_;(with_reducible refine (spec_StateOk.calls k4 _ _ x1326000_2 _ _ x1326001_4 (rd t1353 (ji74)) (rd t1353 (ji77)) false _ ?side1 ?side2 ?side3 ?side4 A80.out).mono ?_);(case side1=>refine (Kd.R_reads' (e:=25) (base:=w.heap.size) (ok:=fun k_=>True) (n:=x1326000_2.length) (c:=co93) ?_).2.2;exact Z49_6);(case side2=>exact (Kd.R_reads' HO_1326000.out).2.1);(case side3=>refine (Kd.R_reads' (e:=71) (base:=w.heap.size) (ok:=fun k_=>True) (n:=x1326001_4.length) (c:=co94) ?_).2.2;exact Z49_7);(case side4=>exact (Kd.R_reads' HO_1326001.out).2.1);rintro e w95 ⟨rfl,hb⟩;refine ⟨_,rfl,?_⟩;have n0_:=Aside0.mk Z49_5;have n1_:=Aside0.mk Z49_3;have n2_:=Aside0.mk Z49_4;have n3_:=Aside0.mk Z49_2;have n4_:=Aside0.mk (blk_below (g:=gb1325) (o := .cells #[.slice Ao93 x1326000_2.length co93,.slice Ao94 x1326001_4.length co94,.int .i64 (rd t1353 (ji74)),.int .i64 (rd t1353 (ji77))] 56 (0,0)) (by (with_reducible repeat (first|refine blk_drewN ?_ _|refine blk_drew ?_|refine blk_alloc ?_ _));refine blk_put (cs:=#[.slice Ao93 x1326000_2.length co93,.slice Ao94 x1326001_4.length co94,.int .i64 (rd t1353 (ji74)),.int .i64 0]) ?_ 3 _ rfl;(with_reducible repeat (first|refine blk_drewN ?_ _|refine blk_drew ?_|refine blk_alloc ?_ _));refine blk_put (cs:=#[.slice Ao93 x1326000_2.length co93,.slice Ao94 x1326001_4.length co94,.int .i64 0,.int .i64 0]) ?_ 2 _ rfl;(with_reducible repeat (first|refine blk_drewN ?_ _|refine blk_drew ?_|refine blk_alloc ?_ _));exact BK1325.out) hb);have n5_:=Aside0.mk Z49_23;clear HO_17;clear HO_1326000;clear HO_1326001;clear BK1324;clear BK1325;clear HB;have HO_17:=n0_;have HO_1326000:=n1_;have HO_1326001:=n2_;have BK1324:=n3_;have BK1325:=n4_;have HB:=n5_;clear n0_ n1_ n2_ n3_ n4_ n5_;(try clear hb);(try clear hb2);(try clear hk);(try clear hi);obtain ⟨⟨hcz96_0,hcz96_1,hcz96_2,hcz96_3⟩,hfz96_0,hfz96_1,hfz96_2,hfz96_3⟩:=C_z1 BK1325.out;obtain ⟨⟨hcz97_0,hcz97_1,hcz97_2,hcz97_3⟩,hfz97_0,hfz97_1,hfz97_2,hfz97_3⟩:=C_z1 BK1324.out))
          refine bodyPost_ret (results_ct rfl _ _ gb1324 56 #[.slice Ao93 x1326000_2.length co93,.slice Ao94 x1326001_4.length co94,.int .i64 (rd t1353 (ji74)),.int .i64 (rd t1353 (ji77))] (0,0) _ rfl Z49_17 Try.underlying56 rfl (by kernel_rfl)) rfl ?_
          exact ⟨_,_,Z49_26,(by (with_reducible repeat (first|apply Kd.R_alloc|apply Kd.R_drewN|apply Kd.R_drew));exact Kd.R_mono (Kd.R_far (p:=⟨gb1324,3,none⟩) (Kd.R_far (p:=⟨gb1324,2,none⟩) (Kd.R_far (p:=⟨gb1324,1,none⟩) (Kd.R_far (p:=⟨gb1324,0,none⟩) (Kd.R_types HO_1326000.out BK1324.out (by decide)) (fun _ hk=>hk.2) (.slice Ao93 x1326000_2.length co93)) (fun _ hk=>hk.2) (.slice Ao94 x1326001_4.length co94)) (fun _ hk=>hk.2) (.int .i64 (rd t1353 (ji74)))) (fun _ hk=>hk.2) (.int .i64 (rd t1353 (ji77)))) (fun _ hk=>trivial)),(by (with_reducible repeat (first|apply Kd.R_alloc|apply Kd.R_drewN|apply Kd.R_drew));exact Kd.R_mono (Kd.R_far (p:=⟨gb1324,3,none⟩) (Kd.R_far (p:=⟨gb1324,2,none⟩) (Kd.R_far (p:=⟨gb1324,1,none⟩) (Kd.R_far (p:=⟨gb1324,0,none⟩) (Kd.R_types HO_1326001.out BK1324.out (by decide)) (fun _ hk=>hk.2) (.slice Ao93 x1326000_2.length co93)) (fun _ hk=>hk.2) (.slice Ao94 x1326001_4.length co94)) (fun _ hk=>hk.2) (.int .i64 (rd t1353 (ji74)))) (fun _ hk=>hk.2) (.int .i64 (rd t1353 (ji77)))) (fun _ hk=>trivial)),Z49_24⟩
         rw [if_pos c50] at H
         have c50b0:decide (x20_4 < t1349)=true:=decide_eq_true c50
         clear c50
         obtain ⟨ji51,hji51⟩:∃ j_:Int,(wrap64 ((wrap64 (3*x20_4))+2))=j_:=⟨_,rfl⟩
         replace H:(if 0≤(ji51) then (if (ji51) < (t1353.length:Int) then ((spec_l1In.f (rd t1353 (ji51)) 0 1).bind fun t1359=>(if t1359=true then (if 0≤(wrap64 (3*x20_4)) then (if (wrap64 (3*x20_4)) < (t1353.length:Int) then (if 0≤(wrap64 ((wrap64 (3*x20_4))+1)) then (if (wrap64 ((wrap64 (3*x20_4))+1)) < (t1353.length:Int) then (if x1326001_4.length < 5864062014805 then (spec_l5Get.l1 k4 t1349 t1353 t1354 (wrap64 (x20_4+1)) x1326000_2 (x1326001_4++[(⟨rd t1353 (wrap64 (3*x20_4)),rd t1353 (wrap64 ((wrap64 (3*x20_4))+1)),((rd t1353 (ji51))==1)⟩:S71)]) 0 0) else (none)) else (none)) else (none)) else (none)) else (none)) else (some (x1326000_2,x1326001_4,0,0,(-1))))) else (none)) else (none))=some (r1,r2,r3,r4,r5):=by first|(rw [hji51] at H;exact H)|(simp only [hji51] at H ⊢;exact H)
         have hji51w:(IntKind.i64.wrap ((wrap64 (3*x20_4))+2))=ji51:=(i64_w _).trans hji51
         by_cases c52:0≤(ji51)
         rotate_left
         ·rw [if_neg c52] at H
          exact absurd H (by simp)
         rw [if_pos c52] at H
         have c52b0:decide (0≤(ji51))=true:=decide_eq_true c52
         clear c52
         by_cases c53:(ji51) < (t1353.length:Int)
         rotate_left
         ·rw [if_neg c53] at H
          exact absurd H (by simp)
         rw [if_pos c53] at H
         have c53b0:decide ((ji51) < (t1353.length:Int))=true:=decide_eq_true c53
         clear c53
         replace H:=Option.bind_eq_some_iff.mp H
         obtain ⟨t1359,A540,H⟩:=H
         (try dsimp only at H)
         have A54:=Aside0.mk A540
         clear A540
         by_cases c55:t1359=true
         rotate_left
         ·replace c55:=Bool.eq_false_iff.mpr c55
          subst c55
          have H1:(some (x1326000_2,x1326001_4,0,0,(-1)))=some (r1,r2,r3,r4,r5):=by rw [if_neg (show ¬ (false=true) by decide)] at H;exact H
          clear H
          have H:=H1
          clear H1
          simp only [Option.some.injEq,Prod.mk.injEq] at H
          obtain ⟨rfl,rfl,rfl,rfl,rfl⟩:=H
          obtain ⟨Ao68,co68,eo68⟩:=Kd.R_slice HO_17.out
          subst eo68
          have p1358:0≤((ji51):Int):=of_decide_eq_true Z49_46
          have q1358:(ji51) < (t1353.length:Int):=of_decide_eq_true Z49_46
          obtain ⟨ad1358,e1358,hx1358_0⟩:=Kd.at_int (Kd.R_reads' HO_17.out).2.2 (ji51) p1358 q1358
          cases e1358
          replace p1358:=eq_true p1358
          replace q1358:=eq_true q1358
          go_wp2_with (first|((with_reducible refine gate_callee (f:=84) rfl ?_);refine goesL_ (some 98) rfl rfl Try.func84 (by kernel_rfl) rfl #[.int .i64 (rd t1353 (ji51)),.int .i64 0,.int .i64 1] rfl Z49_29 ?_;(with_reducible refine (spec_l1In.calls (rd t1353 (ji51)) 0 1 false _ A54.out).mono ?_);rintro e w' ⟨rfl,⟨nd,rfl⟩⟩;refine ⟨_,rfl,?_⟩;(try (rw [drewN_self wr];generalize hq_:World.drewN wr _=wr;have n0_:Aside0 (Kd.R k25 25 wr w.heap.size (fun _=>True) u1326000 x1326000_2):=⟨Z49_34⟩;have n1_:Aside0 (Kd.R k71 71 wr w.heap.size (fun _=>True) u1326001 x1326001_4):=⟨Z49_35⟩;have n2_:Aside0 (Kd.R (Kd.int .i64) 3 wr w.heap.size (fun _=>True) (.slice (some ad1358) t1353.length co68) t1353):=⟨Z49_36⟩;have n3_:Aside0 (wr.heap[gb1324]?=some (.cells #[.slice none 0 0,.slice none 0 0,.int .i64 x1325002_4,.int .i64 x1325003_4] 56 (0,0))):=⟨Z49_30⟩;have n4_:Aside0 (wr.heap[gb1325]?=some (.cells #[u1326000,u1326001,.int .i64 0,.int .i64 0] 56 (0,0))):=⟨Z49_31⟩;have n5_:Aside0 (Below w.heap.size w wr):=⟨Z49_22⟩;clear HO_1326000 HO_1326001 HO_17 BK1324 BK1325 HB hq_;have HO_1326000:=n0_;have HO_1326001:=n1_;have HO_17:=n2_;have BK1324:=n3_;have BK1325:=n4_;have HB:=n5_;clear n0_ n1_ n2_ n3_ n4_ n5_));have hnb69:=NB1325_1324.out;have hnc69:=NB1324_1325.out;obtain ⟨⟨hcz70_0,hcz70_1,hcz70_2,hcz70_3⟩,hfz70_0,hfz70_1,hfz70_2,hfz70_3⟩:=C_z1 BK1325.out;obtain ⟨Ao71,co71,eo71⟩:=Kd.R_slice HO_1326000.out;subst eo71;obtain ⟨⟨hcz72_0,hcz72_1,hcz72_2,hcz72_3⟩,hfz72_0,hfz72_1,hfz72_2,hfz72_3⟩:=C_z1 BK1324.out;obtain ⟨Ao73,co73,eo73⟩:=Kd.R_slice HO_1326001.out;subst eo73))
          refine bodyPost_ret (results_ct rfl _ _ gb1324 56 #[.slice Ao71 x1326000_2.length co71,.slice Ao73 x1326001_4.length co73,.int .i64 0,.int .i64 0] (0,0) _ rfl Z49_17 Try.underlying56 rfl (by kernel_rfl)) rfl ?_
          exact ⟨_,_,(by first|rfl|(simp [errW_none,errW_some]<;>rfl)|(simp only [← hji51];first|rfl|(simp [errW_none,errW_some]<;>rfl))|(simp [*,errW_none,errW_some]<;>rfl)),(by (with_reducible repeat (first|apply Kd.R_alloc|apply Kd.R_drewN|apply Kd.R_drew));exact Kd.R_mono (Kd.R_far (p:=⟨gb1324,3,none⟩) (Kd.R_far (p:=⟨gb1324,2,none⟩) (Kd.R_far (p:=⟨gb1324,1,none⟩) (Kd.R_far (p:=⟨gb1324,0,none⟩) (Kd.R_types HO_1326000.out BK1324.out (by decide)) (fun _ hk=>hk.2) (.slice Ao71 x1326000_2.length co71)) (fun _ hk=>hk.2) (.slice Ao73 x1326001_4.length co73)) (fun _ hk=>hk.2) (.int .i64 0)) (fun _ hk=>hk.2) (.int .i64 0)) (fun _ hk=>trivial)),(by (with_reducible repeat (first|apply Kd.R_alloc|apply Kd.R_drewN|apply Kd.R_drew));exact Kd.R_mono (Kd.R_far (p:=⟨gb1324,3,none⟩) (Kd.R_far (p:=⟨gb1324,2,none⟩) (Kd.R_far (p:=⟨gb1324,1,none⟩) (Kd.R_far (p:=⟨gb1324,0,none⟩) (Kd.R_types HO_1326001.out BK1324.out (by decide)) (fun _ hk=>hk.2) (.slice Ao71 x1326000_2.length co71)) (fun _ hk=>hk.2) (.slice Ao73 x1326001_4.length co73)) (fun _ hk=>hk.2) (.int .i64 0)) (fun _ hk=>hk.2) (.int .i64 0)) (fun _ hk=>trivial)),Z49_24⟩
         subst c55
         rw [if_pos rfl] at H
         obtain ⟨ji56,hji56⟩:∃ j_:Int,(wrap64 (3*x20_4))=j_:=⟨_,rfl⟩
         replace H:(if 0≤(ji56) then (if (ji56) < (t1353.length:Int) then (if 0≤(wrap64 ((ji56)+1)) then (if (wrap64 ((ji56)+1)) < (t1353.length:Int) then (if x1326001_4.length < 5864062014805 then (spec_l5Get.l1 k4 t1349 t1353 t1354 (wrap64 (x20_4+1)) x1326000_2 (x1326001_4++[(⟨rd t1353 (ji56),rd t1353 (wrap64 ((ji56)+1)),((rd t1353 (ji51))==1)⟩:S71)]) 0 0) else (none)) else (none)) else (none)) else (none)) else (none))=some (r1,r2,r3,r4,r5):=by first|(rw [hji56] at H;exact H)|(simp only [hji56] at H ⊢;exact H)
         (try rw [hji56] at A54)
         have hji56w:(IntKind.i64.wrap (3*x20_4))=ji56:=(i64_w _).trans hji56
         have hji51x:IntKind.i64.wrap (ji56+2)=ji51:=by rw [← hji56];exact hji51w
         have hji51y:wrap64 (ji56+2)=ji51:=by rw [← hji56];exact hji51
         by_cases c57:0≤(ji56)
         rotate_left
         ·rw [if_neg c57] at H
          exact absurd H (by simp)
         rw [if_pos c57] at H
         have c57b0:decide (0≤(ji56))=true:=decide_eq_true c57
         clear c57
         by_cases c58:(ji56) < (t1353.length:Int)
         rotate_left
         ·rw [if_neg c58] at H
          exact absurd H (by simp)
         rw [if_pos c58] at H
         have c58b0:decide ((ji56) < (t1353.length:Int))=true:=decide_eq_true c58
         clear c58
         obtain ⟨ji59,hji59⟩:∃ j_:Int,(wrap64 ((ji56)+1))=j_:=⟨_,rfl⟩
         replace H:(if 0≤(ji59) then (if (ji59) < (t1353.length:Int) then (if x1326001_4.length < 5864062014805 then (spec_l5Get.l1 k4 t1349 t1353 t1354 (wrap64 (x20_4+1)) x1326000_2 (x1326001_4++[(⟨rd t1353 (ji56),rd t1353 (ji59),((rd t1353 (ji51))==1)⟩:S71)]) 0 0) else (none)) else (none)) else (none))=some (r1,r2,r3,r4,r5):=by first|(rw [hji59] at H;exact H)|(simp only [hji59] at H ⊢;exact H)
         (try rw [hji59] at A54)
         have hji59w:(IntKind.i64.wrap ((ji56)+1))=ji59:=(i64_w _).trans hji59
         by_cases c60:0≤(ji59)
         rotate_left
         ·rw [if_neg c60] at H
          exact absurd H (by simp)
         rw [if_pos c60] at H
         have c60b0:decide (0≤(ji59))=true:=decide_eq_true c60
         clear c60
         by_cases c61:(ji59) < (t1353.length:Int)
         rotate_left
         ·rw [if_neg c61] at H
          exact absurd H (by simp)
         rw [if_pos c61] at H
         have c61b0:decide ((ji59) < (t1353.length:Int))=true:=decide_eq_true c61
         clear c61
         by_cases c62:x1326001_4.length < 5864062014805
         rotate_left
         ·rw [if_neg c62] at H
          exact absurd H (by simp)
         rw [if_pos c62] at H
         have LMc62:=Aside0.mk c62
         clear c62
         obtain ⟨y1363,hy1363⟩:∃ y_:List (S71),y_=(x1326001_4++[(⟨rd t1353 (ji56),rd t1353 (ji59),((rd t1353 (ji51))==1)⟩:S71)]):=⟨_,rfl⟩
         replace H:(spec_l5Get.l1 k4 t1349 t1353 t1354 (wrap64 (x20_4+1)) x1326000_2 y1363 0 0)=some (r1,r2,r3,r4,r5):=by first|(rw [hy1363];with_reducible exact H)|(have H2_:=(Option.bind_some _ _).symm.trans H;rw [hy1363];with_reducible exact H2_)|(have H2_:=(Option.bind_some _ _).symm.trans H;with_reducible exact H2_)|with_reducible exact H|(rw [hy1363];exact H)|exact H
         have Ny1363:=Aside0.mk hy1363
         clear hy1363
         have H':=Aside0.mk H
         clear H
         obtain ⟨Ao63,co63,eo63⟩:=Kd.R_slice HO_17.out
         subst eo63
         have p1358:0≤((ji51):Int):=of_decide_eq_true Z49_46
         have q1358:(ji51) < (t1353.length:Int):=of_decide_eq_true Z49_46
         obtain ⟨ad1358,e1358,hx1358_0⟩:=Kd.at_int (Kd.R_reads' HO_17.out).2.2 (ji51) p1358 q1358
         cases e1358
         replace p1358:=eq_true p1358
         replace q1358:=eq_true q1358
         try go_wp2_with (first|((with_reducible refine gate_callee (f:=84) rfl ?_);refine goesL_ (some 98) rfl rfl Try.func84 (by kernel_rfl) rfl #[.int .i64 (rd t1353 (ji51)),.int .i64 0,.int .i64 1] rfl Z49_29 ?_;(with_reducible refine (spec_l1In.calls (rd t1353 (ji51)) 0 1 true _ A54.out).mono ?_);rintro e w' ⟨rfl,⟨nd,rfl⟩⟩;refine ⟨_,rfl,?_⟩;(try (rw [drewN_self wr];generalize hq_:World.drewN wr _=wr;have n0_:Aside0 (Kd.R k25 25 wr w.heap.size (fun _=>True) u1326000 x1326000_2):=⟨Z49_34⟩;have n1_:Aside0 (Kd.R k71 71 wr w.heap.size (fun _=>True) u1326001 x1326001_4):=⟨Z49_35⟩;have n2_:Aside0 (Kd.R (Kd.int .i64) 3 wr w.heap.size (fun _=>True) (.slice (some ad1358) t1353.length co63) t1353):=⟨Z49_36⟩;have n3_:Aside0 (wr.heap[gb1324]?=some (.cells #[.slice none 0 0,.slice none 0 0,.int .i64 x1325002_4,.int .i64 x1325003_4] 56 (0,0))):=⟨Z49_30⟩;have n4_:Aside0 (wr.heap[gb1325]?=some (.cells #[u1326000,u1326001,.int .i64 0,.int .i64 0] 56 (0,0))):=⟨Z49_31⟩;have n5_:Aside0 (Below w.heap.size w wr):=⟨Z49_22⟩;clear HO_1326000 HO_1326001 HO_17 BK1324 BK1325 HB hq_;have HO_1326000:=n0_;have HO_1326001:=n1_;have HO_17:=n2_;have BK1324:=n3_;have BK1325:=n4_;have HB:=n5_;clear n0_ n1_ n2_ n3_ n4_ n5_))))
         have n0_:=Aside0.mk (Kd.R_drew HO_17.out)
         have n1_:=Aside0.mk (Kd.R_drew HO_1326000.out)
         have n2_:=Aside0.mk (Kd.R_drew HO_1326001.out)
         have n3_:=Aside0.mk (blk_drew BK1324.out)
         have n4_:=Aside0.mk (blk_drew BK1325.out)
         have n5_:=Aside0.mk (below_drew1 HB.out)
         clear HO_17
         clear HO_1326000
         clear HO_1326001
         clear BK1324
         clear BK1325
         clear HB
         have HO_17:=n0_
         have HO_1326000:=n1_
         have HO_1326001:=n2_
         have BK1324:=n3_
         have BK1325:=n4_
         have HB:=n5_
         clear n0_ n1_ n2_ n3_ n4_ n5_
         have p1360:0≤((ji56):Int):=of_decide_eq_true Z49_46
         have q1360:(ji56) < (t1353.length:Int):=of_decide_eq_true Z49_46
         obtain ⟨ad1360,e1360,hx1360_0⟩:=Kd.at_int (Kd.R_reads' HO_17.out).2.2 (ji56) p1360 q1360
         obtain rfl:ad1358=ad1360:=(by injection e1360)
         replace p1360:=eq_true p1360
         replace q1360:=eq_true q1360
         have p1361:0≤((ji59):Int):=of_decide_eq_true Z49_46
         have q1361:(ji59) < (t1353.length:Int):=of_decide_eq_true Z49_46
         obtain ⟨ad1361,e1361,hx1361_0⟩:=Kd.at_int (Kd.R_reads' HO_17.out).2.2 (ji59) p1361 q1361
         obtain rfl:ad1358=ad1361:=(by injection e1361)
         replace p1361:=eq_true p1361
         replace q1361:=eq_true q1361
         have p1362:0≤((ji51):Int):=of_decide_eq_true Z49_46
         have q1362:(ji51) < (t1353.length:Int):=of_decide_eq_true Z49_46
         obtain ⟨ad1362,e1362,hx1362_0⟩:=Kd.at_int (Kd.R_reads' HO_17.out).2.2 (ji51) p1362 q1362
         obtain rfl:ad1358=ad1362:=(by injection e1362)
         replace p1362:=eq_true p1362
         replace q1362:=eq_true q1362
         refine start_ (n:=25) (S:=fun w'=>w'.cell? ⟨gb1325,0,none⟩=some (u1326000)∧w'.cell? ⟨gb1325,1,none⟩=some (u1326001)∧w'.cell? ⟨gb1325,2,none⟩=some (.int .i64 0)∧w'.cell? ⟨gb1325,3,none⟩=some (.int .i64 0)∧w'.cell? (ad1358.add ((ji56)).toNat)=some (.int .i64 (rd t1353 (ji56)))∧w'.cell? (ad1358.add ((ji59)).toNat)=some (.int .i64 (rd t1353 (ji59)))∧w'.cell? (ad1358.add ((ji51)).toNat)=some (.int .i64 (rd t1353 (ji51)))) (ds:=[22,24]) #[false,false,false,false,false,false,false,false,false,false,false,false,false,false,false,false,false,false,false,false,false,false,false,false,false] (by kernel_rfl) rfl rfl ⟨(blk_cell BK1325.out 0).trans rfl,(blk_cell BK1325.out 1).trans rfl,(blk_cell BK1325.out 2).trans rfl,(blk_cell BK1325.out 3).trans rfl,hx1360_0,hx1361_0,hx1362_0⟩ (fun hHeld=>?_);refine with_tabW spec_l5Get.tab24 spec_l5Get.bits24 (fun HT_ HW_=>?_)
         generalize wr.drew=w64 at HO_17 HO_1326000 HO_1326001 BK1324 BK1325 HB hx1360_0 hx1361_0 hx1362_0 hHeld ⊢
         refine pz 0 101 (M49_25 1) (b:=Z49_43) (h:=?_)
         refine pz 2 103 (M49_25 5) (b:=Z49_43) (h:=?_)
         refine pz 3 104 (M49_25 13) (b:=Z49_43) (h:=?_)
         refine pz 4 105 (M49_25 29) (b:=Z49_43) (h:=?_)
         refine pz 5 106 (M49_25 61) (b:=Z49_43) (h:=?_)
         refine pz 7 108 (M49_25 189) (b:=Z49_43) (h:=?_)
         refine pz 8 109 (M49_25 445) (b:=Z49_43) (h:=?_)
         refine pz 9 110 (M49_25 957) (b:=Z49_43) (h:=?_)
         refine pz 10 111 (M49_25 1981) (b:=Z49_43) (h:=?_)
         refine pz 11 112 (M49_25 4029) (b:=Z49_43) (h:=?_)
         refine pz 13 114 (M49_25 12221) (b:=Z49_43) (h:=?_)
         refine pz 14 115 (M49_25 28605) (b:=Z49_43) (h:=?_)
         refine pz 15 116 (M49_25 61373) (b:=Z49_43) (h:=?_)
         refine pz 16 117 (M49_25 126909) (b:=Z49_43) (h:=?_)
         refine pz 17 118 (M49_25 257981) (b:=Z49_43) (h:=?_)
         refine tz 1 102 (M49_25 257983) (r:=Z49_45) (b:=Z49_43) (h:=?_)
         refine tz 6 107 (M49_25 258047) (r:=Z49_45) (b:=Z49_43) (h:=?_)
         refine tz 12 113 (M49_25 262143) (r:=Z49_45) (b:=Z49_43) (h:=?_)
         refine tz 18 119 (M49_25 524287) (r:=Z49_45) (b:=Z49_43) (h:=?_)
         refine pz 19 120 (M49_25 1048575) (b:=Z49_43) (h:=?_)
         refine pz 20 121 (M49_25 2097151) (b:=Z49_43) (h:=?_)
         refine one_ (i:=21) (N:=some 122) (M49_25 4194303) rfl rfl (one_of HT_.out (by kernel_rfl)) (by decide) (fun K hK=>?_)
         refine value_ (w1:=?_) (v:=?_) (by rfl) rfl ?_ ?_
         rotate_left 2
         ·go_simp
          constructor
          ·rfl
          ·rfl
         refine hK.out _ _ ?_ (fun hHeld=>?_)
         ·exact ⟨(blk_cell (blk_alloc BK1325.out _) 0).trans rfl,(blk_cell (blk_alloc BK1325.out _) 1).trans rfl,(blk_cell (blk_alloc BK1325.out _) 2).trans rfl,(blk_cell (blk_alloc BK1325.out _) 3).trans rfl,(World.cell?_alloc_lt _ _ _ (World.block_lt_of_cell? _ _ (hHeld.2.2.2.2.1))).trans (hHeld.2.2.2.2.1),(World.cell?_alloc_lt _ _ _ (World.block_lt_of_cell? _ _ (hHeld.2.2.2.2.2.1))).trans (hHeld.2.2.2.2.2.1),(World.cell?_alloc_lt _ _ _ (World.block_lt_of_cell? _ _ (hHeld.2.2.2.2.2.2))).trans (hHeld.2.2.2.2.2.2)⟩
         clear hK K
         refine norm_ (a':=?_) ?_ ?_
         rotate_left
         ·show Act.put _ (some 122) _=_
          simp only [Act.put,List.setIfInBounds_toArray,List.set_cons_zero,List.set_cons_succ,i64_w,i32_w]
          rfl
         refine last_ (i:=22) (N:=some 123) (M49_25 8388607) rfl rfl (one_of HT_.out (by kernel_rfl)) (by decide) (fun K hK=>?_)
         refine Kd.R_append_step k71 (w0:=w) w.heap.size (by rfl) (.tmp 102) (.tmp 122) 54 71 (.agg #[(.int .i64 0),(.int .i64 0),(.bool false)]) 24 rfl Try.underlying54 info71 rfl (by decide) (by omega) u1326001 x1326001_4 (⟨rd t1353 (ji56),rd t1353 (ji59),((rd t1353 (ji51))==1)⟩:S71) [.int .i64 (rd t1353 (ji56)),.int .i64 (rd t1353 (ji59)),.bool ((rd t1353 (ji51))==1)] (fun _=>True) (fun _=>False) rfl rfl ?aP (fun _ hk=>hk.elim) ?aF ?aO ?aB ?aS ?aL ?_
         (case aP=>exact k71_mkM _ _ _ (⟨rd t1353 (ji56),rd t1353 (ji59),((rd t1353 (ji51))==1)⟩:S71))
         (case aB=>exact Z49_24)
         (case aF=>exact (fun _ _=>trivial))
         (case aO=>exact Z49_42)
         (case aS=>exact (below_size Z49_24))
         (case aL=>have:=LMc62.out;omega)
         intro v1364 w65 ho hb hg hat
         rw [← Ny1363.out] at ho
         have n0_:=Aside0.mk (Kd.R_over' (by (with_reducible repeat (first|apply Kd.R_alloc|apply Kd.R_drewN|apply Kd.R_drew));exact HO_17.out) (Kd.R_typed Z49_42) (by decide) hg)
         have n1_:=Aside0.mk (Kd.R_over' Z49_41 (Kd.R_typed Z49_42) (by decide) hg)
         have n2_:=Aside0.mk (blk_grown (g:=gb1324) (o := .cells #[.slice none 0 0,.slice none 0 0,.int .i64 x1325002_4,.int .i64 x1325003_4] 56 (0,0)) Z49_39 hg (Kd.R_ne HO_1326001.out BK1324.out (by decide)))
         have n3_:=Aside0.mk (blk_grown (g:=gb1325) (o := .cells #[u1326000,u1326001,.int .i64 0,.int .i64 0] 56 (0,0)) Z49_40 hg (Kd.R_ne HO_1326001.out BK1325.out (by decide)))
         have n4_:=Aside0.mk (hb)
         have n5_:=Aside0.mk (ho)
         clear HO_17
         clear HO_1326000
         clear BK1324
         clear BK1325
         clear HB
         clear HO_1326001
         have HO_17:=n0_
         have HO_1326000:=n1_
         have BK1324:=n2_
         have BK1325:=n3_
         have HB:=n4_
         have HO1365:=n5_
         clear n0_ n1_ n2_ n3_ n4_ n5_
         clear ho hb hg hat
         obtain ⟨Ao66,co66,eo66⟩:=Kd.R_slice HO1365.out
         (first|subst eo66|(injection eo66 with f1_ f2_ f3_;have f4_:=f1_.symm;have f5_:=f3_.symm;clear f1_ f2_ f3_;subst f4_;subst f5_))
         refine hK.out _ _ ?_
         clear hK K
         refine norm_ (a':=?_) ?_ ?_
         rotate_left
         ·show Act.put _ (some 123) _=_
          simp only [Act.put,List.setIfInBounds_toArray,List.set_cons_zero,List.set_cons_succ,i64_w,i32_w]
          rfl
         refine pz 23 124 (M49_25 16777215) (b:=Z49_43) (h:=?_)
         refine last_ (i:=24) (N:=none) (M49_25 33554431) rfl rfl (one_of HT_.out (by kernel_rfl)) (by decide) (fun K hK=>?_)
         have hs67:w65.cell? ⟨gb1325,1,none⟩=some (u1326001):=(blk_cell BK1325.out 1).trans rfl
         have hfs67:=blk_frozen BK1325.out 1
         have hns67_0:=NB1324_1325.out
         have hms67_0:=NB1325_1324.out
         refine skip_ (w1:=?_) (by rfl) rfl ?_ ?_
         rotate_left
         ·go_simp
          rfl
         refine hK.out _ _ ?_
         clear hK K
         refine done_ (done_of HT_.out (by kernel_rfl)) ?_
         try go_wp2
         go_roundg k4
         case measure=>have:=HJ3.out;have:=HK2.out;have:=HJ38.out;have:=HK4.out;omega
         case rel=>exact ⟨(wrap64 (x20_4+1)),(x1325002_4),(x1325003_4),(y1363),(.slice Ao66 y1363.length co66),Z49_47,H',⟨(by have:=HJ3.out;have:=HK2.out;have:=HJ38.out;have:=HK4.out;omega)⟩,⟨(by (with_reducible repeat (first|apply Kd.R_alloc|apply Kd.R_drewN|apply Kd.R_drew));exact Kd.R_mono (Kd.R_far (p:=⟨gb1325,1,none⟩) (Kd.R_types HO_17.out BK1325.out (by decide)) (fun _ hk=>hk.2) (.slice Ao66 y1363.length co66)) (fun _ hk=>trivial))⟩,⟨(by (with_reducible repeat (first|apply Kd.R_alloc|apply Kd.R_drewN|apply Kd.R_drew));exact Kd.R_mono (Kd.R_far (p:=⟨gb1325,1,none⟩) (Kd.R_types HO_1326000.out BK1325.out (by decide)) (fun _ hk=>hk.2) (.slice Ao66 y1363.length co66)) (fun _ hk=>trivial))⟩,⟨(by (with_reducible repeat (first|apply Kd.R_alloc|apply Kd.R_drewN|apply Kd.R_drew));exact Kd.R_mono (Kd.R_far (p:=⟨gb1325,1,none⟩) (Kd.R_types HO1365.out BK1325.out (by decide)) (fun _ hk=>hk.2) (.slice Ao66 y1363.length co66)) (fun _ hk=>trivial))⟩,⟨Z49_12⟩,⟨(by (with_reducible repeat (first|refine blk_drewN ?_ _|refine blk_drew ?_|refine blk_alloc ?_ _));refine blk_put (cs:=#[u1326000,u1326001,.int .i64 0,.int .i64 0]) ?_ 1 _ rfl;(with_reducible repeat (first|refine blk_drewN ?_ _|refine blk_drew ?_|refine blk_alloc ?_ _));exact BK1325.out)⟩,⟨Z49_24⟩⟩
end Go.Proofs.Ytfkidiagmekleaa.QAll
