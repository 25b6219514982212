import Derived.Test.YtfkidiagmekleaaNVZ
import Derived.Test.YtfkidiagmekleaaNQAllx0
import Derived.Test.YtfkidiagmekleaaNRL1
namespace Go.Proofs.Ytfkidiagmekleaa.QAll
open Go.RowKit Go.Proofs.YtfkidiagmekleaaW.PrintWords Go.Proofs.YtfkidiagmekleaaW.PrintLast Go.Proofs.YtfkidiagmekleaaW.PrintMore
attribute [local go_sem] max2_int min2_int max_two min_two max_three min_three max_four min_four
set_option linter.unusedVariables false
set_option linter.unusedSimpArgs false
def M18_13 (k:Nat):Array Bool:=((List.range 13).map fun j=>k.testBit j).toArray
theorem Z18_18 {p:Prop} (h:p:=by (with_reducible repeat (first|apply Kd.R_alloc|apply Kd.R_drewN|apply Kd.R_drew));exact HO559.out):p:=h
theorem Z18_1 {p:Prop} (h:p:=by exact (Kd.R_mono (Kd.R_keep (IsS120.apart (show IsS120 w0 _ g s0_0 s0_1 s0_2 from by repeat (first|(with_reducible first|exact HI0.out|apply IsS120.alloc|apply IsS120.drewN|apply IsS120.drew|apply IsS120.set_1|apply IsS120.set_2)|exact HI0.out)) Z18_18 (by decide)) hk (fun _ h=>h.2)) (fun _ h=>h.1))):p:=h
theorem Z18_2 {p:Prop} (h:p:=by exact (Kd.R_mono (Kd.R_keep (IsS120.apart (show IsS120 w0 _ g s0_0 t561 t562 from by repeat (first|(with_reducible first|exact HI0.out|apply IsS120.alloc|apply IsS120.drewN|apply IsS120.drew|apply IsS120.set_1|apply IsS120.set_2)|exact HI0.out)) Z18_18 (by decide)) hk (fun _ h=>h.2)) (fun _ h=>h.1))):p:=h
theorem Z18_10 {p:Prop} (h:p:=by repeat (first|(with_reducible first|exact HI0.out|apply IsS120.alloc|apply IsS120.drewN|apply IsS120.drew|apply IsS120.set_1|apply IsS120.set_2)|exact HI0.out)):p:=h
theorem Z18_3 {p:Prop} (h:p:=by exact (IsS120.grown Z18_10 hg (IsS120.own_ne HI0.out HO556.out (by decide)))):p:=h
theorem Z18_13 {p:Prop} (h:p:=by repeat (first|(with_reducible first|exact HK.out|apply KeepBut.set_|apply keep_drewN|apply keep_drew|apply keep_alloc)|exact HK.out)):p:=h
theorem Z18_4 {p:Prop} (h:p:=by exact (KeepBut.trans Z18_13 (KeepBut.of_grown hg g) (Kd.R_base2 HO556.out))):p:=h
theorem Z18_5 {p:Prop} (h:p:=by exact (KeepBut.trans Z18_13 (KeepBut.of_below hb g none) (.inl rfl))):p:=h
theorem Z18_11 {p:Prop} (h:p:=by repeat (first|(with_reducible first|exact HB.out|apply below_alloc|apply pw_below_drewN|apply below_drew1|refine below_set ?_ (IsS120.ge HI0.out))|exact HB.out)):p:=h
theorem Z18_6 {p:Prop} (h:p:=by exact (below_weaken Z18_11 HL.out hb)):p:=h
theorem Z18_7 {p:Prop} (h:p:=by exact (IsS120.below Z18_10 hb)):p:=h
theorem Z18_8 {p:Prop} (h:p:=by exact (below_step Z18_11 hb)):p:=h
theorem Z18_9 {p:Prop} (h:p:=by exact (KeepBut.trans Z18_13 hk (.inl rfl))):p:=h
theorem Z18_14 {p:Prop} (h:p:=by (try simp only [List.map_toArray,List.map_cons,List.map_nil]);first|done|rfl|(simp only [List.length_drop,List.length_take];rfl)):p:=h
theorem Z18_16 {p:Prop} (h:p:=by simp only [Act.put,List.setIfInBounds_toArray,List.set_cons_zero,List.set_cons_succ,i64_w,i32_w];rfl):p:=h
theorem Z18_17 {p:Prop} (h:p:=by (with_reducible repeat (first|apply Kd.R_alloc|apply Kd.R_drewN|apply Kd.R_drew));exact HO556.out):p:=h
theorem Z18_21 {p:Prop} (h:p:=by first|rfl|(simp [errW_none,errW_some]<;>rfl)|(simp [*,errW_none,errW_some]<;>rfl)):p:=h
theorem Z18_22 {p:Prop} (h:p:=by first|(with_reducible assumption)|assumption):p:=h
def spec_l1Bend.f (s0_0:List Int) (s0_1:Int) (s0_2:Int) (l1:List Int):Option (List Int×Int×Int):=(some (([]:List Int):List Int)).bind fun y554=>(if y554.length+l1.length < 140737488355328 then ((some (y554++l1:List Int)).bind fun y557=>((spec_l1Below.f s0_0 s0_1 s0_2 8).bind fun bt560=>(if bt560.1=0 then (if (y557.length:Int) > 0 then ((spec_l1Below.f s0_0 bt560.2.1 bt560.2.2 (y557.length:Int)).bind fun bt563=>(if 0≤bt563.1 then (if bt563.1 < (y557.length:Int) then ((spec_l1Below.f s0_0 bt563.2.1 bt563.2.2 255).bind fun bt567=>(some ((y557.set (bt563.1:Int).toNat (Go.bits .xor .u8 (rd y557 bt563.1) ((wrap64 (1+bt567.1)) % 256))),bt567.2.1,bt567.2.2))) else (none)) else (none))) else (some (y557,bt560.2.1,bt560.2.2))) else (if bt560.1=1 then (if (y557.length:Int) > 0 then ((spec_l1Below.f s0_0 bt560.2.1 bt560.2.2 (y557.length:Int)).bind fun bt571=>(if 0≤bt571.1 then (if bt571.1≤(y557.length:Int) then (some ((y557.take (bt571.1:Int).toNat),bt571.2.1,bt571.2.2)) else (none)) else (none))) else (some (y557,bt560.2.1,bt560.2.2))) else (if bt560.1=2 then ((spec_l1Byte.f s0_0 bt560.2.1 bt560.2.2).bind fun bt577=>(if y557.length < 140737488355328 then (some ((y557++[(bt577.1) % 256]),bt577.2.1,bt577.2.2)) else (none))) else (some (y557,bt560.2.1,bt560.2.2))))))) else (none))
def spec_l1Bend.T6:Bool×List (List Nat×List Nat):=(true,[([],[]),([],[]),([],[]),([],[]),([2,3],[2,3]),([4],[4]),([],[]),([6],[6]),([7],[7]),([8],[8]),([5,9],[5,9]),([0,1,0,1,2,3,4,5,6,7,8,9,10],[0,1]),([11,10,7,0,1,2,3,4,5,6,7,8,9,10],[10,11])])
def spec_l1Bend.B6:List Nat:=[0,0,0,0,12,28,0,64,192,448,1020,2047,4095]
theorem spec_l1Bend.tab6:rtab .any (opsOf Try.f94 6)=spec_l1Bend.T6:=by kernel_rfl
theorem spec_l1Bend.bits6:waitsOk spec_l1Bend.T6.2 spec_l1Bend.B6=true:=by kernel_rfl
set_option maxHeartbeats 8000000 in
set_option maxRecDepth 100000 in
theorem spec_l1Bend.calls (g:Nat) (s0_0:List Int) (s0_1:Int) (s0_2:Int) (A1:Option Addr) (c1:Nat) (l1:List Int) (r1:List Int) (r2:Int) (r3:Int) (w0 w:World) (hI:IsS120 w0 w g s0_0 s0_1 s0_2) (hB:Below w0.heap.size w0 w) (hr1:Kd.C (Kd.int .u8) w A1 l1.length l1) (hc1:l1.length≤c1) (hf1:∀ ad,A1=some ad→0 < l1.length→ad.block≠g) (h:spec_l1Bend.f s0_0 s0_1 s0_2 l1=some (r1,r2,r3)) :
  Calls Try.prog 94 #[.pointer (some ⟨g,0,none⟩),.slice A1 l1.length c1] w fun e w'=>∃ v0_:Value,e = .returned (v0_)∧Kd.R (Kd.int .u8) 5 w' w.heap.size (fun _=>True) v0_ r1∧IsS120 w0 w' g s0_0 r2 r3∧Below w0.heap.size w0 w'∧KeepBut w w' g none:=by
 have HR1:=Aside0.mk hr1
 have HC1:=Aside0.mk hc1
 clear hr1 hc1
 have HI0:=Aside0.mk hI
 have HK:=Aside0.mk (KeepBut.refl w g none)
 have HL:=Aside0.mk hB.size
 clear hI
 have HW0:=Aside0.mk hB.size
 have HB:=Aside0.mk hB
 clear hB
 have H:((some (([]:List Int):List Int)).bind fun y554=>(if y554.length+l1.length < 140737488355328 then ((some (y554++l1:List Int)).bind fun y557=>((spec_l1Below.f s0_0 s0_1 s0_2 8).bind fun bt560=>(if bt560.1=0 then (if (y557.length:Int) > 0 then ((spec_l1Below.f s0_0 bt560.2.1 bt560.2.2 (y557.length:Int)).bind fun bt563=>(if 0≤bt563.1 then (if bt563.1 < (y557.length:Int) then ((spec_l1Below.f s0_0 bt563.2.1 bt563.2.2 255).bind fun bt567=>(some ((y557.set (bt563.1:Int).toNat (Go.bits .xor .u8 (rd y557 bt563.1) ((wrap64 (1+bt567.1)) % 256))),bt567.2.1,bt567.2.2))) else (none)) else (none))) else (some (y557,bt560.2.1,bt560.2.2))) else (if bt560.1=1 then (if (y557.length:Int) > 0 then ((spec_l1Below.f s0_0 bt560.2.1 bt560.2.2 (y557.length:Int)).bind fun bt571=>(if 0≤bt571.1 then (if bt571.1≤(y557.length:Int) then (some ((y557.take (bt571.1:Int).toNat),bt571.2.1,bt571.2.2)) else (none)) else (none))) else (some (y557,bt560.2.1,bt560.2.2))) else (if bt560.1=2 then ((spec_l1Byte.f s0_0 bt560.2.1 bt560.2.2).bind fun bt577=>(if y557.length < 140737488355328 then (some ((y557++[(bt577.1) % 256]),bt577.2.1,bt577.2.2)) else (none))) else (some (y557,bt560.2.1,bt560.2.2))))))) else (none)))=some (r1,r2,r3):=h
 clear h
 obtain ⟨y554,hy554⟩:∃ y_:List Int,y_=(([]:List Int)):=⟨_,rfl⟩
 replace H:(if y554.length+l1.length < 140737488355328 then ((some (y554++l1:List Int)).bind fun y557=>((spec_l1Below.f s0_0 s0_1 s0_2 8).bind fun bt560=>(if bt560.1=0 then (if (y557.length:Int) > 0 then ((spec_l1Below.f s0_0 bt560.2.1 bt560.2.2 (y557.length:Int)).bind fun bt563=>(if 0≤bt563.1 then (if bt563.1 < (y557.length:Int) then ((spec_l1Below.f s0_0 bt563.2.1 bt563.2.2 255).bind fun bt567=>(some ((y557.set (bt563.1:Int).toNat (Go.bits .xor .u8 (rd y557 bt563.1) ((wrap64 (1+bt567.1)) % 256))),bt567.2.1,bt567.2.2))) else (none)) else (none))) else (some (y557,bt560.2.1,bt560.2.2))) else (if bt560.1=1 then (if (y557.length:Int) > 0 then ((spec_l1Below.f s0_0 bt560.2.1 bt560.2.2 (y557.length:Int)).bind fun bt571=>(if 0≤bt571.1 then (if bt571.1≤(y557.length:Int) then (some ((y557.take (bt571.1:Int).toNat),bt571.2.1,bt571.2.2)) else (none)) else (none))) else (some (y557,bt560.2.1,bt560.2.2))) else (if bt560.1=2 then ((spec_l1Byte.f s0_0 bt560.2.1 bt560.2.2).bind fun bt577=>(if y557.length < 140737488355328 then (some ((y557++[(bt577.1) % 256]),bt577.2.1,bt577.2.2)) else (none))) else (some (y557,bt560.2.1,bt560.2.2))))))) else (none))=some (r1,r2,r3):=by first|(rw [hy554];with_reducible exact H)|(have H2_:=(Option.bind_some _ _).symm.trans H;rw [hy554];with_reducible exact H2_)|(have H2_:=(Option.bind_some _ _).symm.trans H;with_reducible exact H2_)|with_reducible exact H|(rw [hy554];exact H)|exact H
 have Ny554:=Aside0.mk hy554
 clear hy554
 by_cases c3:y554.length+l1.length < 140737488355328
 rotate_left
 ·rw [if_neg c3] at H
  exact absurd H (by simp)
 rw [if_pos c3] at H
 have LMc3:=Aside0.mk c3
 clear c3
 obtain ⟨y557,hy557⟩:∃ y_:List Int,y_=(y554++l1):=⟨_,rfl⟩
 replace H:((spec_l1Below.f s0_0 s0_1 s0_2 8).bind fun bt560=>(if bt560.1=0 then (if (y557.length:Int) > 0 then ((spec_l1Below.f s0_0 bt560.2.1 bt560.2.2 (y557.length:Int)).bind fun bt563=>(if 0≤bt563.1 then (if bt563.1 < (y557.length:Int) then ((spec_l1Below.f s0_0 bt563.2.1 bt563.2.2 255).bind fun bt567=>(some ((y557.set (bt563.1:Int).toNat (Go.bits .xor .u8 (rd y557 bt563.1) ((wrap64 (1+bt567.1)) % 256))),bt567.2.1,bt567.2.2))) else (none)) else (none))) else (some (y557,bt560.2.1,bt560.2.2))) else (if bt560.1=1 then (if (y557.length:Int) > 0 then ((spec_l1Below.f s0_0 bt560.2.1 bt560.2.2 (y557.length:Int)).bind fun bt571=>(if 0≤bt571.1 then (if bt571.1≤(y557.length:Int) then (some ((y557.take (bt571.1:Int).toNat),bt571.2.1,bt571.2.2)) else (none)) else (none))) else (some (y557,bt560.2.1,bt560.2.2))) else (if bt560.1=2 then ((spec_l1Byte.f s0_0 bt560.2.1 bt560.2.2).bind fun bt577=>(if y557.length < 140737488355328 then (some ((y557++[(bt577.1) % 256]),bt577.2.1,bt577.2.2)) else (none))) else (some (y557,bt560.2.1,bt560.2.2))))))=some (r1,r2,r3):=by first|(rw [hy557];with_reducible exact H)|(have H2_:=(Option.bind_some _ _).symm.trans H;rw [hy557];with_reducible exact H2_)|(have H2_:=(Option.bind_some _ _).symm.trans H;with_reducible exact H2_)|with_reducible exact H|(rw [hy557];exact H)|exact H
 have Ny557:=Aside0.mk hy557
 clear hy557
 replace H:=Option.bind_eq_some_iff.mp H
 obtain ⟨⟨t560,t561,t562⟩,A40,H⟩:=H
 (try dsimp only at H)
 have A4:=Aside0.mk A40
 clear A40
 by_cases c5:t560=0
 ·rw [if_pos c5] at H
  have c5b0:(t560==0)=true:=beq_iff_eq.mpr c5
  have c5b1:(t560 != 0)=false:=bne_eq_false_iff_eq.mpr c5
  clear c5
  by_cases c6:(y557.length:Int) > 0
  rotate_left
  ·rw [if_neg c6] at H
   have c6b0:decide (0 < (y557.length:Int))=false:=decide_eq_false c6
   have c6b1:decide (0 < y557.length)=false:=decide_eq_false (by omega)
   clear c6
   simp only [Option.some.injEq,Prod.mk.injEq] at H
   obtain ⟨rfl,rfl,rfl⟩:=H
   go_enter Try.func94,Try.ntmps94
   go_wp2_with (first|((with_reducible refine gate_dst (N:=7) rfl ?_);refine Kd.R_lit (Kd.int .u8) _ 5 ?hg (N:=7) ?hd (xs:=([]:List Int)) (inner:=[]) (ok:=fun _=>True) (okp:=fun _=>True) ?hr ?hp (fun _ hk=>hk) trivial (Below.refl _ _) (Nat.le_refl _) (by simp) ?_;(case hd=>rfl);(case hg=>rfl);(case hr=>first|(go_simp;done)|(go_simp;rfl));(case hp=>exact (Reps.none _ _));intro v555 w21 ho22 hb hg_ hnew_;clear hg_ hnew_;(first|rw [← Ny554.out] at ho22|(simp only [Int.reduceToNat] at ho22;rw [← Ny554.out] at ho22));have n0_:=Aside0.mk (Kd.R_lower ho22 (keep_size (w:=w) (g:=g) (row:=none) Z18_13));have n1_:=Aside0.mk Z18_7;have n2_:=Aside0.mk Z18_5;have n3_:=Aside0.mk Z18_8;clear HI0;clear HK;clear HB;have HO556:=n0_;have HI0:=n1_;have HK:=n2_;have HB:=n3_;clear n0_ n1_ n2_ n3_;clear hb ho22)|((with_reducible refine gate_builtin (b := .append) (xs:=#[.tmp 7,.tmp 8]) rfl ?_);at_builtin;refine Kd.R_append_rows (Kd.int .u8) w.heap.size rfl (.tmp 7) (.tmp 8) 22 5 (.int .u8 0) 1 rfl Try.underlying22 info5 rfl (by decide) (by omega) v555 y554 l1 _ _ _ (fun _=>True) (fun _=>False) rfl rfl ?aO ?aR (fun _ _ h=>h) (fun _ h=>h.elim) ?aF (Below.refl _ _) ?aS ?aL ?_;(case aR=>exact Kd.C_keep 0 HR1.out Z18_13 hf1);(case aF=>exact (fun _ _=>trivial));(case aO=>exact Z18_17);(case aS=>exact (keep_size (w:=w) (g:=g) (row:=none) Z18_13));(case aL=>have:=LMc3.out;omega);intro v558 w23 ho hb hg hat;rw [← Ny557.out] at ho;have n0_:=Aside0.mk Z18_3;have n1_:=Aside0.mk Z18_6;have n2_:=Aside0.mk Z18_4;have n3_:=Aside0.mk (ho);clear HI0;clear HB;clear HK;clear HO556;have HI0:=n0_;have HB:=n1_;have HK:=n2_;have HO559:=n3_;clear n0_ n1_ n2_ n3_;clear ho hb hg hat)|((with_reducible refine gate_callee (f:=74) rfl ?_);refine goesL_ (some 11) rfl rfl Try.func74 (by kernel_rfl) rfl #[.pointer (some ⟨g,0,none⟩),.int .i64 8] rfl Z18_14 ?_;(with_reducible refine (spec_l1Below.calls g s0_0 s0_1 s0_2 8 t560 t561 t562 w0 _ ?side1 ?side2 A4.out).mono ?_);(case side1=>repeat (first|(with_reducible first|exact HI0.out|apply IsS120.alloc|apply IsS120.drewN|apply IsS120.drew|apply IsS120.set_1|apply IsS120.set_2)|exact HI0.out));(case side2=>repeat (first|(with_reducible first|exact HB.out|apply below_alloc|apply pw_below_drewN|apply below_drew1|refine below_set ?_ (IsS120.ge HI0.out))|exact HB.out));rintro e w24 ⟨rfl,hi,hb,hk⟩;refine ⟨_,rfl,?_⟩;have n0_:=Aside0.mk Z18_1;have n1_:=Aside0.mk Z18_9;have n2_:=Aside0.mk (hb);have n3_:=Aside0.mk (hi);clear HO559;clear HK;clear HB;clear HI0;have HO559:=n0_;have HK:=n1_;have HB:=n2_;have HI0:=n3_;clear n0_ n1_ n2_ n3_;(try clear hb);(try clear hb2);(try clear hk);(try clear hi);obtain ⟨Ao25,co25,eo25⟩:=Kd.R_slice HO559.out;subst eo25))
   go_ret
   exact ⟨_,Z18_21,Z18_18,Z18_10,Z18_11,Z18_13⟩
  rw [if_pos c6] at H
  have c6b0:decide (0 < (y557.length:Int))=true:=decide_eq_true c6
  have c6b1:decide (0 < y557.length)=true:=decide_eq_true (by omega)
  clear c6
  replace H:=Option.bind_eq_some_iff.mp H
  obtain ⟨⟨t563,t564,t565⟩,A70,H⟩:=H
  (try dsimp only at H)
  have A7:=Aside0.mk A70
  clear A70
  by_cases c8:0≤t563
  rotate_left
  ·rw [if_neg c8] at H
   exact absurd H (by simp)
  rw [if_pos c8] at H
  have c8b0:decide (0≤t563)=true:=decide_eq_true c8
  clear c8
  by_cases c9:t563 < (y557.length:Int)
  rotate_left
  ·rw [if_neg c9] at H
   exact absurd H (by simp)
  rw [if_pos c9] at H
  have c9b0:decide (t563 < (y557.length:Int))=true:=decide_eq_true c9
  clear c9
  replace H:=Option.bind_eq_some_iff.mp H
  obtain ⟨⟨t567,t568,t569⟩,A100,H⟩:=H
  replace H:(some ((y557.set (t563:Int).toNat (Go.bits .xor .u8 (rd y557 t563) ((wrap64 (1+t567)) % 256))),t568,t569))=some (r1,r2,r3):=H
  have A10:=Aside0.mk A100
  clear A100
  obtain ⟨y570,hy570⟩:∃ y_:List Int,y_=(y557.set (t563:Int).toNat (Go.bits .xor .u8 (rd y557 t563) ((wrap64 (1+t567)) % 256))):=⟨_,rfl⟩
  replace H:(some (y570,t568,t569))=some (r1,r2,r3):=by first|(rw [hy570];with_reducible exact H)|(have H2_:=(Option.bind_some _ _).symm.trans H;rw [hy570];with_reducible exact H2_)|(have H2_:=(Option.bind_some _ _).symm.trans H;with_reducible exact H2_)|with_reducible exact H|(rw [hy570];exact H)|exact H
  have Ny570:=Aside0.mk hy570
  clear hy570
  simp only [Option.some.injEq,Prod.mk.injEq] at H
  obtain ⟨rfl,rfl,rfl⟩:=H
  go_enter Try.func94,Try.ntmps94
  try go_wp2_with (first|((with_reducible refine gate_dst (N:=7) rfl ?_);refine Kd.R_lit (Kd.int .u8) _ 5 ?hg (N:=7) ?hd (xs:=([]:List Int)) (inner:=[]) (ok:=fun _=>True) (okp:=fun _=>True) ?hr ?hp (fun _ hk=>hk) trivial (Below.refl _ _) (Nat.le_refl _) (by simp) ?_;(case hd=>rfl);(case hg=>rfl);(case hr=>first|(go_simp;done)|(go_simp;rfl));(case hp=>exact (Reps.none _ _));intro v555 w12 ho13 hb hg_ hnew_;clear hg_ hnew_;(first|rw [← Ny554.out] at ho13|(simp only [Int.reduceToNat] at ho13;rw [← Ny554.out] at ho13));have n0_:=Aside0.mk (Kd.R_lower ho13 (keep_size (w:=w) (g:=g) (row:=none) Z18_13));have n1_:=Aside0.mk Z18_7;have n2_:=Aside0.mk Z18_5;have n3_:=Aside0.mk Z18_8;clear HI0;clear HK;clear HB;have HO556:=n0_;have HI0:=n1_;have HK:=n2_;have HB:=n3_;clear n0_ n1_ n2_ n3_;clear hb ho13)|((with_reducible refine gate_builtin (b := .append) (xs:=#[.tmp 7,.tmp 8]) rfl ?_);at_builtin;refine Kd.R_append_rows (Kd.int .u8) w.heap.size rfl (.tmp 7) (.tmp 8) 22 5 (.int .u8 0) 1 rfl Try.underlying22 info5 rfl (by decide) (by omega) v555 y554 l1 _ _ _ (fun _=>True) (fun _=>False) rfl rfl ?aO ?aR (fun _ _ h=>h) (fun _ h=>h.elim) ?aF (Below.refl _ _) ?aS ?aL ?_;(case aR=>exact Kd.C_keep 0 HR1.out Z18_13 hf1);(case aF=>exact (fun _ _=>trivial));(case aO=>exact Z18_17);(case aS=>exact (keep_size (w:=w) (g:=g) (row:=none) Z18_13));(case aL=>have:=LMc3.out;omega);intro v558 w14 ho hb hg hat;rw [← Ny557.out] at ho;have n0_:=Aside0.mk Z18_3;have n1_:=Aside0.mk Z18_6;have n2_:=Aside0.mk Z18_4;have n3_:=Aside0.mk (ho);clear HI0;clear HB;clear HK;clear HO556;have HI0:=n0_;have HB:=n1_;have HK:=n2_;have HO559:=n3_;clear n0_ n1_ n2_ n3_;clear ho hb hg hat)|((with_reducible refine gate_callee (f:=74) rfl ?_);refine goesL_ (some 11) rfl rfl Try.func74 (by kernel_rfl) rfl #[.pointer (some ⟨g,0,none⟩),.int .i64 8] rfl Z18_14 ?_;(with_reducible refine (spec_l1Below.calls g s0_0 s0_1 s0_2 8 t560 t561 t562 w0 _ ?side1 ?side2 A4.out).mono ?_);(case side1=>repeat (first|(with_reducible first|exact HI0.out|apply IsS120.alloc|apply IsS120.drewN|apply IsS120.drew|apply IsS120.set_1|apply IsS120.set_2)|exact HI0.out));(case side2=>repeat (first|(with_reducible first|exact HB.out|apply below_alloc|apply pw_below_drewN|apply below_drew1|refine below_set ?_ (IsS120.ge HI0.out))|exact HB.out));rintro e w15 ⟨rfl,hi,hb,hk⟩;refine ⟨_,rfl,?_⟩;have n0_:=Aside0.mk Z18_1;have n1_:=Aside0.mk Z18_9;have n2_:=Aside0.mk (hb);have n3_:=Aside0.mk (hi);clear HO559;clear HK;clear HB;clear HI0;have HO559:=n0_;have HK:=n1_;have HB:=n2_;have HI0:=n3_;clear n0_ n1_ n2_ n3_;(try clear hb);(try clear hb2);(try clear hk);(try clear hi);obtain ⟨Ao16,co16,eo16⟩:=Kd.R_slice HO559.out;subst eo16)|((with_reducible refine gate_callee (f:=74) rfl ?_);refine goesL_ (some 20) rfl rfl Try.func74 (by kernel_rfl) rfl #[.pointer (some ⟨g,0,none⟩),.int .i64 (y557.length:Int)] rfl Z18_14 ?_;(with_reducible refine (spec_l1Below.calls g s0_0 t561 t562 (y557.length:Int) t563 t564 t565 w0 _ ?side1 ?side2 A7.out).mono ?_);(case side1=>repeat (first|(with_reducible first|exact HI0.out|apply IsS120.alloc|apply IsS120.drewN|apply IsS120.drew|apply IsS120.set_1|apply IsS120.set_2)|exact HI0.out));(case side2=>repeat (first|(with_reducible first|exact HB.out|apply below_alloc|apply pw_below_drewN|apply below_drew1|refine below_set ?_ (IsS120.ge HI0.out))|exact HB.out));rintro e w17 ⟨rfl,hi,hb,hk⟩;refine ⟨_,rfl,?_⟩;have n0_:=Aside0.mk Z18_2;have n1_:=Aside0.mk Z18_9;have n2_:=Aside0.mk (hb);have n3_:=Aside0.mk (hi);clear HO559;clear HK;clear HB;clear HI0;have HO559:=n0_;have HK:=n1_;have HB:=n2_;have HI0:=n3_;clear n0_ n1_ n2_ n3_;(try clear hb);(try clear hb2);(try clear hk);(try clear hi)))
  have n0_:=Aside0.mk (Kd.R_drew HO559.out)
  have n1_:=Aside0.mk (IsS120.drew HI0.out)
  have n2_:=Aside0.mk (keep_drew HK.out)
  have n3_:=Aside0.mk (below_drew1 HB.out)
  clear HO559
  clear HI0
  clear HK
  clear HB
  have HO559:=n0_
  have HI0:=n1_
  have HK:=n2_
  have HB:=n3_
  clear n0_ n1_ n2_ n3_
  have p566:0≤(t563:Int):=of_decide_eq_true Z18_22
  have q566:t563 < (y557.length:Int):=of_decide_eq_true Z18_22
  obtain ⟨ad566,e566,hx566_0⟩:=Kd.at_int (Kd.R_reads' HO559.out).2.2 t563 p566 q566
  cases e566
  replace p566:=eq_true p566
  replace q566:=eq_true q566
  refine start_ (n:=13) (S:=fun w'=>w'.cell? (ad566.add (t563).toNat)=some (.int .u8 (rd y557 t563))) (ds:=[12]) #[false,false,false,false,false,false,false,false,false,false,false,false,false] (by kernel_rfl) rfl rfl (hx566_0) (fun hHeld=>?_);refine with_tabW spec_l1Bend.tab6 spec_l1Bend.bits6 (fun HT_ HW_=>?_)
  generalize w17.drew=w18 at HO559 HI0 HK HB hx566_0 hHeld ⊢
  refine pz 0 21 (M18_13 1) (b:=Z18_16) (h:=?_)
  refine pz 1 22 (M18_13 3) (b:=Z18_16) (h:=?_)
  refine pz 2 23 (M18_13 7) (b:=Z18_16) (h:=?_)
  refine pz 3 24 (M18_13 15) (b:=Z18_16) (h:=?_)
  refine pz 4 25 (M18_13 31) (b:=Z18_16) (h:=?_)
  refine pz 6 27 (M18_13 95) (b:=Z18_16) (h:=?_)
  refine take_ (i:=5) (N:=some 26) (v:=_) (a':=_) (M18_13 127) rfl rfl (take_ofW HT_.out HW_.out (by kernel_rfl)) (fun _ _ _ h=>h) (Or.inl ⟨(by rfl),(by intro w' s0;go_simp;with_reducible rfl)⟩) hHeld Z18_16 ?_
  refine one_ (i:=7) (N:=some 28) (M18_13 255) rfl rfl (one_of HT_.out (by kernel_rfl)) (by decide) (fun K hK=>?_)
  refine goes_ Try.func74 (by kernel_rfl) rfl #[.pointer (some ⟨g,0,none⟩),.int .i64 255] (by rfl) rfl rfl Z18_14 ?_
  with_reducible refine (spec_l1Below.calls g s0_0 t564 t565 255 t567 t568 t569 w0 _ ?side1 ?side2 A10.out).mono ?_
  (case side1=>repeat (first|(with_reducible first|exact HI0.out|apply IsS120.alloc|apply IsS120.drewN|apply IsS120.drew|apply IsS120.set_1|apply IsS120.set_2)|exact HI0.out))
  (case side2=>repeat (first|(with_reducible first|exact HB.out|apply below_alloc|apply pw_below_drewN|apply below_drew1|refine below_set ?_ (IsS120.ge HI0.out))|exact HB.out))
  rintro e w19 ⟨rfl,hi,hb,hk⟩
  have HS0_:=keep_cell hk (hHeld) (by first|(rw [add_block];exact Kd.own_blk (IsS120.own_ne HI0.out HO559.out (by decide)))|(show (Addr.add _ _).block≠_;rw [add_block];exact Kd.own_blk (IsS120.own_ne HI0.out HO559.out (by decide)))|exact Kd.own_blk (IsS120.own_ne HI0.out HO559.out (by decide)))
  refine ⟨_,rfl,?_⟩
  have n0_:=Aside0.mk (Kd.R_mono (Kd.R_keep (IsS120.apart (show IsS120 w0 _ g s0_0 t564 t565 from by repeat (first|(with_reducible first|exact HI0.out|apply IsS120.alloc|apply IsS120.drewN|apply IsS120.drew|apply IsS120.set_1|apply IsS120.set_2)|exact HI0.out)) Z18_18 (by decide)) hk (fun _ h=>h.2)) (fun _ h=>h.1))
  have n1_:=Aside0.mk Z18_9
  have n2_:=Aside0.mk (hb)
  have n3_:=Aside0.mk (hi)
  clear HO559
  clear HK
  clear HB
  clear HI0
  have HO559:=n0_
  have HK:=n1_
  have HB:=n2_
  have HI0:=n3_
  clear n0_ n1_ n2_ n3_
  (try clear hb)
  (try clear hb2)
  (try clear hk)
  (try clear hi)
  have p11:0≤(t563:Int):=of_decide_eq_true Z18_22
  have q11:(t563:Int) < ((y557.length:Int):Int):=of_decide_eq_true Z18_22
  obtain ⟨go11,co11,eo11,gb11,gl11,cl11,HG11⟩:=Kd.R_form HO559.out (by omega)
  (first|cases eo11|(injection eo11 with ea_ en_ ec_;(first|subst ea_|(injection ea_ with ea_;subst ea_));subst ec_;clear en_))
  have GB11:=Aside0.mk gb11
  have GG11:=Aside0.mk HG11
  clear gb11 gl11 HG11
  (first|simp only [add_plain] at hx566_0|skip)
  obtain ⟨hx11_0,hf11_0⟩:=Kd.R_celln 0 HO559.out (t563:Int) p11 q11
  replace p11:=eq_true p11
  replace q11:=eq_true q11
  have HN0_go11:=Aside0.mk (show g≠go11 from by have h_:=IsS120.own_ne HI0.out HO559.out (by decide);intro e_;exact h_ (by rw [e_];rfl))
  have HP20:=Kd.R_putn HO559.out (t563:Int) (Go.bits .xor .u8 (rd y557 t563) ((wrap64 (1+t567)) % 256))
  rw [← Ny570.out] at HP20
  have HQ20:=Aside0.mk HP20
  clear HP20
  refine hK.out _ _ (HS0_) (fun hHeld=>?_)
  clear hK K
  refine norm_ (a':=?_) ?_ ?_
  rotate_left
  ·show Act.put _ (some 28) _=_
   simp only [Act.put,List.setIfInBounds_toArray,List.set_cons_zero,List.set_cons_succ,i64_w,i32_w]
   rfl
  refine pz 8 29 (M18_13 511) (b:=Z18_16) (h:=?_)
  refine pz 9 30 (M18_13 1023) (b:=Z18_16) (h:=?_)
  refine pz 10 31 (M18_13 2047) (b:=Z18_16) (h:=?_)
  refine pz 11 32 (M18_13 4095) (b:=Z18_16) (h:=?_)
  refine last_ (i:=12) (N:=none) (M18_13 8191) rfl rfl (one_of HT_.out (by kernel_rfl)) (by decide) (fun K hK=>?_)
  refine skip_ (w1:=?_) (by rfl) rfl ?_ ?_
  rotate_left
  ·go_simp
   rfl
  refine hK.out _ _ ?_
  clear hK K
  refine done_ (done_of HT_.out (by kernel_rfl)) ?_
  try go_wp2
  go_ret
  exact ⟨_,Z18_21,(by (with_reducible repeat (first|apply Kd.R_alloc|apply Kd.R_drewN|apply Kd.R_drew));exact HQ20.out),(by repeat (first|(with_reducible first|exact HI0.out|apply IsS120.alloc|apply IsS120.drewN|apply IsS120.drew|apply IsS120.set_1|apply IsS120.set_2|refine IsS120.far ?_ HN0_go11.out _)|exact HI0.out)),(by repeat (first|(with_reducible first|exact HB.out|apply below_alloc|apply pw_below_drewN|apply below_drew1|refine below_set ?_ (Nat.le_trans HL.out GB11.out)|refine below_set ?_ (IsS120.ge HI0.out))|exact HB.out)),(by repeat (first|(with_reducible first|exact HK.out|apply KeepBut.set_|apply keep_drewN|apply keep_drew|apply keep_alloc|refine keep_far ?_ GB11.out _)|exact HK.out))⟩
 rw [if_neg c5] at H
 have c5b0:(t560==0)=false:=beq_eq_false_iff_ne.mpr c5
 have c5b1:(t560 != 0)=true:=bne_iff_ne.mpr c5
 by_cases c26:t560=1
 ·rw [if_pos c26] at H
  have c26b0:(t560==1)=true:=beq_iff_eq.mpr c26
  have c26b1:(t560 != 1)=false:=bne_eq_false_iff_eq.mpr c26
  clear c26
  by_cases c27:(y557.length:Int) > 0
  rotate_left
  ·rw [if_neg c27] at H
   have c27b0:decide (0 < (y557.length:Int))=false:=decide_eq_false c27
   have c27b1:decide (0 < y557.length)=false:=decide_eq_false (by omega)
   clear c27
   simp only [Option.some.injEq,Prod.mk.injEq] at H
   obtain ⟨rfl,rfl,rfl⟩:=H
   go_enter Try.func94,Try.ntmps94
   go_wp2_with (first|((with_reducible refine gate_dst (N:=7) rfl ?_);refine Kd.R_lit (Kd.int .u8) _ 5 ?hg (N:=7) ?hd (xs:=([]:List Int)) (inner:=[]) (ok:=fun _=>True) (okp:=fun _=>True) ?hr ?hp (fun _ hk=>hk) trivial (Below.refl _ _) (Nat.le_refl _) (by simp) ?_;(case hd=>rfl);(case hg=>rfl);(case hr=>first|(go_simp;done)|(go_simp;rfl));(case hp=>exact (Reps.none _ _));intro v555 w38 ho39 hb hg_ hnew_;clear hg_ hnew_;(first|rw [← Ny554.out] at ho39|(simp only [Int.reduceToNat] at ho39;rw [← Ny554.out] at ho39));have n0_:=Aside0.mk (Kd.R_lower ho39 (keep_size (w:=w) (g:=g) (row:=none) Z18_13));have n1_:=Aside0.mk Z18_7;have n2_:=Aside0.mk Z18_5;have n3_:=Aside0.mk Z18_8;clear HI0;clear HK;clear HB;have HO556:=n0_;have HI0:=n1_;have HK:=n2_;have HB:=n3_;clear n0_ n1_ n2_ n3_;clear hb ho39)|((with_reducible refine gate_builtin (b := .append) (xs:=#[.tmp 7,.tmp 8]) rfl ?_);at_builtin;refine Kd.R_append_rows (Kd.int .u8) w.heap.size rfl (.tmp 7) (.tmp 8) 22 5 (.int .u8 0) 1 rfl Try.underlying22 info5 rfl (by decide) (by omega) v555 y554 l1 _ _ _ (fun _=>True) (fun _=>False) rfl rfl ?aO ?aR (fun _ _ h=>h) (fun _ h=>h.elim) ?aF (Below.refl _ _) ?aS ?aL ?_;(case aR=>exact Kd.C_keep 0 HR1.out Z18_13 hf1);(case aF=>exact (fun _ _=>trivial));(case aO=>exact Z18_17);(case aS=>exact (keep_size (w:=w) (g:=g) (row:=none) Z18_13));(case aL=>have:=LMc3.out;omega);intro v558 w40 ho hb hg hat;rw [← Ny557.out] at ho;have n0_:=Aside0.mk Z18_3;have n1_:=Aside0.mk Z18_6;have n2_:=Aside0.mk Z18_4;have n3_:=Aside0.mk (ho);clear HI0;clear HB;clear HK;clear HO556;have HI0:=n0_;have HB:=n1_;have HK:=n2_;have HO559:=n3_;clear n0_ n1_ n2_ n3_;clear ho hb hg hat)|((with_reducible refine gate_callee (f:=74) rfl ?_);refine goesL_ (some 11) rfl rfl Try.func74 (by kernel_rfl) rfl #[.pointer (some ⟨g,0,none⟩),.int .i64 8] rfl Z18_14 ?_;(with_reducible refine (spec_l1Below.calls g s0_0 s0_1 s0_2 8 t560 t561 t562 w0 _ ?side1 ?side2 A4.out).mono ?_);(case side1=>repeat (first|(with_reducible first|exact HI0.out|apply IsS120.alloc|apply IsS120.drewN|apply IsS120.drew|apply IsS120.set_1|apply IsS120.set_2)|exact HI0.out));(case side2=>repeat (first|(with_reducible first|exact HB.out|apply below_alloc|apply pw_below_drewN|apply below_drew1|refine below_set ?_ (IsS120.ge HI0.out))|exact HB.out));rintro e w41 ⟨rfl,hi,hb,hk⟩;refine ⟨_,rfl,?_⟩;have n0_:=Aside0.mk Z18_1;have n1_:=Aside0.mk Z18_9;have n2_:=Aside0.mk (hb);have n3_:=Aside0.mk (hi);clear HO559;clear HK;clear HB;clear HI0;have HO559:=n0_;have HK:=n1_;have HB:=n2_;have HI0:=n3_;clear n0_ n1_ n2_ n3_;(try clear hb);(try clear hb2);(try clear hk);(try clear hi);obtain ⟨Ao42,co42,eo42⟩:=Kd.R_slice HO559.out;subst eo42))
   go_ret
   exact ⟨_,Z18_21,Z18_18,Z18_10,Z18_11,Z18_13⟩
  rw [if_pos c27] at H
  have c27b0:decide (0 < (y557.length:Int))=true:=decide_eq_true c27
  have c27b1:decide (0 < y557.length)=true:=decide_eq_true (by omega)
  clear c27
  replace H:=Option.bind_eq_some_iff.mp H
  obtain ⟨⟨t571,t572,t573⟩,A280,H⟩:=H
  replace H:(if 0≤t571 then (if t571≤(y557.length:Int) then (some ((y557.take (t571:Int).toNat),t572,t573)) else (none)) else (none))=some (r1,r2,r3):=H
  have A28:=Aside0.mk A280
  clear A280
  by_cases c29:0≤t571
  rotate_left
  ·rw [if_neg c29] at H
   exact absurd H (by simp)
  rw [if_pos c29] at H
  have c29b0:=eq_true c29
  have c29b1:decide (0≤t571)=true:=decide_eq_true c29
  clear c29
  by_cases c30:t571≤(y557.length:Int)
  rotate_left
  ·rw [if_neg c30] at H
   exact absurd H (by simp)
  rw [if_pos c30] at H
  have c30b0:=eq_true c30
  have c30b1:decide (t571≤(y557.length:Int))=true:=decide_eq_true c30
  clear c30
  obtain ⟨y574,hy574⟩:∃ y_:List Int,y_=(y557.take (t571:Int).toNat):=⟨_,rfl⟩
  replace H:(some (y574,t572,t573))=some (r1,r2,r3):=by first|(rw [hy574];with_reducible exact H)|(have H2_:=(Option.bind_some _ _).symm.trans H;rw [hy574];with_reducible exact H2_)|(have H2_:=(Option.bind_some _ _).symm.trans H;with_reducible exact H2_)|with_reducible exact H|(rw [hy574];exact H)|exact H
  have Ny574:=Aside0.mk hy574
  clear hy574
  simp only [Option.some.injEq,Prod.mk.injEq] at H
  obtain ⟨rfl,rfl,rfl⟩:=H
  go_enter Try.func94,Try.ntmps94
  go_wp2_with (first|((with_reducible refine gate_dst (N:=7) rfl ?_);refine Kd.R_lit (Kd.int .u8) _ 5 ?hg (N:=7) ?hd (xs:=([]:List Int)) (inner:=[]) (ok:=fun _=>True) (okp:=fun _=>True) ?hr ?hp (fun _ hk=>hk) trivial (Below.refl _ _) (Nat.le_refl _) (by simp) ?_;(case hd=>rfl);(case hg=>rfl);(case hr=>first|(go_simp;done)|(go_simp;rfl));(case hp=>exact (Reps.none _ _));intro v555 w31 ho32 hb hg_ hnew_;clear hg_ hnew_;(first|rw [← Ny554.out] at ho32|(simp only [Int.reduceToNat] at ho32;rw [← Ny554.out] at ho32));have n0_:=Aside0.mk (Kd.R_lower ho32 (keep_size (w:=w) (g:=g) (row:=none) Z18_13));have n1_:=Aside0.mk Z18_7;have n2_:=Aside0.mk Z18_5;have n3_:=Aside0.mk Z18_8;clear HI0;clear HK;clear HB;have HO556:=n0_;have HI0:=n1_;have HK:=n2_;have HB:=n3_;clear n0_ n1_ n2_ n3_;clear hb ho32)|((with_reducible refine gate_builtin (b := .append) (xs:=#[.tmp 7,.tmp 8]) rfl ?_);at_builtin;refine Kd.R_append_rows (Kd.int .u8) w.heap.size rfl (.tmp 7) (.tmp 8) 22 5 (.int .u8 0) 1 rfl Try.underlying22 info5 rfl (by decide) (by omega) v555 y554 l1 _ _ _ (fun _=>True) (fun _=>False) rfl rfl ?aO ?aR (fun _ _ h=>h) (fun _ h=>h.elim) ?aF (Below.refl _ _) ?aS ?aL ?_;(case aR=>exact Kd.C_keep 0 HR1.out Z18_13 hf1);(case aF=>exact (fun _ _=>trivial));(case aO=>exact Z18_17);(case aS=>exact (keep_size (w:=w) (g:=g) (row:=none) Z18_13));(case aL=>have:=LMc3.out;omega);intro v558 w33 ho hb hg hat;rw [← Ny557.out] at ho;have n0_:=Aside0.mk Z18_3;have n1_:=Aside0.mk Z18_6;have n2_:=Aside0.mk Z18_4;have n3_:=Aside0.mk (ho);clear HI0;clear HB;clear HK;clear HO556;have HI0:=n0_;have HB:=n1_;have HK:=n2_;have HO559:=n3_;clear n0_ n1_ n2_ n3_;clear ho hb hg hat)|((with_reducible refine gate_callee (f:=74) rfl ?_);refine goesL_ (some 11) rfl rfl Try.func74 (by kernel_rfl) rfl #[.pointer (some ⟨g,0,none⟩),.int .i64 8] rfl Z18_14 ?_;(with_reducible refine (spec_l1Below.calls g s0_0 s0_1 s0_2 8 t560 t561 t562 w0 _ ?side1 ?side2 A4.out).mono ?_);(case side1=>repeat (first|(with_reducible first|exact HI0.out|apply IsS120.alloc|apply IsS120.drewN|apply IsS120.drew|apply IsS120.set_1|apply IsS120.set_2)|exact HI0.out));(case side2=>repeat (first|(with_reducible first|exact HB.out|apply below_alloc|apply pw_below_drewN|apply below_drew1|refine below_set ?_ (IsS120.ge HI0.out))|exact HB.out));rintro e w34 ⟨rfl,hi,hb,hk⟩;refine ⟨_,rfl,?_⟩;have n0_:=Aside0.mk Z18_1;have n1_:=Aside0.mk Z18_9;have n2_:=Aside0.mk (hb);have n3_:=Aside0.mk (hi);clear HO559;clear HK;clear HB;clear HI0;have HO559:=n0_;have HK:=n1_;have HB:=n2_;have HI0:=n3_;clear n0_ n1_ n2_ n3_;(try clear hb);(try clear hb2);(try clear hk);(try clear hi);obtain ⟨Ao35,co35,eo35⟩:=Kd.R_slice HO559.out;subst eo35)|((with_reducible refine gate_callee (f:=74) rfl ?_);refine goesL_ (some 42) rfl rfl Try.func74 (by kernel_rfl) rfl #[.pointer (some ⟨g,0,none⟩),.int .i64 (y557.length:Int)] rfl Z18_14 ?_;(with_reducible refine (spec_l1Below.calls g s0_0 t561 t562 (y557.length:Int) t571 t572 t573 w0 _ ?side1 ?side2 A28.out).mono ?_);(case side1=>repeat (first|(with_reducible first|exact HI0.out|apply IsS120.alloc|apply IsS120.drewN|apply IsS120.drew|apply IsS120.set_1|apply IsS120.set_2)|exact HI0.out));(case side2=>repeat (first|(with_reducible first|exact HB.out|apply below_alloc|apply pw_below_drewN|apply below_drew1|refine below_set ?_ (IsS120.ge HI0.out))|exact HB.out));rintro e w36 ⟨rfl,hi,hb,hk⟩;refine ⟨_,rfl,?_⟩;have n0_:=Aside0.mk Z18_2;have n1_:=Aside0.mk Z18_9;have n2_:=Aside0.mk (hb);have n3_:=Aside0.mk (hi);clear HO559;clear HK;clear HB;clear HI0;have HO559:=n0_;have HK:=n1_;have HB:=n2_;have HI0:=n3_;clear n0_ n1_ n2_ n3_;(try clear hb);(try clear hb2);(try clear hk);(try clear hi);have q37:(t571:Int)≤((y557.length:Int):Int):=of_decide_eq_true Z18_22;obtain ⟨i037,hi037,_,hsz37,_⟩:=info_parts info5;have hcut37:=cut_to (P:=Try.prog) 22 5 .i64 Try.underlying22 hi037 Ao35 y557.length co35 t571 (of_decide_eq_true Z18_22) q37 (Kd.R_reads' HO559.out).2.1;have hr37:=Kd.R_take (m:=(t571:Int).toNat) HO559.out (by omega);have hy37:y574.length=(t571:Int).toNat:=(by rw [Ny574.out,List.length_take];omega);rw [← Ny574.out] at hr37;rw [← hy37] at hr37 hcut37;clear hy37 hi037 hsz37 HO559;have HO576:=Aside0.mk hr37;clear hr37;replace q37:=eq_true q37))
  go_ret
  exact ⟨_,Z18_21,(by (with_reducible repeat (first|apply Kd.R_alloc|apply Kd.R_drewN|apply Kd.R_drew));exact HO576.out),Z18_10,Z18_11,Z18_13⟩
 rw [if_neg c26] at H
 have c26b0:(t560==1)=false:=beq_eq_false_iff_ne.mpr c26
 have c26b1:(t560 != 1)=true:=bne_iff_ne.mpr c26
 by_cases c43:t560=2
 rotate_left
 ·rw [if_neg c43] at H
  have c43b0:(t560==2)=false:=beq_eq_false_iff_ne.mpr c43
  have c43b1:(t560 != 2)=true:=bne_iff_ne.mpr c43
  simp only [Option.some.injEq,Prod.mk.injEq] at H
  obtain ⟨rfl,rfl,rfl⟩:=H
  go_enter Try.func94,Try.ntmps94
  go_wp2_with (first|((with_reducible refine gate_dst (N:=7) rfl ?_);refine Kd.R_lit (Kd.int .u8) _ 5 ?hg (N:=7) ?hd (xs:=([]:List Int)) (inner:=[]) (ok:=fun _=>True) (okp:=fun _=>True) ?hr ?hp (fun _ hk=>hk) trivial (Below.refl _ _) (Nat.le_refl _) (by simp) ?_;(case hd=>rfl);(case hg=>rfl);(case hr=>first|(go_simp;done)|(go_simp;rfl));(case hp=>exact (Reps.none _ _));intro v555 w52 ho53 hb hg_ hnew_;clear hg_ hnew_;(first|rw [← Ny554.out] at ho53|(simp only [Int.reduceToNat] at ho53;rw [← Ny554.out] at ho53));have n0_:=Aside0.mk (Kd.R_lower ho53 (keep_size (w:=w) (g:=g) (row:=none) Z18_13));have n1_:=Aside0.mk Z18_7;have n2_:=Aside0.mk Z18_5;have n3_:=Aside0.mk Z18_8;clear HI0;clear HK;clear HB;have HO556:=n0_;have HI0:=n1_;have HK:=n2_;have HB:=n3_;clear n0_ n1_ n2_ n3_;clear hb ho53)|((with_reducible refine gate_builtin (b := .append) (xs:=#[.tmp 7,.tmp 8]) rfl ?_);at_builtin;refine Kd.R_append_rows (Kd.int .u8) w.heap.size rfl (.tmp 7) (.tmp 8) 22 5 (.int .u8 0) 1 rfl Try.underlying22 info5 rfl (by decide) (by omega) v555 y554 l1 _ _ _ (fun _=>True) (fun _=>False) rfl rfl ?aO ?aR (fun _ _ h=>h) (fun _ h=>h.elim) ?aF (Below.refl _ _) ?aS ?aL ?_;(case aR=>exact Kd.C_keep 0 HR1.out Z18_13 hf1);(case aF=>exact (fun _ _=>trivial));(case aO=>exact Z18_17);(case aS=>exact (keep_size (w:=w) (g:=g) (row:=none) Z18_13));(case aL=>have:=LMc3.out;omega);intro v558 w54 ho hb hg hat;rw [← Ny557.out] at ho;have n0_:=Aside0.mk Z18_3;have n1_:=Aside0.mk Z18_6;have n2_:=Aside0.mk Z18_4;have n3_:=Aside0.mk (ho);clear HI0;clear HB;clear HK;clear HO556;have HI0:=n0_;have HB:=n1_;have HK:=n2_;have HO559:=n3_;clear n0_ n1_ n2_ n3_;clear ho hb hg hat)|((with_reducible refine gate_callee (f:=74) rfl ?_);refine goesL_ (some 11) rfl rfl Try.func74 (by kernel_rfl) rfl #[.pointer (some ⟨g,0,none⟩),.int .i64 8] rfl Z18_14 ?_;(with_reducible refine (spec_l1Below.calls g s0_0 s0_1 s0_2 8 t560 t561 t562 w0 _ ?side1 ?side2 A4.out).mono ?_);(case side1=>repeat (first|(with_reducible first|exact HI0.out|apply IsS120.alloc|apply IsS120.drewN|apply IsS120.drew|apply IsS120.set_1|apply IsS120.set_2)|exact HI0.out));(case side2=>repeat (first|(with_reducible first|exact HB.out|apply below_alloc|apply pw_below_drewN|apply below_drew1|refine below_set ?_ (IsS120.ge HI0.out))|exact HB.out));rintro e w55 ⟨rfl,hi,hb,hk⟩;refine ⟨_,rfl,?_⟩;have n0_:=Aside0.mk Z18_1;have n1_:=Aside0.mk Z18_9;have n2_:=Aside0.mk (hb);have n3_:=Aside0.mk (hi);clear HO559;clear HK;clear HB;clear HI0;have HO559:=n0_;have HK:=n1_;have HB:=n2_;have HI0:=n3_;clear n0_ n1_ n2_ n3_;(try clear hb);(try clear hb2);(try clear hk);(try clear hi)))
  go_ret
  exact ⟨_,Z18_21,Z18_18,Z18_10,Z18_11,Z18_13⟩
 rw [if_pos c43] at H
 have c43b0:(t560==2)=true:=beq_iff_eq.mpr c43
 have c43b1:(t560 != 2)=false:=bne_eq_false_iff_eq.mpr c43
 clear c43
 replace H:=Option.bind_eq_some_iff.mp H
 obtain ⟨⟨t577,t578,t579⟩,A440,H⟩:=H
 replace H:(if y557.length < 140737488355328 then (some ((y557++[(t577) % 256]),t578,t579)) else (none))=some (r1,r2,r3):=H
 have A44:=Aside0.mk A440
 clear A440
 by_cases c45:y557.length < 140737488355328
 rotate_left
 ·rw [if_neg c45] at H
  exact absurd H (by simp)
 rw [if_pos c45] at H
 have LMc45:=Aside0.mk c45
 clear c45
 obtain ⟨y580,hy580⟩:∃ y_:List Int,y_=(y557++[(t577) % 256]):=⟨_,rfl⟩
 replace H:(some (y580,t578,t579))=some (r1,r2,r3):=by first|(rw [hy580];with_reducible exact H)|(have H2_:=(Option.bind_some _ _).symm.trans H;rw [hy580];with_reducible exact H2_)|(have H2_:=(Option.bind_some _ _).symm.trans H;with_reducible exact H2_)|with_reducible exact H|(rw [hy580];exact H)|exact H
 have Ny580:=Aside0.mk hy580
 clear hy580
 simp only [Option.some.injEq,Prod.mk.injEq] at H
 obtain ⟨rfl,rfl,rfl⟩:=H
 go_enter Try.func94,Try.ntmps94
 go_wp2_with (first|((with_reducible refine gate_dst (N:=7) rfl ?_);refine Kd.R_lit (Kd.int .u8) _ 5 ?hg (N:=7) ?hd (xs:=([]:List Int)) (inner:=[]) (ok:=fun _=>True) (okp:=fun _=>True) ?hr ?hp (fun _ hk=>hk) trivial (Below.refl _ _) (Nat.le_refl _) (by simp) ?_;(case hd=>rfl);(case hg=>rfl);(case hr=>first|(go_simp;done)|(go_simp;rfl));(case hp=>exact (Reps.none _ _));intro v555 w46 ho47 hb hg_ hnew_;clear hg_ hnew_;(first|rw [← Ny554.out] at ho47|(simp only [Int.reduceToNat] at ho47;rw [← Ny554.out] at ho47));have n0_:=Aside0.mk (Kd.R_lower ho47 (keep_size (w:=w) (g:=g) (row:=none) Z18_13));have n1_:=Aside0.mk Z18_7;have n2_:=Aside0.mk Z18_5;have n3_:=Aside0.mk Z18_8;clear HI0;clear HK;clear HB;have HO556:=n0_;have HI0:=n1_;have HK:=n2_;have HB:=n3_;clear n0_ n1_ n2_ n3_;clear hb ho47)|((with_reducible refine gate_builtin (b := .append) (xs:=#[.tmp 7,.tmp 8]) rfl ?_);at_builtin;refine Kd.R_append_rows (Kd.int .u8) w.heap.size rfl (.tmp 7) (.tmp 8) 22 5 (.int .u8 0) 1 rfl Try.underlying22 info5 rfl (by decide) (by omega) v555 y554 l1 _ _ _ (fun _=>True) (fun _=>False) rfl rfl ?aO ?aR (fun _ _ h=>h) (fun _ h=>h.elim) ?aF (Below.refl _ _) ?aS ?aL ?_;(case aR=>exact Kd.C_keep 0 HR1.out Z18_13 hf1);(case aF=>exact (fun _ _=>trivial));(case aO=>exact Z18_17);(case aS=>exact (keep_size (w:=w) (g:=g) (row:=none) Z18_13));(case aL=>have:=LMc3.out;omega);intro v558 w48 ho hb hg hat;rw [← Ny557.out] at ho;have n0_:=Aside0.mk Z18_3;have n1_:=Aside0.mk Z18_6;have n2_:=Aside0.mk Z18_4;have n3_:=Aside0.mk (ho);clear HI0;clear HB;clear HK;clear HO556;have HI0:=n0_;have HB:=n1_;have HK:=n2_;have HO559:=n3_;clear n0_ n1_ n2_ n3_;clear ho hb hg hat)|((with_reducible refine gate_callee (f:=74) rfl ?_);refine goesL_ (some 11) rfl rfl Try.func74 (by kernel_rfl) rfl #[.pointer (some ⟨g,0,none⟩),.int .i64 8] rfl Z18_14 ?_;(with_reducible refine (spec_l1Below.calls g s0_0 s0_1 s0_2 8 t560 t561 t562 w0 _ ?side1 ?side2 A4.out).mono ?_);(case side1=>repeat (first|(with_reducible first|exact HI0.out|apply IsS120.alloc|apply IsS120.drewN|apply IsS120.drew|apply IsS120.set_1|apply IsS120.set_2)|exact HI0.out));(case side2=>repeat (first|(with_reducible first|exact HB.out|apply below_alloc|apply pw_below_drewN|apply below_drew1|refine below_set ?_ (IsS120.ge HI0.out))|exact HB.out));rintro e w49 ⟨rfl,hi,hb,hk⟩;refine ⟨_,rfl,?_⟩;have n0_:=Aside0.mk Z18_1;have n1_:=Aside0.mk Z18_9;have n2_:=Aside0.mk (hb);have n3_:=Aside0.mk (hi);clear HO559;clear HK;clear HB;clear HI0;have HO559:=n0_;have HK:=n1_;have HB:=n2_;have HI0:=n3_;clear n0_ n1_ n2_ n3_;(try clear hb);(try clear hb2);(try clear hk);(try clear hi))|((with_reducible refine gate_callee (f:=127) rfl ?_);refine goesL_ (some 48) rfl rfl Try.func127 (by kernel_rfl) rfl #[.pointer (some ⟨g,0,none⟩)] rfl Z18_14 ?_;(with_reducible refine (spec_l1Byte.calls g s0_0 t561 t562 t577 t578 t579 w0 _ ?side1 ?side2 A44.out).mono ?_);(case side1=>repeat (first|(with_reducible first|exact HI0.out|apply IsS120.alloc|apply IsS120.drewN|apply IsS120.drew|apply IsS120.set_1|apply IsS120.set_2)|exact HI0.out));(case side2=>repeat (first|(with_reducible first|exact HB.out|apply below_alloc|apply pw_below_drewN|apply below_drew1|refine below_set ?_ (IsS120.ge HI0.out))|exact HB.out));rintro e w50 ⟨rfl,hi,hb,hk⟩;refine ⟨_,rfl,?_⟩;have n0_:=Aside0.mk Z18_2;have n1_:=Aside0.mk Z18_9;have n2_:=Aside0.mk (hb);have n3_:=Aside0.mk (hi);clear HO559;clear HK;clear HB;clear HI0;have HO559:=n0_;have HK:=n1_;have HB:=n2_;have HI0:=n3_;clear n0_ n1_ n2_ n3_;(try clear hb);(try clear hb2);(try clear hk);(try clear hi))|((with_reducible refine gate_builtin (b := .append) (xs:=#[.tmp 46,.tmp 50]) rfl ?_);at_builtin;refine Kd.R_append (Kd.int .u8) w.heap.size rfl (.tmp 46) (.tmp 50) 22 5 (.int .u8 0) 1 rfl Try.underlying22 info5 rfl (by decide) (by omega) v558 y557 ((t577) % 256) [.int .u8 ((t577) % 256)] (fun _=>True) (fun _=>False) rfl rfl ?aP (fun _ hk=>hk.elim) ?aF ?aO (Below.refl _ _) ?aS ?aL ?_;(case aP=>exact rfl);(case aF=>exact (fun _ _=>trivial));(case aO=>exact Z18_18);(case aS=>exact (keep_size (w:=w) (g:=g) (row:=none) Z18_13));(case aL=>have:=LMc45.out;omega);intro v581 w51 ho hb hg hat;rw [← Ny580.out] at ho;have n0_:=Aside0.mk (IsS120.grown Z18_10 hg (IsS120.own_ne HI0.out HO559.out (by decide)));have n1_:=Aside0.mk Z18_6;have n2_:=Aside0.mk (KeepBut.trans Z18_13 (KeepBut.of_grown hg g) (Kd.R_base2 HO559.out));have n3_:=Aside0.mk (ho);clear HI0;clear HB;clear HK;clear HO559;have HI0:=n0_;have HB:=n1_;have HK:=n2_;have HO582:=n3_;clear n0_ n1_ n2_ n3_;clear ho hb hg hat))
 go_ret
 exact ⟨_,Z18_21,(by (with_reducible repeat (first|apply Kd.R_alloc|apply Kd.R_drewN|apply Kd.R_drew));exact HO582.out),Z18_10,Z18_11,Z18_13⟩
end Go.Proofs.Ytfkidiagmekleaa.QAll
