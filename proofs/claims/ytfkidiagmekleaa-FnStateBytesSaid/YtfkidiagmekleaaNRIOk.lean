import Derived.Test.YtfkidiagmekleaaNVZ
import Derived.Test.YtfkidiagmekleaaNQAllx0
import Derived.Test.YtfkidiagmekleaaNRBas
namespace Go.Proofs.Ytfkidiagmekleaa.QAll
open Go.RowKit Go.Proofs.YtfkidiagmekleaaW.PrintWords Go.Proofs.YtfkidiagmekleaaW.PrintLast Go.Proofs.YtfkidiagmekleaaW.PrintMore
attribute [local go_sem] max2_int min2_int max_two min_two max_three min_three max_four min_four
set_option linter.unusedVariables false
set_option linter.unusedSimpArgs false
theorem Z9_1 {p:Prop} (h:p:=by exact ((by rw [hg];exact (below_size (by repeat (first|(with_reducible first|exact HB.out|apply below_alloc|apply pw_below_drewN|apply below_drew1)|exact HB.out))):w.heap.size≤gb395))):p:=h
theorem Z9_2 {p:Prop} (h:p:=by repeat (first|(with_reducible first|exact HB.out|apply below_alloc|apply pw_below_drewN|apply below_drew1|refine below_set ?_ GE395.out)|exact HB.out)):p:=h
theorem Z9_3 {p:Prop} (h:p:=by (try simp only [List.map_toArray,List.map_cons,List.map_nil]);first|done|rfl|(simp only [List.length_drop,List.length_take];rfl)):p:=h
theorem Z9_4 {p:Prop} (h:p:=by (with_reducible repeat (first|refine blk_drewN ?_ _|refine blk_drew ?_|refine blk_alloc ?_ _));exact BK395.out):p:=h
theorem Z9_5 {p:Prop} (h:p:=by first|rfl|(simp [errW_none,errW_some]<;>rfl)|(simp [*,errW_none,errW_some]<;>rfl)):p:=h
theorem Z9_6 {p:Prop} (h:p:=by first|rfl|(simp;done)|(simp [*];done)):p:=h
def impl_PieceOk.j0:Nat→Bool→Int→Int→Int→Int→Int→Int→Int→Int→Int→Int→Int→Bool→Bool→Option (Bool)
 | 0,_,_,_,_,_,_,_,_,_,_,_,_,_,_=>none
 | k+1,x48,x396000,x396001,x396002,x396003,x396004,x396005,x396006,x396007,x396008,x396009,x396010,x396011,x396012=>if x48=true then (some false) else (if x396003=2 then ((impl_isAmount.f x396008).bind fun t404=>(if t404=true then ((impl_isAmount.f x396009).bind fun t405=>(if t405=true then ((impl_isAmount.f x396010).bind fun t406=>(some t406)) else (some false))) else (some false))) else (if x396002=x396001 then (if x396008=0 then (if x396009=0 then (if x396010=0 then (if x396011=true then (some false) else (some (!x396012))) else (some false)) else (some false)) else (some false)) else (some false)))
def impl_PieceOk.f (k:Nat) (a0_0:Int) (a0_1:Int) (a0_2:Int) (a0_3:Int) (a0_4:Int) (a0_5:Int) (a0_6:Int) (a0_7:Int) (a0_8:Int) (a0_9:Int) (a0_10:Int) (a0_11:Bool) (a0_12:Bool):Option (Bool):=(impl_isId.f a0_0).bind fun t396=>(if t396=true then ((impl_isPlayer.f a0_1).bind fun t397=>(if t397=true then ((impl_isPlayer.f a0_2).bind fun t398=>(if t398=true then ((impl_isZone.f a0_3).bind fun t399=>(if t399=true then ((impl_isTime.f a0_4).bind fun t400=>(if t400=true then ((impl_from.f a0_5 0 999).bind fun t401=>(if t401=true then ((impl_from.f a0_6 0 999).bind fun t402=>(if t402=true then ((impl_isTraits.f a0_7).bind fun t403=>(impl_PieceOk.j0 k (!t403) a0_0 a0_1 a0_2 a0_3 a0_4 a0_5 a0_6 a0_7 a0_8 a0_9 a0_10 a0_11 a0_12)) else (impl_PieceOk.j0 k true a0_0 a0_1 a0_2 a0_3 a0_4 a0_5 a0_6 a0_7 a0_8 a0_9 a0_10 a0_11 a0_12))) else (impl_PieceOk.j0 k true a0_0 a0_1 a0_2 a0_3 a0_4 a0_5 a0_6 a0_7 a0_8 a0_9 a0_10 a0_11 a0_12))) else (impl_PieceOk.j0 k true a0_0 a0_1 a0_2 a0_3 a0_4 a0_5 a0_6 a0_7 a0_8 a0_9 a0_10 a0_11 a0_12))) else (impl_PieceOk.j0 k true a0_0 a0_1 a0_2 a0_3 a0_4 a0_5 a0_6 a0_7 a0_8 a0_9 a0_10 a0_11 a0_12))) else (impl_PieceOk.j0 k true a0_0 a0_1 a0_2 a0_3 a0_4 a0_5 a0_6 a0_7 a0_8 a0_9 a0_10 a0_11 a0_12))) else (impl_PieceOk.j0 k true a0_0 a0_1 a0_2 a0_3 a0_4 a0_5 a0_6 a0_7 a0_8 a0_9 a0_10 a0_11 a0_12))) else (impl_PieceOk.j0 k true a0_0 a0_1 a0_2 a0_3 a0_4 a0_5 a0_6 a0_7 a0_8 a0_9 a0_10 a0_11 a0_12))
set_option maxHeartbeats 8000000 in
set_option maxRecDepth 100000 in
theorem impl_PieceOk.calls (k:Nat) (a0_0:Int) (a0_1:Int) (a0_2:Int) (a0_3:Int) (a0_4:Int) (a0_5:Int) (a0_6:Int) (a0_7:Int) (a0_8:Int) (a0_9:Int) (a0_10:Int) (a0_11:Bool) (a0_12:Bool) (r:Bool) (w:World) (h:impl_PieceOk.f k a0_0 a0_1 a0_2 a0_3 a0_4 a0_5 a0_6 a0_7 a0_8 a0_9 a0_10 a0_11 a0_12=some r) :
  Calls Try.prog 18 #[.agg #[.int .i64 a0_0,.int .i64 a0_1,.int .i64 a0_2,.int .i64 a0_3,.int .i64 a0_4,.int .i64 a0_5,.int .i64 a0_6,.int .i64 a0_7,.int .i64 a0_8,.int .i64 a0_9,.int .i64 a0_10,.bool a0_11,.bool a0_12]] w fun e w'=>e = .returned (.bool r)∧Below w.heap.size w w':=by
 have hu25:=Try.underlying25
 have HB:=Aside0.mk (Below.refl w.heap.size w)
 have H:((impl_isId.f a0_0).bind fun t396=>(if t396=true then ((impl_isPlayer.f a0_1).bind fun t397=>(if t397=true then ((impl_isPlayer.f a0_2).bind fun t398=>(if t398=true then ((impl_isZone.f a0_3).bind fun t399=>(if t399=true then ((impl_isTime.f a0_4).bind fun t400=>(if t400=true then ((impl_from.f a0_5 0 999).bind fun t401=>(if t401=true then ((impl_from.f a0_6 0 999).bind fun t402=>(if t402=true then ((impl_isTraits.f a0_7).bind fun t403=>(impl_PieceOk.j0 k (!t403) a0_0 a0_1 a0_2 a0_3 a0_4 a0_5 a0_6 a0_7 a0_8 a0_9 a0_10 a0_11 a0_12)) else (impl_PieceOk.j0 k true a0_0 a0_1 a0_2 a0_3 a0_4 a0_5 a0_6 a0_7 a0_8 a0_9 a0_10 a0_11 a0_12))) else (impl_PieceOk.j0 k true a0_0 a0_1 a0_2 a0_3 a0_4 a0_5 a0_6 a0_7 a0_8 a0_9 a0_10 a0_11 a0_12))) else (impl_PieceOk.j0 k true a0_0 a0_1 a0_2 a0_3 a0_4 a0_5 a0_6 a0_7 a0_8 a0_9 a0_10 a0_11 a0_12))) else (impl_PieceOk.j0 k true a0_0 a0_1 a0_2 a0_3 a0_4 a0_5 a0_6 a0_7 a0_8 a0_9 a0_10 a0_11 a0_12))) else (impl_PieceOk.j0 k true a0_0 a0_1 a0_2 a0_3 a0_4 a0_5 a0_6 a0_7 a0_8 a0_9 a0_10 a0_11 a0_12))) else (impl_PieceOk.j0 k true a0_0 a0_1 a0_2 a0_3 a0_4 a0_5 a0_6 a0_7 a0_8 a0_9 a0_10 a0_11 a0_12))) else (impl_PieceOk.j0 k true a0_0 a0_1 a0_2 a0_3 a0_4 a0_5 a0_6 a0_7 a0_8 a0_9 a0_10 a0_11 a0_12)))=some r:=h
 clear h
 have HC2:=Aside0.mk H
 clear H
 go_enter Try.func18,Try.ntmps18
 go_upto_region 1 with (first|((with_reducible refine gate_dst (N:=1) rfl ?_);refine box_event ?hg (N:=1) ?hd (cs:=#[.int .i64 a0_0,.int .i64 a0_1,.int .i64 a0_2,.int .i64 a0_3,.int .i64 a0_4,.int .i64 a0_5,.int .i64 a0_6,.int .i64 a0_7,.int .i64 a0_8,.int .i64 a0_9,.int .i64 a0_10,.bool a0_11,.bool a0_12]) (t:=25) ?hr ?_;(case hd=>rfl);(case hg=>rfl);(case hr=>first|(go_simp;done)|(go_simp;rfl));intro gb395 hg w3 hbox hb;have n0_:=Aside0.mk (below_step (by repeat (first|(with_reducible first|exact HB.out|apply below_alloc|apply pw_below_drewN|apply below_drew1)|exact HB.out)) hb);have n1_:=Aside0.mk (hbox);have n2_:=Aside0.mk Z9_1;have n3_:=Aside0.mk Z9_1;clear HB;have HB:=n0_;have BK395:=n1_;have GW395:=n2_;have GE395:=n3_;clear n0_ n1_ n2_ n3_;clear hb hbox hg))
 (try simp only [Act.put,List.setIfInBounds_toArray,List.set_cons_zero,List.set_cons_succ])
 go_cut [48] (fun v48 wc=>∃ (kq:Nat) (x48_1:Bool),v48 = .bool x48_1∧Aside0 (impl_PieceOk.j0 kq x48_1 a0_0 a0_1 a0_2 a0_3 a0_4 a0_5 a0_6 a0_7 a0_8 a0_9 a0_10 a0_11 a0_12=some r)∧Aside0 (kq≤k)∧Aside0 (wc.heap[gb395]?=some (.cells #[.int .i64 a0_0,.int .i64 a0_1,.int .i64 a0_2,.int .i64 a0_3,.int .i64 a0_4,.int .i64 a0_5,.int .i64 a0_6,.int .i64 a0_7,.int .i64 a0_8,.int .i64 a0_9,.int .i64 a0_10,.bool a0_11,.bool a0_12] 25 (0,0)))∧Aside0 (Below w.heap.size w wc))
 case first =>
  have H:=HC2.out
  clear HC2
  replace H:=Option.bind_eq_some_iff.mp H
  obtain ⟨t396,A40,H⟩:=H
  (try dsimp only at H)
  have A4:=Aside0.mk A40
  clear A40
  by_cases c5:t396=true
  rotate_left
  ·replace c5:=Bool.eq_false_iff.mpr c5
   subst c5
   have H1:(impl_PieceOk.j0 k true a0_0 a0_1 a0_2 a0_3 a0_4 a0_5 a0_6 a0_7 a0_8 a0_9 a0_10 a0_11 a0_12)=some r:=by rw [if_neg (show ¬ (false=true) by decide)] at H;exact H
   clear H
   have H:=H1
   clear H1
   have H':=Aside0.mk H
   clear H
   obtain ⟨⟨hcz26_0,hcz26_1,hcz26_2,hcz26_3,hcz26_4,hcz26_5,hcz26_6,hcz26_7,hcz26_8,hcz26_9,hcz26_10,hcz26_11,hcz26_12⟩,hfz26_0,hfz26_1,hfz26_2,hfz26_3,hfz26_4,hfz26_5,hfz26_6,hfz26_7,hfz26_8,hfz26_9,hfz26_10,hfz26_11,hfz26_12⟩:=C_z0 BK395.out
   go_wp2_with (first|((with_reducible refine gate_callee (f:=77) rfl ?_);refine goesL_ (some 5) rfl rfl Try.func77 (by kernel_rfl) rfl #[.int .i64 a0_0] rfl Z9_3 ?_;(with_reducible refine (impl_isId.calls a0_0 false _ A4.out).mono ?_);rintro e w' ⟨rfl,⟨nd,rfl⟩⟩;refine ⟨_,rfl,?_⟩))
   go_meet
   case rel=>exact ⟨_,(true),Z9_6,H',⟨(by first|omega|exact Nat.le_refl _)⟩,⟨Z9_4⟩,⟨Z9_2⟩⟩
  subst c5
  rw [if_pos rfl] at H
  replace H:=Option.bind_eq_some_iff.mp H
  obtain ⟨t397,A60,H⟩:=H
  (try dsimp only at H)
  have A6:=Aside0.mk A60
  clear A60
  by_cases c7:t397=true
  rotate_left
  ·replace c7:=Bool.eq_false_iff.mpr c7
   subst c7
   have H1:(impl_PieceOk.j0 k true a0_0 a0_1 a0_2 a0_3 a0_4 a0_5 a0_6 a0_7 a0_8 a0_9 a0_10 a0_11 a0_12)=some r:=by rw [if_neg (show ¬ (false=true) by decide)] at H;exact H
   clear H
   have H:=H1
   clear H1
   have H':=Aside0.mk H
   clear H
   obtain ⟨⟨hcz25_0,hcz25_1,hcz25_2,hcz25_3,hcz25_4,hcz25_5,hcz25_6,hcz25_7,hcz25_8,hcz25_9,hcz25_10,hcz25_11,hcz25_12⟩,hfz25_0,hfz25_1,hfz25_2,hfz25_3,hfz25_4,hfz25_5,hfz25_6,hfz25_7,hfz25_8,hfz25_9,hfz25_10,hfz25_11,hfz25_12⟩:=C_z0 BK395.out
   go_wp2_with (first|((with_reducible refine gate_callee (f:=77) rfl ?_);refine goesL_ (some 5) rfl rfl Try.func77 (by kernel_rfl) rfl #[.int .i64 a0_0] rfl Z9_3 ?_;(with_reducible refine (impl_isId.calls a0_0 true _ A4.out).mono ?_);rintro e w' ⟨rfl,⟨nd,rfl⟩⟩;refine ⟨_,rfl,?_⟩)|(go_at_call 78;(with_reducible refine (impl_isPlayer.calls a0_1 false _ A6.out).mono ?_);rintro e w' ⟨rfl,⟨nd,rfl⟩⟩))
   go_meet
   case rel=>exact ⟨_,(true),Z9_6,H',⟨(by first|omega|exact Nat.le_refl _)⟩,⟨Z9_4⟩,⟨Z9_2⟩⟩
  subst c7
  rw [if_pos rfl] at H
  replace H:=Option.bind_eq_some_iff.mp H
  obtain ⟨t398,A80,H⟩:=H
  (try dsimp only at H)
  have A8:=Aside0.mk A80
  clear A80
  by_cases c9:t398=true
  rotate_left
  ·replace c9:=Bool.eq_false_iff.mpr c9
   subst c9
   have H1:(impl_PieceOk.j0 k true a0_0 a0_1 a0_2 a0_3 a0_4 a0_5 a0_6 a0_7 a0_8 a0_9 a0_10 a0_11 a0_12)=some r:=by rw [if_neg (show ¬ (false=true) by decide)] at H;exact H
   clear H
   have H:=H1
   clear H1
   have H':=Aside0.mk H
   clear H
   obtain ⟨⟨hcz24_0,hcz24_1,hcz24_2,hcz24_3,hcz24_4,hcz24_5,hcz24_6,hcz24_7,hcz24_8,hcz24_9,hcz24_10,hcz24_11,hcz24_12⟩,hfz24_0,hfz24_1,hfz24_2,hfz24_3,hfz24_4,hfz24_5,hfz24_6,hfz24_7,hfz24_8,hfz24_9,hfz24_10,hfz24_11,hfz24_12⟩:=C_z0 BK395.out
   go_wp2_with (first|((with_reducible refine gate_callee (f:=77) rfl ?_);refine goesL_ (some 5) rfl rfl Try.func77 (by kernel_rfl) rfl #[.int .i64 a0_0] rfl Z9_3 ?_;(with_reducible refine (impl_isId.calls a0_0 true _ A4.out).mono ?_);rintro e w' ⟨rfl,⟨nd,rfl⟩⟩;refine ⟨_,rfl,?_⟩)|(go_at_call 78;(with_reducible refine (impl_isPlayer.calls a0_1 true _ A6.out).mono ?_);rintro e w' ⟨rfl,⟨nd,rfl⟩⟩)|(go_at_call 78;(with_reducible refine (impl_isPlayer.calls a0_2 false _ A8.out).mono ?_);rintro e w' ⟨rfl,⟨nd,rfl⟩⟩))
   go_meet
   case rel=>exact ⟨_,(true),Z9_6,H',⟨(by first|omega|exact Nat.le_refl _)⟩,⟨Z9_4⟩,⟨Z9_2⟩⟩
  subst c9
  rw [if_pos rfl] at H
  replace H:=Option.bind_eq_some_iff.mp H
  obtain ⟨t399,A100,H⟩:=H
  (try dsimp only at H)
  have A10:=Aside0.mk A100
  clear A100
  by_cases c11:t399=true
  rotate_left
  ·replace c11:=Bool.eq_false_iff.mpr c11
   subst c11
   have H1:(impl_PieceOk.j0 k true a0_0 a0_1 a0_2 a0_3 a0_4 a0_5 a0_6 a0_7 a0_8 a0_9 a0_10 a0_11 a0_12)=some r:=by rw [if_neg (show ¬ (false=true) by decide)] at H;exact H
   clear H
   have H:=H1
   clear H1
   have H':=Aside0.mk H
   clear H
   obtain ⟨⟨hcz23_0,hcz23_1,hcz23_2,hcz23_3,hcz23_4,hcz23_5,hcz23_6,hcz23_7,hcz23_8,hcz23_9,hcz23_10,hcz23_11,hcz23_12⟩,hfz23_0,hfz23_1,hfz23_2,hfz23_3,hfz23_4,hfz23_5,hfz23_6,hfz23_7,hfz23_8,hfz23_9,hfz23_10,hfz23_11,hfz23_12⟩:=C_z0 BK395.out
   go_wp2_with (first|((with_reducible refine gate_callee (f:=77) rfl ?_);refine goesL_ (some 5) rfl rfl Try.func77 (by kernel_rfl) rfl #[.int .i64 a0_0] rfl Z9_3 ?_;(with_reducible refine (impl_isId.calls a0_0 true _ A4.out).mono ?_);rintro e w' ⟨rfl,⟨nd,rfl⟩⟩;refine ⟨_,rfl,?_⟩)|(go_at_call 78;(with_reducible refine (impl_isPlayer.calls a0_1 true _ A6.out).mono ?_);rintro e w' ⟨rfl,⟨nd,rfl⟩⟩)|(go_at_call 78;(with_reducible refine (impl_isPlayer.calls a0_2 true _ A8.out).mono ?_);rintro e w' ⟨rfl,⟨nd,rfl⟩⟩)|(go_at_call 79;(with_reducible refine (impl_isZone.calls a0_3 false _ A10.out).mono ?_);rintro e w' ⟨rfl,⟨nd,rfl⟩⟩))
   go_meet
   case rel=>exact ⟨_,(true),Z9_6,H',⟨(by first|omega|exact Nat.le_refl _)⟩,⟨Z9_4⟩,⟨Z9_2⟩⟩
  subst c11
  rw [if_pos rfl] at H
  replace H:=Option.bind_eq_some_iff.mp H
  obtain ⟨t400,A120,H⟩:=H
  (try dsimp only at H)
  have A12:=Aside0.mk A120
  clear A120
  by_cases c13:t400=true
  rotate_left
  ·replace c13:=Bool.eq_false_iff.mpr c13
   subst c13
   have H1:(impl_PieceOk.j0 k true a0_0 a0_1 a0_2 a0_3 a0_4 a0_5 a0_6 a0_7 a0_8 a0_9 a0_10 a0_11 a0_12)=some r:=by rw [if_neg (show ¬ (false=true) by decide)] at H;exact H
   clear H
   have H:=H1
   clear H1
   have H':=Aside0.mk H
   clear H
   obtain ⟨⟨hcz22_0,hcz22_1,hcz22_2,hcz22_3,hcz22_4,hcz22_5,hcz22_6,hcz22_7,hcz22_8,hcz22_9,hcz22_10,hcz22_11,hcz22_12⟩,hfz22_0,hfz22_1,hfz22_2,hfz22_3,hfz22_4,hfz22_5,hfz22_6,hfz22_7,hfz22_8,hfz22_9,hfz22_10,hfz22_11,hfz22_12⟩:=C_z0 BK395.out
   go_wp2_with (first|((with_reducible refine gate_callee (f:=77) rfl ?_);refine goesL_ (some 5) rfl rfl Try.func77 (by kernel_rfl) rfl #[.int .i64 a0_0] rfl Z9_3 ?_;(with_reducible refine (impl_isId.calls a0_0 true _ A4.out).mono ?_);rintro e w' ⟨rfl,⟨nd,rfl⟩⟩;refine ⟨_,rfl,?_⟩)|(go_at_call 78;(with_reducible refine (impl_isPlayer.calls a0_1 true _ A6.out).mono ?_);rintro e w' ⟨rfl,⟨nd,rfl⟩⟩)|(go_at_call 78;(with_reducible refine (impl_isPlayer.calls a0_2 true _ A8.out).mono ?_);rintro e w' ⟨rfl,⟨nd,rfl⟩⟩)|(go_at_call 79;(with_reducible refine (impl_isZone.calls a0_3 true _ A10.out).mono ?_);rintro e w' ⟨rfl,⟨nd,rfl⟩⟩)|(go_at_call 80;(with_reducible refine (impl_isTime.calls a0_4 false _ A12.out).mono ?_);rintro e w' ⟨rfl,⟨nd,rfl⟩⟩))
   go_meet
   case rel=>exact ⟨_,(true),Z9_6,H',⟨(by first|omega|exact Nat.le_refl _)⟩,⟨Z9_4⟩,⟨Z9_2⟩⟩
  subst c13
  rw [if_pos rfl] at H
  replace H:=Option.bind_eq_some_iff.mp H
  obtain ⟨t401,A140,H⟩:=H
  (try dsimp only at H)
  have A14:=Aside0.mk A140
  clear A140
  by_cases c15:t401=true
  rotate_left
  ·replace c15:=Bool.eq_false_iff.mpr c15
   subst c15
   have H1:(impl_PieceOk.j0 k true a0_0 a0_1 a0_2 a0_3 a0_4 a0_5 a0_6 a0_7 a0_8 a0_9 a0_10 a0_11 a0_12)=some r:=by rw [if_neg (show ¬ (false=true) by decide)] at H;exact H
   clear H
   have H:=H1
   clear H1
   have H':=Aside0.mk H
   clear H
   obtain ⟨⟨hcz21_0,hcz21_1,hcz21_2,hcz21_3,hcz21_4,hcz21_5,hcz21_6,hcz21_7,hcz21_8,hcz21_9,hcz21_10,hcz21_11,hcz21_12⟩,hfz21_0,hfz21_1,hfz21_2,hfz21_3,hfz21_4,hfz21_5,hfz21_6,hfz21_7,hfz21_8,hfz21_9,hfz21_10,hfz21_11,hfz21_12⟩:=C_z0 BK395.out
   go_wp2_with (first|((with_reducible refine gate_callee (f:=77) rfl ?_);refine goesL_ (some 5) rfl rfl Try.func77 (by kernel_rfl) rfl #[.int .i64 a0_0] rfl Z9_3 ?_;(with_reducible refine (impl_isId.calls a0_0 true _ A4.out).mono ?_);rintro e w' ⟨rfl,⟨nd,rfl⟩⟩;refine ⟨_,rfl,?_⟩)|(go_at_call 78;(with_reducible refine (impl_isPlayer.calls a0_1 true _ A6.out).mono ?_);rintro e w' ⟨rfl,⟨nd,rfl⟩⟩)|(go_at_call 78;(with_reducible refine (impl_isPlayer.calls a0_2 true _ A8.out).mono ?_);rintro e w' ⟨rfl,⟨nd,rfl⟩⟩)|(go_at_call 79;(with_reducible refine (impl_isZone.calls a0_3 true _ A10.out).mono ?_);rintro e w' ⟨rfl,⟨nd,rfl⟩⟩)|(go_at_call 80;(with_reducible refine (impl_isTime.calls a0_4 true _ A12.out).mono ?_);rintro e w' ⟨rfl,⟨nd,rfl⟩⟩)|(go_at_call 81;(with_reducible refine (impl_from.calls a0_5 0 999 false _ A14.out).mono ?_);rintro e w' ⟨rfl,⟨nd,rfl⟩⟩))
   go_meet
   case rel=>exact ⟨_,(true),Z9_6,H',⟨(by first|omega|exact Nat.le_refl _)⟩,⟨Z9_4⟩,⟨Z9_2⟩⟩
  subst c15
  rw [if_pos rfl] at H
  replace H:=Option.bind_eq_some_iff.mp H
  obtain ⟨t402,A160,H⟩:=H
  (try dsimp only at H)
  have A16:=Aside0.mk A160
  clear A160
  by_cases c17:t402=true
  rotate_left
  ·replace c17:=Bool.eq_false_iff.mpr c17
   subst c17
   have H1:(impl_PieceOk.j0 k true a0_0 a0_1 a0_2 a0_3 a0_4 a0_5 a0_6 a0_7 a0_8 a0_9 a0_10 a0_11 a0_12)=some r:=by rw [if_neg (show ¬ (false=true) by decide)] at H;exact H
   clear H
   have H:=H1
   clear H1
   have H':=Aside0.mk H
   clear H
   obtain ⟨⟨hcz20_0,hcz20_1,hcz20_2,hcz20_3,hcz20_4,hcz20_5,hcz20_6,hcz20_7,hcz20_8,hcz20_9,hcz20_10,hcz20_11,hcz20_12⟩,hfz20_0,hfz20_1,hfz20_2,hfz20_3,hfz20_4,hfz20_5,hfz20_6,hfz20_7,hfz20_8,hfz20_9,hfz20_10,hfz20_11,hfz20_12⟩:=C_z0 BK395.out
   go_wp2_with (first|((with_reducible refine gate_callee (f:=77) rfl ?_);refine goesL_ (some 5) rfl rfl Try.func77 (by kernel_rfl) rfl #[.int .i64 a0_0] rfl Z9_3 ?_;(with_reducible refine (impl_isId.calls a0_0 true _ A4.out).mono ?_);rintro e w' ⟨rfl,⟨nd,rfl⟩⟩;refine ⟨_,rfl,?_⟩)|(go_at_call 78;(with_reducible refine (impl_isPlayer.calls a0_1 true _ A6.out).mono ?_);rintro e w' ⟨rfl,⟨nd,rfl⟩⟩)|(go_at_call 78;(with_reducible refine (impl_isPlayer.calls a0_2 true _ A8.out).mono ?_);rintro e w' ⟨rfl,⟨nd,rfl⟩⟩)|(go_at_call 79;(with_reducible refine (impl_isZone.calls a0_3 true _ A10.out).mono ?_);rintro e w' ⟨rfl,⟨nd,rfl⟩⟩)|(go_at_call 80;(with_reducible refine (impl_isTime.calls a0_4 true _ A12.out).mono ?_);rintro e w' ⟨rfl,⟨nd,rfl⟩⟩)|(go_at_call 81;(with_reducible refine (impl_from.calls a0_5 0 999 true _ A14.out).mono ?_);rintro e w' ⟨rfl,⟨nd,rfl⟩⟩)|(go_at_call 81;(with_reducible refine (impl_from.calls a0_6 0 999 false _ A16.out).mono ?_);rintro e w' ⟨rfl,⟨nd,rfl⟩⟩))
   go_meet
   case rel=>exact ⟨_,(true),Z9_6,H',⟨(by first|omega|exact Nat.le_refl _)⟩,⟨Z9_4⟩,⟨Z9_2⟩⟩
  subst c17
  have H1:((impl_isTraits.f a0_7).bind fun t403=>(impl_PieceOk.j0 k (!t403) a0_0 a0_1 a0_2 a0_3 a0_4 a0_5 a0_6 a0_7 a0_8 a0_9 a0_10 a0_11 a0_12))=some r:=by rw [if_pos rfl] at H;exact H
  clear H
  have H:=H1
  clear H1
  replace H:=Option.bind_eq_some_iff.mp H
  obtain ⟨t403,A180,H⟩:=H
  replace H:(impl_PieceOk.j0 k (!t403) a0_0 a0_1 a0_2 a0_3 a0_4 a0_5 a0_6 a0_7 a0_8 a0_9 a0_10 a0_11 a0_12)=some r:=H
  have A18:=Aside0.mk A180
  clear A180
  have H':=Aside0.mk H
  clear H
  obtain ⟨⟨hcz19_0,hcz19_1,hcz19_2,hcz19_3,hcz19_4,hcz19_5,hcz19_6,hcz19_7,hcz19_8,hcz19_9,hcz19_10,hcz19_11,hcz19_12⟩,hfz19_0,hfz19_1,hfz19_2,hfz19_3,hfz19_4,hfz19_5,hfz19_6,hfz19_7,hfz19_8,hfz19_9,hfz19_10,hfz19_11,hfz19_12⟩:=C_z0 BK395.out
  go_wp2_with (first|((with_reducible refine gate_callee (f:=77) rfl ?_);refine goesL_ (some 5) rfl rfl Try.func77 (by kernel_rfl) rfl #[.int .i64 a0_0] rfl Z9_3 ?_;(with_reducible refine (impl_isId.calls a0_0 true _ A4.out).mono ?_);rintro e w' ⟨rfl,⟨nd,rfl⟩⟩;refine ⟨_,rfl,?_⟩)|(go_at_call 78;(with_reducible refine (impl_isPlayer.calls a0_1 true _ A6.out).mono ?_);rintro e w' ⟨rfl,⟨nd,rfl⟩⟩)|(go_at_call 78;(with_reducible refine (impl_isPlayer.calls a0_2 true _ A8.out).mono ?_);rintro e w' ⟨rfl,⟨nd,rfl⟩⟩)|(go_at_call 79;(with_reducible refine (impl_isZone.calls a0_3 true _ A10.out).mono ?_);rintro e w' ⟨rfl,⟨nd,rfl⟩⟩)|(go_at_call 80;(with_reducible refine (impl_isTime.calls a0_4 true _ A12.out).mono ?_);rintro e w' ⟨rfl,⟨nd,rfl⟩⟩)|(go_at_call 81;(with_reducible refine (impl_from.calls a0_5 0 999 true _ A14.out).mono ?_);rintro e w' ⟨rfl,⟨nd,rfl⟩⟩)|(go_at_call 81;(with_reducible refine (impl_from.calls a0_6 0 999 true _ A16.out).mono ?_);rintro e w' ⟨rfl,⟨nd,rfl⟩⟩)|(go_at_call 82;(with_reducible refine (impl_isTraits.calls a0_7 t403 _ A18.out).mono ?_);rintro e w' ⟨rfl,⟨nd,rfl⟩⟩))
  go_meet
  case rel=>exact ⟨_,(!t403),Z9_6,H',⟨(by first|omega|exact Nat.le_refl _)⟩,⟨Z9_4⟩,⟨Z9_2⟩⟩
 case rest =>
  clear HC2
  try clear c1
  try clear p2
  try clear c5
  try clear c7
  try clear c9
  try clear c11
  try clear c13
  try clear c15
  try clear c17
  try clear c18
  try clear hcz19_0
  try clear hcz19_1
  try clear hcz19_10
  try clear hcz19_11
  try clear hcz19_12
  try clear hcz19_2
  try clear hcz19_3
  try clear hcz19_4
  try clear hcz19_5
  try clear hcz19_6
  try clear hcz19_7
  try clear hcz19_8
  try clear hcz19_9
  try clear hcz20_0
  try clear hcz20_1
  try clear hcz20_10
  try clear hcz20_11
  try clear hcz20_12
  try clear hcz20_2
  try clear hcz20_3
  try clear hcz20_4
  try clear hcz20_5
  try clear hcz20_6
  try clear hcz20_7
  try clear hcz20_8
  try clear hcz20_9
  try clear hcz21_0
  try clear hcz21_1
  try clear hcz21_10
  try clear hcz21_11
  try clear hcz21_12
  try clear hcz21_2
  try clear hcz21_3
  try clear hcz21_4
  try clear hcz21_5
  try clear hcz21_6
  try clear hcz21_7
  try clear hcz21_8
  try clear hcz21_9
  try clear hcz22_0
  try clear hcz22_1
  try clear hcz22_10
  try clear hcz22_11
  try clear hcz22_12
  try clear hcz22_2
  try clear hcz22_3
  try clear hcz22_4
  try clear hcz22_5
  try clear hcz22_6
  try clear hcz22_7
  try clear hcz22_8
  try clear hcz22_9
  try clear hcz23_0
  try clear hcz23_1
  try clear hcz23_10
  try clear hcz23_11
  try clear hcz23_12
  try clear hcz23_2
  try clear hcz23_3
  try clear hcz23_4
  try clear hcz23_5
  try clear hcz23_6
  try clear hcz23_7
  try clear hcz23_8
  try clear hcz23_9
  try clear hcz24_0
  try clear hcz24_1
  try clear hcz24_10
  try clear hcz24_11
  try clear hcz24_12
  try clear hcz24_2
  try clear hcz24_3
  try clear hcz24_4
  try clear hcz24_5
  try clear hcz24_6
  try clear hcz24_7
  try clear hcz24_8
  try clear hcz24_9
  try clear hcz25_0
  try clear hcz25_1
  try clear hcz25_10
  try clear hcz25_11
  try clear hcz25_12
  try clear hcz25_2
  try clear hcz25_3
  try clear hcz25_4
  try clear hcz25_5
  try clear hcz25_6
  try clear hcz25_7
  try clear hcz25_8
  try clear hcz25_9
  try clear hcz26_0
  try clear hcz26_1
  try clear hcz26_10
  try clear hcz26_11
  try clear hcz26_12
  try clear hcz26_2
  try clear hcz26_3
  try clear hcz26_4
  try clear hcz26_5
  try clear hcz26_6
  try clear hcz26_7
  try clear hcz26_8
  try clear hcz26_9
  try clear hfz19_0
  try clear hfz19_1
  try clear hfz19_10
  try clear hfz19_11
  try clear hfz19_12
  try clear hfz19_2
  try clear hfz19_3
  try clear hfz19_4
  try clear hfz19_5
  try clear hfz19_6
  try clear hfz19_7
  try clear hfz19_8
  try clear hfz19_9
  try clear hfz20_0
  try clear hfz20_1
  try clear hfz20_10
  try clear hfz20_11
  try clear hfz20_12
  try clear hfz20_2
  try clear hfz20_3
  try clear hfz20_4
  try clear hfz20_5
  try clear hfz20_6
  try clear hfz20_7
  try clear hfz20_8
  try clear hfz20_9
  try clear hfz21_0
  try clear hfz21_1
  try clear hfz21_10
  try clear hfz21_11
  try clear hfz21_12
  try clear hfz21_2
  try clear hfz21_3
  try clear hfz21_4
  try clear hfz21_5
  try clear hfz21_6
  try clear hfz21_7
  try clear hfz21_8
  try clear hfz21_9
  try clear hfz22_0
  try clear hfz22_1
  try clear hfz22_10
  try clear hfz22_11
  try clear hfz22_12
  try clear hfz22_2
  try clear hfz22_3
  try clear hfz22_4
  try clear hfz22_5
  try clear hfz22_6
  try clear hfz22_7
  try clear hfz22_8
  try clear hfz22_9
  try clear hfz23_0
  try clear hfz23_1
  try clear hfz23_10
  try clear hfz23_11
  try clear hfz23_12
  try clear hfz23_2
  try clear hfz23_3
  try clear hfz23_4
  try clear hfz23_5
  try clear hfz23_6
  try clear hfz23_7
  try clear hfz23_8
  try clear hfz23_9
  try clear hfz24_0
  try clear hfz24_1
  try clear hfz24_10
  try clear hfz24_11
  try clear hfz24_12
  try clear hfz24_2
  try clear hfz24_3
  try clear hfz24_4
  try clear hfz24_5
  try clear hfz24_6
  try clear hfz24_7
  try clear hfz24_8
  try clear hfz24_9
  try clear hfz25_0
  try clear hfz25_1
  try clear hfz25_10
  try clear hfz25_11
  try clear hfz25_12
  try clear hfz25_2
  try clear hfz25_3
  try clear hfz25_4
  try clear hfz25_5
  try clear hfz25_6
  try clear hfz25_7
  try clear hfz25_8
  try clear hfz25_9
  try clear hfz26_0
  try clear hfz26_1
  try clear hfz26_10
  try clear hfz26_11
  try clear hfz26_12
  try clear hfz26_2
  try clear hfz26_3
  try clear hfz26_4
  try clear hfz26_5
  try clear hfz26_6
  try clear hfz26_7
  try clear hfz26_8
  try clear hfz26_9
  obtain ⟨kq,x48_1,rfl,HA,HJ1,BK395,HB⟩:=hcut
  cases kq with
  | zero=>exact absurd HA.out (by simp [impl_PieceOk.j0])
  | succ kj1 =>
   have H:=HA.out
   clear HA
   simp only [impl_PieceOk.j0] at H
   by_cases c27:x48_1=true
   ·subst c27
    have H1:(some false)=some r:=by rw [if_pos rfl] at H;exact H
    clear H
    have H:=H1
    clear H1
    obtain rfl:=Option.some.inj H
    go_wp2
    go_ret
    exact ⟨Z9_5,Z9_2⟩
   replace c27:=Bool.eq_false_iff.mpr c27
   subst c27
   rw [if_neg (show ¬ (false=true) by decide)] at H
   by_cases c28:a0_3=2
   ·rw [if_pos c28] at H
    have c28b0:(a0_3==2)=true:=beq_iff_eq.mpr c28
    have c28b1:(a0_3 != 2)=false:=bne_eq_false_iff_eq.mpr c28
    clear c28
    replace H:=Option.bind_eq_some_iff.mp H
    obtain ⟨t404,A290,H⟩:=H
    (try dsimp only at H)
    have A29:=Aside0.mk A290
    clear A290
    by_cases c30:t404=true
    rotate_left
    ·replace c30:=Bool.eq_false_iff.mpr c30
     subst c30
     have H1:(some false)=some r:=by rw [if_neg (show ¬ (false=true) by decide)] at H;exact H
     clear H
     have H:=H1
     clear H1
     obtain rfl:=Option.some.inj H
     obtain ⟨⟨hcz36_0,hcz36_1,hcz36_2,hcz36_3,hcz36_4,hcz36_5,hcz36_6,hcz36_7,hcz36_8,hcz36_9,hcz36_10,hcz36_11,hcz36_12⟩,hfz36_0,hfz36_1,hfz36_2,hfz36_3,hfz36_4,hfz36_5,hfz36_6,hfz36_7,hfz36_8,hfz36_9,hfz36_10,hfz36_11,hfz36_12⟩:=C_z0 BK395.out
     go_wp2_with (first|((with_reducible refine gate_callee (f:=83) rfl ?_);refine goesL_ (some 84) rfl rfl Try.func83 (by kernel_rfl) rfl #[.int .i64 a0_8] rfl Z9_3 ?_;(with_reducible refine (impl_isAmount.calls a0_8 false _ A29.out).mono ?_);rintro e w' ⟨rfl,⟨nd,rfl⟩⟩;refine ⟨_,rfl,?_⟩))
     go_ret
     exact ⟨Z9_5,Z9_2⟩
    subst c30
    have H1:((impl_isAmount.f a0_9).bind fun t405=>(if t405=true then ((impl_isAmount.f a0_10).bind fun t406=>(some t406)) else (some false)))=some r:=by rw [if_pos rfl] at H;exact H
    clear H
    have H:=H1
    clear H1
    replace H:=Option.bind_eq_some_iff.mp H
    obtain ⟨t405,A310,H⟩:=H
    replace H:(if t405=true then ((impl_isAmount.f a0_10).bind fun t406=>(some t406)) else (some false))=some r:=H
    have A31:=Aside0.mk A310
    clear A310
    by_cases c32:t405=true
    rotate_left
    ·replace c32:=Bool.eq_false_iff.mpr c32
     subst c32
     have H1:(some false)=some r:=by rw [if_neg (show ¬ (false=true) by decide)] at H;exact H
     clear H
     have H:=H1
     clear H1
     obtain rfl:=Option.some.inj H
     obtain ⟨⟨hcz35_0,hcz35_1,hcz35_2,hcz35_3,hcz35_4,hcz35_5,hcz35_6,hcz35_7,hcz35_8,hcz35_9,hcz35_10,hcz35_11,hcz35_12⟩,hfz35_0,hfz35_1,hfz35_2,hfz35_3,hfz35_4,hfz35_5,hfz35_6,hfz35_7,hfz35_8,hfz35_9,hfz35_10,hfz35_11,hfz35_12⟩:=C_z0 BK395.out
     go_wp2_with (first|((with_reducible refine gate_callee (f:=83) rfl ?_);refine goesL_ (some 84) rfl rfl Try.func83 (by kernel_rfl) rfl #[.int .i64 a0_8] rfl Z9_3 ?_;(with_reducible refine (impl_isAmount.calls a0_8 true _ A29.out).mono ?_);rintro e w' ⟨rfl,⟨nd,rfl⟩⟩;refine ⟨_,rfl,?_⟩)|(go_at_call 83;(with_reducible refine (impl_isAmount.calls a0_9 false _ A31.out).mono ?_);rintro e w' ⟨rfl,⟨nd,rfl⟩⟩))
     go_ret
     exact ⟨Z9_5,Z9_2⟩
    subst c32
    have H1:((impl_isAmount.f a0_10).bind fun t406=>(some t406))=some r:=by rw [if_pos rfl] at H;exact H
    clear H
    have H:=H1
    clear H1
    replace H:=Option.bind_eq_some_iff.mp H
    obtain ⟨t406,A330,H⟩:=H
    replace H:(some t406)=some r:=H
    have A33:=Aside0.mk A330
    clear A330
    obtain rfl:=Option.some.inj H
    obtain ⟨⟨hcz34_0,hcz34_1,hcz34_2,hcz34_3,hcz34_4,hcz34_5,hcz34_6,hcz34_7,hcz34_8,hcz34_9,hcz34_10,hcz34_11,hcz34_12⟩,hfz34_0,hfz34_1,hfz34_2,hfz34_3,hfz34_4,hfz34_5,hfz34_6,hfz34_7,hfz34_8,hfz34_9,hfz34_10,hfz34_11,hfz34_12⟩:=C_z0 BK395.out
    go_wp2_with (first|((with_reducible refine gate_callee (f:=83) rfl ?_);refine goesL_ (some 84) rfl rfl Try.func83 (by kernel_rfl) rfl #[.int .i64 a0_8] rfl Z9_3 ?_;(with_reducible refine (impl_isAmount.calls a0_8 true _ A29.out).mono ?_);rintro e w' ⟨rfl,⟨nd,rfl⟩⟩;refine ⟨_,rfl,?_⟩)|(go_at_call 83;(with_reducible refine (impl_isAmount.calls a0_9 true _ A31.out).mono ?_);rintro e w' ⟨rfl,⟨nd,rfl⟩⟩)|(go_at_call 83;(with_reducible refine (impl_isAmount.calls a0_10 t406 _ A33.out).mono ?_);rintro e w' ⟨rfl,⟨nd,rfl⟩⟩))
    go_ret
    exact ⟨Z9_5,Z9_2⟩
   rw [if_neg c28] at H
   have c28b0:(a0_3==2)=false:=beq_eq_false_iff_ne.mpr c28
   have c28b1:(a0_3 != 2)=true:=bne_iff_ne.mpr c28
   by_cases c37:a0_2=a0_1
   rotate_left
   ·rw [if_neg c37] at H
    have c37b0:(a0_2==a0_1)=false:=beq_eq_false_iff_ne.mpr c37
    have c37b1:(a0_2 != a0_1)=true:=bne_iff_ne.mpr c37
    obtain rfl:=Option.some.inj H
    obtain ⟨⟨hcz47_0,hcz47_1,hcz47_2,hcz47_3,hcz47_4,hcz47_5,hcz47_6,hcz47_7,hcz47_8,hcz47_9,hcz47_10,hcz47_11,hcz47_12⟩,hfz47_0,hfz47_1,hfz47_2,hfz47_3,hfz47_4,hfz47_5,hfz47_6,hfz47_7,hfz47_8,hfz47_9,hfz47_10,hfz47_11,hfz47_12⟩:=C_z0 BK395.out
    go_wp2
    go_ret
    exact ⟨Z9_5,Z9_2⟩
   rw [if_pos c37] at H
   have c37b0:(a0_2==a0_1)=true:=beq_iff_eq.mpr c37
   have c37b1:(a0_2 != a0_1)=false:=bne_eq_false_iff_eq.mpr c37
   clear c37
   by_cases c38:a0_8=0
   rotate_left
   ·rw [if_neg c38] at H
    have c38b0:(a0_8==0)=false:=beq_eq_false_iff_ne.mpr c38
    have c38b1:(a0_8 != 0)=true:=bne_iff_ne.mpr c38
    obtain rfl:=Option.some.inj H
    obtain ⟨⟨hcz46_0,hcz46_1,hcz46_2,hcz46_3,hcz46_4,hcz46_5,hcz46_6,hcz46_7,hcz46_8,hcz46_9,hcz46_10,hcz46_11,hcz46_12⟩,hfz46_0,hfz46_1,hfz46_2,hfz46_3,hfz46_4,hfz46_5,hfz46_6,hfz46_7,hfz46_8,hfz46_9,hfz46_10,hfz46_11,hfz46_12⟩:=C_z0 BK395.out
    go_wp2
    go_ret
    exact ⟨Z9_5,Z9_2⟩
   rw [if_pos c38] at H
   have c38b0:(a0_8==0)=true:=beq_iff_eq.mpr c38
   have c38b1:(a0_8 != 0)=false:=bne_eq_false_iff_eq.mpr c38
   clear c38
   by_cases c39:a0_9=0
   rotate_left
   ·rw [if_neg c39] at H
    have c39b0:(a0_9==0)=false:=beq_eq_false_iff_ne.mpr c39
    have c39b1:(a0_9 != 0)=true:=bne_iff_ne.mpr c39
    obtain rfl:=Option.some.inj H
    obtain ⟨⟨hcz45_0,hcz45_1,hcz45_2,hcz45_3,hcz45_4,hcz45_5,hcz45_6,hcz45_7,hcz45_8,hcz45_9,hcz45_10,hcz45_11,hcz45_12⟩,hfz45_0,hfz45_1,hfz45_2,hfz45_3,hfz45_4,hfz45_5,hfz45_6,hfz45_7,hfz45_8,hfz45_9,hfz45_10,hfz45_11,hfz45_12⟩:=C_z0 BK395.out
    go_wp2
    go_ret
    exact ⟨Z9_5,Z9_2⟩
   rw [if_pos c39] at H
   have c39b0:(a0_9==0)=true:=beq_iff_eq.mpr c39
   have c39b1:(a0_9 != 0)=false:=bne_eq_false_iff_eq.mpr c39
   clear c39
   by_cases c40:a0_10=0
   rotate_left
   ·rw [if_neg c40] at H
    have c40b0:(a0_10==0)=false:=beq_eq_false_iff_ne.mpr c40
    have c40b1:(a0_10 != 0)=true:=bne_iff_ne.mpr c40
    obtain rfl:=Option.some.inj H
    obtain ⟨⟨hcz44_0,hcz44_1,hcz44_2,hcz44_3,hcz44_4,hcz44_5,hcz44_6,hcz44_7,hcz44_8,hcz44_9,hcz44_10,hcz44_11,hcz44_12⟩,hfz44_0,hfz44_1,hfz44_2,hfz44_3,hfz44_4,hfz44_5,hfz44_6,hfz44_7,hfz44_8,hfz44_9,hfz44_10,hfz44_11,hfz44_12⟩:=C_z0 BK395.out
    go_wp2
    go_ret
    exact ⟨Z9_5,Z9_2⟩
   rw [if_pos c40] at H
   have c40b0:(a0_10==0)=true:=beq_iff_eq.mpr c40
   have c40b1:(a0_10 != 0)=false:=bne_eq_false_iff_eq.mpr c40
   clear c40
   by_cases c41:a0_11=true
   ·subst c41
    have H1:(some false)=some r:=by rw [if_pos rfl] at H;exact H
    clear H
    have H:=H1
    clear H1
    obtain rfl:=Option.some.inj H
    obtain ⟨⟨hcz42_0,hcz42_1,hcz42_2,hcz42_3,hcz42_4,hcz42_5,hcz42_6,hcz42_7,hcz42_8,hcz42_9,hcz42_10,hcz42_11,hcz42_12⟩,hfz42_0,hfz42_1,hfz42_2,hfz42_3,hfz42_4,hfz42_5,hfz42_6,hfz42_7,hfz42_8,hfz42_9,hfz42_10,hfz42_11,hfz42_12⟩:=C_z0 BK395.out
    go_wp2
    go_ret
    exact ⟨Z9_5,Z9_2⟩
   replace c41:=Bool.eq_false_iff.mpr c41
   subst c41
   have H1:(some (!a0_12))=some r:=by rw [if_neg (show ¬ (false=true) by decide)] at H;exact H
   clear H
   have H:=H1
   clear H1
   obtain rfl:=Option.some.inj H
   obtain ⟨⟨hcz43_0,hcz43_1,hcz43_2,hcz43_3,hcz43_4,hcz43_5,hcz43_6,hcz43_7,hcz43_8,hcz43_9,hcz43_10,hcz43_11,hcz43_12⟩,hfz43_0,hfz43_1,hfz43_2,hfz43_3,hfz43_4,hfz43_5,hfz43_6,hfz43_7,hfz43_8,hfz43_9,hfz43_10,hfz43_11,hfz43_12⟩:=C_z0 BK395.out
   go_wp2
   go_ret
   exact ⟨Z9_5,Z9_2⟩
end Go.Proofs.Ytfkidiagmekleaa.QAll
