import Derived.Test.YtfkidiagmekleaaNQAllx0
import Derived.Test.YtfkidiagmekleaaNQAllx1
import Derived.Test.YtfkidiagmekleaaNRBas
namespace Go.Proofs.Ytfkidiagmekleaa.QAll
open Go.RowKit Go.Proofs.YtfkidiagmekleaaW.PrintWords Go.Proofs.YtfkidiagmekleaaW.PrintLast Go.Proofs.YtfkidiagmekleaaW.PrintMore
attribute [local go_sem] max2_int min2_int max_two min_two max_three min_three max_four min_four
set_option linter.unusedVariables false
set_option linter.unusedSimpArgs false
attribute [local go_sem high] eqA25
theorem Z13Pn_18 {p:Prop} (h:p:=by repeat (first|(with_reducible first|exact HB.out|apply below_alloc|apply pw_below_drewN|apply below_drew1)|exact HB.out)):p:=h
theorem Z13Pn_15 {p:Prop} (h:p:=by exact (below_step Z13Pn_18 hb)):p:=h
theorem Z13Pn_24 {p:Prop} (h:p:=by first|rfl|(simp [errW_none,errW_some]<;>rfl)|(simp [*,errW_none,errW_some]<;>rfl)):p:=h
theorem Z13Pn_26 {p:Prop} (h:p:=by repeat (first|exact Drawn0.refl _|apply Drawn0.step)):p:=h
theorem Z13Pn_27 {p:Prop} (h:p:=by first|rfl|(simp;done)|(simp [*];done)):p:=h
theorem Z18Pn_15 {p:Prop} (h:p:=by repeat (first|(with_reducible first|exact HB.out|apply below_alloc|apply pw_below_drewN|apply below_drew1)|exact HB.out)):p:=h
theorem Z18Pn_12 {p:Prop} (h:p:=by exact (below_step Z18Pn_15 hb)):p:=h
theorem Z18Pn_14 {p:Prop} (h:p:=by (try simp only [List.map_toArray,List.map_cons,List.map_nil]);first|done|rfl|(simp only [List.length_drop,List.length_take];rfl)):p:=h
theorem Z18Pn_19 {p:Prop} (h:p:=by (with_reducible repeat (first|apply Kd.R_alloc|apply Kd.R_drewN|apply Kd.R_drew));exact HO589.out):p:=h
theorem Z18Pn_20 {p:Prop} (h:p:=by (with_reducible repeat (first|apply Kd.R_alloc|apply Kd.R_drewN|apply Kd.R_drew));exact HO592.out):p:=h
theorem Z18Pn_21 {p:Prop} (h:p:=by first|rfl|(simp [errW_none,errW_some]<;>rfl)|(simp [*,errW_none,errW_some]<;>rfl)):p:=h
def slices_Clone_byte_byte.f (l0:List Int):Option (List Int):=(some (([]:List Int):List Int)).bind fun y486=>(if y486.length+l0.length < 140737488355328 then (some (y486++l0)) else (none))
set_option maxHeartbeats 8000000 in
set_option maxRecDepth 100000 in
theorem slices_Clone_byte_byte.calls_some (A0:Option Addr) (c0:Nat) (l0:List Int) (r:List Int) (w:World) (hr0:Kd.C (Kd.int .u8) w A0 l0.length l0) (hc0:l0.length≤c0) (hA0:A0.isNone=false) (h:slices_Clone_byte_byte.f l0=some r) :
  Calls Try.prog 90 #[.slice A0 l0.length c0] w fun e w'=>∃ v0_:Value,e = .returned (v0_)∧Kd.R (Kd.int .u8) 5 w' w.heap.size (fun _=>True) v0_ r∧Below w.heap.size w w':=by
 have hq0:∀ (w:World) (n' c':Nat),(Go.binOp .eql 22 (.slice A0 l0.length c0) (.slice none n' c')).run Try.prog w = .ok (.bool false) w:=fun w n' c'=>(Go.Lib.run_eql_slice_nil w _ _ A0 l0.length c0 n' c' Try.underlying22).trans (by rw [hA0])
 have HR0:=Aside0.mk hr0
 have HC0:=Aside0.mk hc0
 clear hr0 hc0
 have HB:=Aside0.mk (Below.refl w.heap.size w)
 have H:((some (([]:List Int):List Int)).bind fun y486=>(if y486.length+l0.length < 140737488355328 then (some (y486++l0)) else (none)))=some r:=h
 clear h
 obtain ⟨y486,hy486⟩:∃ y_:List Int,y_=(([]:List Int)):=⟨_,rfl⟩
 replace H:(if y486.length+l0.length < 140737488355328 then (some (y486++l0)) else (none))=some r:=by first|(rw [hy486];with_reducible exact H)|(have H2_:=(Option.bind_some _ _).symm.trans H;rw [hy486];with_reducible exact H2_)|(have H2_:=(Option.bind_some _ _).symm.trans H;with_reducible exact H2_)|with_reducible exact H|(rw [hy486];exact H)|exact H
 have Ny486:=Aside0.mk hy486
 clear hy486
 by_cases c2:y486.length+l0.length < 140737488355328
 rotate_left
 ·rw [if_neg c2] at H
  exact absurd H (by simp)
 rw [if_pos c2] at H
 have LMc2:=Aside0.mk c2
 clear c2
 obtain ⟨y489,hy489⟩:∃ y_:List Int,y_=(y486++l0):=⟨_,rfl⟩
 replace H:(some y489)=some r:=by first|(rw [hy489];with_reducible exact H)|(have H2_:=(Option.bind_some _ _).symm.trans H;rw [hy489];with_reducible exact H2_)|(have H2_:=(Option.bind_some _ _).symm.trans H;with_reducible exact H2_)|with_reducible exact H|(rw [hy489];exact H)|exact H
 have Ny489:=Aside0.mk hy489
 clear hy489
 obtain rfl:=Option.some.inj H
 go_enter Try.func90,Try.ntmps90
 go_wp2_with (first|((with_reducible refine gate_dst (N:=5) rfl ?_);refine Kd.R_lit (Kd.int .u8) _ 5 ?hg (N:=5) ?hd (xs:=([]:List Int)) (inner:=[]) (ok:=fun _=>True) (okp:=fun _=>True) ?hr ?hp (fun _ hk=>hk) trivial (Below.refl _ _) (Nat.le_refl _) (by simp) ?_;(case hd=>rfl);(case hg=>rfl);(case hr=>first|(go_simp;done)|(go_simp;rfl));(case hp=>exact (Reps.none _ _));intro v487 w3 ho4 hb hg_ hnew_;clear hg_ hnew_;(first|rw [← Ny486.out] at ho4|(simp only [Int.reduceToNat] at ho4;rw [← Ny486.out] at ho4));have n0_:=Aside0.mk (Kd.R_lower ho4 (below_size Z13Pn_18));have n1_:=Aside0.mk Z13Pn_15;clear HB;have HO488:=n0_;have HB:=n1_;clear n0_ n1_;clear hb ho4)|((with_reducible refine gate_builtin (b := .append) (xs:=#[.tmp 5,.tmp 6]) rfl ?_);at_builtin;refine Kd.R_append_rows (Kd.int .u8) (w0:=w) w.heap.size rfl (.tmp 5) (.tmp 6) 22 5 (.int .u8 0) 1 rfl Try.underlying22 info5 rfl (by decide) (by omega) v487 y486 l0 _ _ _ (fun _=>True) (fun _=>False) rfl rfl ?aO ?aR (fun _ _ h=>h) (fun _ h=>h.elim) ?aF ?aB ?aS ?aL ?_;(case aR=>repeat (first|exact (Kd.C_below HR0.out HB.out)|(with_reducible refine Kd.C_alloc ?_ _)|(with_reducible refine Kd.C_drewN ?_ _)|(with_reducible refine Kd.C_drew ?_)));(case aB=>exact Z13Pn_18);(case aF=>exact (fun _ _=>trivial));(case aO=>exact (by (with_reducible repeat (first|apply Kd.R_alloc|apply Kd.R_drewN|apply Kd.R_drew));exact HO488.out));(case aS=>exact (below_size Z13Pn_18));(case aL=>have:=LMc2.out;omega);intro v490 w5 ho hb hg hat;rw [← Ny489.out] at ho;have n0_:=Aside0.mk (hb);have n1_:=Aside0.mk (ho);clear HB;clear HO488;have HB:=n0_;have HO491:=n1_;clear n0_ n1_;clear ho hb hg hat))
 go_ret
 exact ⟨_,Z13Pn_24,(by (with_reducible repeat (first|apply Kd.R_alloc|apply Kd.R_drewN|apply Kd.R_drew));exact HO491.out),Z13Pn_18⟩
set_option maxHeartbeats 8000000 in
set_option maxRecDepth 100000 in
theorem slices_Clone_byte_byte.calls (A0:Option Addr) (c0:Nat) (l0:List Int) (r:List Int) (w:World) (hr0:Kd.C (Kd.int .u8) w A0 l0.length l0) (hc0:l0.length≤c0) (h:slices_Clone_byte_byte.f l0=some r) :
  Calls Try.prog 90 #[.slice A0 l0.length c0] w fun e w'=>∃ v0_:Value,e = .returned (v0_)∧Kd.R (Kd.int .u8) 5 w' w.heap.size (fun _=>True) v0_ r∧Below w.heap.size w w':=by
 rcases hq:A0.isNone with _|_
 ·exact slices_Clone_byte_byte.calls_some A0 c0 l0 r w hr0 hc0 hq h
 ·obtain rfl:A0=none:=by cases A0 with|none=>rfl|some _=>cases hq
  obtain rfl:l0=[]:=by
   rcases Nat.eq_zero_or_pos l0.length with hz|hp
   ·exact List.eq_nil_of_length_eq_zero hz
   ·obtain ⟨ad,hA,_⟩:=hr0.2.2 hp;cases hA
  have hr:[]=r:=by simpa [slices_Clone_byte_byte.f] using h
  subst hr
  have hq0:∀ (w:World) (n c n' c':Nat),(Go.binOp .eql 22 (.slice none n c) (.slice none n' c')).run Try.prog w = .ok (.bool true) w:=fun w n c n' c'=>Go.Lib.run_eql_slice_nil w _ _ none n c n' c' Try.underlying22
  go_enter Try.func90,Try.ntmps90
  go_wp2
  go_ret
  exact ⟨_,rfl,Kd.R_nil _ _ _ _ _,Below.refl _ _⟩
def impl_bit.f (a0:Bool):Option (Int):=if a0=true then (some 1) else (some 0)
set_option maxHeartbeats 8000000 in
set_option maxRecDepth 100000 in
theorem impl_bit.calls (a0:Bool) (r:Int) (w:World) (h:impl_bit.f a0=some r) :
  Calls Try.prog 91 #[.bool a0] w fun e w'=>e = .returned (.int .i64 r)∧Drawn0 w w':=by
 have H:(if a0=true then (some 1) else (some 0))=some r:=h
 clear h
 by_cases c2:a0=true
 ·subst c2
  have H1:(some 1)=some r:=by rw [if_pos rfl] at H;exact H
  clear H
  have H:=H1
  clear H1
  obtain rfl:=Option.some.inj H
  go_enter Try.func91,Try.ntmps91
  go_wp2
  go_ret
  exact ⟨Z13Pn_27,Z13Pn_26⟩
 replace c2:=Bool.eq_false_iff.mpr c2
 subst c2
 have H1:(some 0)=some r:=by rw [if_neg (show ¬ (false=true) by decide)] at H;exact H
 clear H
 have H:=H1
 clear H1
 obtain rfl:=Option.some.inj H
 go_enter Try.func91,Try.ntmps91
 go_wp2
 go_ret
 exact ⟨Z13Pn_27,Z13Pn_26⟩
def impl_PutNum.f (l0:List Int) (a1:Int):Option (List Int):=(impl_Bound.f a1).bind fun t492=>((slices_Clone_byte_byte.f l0).bind fun t493=>((some (([((wrap64 (t492+2147483648)) / 16777216) % 256,((wrap64 (t492+2147483648)) / 65536) % 256,((wrap64 (t492+2147483648)) / 256) % 256,(wrap64 (t492+2147483648)) % 256]:List Int):List Int)).bind fun y496=>(if t493.length+y496.length < 140737488355328 then (some (t493++y496)) else (none))))
set_option maxHeartbeats 8000000 in
set_option maxRecDepth 100000 in
theorem impl_PutNum.calls (A0:Option Addr) (c0:Nat) (l0:List Int) (a1:Int) (r:List Int) (w:World) (hr0:Kd.C (Kd.int .u8) w A0 l0.length l0) (hc0:l0.length≤c0) (h:impl_PutNum.f l0 a1=some r) :
  Calls Try.prog 92 #[.slice A0 l0.length c0,.int .i64 a1] w fun e w'=>∃ v0_:Value,e = .returned (v0_)∧Kd.R (Kd.int .u8) 5 w' w.heap.size (fun _=>True) v0_ r∧Below w.heap.size w w':=by
 have HR0:=Aside0.mk hr0
 have HC0:=Aside0.mk hc0
 clear hr0 hc0
 have HB:=Aside0.mk (Below.refl w.heap.size w)
 have H:((impl_Bound.f a1).bind fun t492=>((slices_Clone_byte_byte.f l0).bind fun t493=>((some (([((wrap64 (t492+2147483648)) / 16777216) % 256,((wrap64 (t492+2147483648)) / 65536) % 256,((wrap64 (t492+2147483648)) / 256) % 256,(wrap64 (t492+2147483648)) % 256]:List Int):List Int)).bind fun y496=>(if t493.length+y496.length < 140737488355328 then (some (t493++y496)) else (none)))))=some r:=h
 clear h
 replace H:=Option.bind_eq_some_iff.mp H
 obtain ⟨t492,A30,H⟩:=H
 replace H:((slices_Clone_byte_byte.f l0).bind fun t493=>((some (([((wrap64 (t492+2147483648)) / 16777216) % 256,((wrap64 (t492+2147483648)) / 65536) % 256,((wrap64 (t492+2147483648)) / 256) % 256,(wrap64 (t492+2147483648)) % 256]:List Int):List Int)).bind fun y496=>(if t493.length+y496.length < 140737488355328 then (some (t493++y496)) else (none))))=some r:=H
 have A3:=Aside0.mk A30
 clear A30
 replace H:=Option.bind_eq_some_iff.mp H
 obtain ⟨t493,A40,H⟩:=H
 replace H:((some (([((wrap64 (t492+2147483648)) / 16777216) % 256,((wrap64 (t492+2147483648)) / 65536) % 256,((wrap64 (t492+2147483648)) / 256) % 256,(wrap64 (t492+2147483648)) % 256]:List Int):List Int)).bind fun y496=>(if t493.length+y496.length < 140737488355328 then (some (t493++y496)) else (none)))=some r:=H
 have A4:=Aside0.mk A40
 clear A40
 obtain ⟨y496,hy496⟩:∃ y_:List Int,y_=(([((wrap64 (t492+2147483648)) / 16777216) % 256,((wrap64 (t492+2147483648)) / 65536) % 256,((wrap64 (t492+2147483648)) / 256) % 256,(wrap64 (t492+2147483648)) % 256]:List Int)):=⟨_,rfl⟩
 replace H:(if t493.length+y496.length < 140737488355328 then (some (t493++y496)) else (none))=some r:=by first|(rw [hy496];with_reducible exact H)|(have H2_:=(Option.bind_some _ _).symm.trans H;rw [hy496];with_reducible exact H2_)|(have H2_:=(Option.bind_some _ _).symm.trans H;with_reducible exact H2_)|with_reducible exact H|(rw [hy496];exact H)|exact H
 have Ny496:=Aside0.mk hy496
 clear hy496
 by_cases c5:t493.length+y496.length < 140737488355328
 ·rw [if_pos c5] at H
  have LMc5:=Aside0.mk c5
  clear c5
  obtain ⟨y499,hy499⟩:∃ y_:List Int,y_=(t493++y496):=⟨_,rfl⟩
  replace H:(some y499)=some r:=by first|(rw [hy499];with_reducible exact H)|(have H2_:=(Option.bind_some _ _).symm.trans H;rw [hy499];with_reducible exact H2_)|(have H2_:=(Option.bind_some _ _).symm.trans H;with_reducible exact H2_)|with_reducible exact H|(rw [hy499];exact H)|exact H
  have Ny499:=Aside0.mk hy499
  clear hy499
  obtain rfl:=Option.some.inj H
  go_enter Try.func92,Try.ntmps92
  go_wp2_with (first|((with_reducible refine gate_callee (f:=28) rfl ?_);refine goesL_ (some 7) rfl rfl Try.func28 (by kernel_rfl) rfl #[.int .i64 a1] rfl (by (try simp only [List.map_toArray,List.map_cons,List.map_nil]);first|done|rfl|(simp only [List.length_drop,List.length_take];rfl)) ?_;(with_reducible refine (impl_Bound.calls a1 t492 _ A3.out).mono ?_);rintro e w6 ⟨rfl,hb⟩;refine ⟨_,rfl,?_⟩;have n0_:=Aside0.mk (below_step (by repeat (first|(with_reducible first|exact HB.out|apply below_alloc|apply pw_below_drewN|apply below_drew1)|exact HB.out)) hb);clear HB;have HB:=n0_;clear n0_;(try clear hb);(try clear hb2);(try clear hk);(try clear hi))|((with_reducible refine gate_callee (f:=90) rfl ?_);refine goesL_ (some 10) rfl rfl Try.func90 (by kernel_rfl) rfl #[.slice A0 l0.length c0] rfl (by (try simp only [List.map_toArray,List.map_cons,List.map_nil]);first|done|rfl|(simp only [List.length_drop,List.length_take];rfl)) ?_;(with_reducible refine (slices_Clone_byte_byte.calls _ _ l0 t493 _ ?side1 ?side2 A4.out).mono ?_);(case side1=>repeat (first|exact (Kd.C_below HR0.out HB.out)|(with_reducible refine Kd.C_alloc ?_ _)|(with_reducible refine Kd.C_drewN ?_ _)|(with_reducible refine Kd.C_drew ?_)));(case side2=>exact HC0.out);rintro e w7 ⟨v494,rfl,ho0,hb⟩;refine ⟨_,rfl,?_⟩;have n0_:=Aside0.mk (Kd.R_lower ho0 (below_size (by repeat (first|(with_reducible first|exact HB.out|apply below_alloc|apply pw_below_drewN|apply below_drew1)|exact HB.out))));have n1_:=Aside0.mk (below_step (by repeat (first|(with_reducible first|exact HB.out|apply below_alloc|apply pw_below_drewN|apply below_drew1)|exact HB.out)) hb);clear HB;have HO495:=n0_;have HB:=n1_;clear n0_ n1_;(try clear hb);(try clear hb2);(try clear hk);(try clear hi);(try clear ho0))|((with_reducible refine gate_dst (N:=22) rfl ?_);refine Kd.R_lit (Kd.int .u8) _ 5 ?hg (N:=22) ?hd (xs:=([((wrap64 (t492+2147483648)) / 16777216) % 256,((wrap64 (t492+2147483648)) / 65536) % 256,((wrap64 (t492+2147483648)) / 256) % 256,(wrap64 (t492+2147483648)) % 256]:List Int)) (inner:=[.int .u8 (((wrap64 (t492+2147483648)) / 16777216) % 256),.int .u8 (((wrap64 (t492+2147483648)) / 65536) % 256),.int .u8 (((wrap64 (t492+2147483648)) / 256) % 256),.int .u8 ((wrap64 (t492+2147483648)) % 256)]) (ok:=fun _=>True) (okp:=fun _=>True) ?hr ?hp (fun _ hk=>hk) trivial (Below.refl _ _) (Nat.le_refl _) (by simp) ?_;(case hd=>rfl);(case hg=>rfl);(case hr=>first|(go_simp;done)|(go_simp;rfl));(case hp=>exact (Reps.one (show Kd.M (Kd.int .u8) _ _ _ (((wrap64 (t492+2147483648)) / 16777216) % 256) [.int .u8 (((wrap64 (t492+2147483648)) / 16777216) % 256)] from rfl) (Reps.one (show Kd.M (Kd.int .u8) _ _ _ (((wrap64 (t492+2147483648)) / 65536) % 256) [.int .u8 (((wrap64 (t492+2147483648)) / 65536) % 256)] from rfl) (Reps.one (show Kd.M (Kd.int .u8) _ _ _ (((wrap64 (t492+2147483648)) / 256) % 256) [.int .u8 (((wrap64 (t492+2147483648)) / 256) % 256)] from rfl) (Reps.one (show Kd.M (Kd.int .u8) _ _ _ ((wrap64 (t492+2147483648)) % 256) [.int .u8 ((wrap64 (t492+2147483648)) % 256)] from rfl) (Reps.none _ _))))));intro v497 w8 ho9 hb hg_ hnew_;clear hg_ hnew_;(first|rw [← Ny496.out] at ho9|(simp only [Int.reduceToNat] at ho9;rw [← Ny496.out] at ho9));have n0_:=Aside0.mk (Kd.R_elder' (by (with_reducible repeat (first|apply Kd.R_alloc|apply Kd.R_drewN|apply Kd.R_drew));exact HO495.out) (Kd.R_base ho9) hb);have n1_:=Aside0.mk (Kd.R_lower (Kd.R_new' ho9 (Kd.R_lt (by (with_reducible repeat (first|apply Kd.R_alloc|apply Kd.R_drewN|apply Kd.R_drew));exact HO495.out))) (below_size (by repeat (first|(with_reducible first|exact HB.out|apply below_alloc|apply pw_below_drewN|apply below_drew1)|exact HB.out))));have n2_:=Aside0.mk (below_step (by repeat (first|(with_reducible first|exact HB.out|apply below_alloc|apply pw_below_drewN|apply below_drew1)|exact HB.out)) hb);clear HO495;clear HB;have HO495:=n0_;have HO498:=n1_;have HB:=n2_;clear n0_ n1_ n2_;clear hb ho9;obtain ⟨Ao11,co11,eo11⟩:=Kd.R_slice HO498.out;subst eo11)|((with_reducible refine gate_builtin (b := .append) (xs:=#[.tmp 10,.tmp 22]) rfl ?_);at_builtin;refine Kd.R_append_rows (Kd.int .u8) (w0:=w) w.heap.size rfl (.tmp 10) (.tmp 22) 22 5 (.int .u8 0) 1 rfl Try.underlying22 info5 rfl (by decide) (by omega) v494 t493 y496 _ _ _ (fun k_=>some k_≠(.slice Ao11 y496.length co11:Value).ownBlock) (fun _=>False) rfl rfl ?aO ?aR (fun _ _ h=>h) (fun _ h=>h.elim) ?aF ?aB ?aS ?aL ?_;(case aR=>repeat (first|exact (Kd.R_reads' HO498.out).2.2|(with_reducible refine Kd.C_alloc ?_ _)|(with_reducible refine Kd.C_drewN ?_ _)|(with_reducible refine Kd.C_drew ?_)));(case aB=>exact (by repeat (first|(with_reducible first|exact HB.out|apply below_alloc|apply pw_below_drewN|apply below_drew1)|exact HB.out)));(case aF=>exact (fun k_ hk=>Kd.fresh' (Kd.R_lt (by (with_reducible repeat (first|apply Kd.R_alloc|apply Kd.R_drewN|apply Kd.R_drew));exact HO498.out)) k_ hk));(case aO=>exact (by (with_reducible repeat (first|apply Kd.R_alloc|apply Kd.R_drewN|apply Kd.R_drew));exact Kd.R_mono HO495.out (fun _ hk=>hk.2)));(case aS=>exact (below_size (by repeat (first|(with_reducible first|exact HB.out|apply below_alloc|apply pw_below_drewN|apply below_drew1)|exact HB.out))));(case aL=>have:=LMc5.out;omega);intro v500 w10 ho hb hg hat;rw [← Ny499.out] at ho;have n0_:=Aside0.mk (Kd.R_after (ok:=(fun _=>True)) (by (with_reducible repeat (first|apply Kd.R_alloc|apply Kd.R_drewN|apply Kd.R_drew));exact HO498.out) hg hat);have n1_:=Aside0.mk (hb);have n2_:=Aside0.mk (ho);clear HO498;clear HB;clear HO495;have HO498:=n0_;have HB:=n1_;have HO501:=n2_;clear n0_ n1_ n2_;clear ho hb hg hat))
  go_ret
  exact ⟨_,by first|rfl|(simp [errW_none,errW_some]<;>rfl)|(simp [*,errW_none,errW_some]<;>rfl),by (with_reducible repeat (first|apply Kd.R_alloc|apply Kd.R_drewN|apply Kd.R_drew));exact Kd.R_mono HO501.out (fun _ hk=>trivial),by repeat (first|(with_reducible first|exact HB.out|apply below_alloc|apply pw_below_drewN|apply below_drew1)|exact HB.out)⟩
 ·rw [if_neg c5] at H
  exact absurd H (by simp)
def spec_PutNum.f (l0:List Int) (a1:Int):Option (List Int):=(spec_Bound.f a1).bind fun t583=>((some (([]:List Int):List Int)).bind fun y584=>(if y584.length+l0.length < 140737488355328 then ((some (y584++l0:List Int)).bind fun y587=>((some (([(Go.bits .and .i64 ((wrap64 (t583+2147483648)) / 16777216) 255) % 256,(Go.bits .and .i64 ((wrap64 (t583+2147483648)) / 65536) 255) % 256,(Go.bits .and .i64 ((wrap64 (t583+2147483648)) / 256) 255) % 256,(Go.bits .and .i64 (wrap64 (t583+2147483648)) 255) % 256]:List Int):List Int)).bind fun y590=>(if y587.length+y590.length < 140737488355328 then (some (y587++y590)) else (none)))) else (none)))
set_option maxHeartbeats 8000000 in
set_option maxRecDepth 100000 in
theorem spec_PutNum.calls (A0:Option Addr) (c0:Nat) (l0:List Int) (a1:Int) (r:List Int) (w:World) (hr0:Kd.C (Kd.int .u8) w A0 l0.length l0) (hc0:l0.length≤c0) (h:spec_PutNum.f l0 a1=some r) :
  Calls Try.prog 113 #[.slice A0 l0.length c0,.int .i64 a1] w fun e w'=>∃ v0_:Value,e = .returned (v0_)∧Kd.R (Kd.int .u8) 5 w' w.heap.size (fun _=>True) v0_ r∧Below w.heap.size w w':=by
 have HR0:=Aside0.mk hr0
 have HC0:=Aside0.mk hc0
 clear hr0 hc0
 have HB:=Aside0.mk (Below.refl w.heap.size w)
 have H:((spec_Bound.f a1).bind fun t583=>((some (([]:List Int):List Int)).bind fun y584=>(if y584.length+l0.length < 140737488355328 then ((some (y584++l0:List Int)).bind fun y587=>((some (([(Go.bits .and .i64 ((wrap64 (t583+2147483648)) / 16777216) 255) % 256,(Go.bits .and .i64 ((wrap64 (t583+2147483648)) / 65536) 255) % 256,(Go.bits .and .i64 ((wrap64 (t583+2147483648)) / 256) 255) % 256,(Go.bits .and .i64 (wrap64 (t583+2147483648)) 255) % 256]:List Int):List Int)).bind fun y590=>(if y587.length+y590.length < 140737488355328 then (some (y587++y590)) else (none)))) else (none))))=some r:=h
 clear h
 replace H:=Option.bind_eq_some_iff.mp H
 obtain ⟨t583,A30,H⟩:=H
 (try dsimp only at H)
 have A3:=Aside0.mk A30
 clear A30
 obtain ⟨y584,hy584⟩:∃ y_:List Int,y_=(([]:List Int)):=⟨_,rfl⟩
 replace H:(if y584.length+l0.length < 140737488355328 then ((some (y584++l0:List Int)).bind fun y587=>((some (([(Go.bits .and .i64 ((wrap64 (t583+2147483648)) / 16777216) 255) % 256,(Go.bits .and .i64 ((wrap64 (t583+2147483648)) / 65536) 255) % 256,(Go.bits .and .i64 ((wrap64 (t583+2147483648)) / 256) 255) % 256,(Go.bits .and .i64 (wrap64 (t583+2147483648)) 255) % 256]:List Int):List Int)).bind fun y590=>(if y587.length+y590.length < 140737488355328 then (some (y587++y590)) else (none)))) else (none))=some r:=by first|(rw [hy584];with_reducible exact H)|(have H2_:=(Option.bind_some _ _).symm.trans H;rw [hy584];with_reducible exact H2_)|(have H2_:=(Option.bind_some _ _).symm.trans H;with_reducible exact H2_)|with_reducible exact H|(rw [hy584];exact H)|exact H
 have Ny584:=Aside0.mk hy584
 clear hy584
 by_cases c4:y584.length+l0.length < 140737488355328
 rotate_left
 ·rw [if_neg c4] at H
  exact absurd H (by simp)
 rw [if_pos c4] at H
 have LMc4:=Aside0.mk c4
 clear c4
 obtain ⟨y587,hy587⟩:∃ y_:List Int,y_=(y584++l0):=⟨_,rfl⟩
 replace H:((some (([(Go.bits .and .i64 ((wrap64 (t583+2147483648)) / 16777216) 255) % 256,(Go.bits .and .i64 ((wrap64 (t583+2147483648)) / 65536) 255) % 256,(Go.bits .and .i64 ((wrap64 (t583+2147483648)) / 256) 255) % 256,(Go.bits .and .i64 (wrap64 (t583+2147483648)) 255) % 256]:List Int):List Int)).bind fun y590=>(if y587.length+y590.length < 140737488355328 then (some (y587++y590)) else (none)))=some r:=by first|(rw [hy587];with_reducible exact H)|(have H2_:=(Option.bind_some _ _).symm.trans H;rw [hy587];with_reducible exact H2_)|(have H2_:=(Option.bind_some _ _).symm.trans H;with_reducible exact H2_)|with_reducible exact H|(rw [hy587];exact H)|exact H
 have Ny587:=Aside0.mk hy587
 clear hy587
 obtain ⟨y590,hy590⟩:∃ y_:List Int,y_=(([(Go.bits .and .i64 ((wrap64 (t583+2147483648)) / 16777216) 255) % 256,(Go.bits .and .i64 ((wrap64 (t583+2147483648)) / 65536) 255) % 256,(Go.bits .and .i64 ((wrap64 (t583+2147483648)) / 256) 255) % 256,(Go.bits .and .i64 (wrap64 (t583+2147483648)) 255) % 256]:List Int)):=⟨_,rfl⟩
 replace H:(if y587.length+y590.length < 140737488355328 then (some (y587++y590)) else (none))=some r:=by first|(rw [hy590];with_reducible exact H)|(have H2_:=(Option.bind_some _ _).symm.trans H;rw [hy590];with_reducible exact H2_)|(have H2_:=(Option.bind_some _ _).symm.trans H;with_reducible exact H2_)|with_reducible exact H|(rw [hy590];exact H)|exact H
 have Ny590:=Aside0.mk hy590
 clear hy590
 by_cases c5:y587.length+y590.length < 140737488355328
 rotate_left
 ·rw [if_neg c5] at H
  exact absurd H (by simp)
 rw [if_pos c5] at H
 have LMc5:=Aside0.mk c5
 clear c5
 obtain ⟨y593,hy593⟩:∃ y_:List Int,y_=(y587++y590):=⟨_,rfl⟩
 replace H:(some y593)=some r:=by first|(rw [hy593];with_reducible exact H)|(have H2_:=(Option.bind_some _ _).symm.trans H;rw [hy593];with_reducible exact H2_)|(have H2_:=(Option.bind_some _ _).symm.trans H;with_reducible exact H2_)|with_reducible exact H|(rw [hy593];exact H)|exact H
 have Ny593:=Aside0.mk hy593
 clear hy593
 obtain rfl:=Option.some.inj H
 go_enter Try.func113,Try.ntmps113
 go_wp2_with (first|((with_reducible refine gate_callee (f:=128) rfl ?_);refine goesL_ (some 7) rfl rfl Try.func128 (by kernel_rfl) rfl #[.int .i64 a1] rfl Z18Pn_14 ?_;(with_reducible refine (spec_Bound.calls a1 t583 _ A3.out).mono ?_);rintro e w' ⟨rfl,⟨nd,rfl⟩⟩;refine ⟨_,rfl,?_⟩)|((with_reducible refine gate_dst (N:=9) rfl ?_);refine Kd.R_lit (Kd.int .u8) _ 5 ?hg (N:=9) ?hd (xs:=([]:List Int)) (inner:=[]) (ok:=fun _=>True) (okp:=fun _=>True) ?hr ?hp (fun _ hk=>hk) trivial (Below.refl _ _) (Nat.le_refl _) (by simp) ?_;(case hd=>rfl);(case hg=>rfl);(case hr=>first|(go_simp;done)|(go_simp;rfl));(case hp=>exact (Reps.none _ _));intro v585 w6 ho7 hb hg_ hnew_;clear hg_ hnew_;(first|rw [← Ny584.out] at ho7|(simp only [Int.reduceToNat] at ho7;rw [← Ny584.out] at ho7));have n0_:=Aside0.mk (Kd.R_lower ho7 (below_size Z18Pn_15));have n1_:=Aside0.mk Z18Pn_12;clear HB;have HO586:=n0_;have HB:=n1_;clear n0_ n1_;clear hb ho7)|((with_reducible refine gate_builtin (b := .append) (xs:=#[.tmp 9,.tmp 10]) rfl ?_);at_builtin;refine Kd.R_append_rows (Kd.int .u8) (w0:=w) w.heap.size rfl (.tmp 9) (.tmp 10) 22 5 (.int .u8 0) 1 rfl Try.underlying22 info5 rfl (by decide) (by omega) v585 y584 l0 _ _ _ (fun _=>True) (fun _=>False) rfl rfl ?aO ?aR (fun _ _ h=>h) (fun _ h=>h.elim) ?aF ?aB ?aS ?aL ?_;(case aR=>repeat (first|exact (Kd.C_below HR0.out HB.out)|(with_reducible refine Kd.C_alloc ?_ _)|(with_reducible refine Kd.C_drewN ?_ _)|(with_reducible refine Kd.C_drew ?_)));(case aB=>exact Z18Pn_15);(case aF=>exact (fun _ _=>trivial));(case aO=>exact (by (with_reducible repeat (first|apply Kd.R_alloc|apply Kd.R_drewN|apply Kd.R_drew));exact HO586.out));(case aS=>exact (below_size Z18Pn_15));(case aL=>have:=LMc4.out;omega);intro v588 w8 ho hb hg hat;rw [← Ny587.out] at ho;have n0_:=Aside0.mk (hb);have n1_:=Aside0.mk (ho);clear HB;clear HO586;have HB:=n0_;have HO589:=n1_;clear n0_ n1_;clear ho hb hg hat)|((with_reducible refine gate_dst (N:=27) rfl ?_);refine Kd.R_lit (Kd.int .u8) _ 5 ?hg (N:=27) ?hd (xs:=([(Go.bits .and .i64 ((wrap64 (t583+2147483648)) / 16777216) 255) % 256,(Go.bits .and .i64 ((wrap64 (t583+2147483648)) / 65536) 255) % 256,(Go.bits .and .i64 ((wrap64 (t583+2147483648)) / 256) 255) % 256,(Go.bits .and .i64 (wrap64 (t583+2147483648)) 255) % 256]:List Int)) (inner:=[.int .u8 ((Go.bits .and .i64 ((wrap64 (t583+2147483648)) / 16777216) 255) % 256),.int .u8 ((Go.bits .and .i64 ((wrap64 (t583+2147483648)) / 65536) 255) % 256),.int .u8 ((Go.bits .and .i64 ((wrap64 (t583+2147483648)) / 256) 255) % 256),.int .u8 ((Go.bits .and .i64 (wrap64 (t583+2147483648)) 255) % 256)]) (ok:=fun _=>True) (okp:=fun _=>True) ?hr ?hp (fun _ hk=>hk) trivial (Below.refl _ _) (Nat.le_refl _) (by simp) ?_;(case hd=>rfl);(case hg=>rfl);(case hr=>first|(go_simp;done)|(go_simp;rfl));(case hp=>exact (Reps.one (show Kd.M (Kd.int .u8) _ _ _ ((Go.bits .and .i64 ((wrap64 (t583+2147483648)) / 16777216) 255) % 256) [.int .u8 ((Go.bits .and .i64 ((wrap64 (t583+2147483648)) / 16777216) 255) % 256)] from rfl) (Reps.one (show Kd.M (Kd.int .u8) _ _ _ ((Go.bits .and .i64 ((wrap64 (t583+2147483648)) / 65536) 255) % 256) [.int .u8 ((Go.bits .and .i64 ((wrap64 (t583+2147483648)) / 65536) 255) % 256)] from rfl) (Reps.one (show Kd.M (Kd.int .u8) _ _ _ ((Go.bits .and .i64 ((wrap64 (t583+2147483648)) / 256) 255) % 256) [.int .u8 ((Go.bits .and .i64 ((wrap64 (t583+2147483648)) / 256) 255) % 256)] from rfl) (Reps.one (show Kd.M (Kd.int .u8) _ _ _ ((Go.bits .and .i64 (wrap64 (t583+2147483648)) 255) % 256) [.int .u8 ((Go.bits .and .i64 (wrap64 (t583+2147483648)) 255) % 256)] from rfl) (Reps.none _ _))))));intro v591 w9 ho10 hb hg_ hnew_;clear hg_ hnew_;(first|rw [← Ny590.out] at ho10|(simp only [Int.reduceToNat] at ho10;rw [← Ny590.out] at ho10));have n0_:=Aside0.mk (Kd.R_elder' Z18Pn_19 (Kd.R_base ho10) hb);have n1_:=Aside0.mk (Kd.R_lower (Kd.R_new' ho10 (Kd.R_lt Z18Pn_19)) (below_size Z18Pn_15));have n2_:=Aside0.mk Z18Pn_12;clear HO589;clear HB;have HO589:=n0_;have HO592:=n1_;have HB:=n2_;clear n0_ n1_ n2_;clear hb ho10;obtain ⟨Ao12,co12,eo12⟩:=Kd.R_slice HO592.out;subst eo12)|((with_reducible refine gate_builtin (b := .append) (xs:=#[.tmp 11,.tmp 27]) rfl ?_);at_builtin;refine Kd.R_append_rows (Kd.int .u8) (w0:=w) w.heap.size rfl (.tmp 11) (.tmp 27) 22 5 (.int .u8 0) 1 rfl Try.underlying22 info5 rfl (by decide) (by omega) v588 y587 y590 _ _ _ (fun k_=>some k_≠(.slice Ao12 y590.length co12:Value).ownBlock) (fun _=>False) rfl rfl ?aO ?aR (fun _ _ h=>h) (fun _ h=>h.elim) ?aF ?aB ?aS ?aL ?_;(case aR=>repeat (first|exact (Kd.R_reads' HO592.out).2.2|(with_reducible refine Kd.C_alloc ?_ _)|(with_reducible refine Kd.C_drewN ?_ _)|(with_reducible refine Kd.C_drew ?_)));(case aB=>exact Z18Pn_15);(case aF=>exact (fun k_ hk=>Kd.fresh' (Kd.R_lt Z18Pn_20) k_ hk));(case aO=>exact (by (with_reducible repeat (first|apply Kd.R_alloc|apply Kd.R_drewN|apply Kd.R_drew));exact Kd.R_mono HO589.out (fun _ hk=>hk.2)));(case aS=>exact (below_size Z18Pn_15));(case aL=>have:=LMc5.out;omega);intro v594 w11 ho hb hg hat;rw [← Ny593.out] at ho;have n0_:=Aside0.mk (Kd.R_after (ok:=(fun _=>True)) Z18Pn_20 hg hat);have n1_:=Aside0.mk (hb);have n2_:=Aside0.mk (ho);clear HO592;clear HB;clear HO589;have HO592:=n0_;have HB:=n1_;have HO595:=n2_;clear n0_ n1_ n2_;clear ho hb hg hat))
 go_ret
 exact ⟨_,Z18Pn_21,(by (with_reducible repeat (first|apply Kd.R_alloc|apply Kd.R_drewN|apply Kd.R_drew));exact Kd.R_mono HO595.out (fun _ hk=>trivial)),Z18Pn_15⟩
def spec_l4Bit.f (a0:Bool):Option (Int):=if a0=true then (some 1) else (some 0)
set_option maxHeartbeats 8000000 in
set_option maxRecDepth 100000 in
theorem spec_l4Bit.calls (a0:Bool) (r:Int) (w:World) (h:spec_l4Bit.f a0=some r) :
  Calls Try.prog 114 #[.bool a0] w fun e w'=>e = .returned (.int .i64 r)∧Drawn0 w w':=by
 have H:(if a0=true then (some 1) else (some 0))=some r:=h
 clear h
 by_cases c2:a0=true
 ·subst c2
  have H1:(some 1)=some r:=by rw [if_pos rfl] at H;exact H
  clear H
  have H:=H1
  clear H1
  obtain rfl:=Option.some.inj H
  go_enter Try.func114,Try.ntmps114
  go_wp2
  go_ret
  exact ⟨(by first|rfl|(simp;done)|(simp [*];done)),(by repeat (first|exact Drawn0.refl _|apply Drawn0.step))⟩
 replace c2:=Bool.eq_false_iff.mpr c2
 subst c2
 have H1:(some 0)=some r:=by rw [if_neg (show ¬ (false=true) by decide)] at H;exact H
 clear H
 have H:=H1
 clear H1
 obtain rfl:=Option.some.inj H
 go_enter Try.func114,Try.ntmps114
 go_wp2
 go_ret
 exact ⟨(by first|rfl|(simp;done)|(simp [*];done)),(by repeat (first|exact Drawn0.refl _|apply Drawn0.step))⟩
end Go.Proofs.Ytfkidiagmekleaa.QAll
