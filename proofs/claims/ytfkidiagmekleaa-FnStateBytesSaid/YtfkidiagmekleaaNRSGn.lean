import Derived.Test.YtfkidiagmekleaaNQAllx0
namespace Go.Proofs.Ytfkidiagmekleaa.QAll
open Go.RowKit Go.Proofs.YtfkidiagmekleaaW.PrintWords Go.Proofs.YtfkidiagmekleaaW.PrintLast Go.Proofs.YtfkidiagmekleaaW.PrintMore
attribute [local go_sem] max2_int min2_int max_two min_two max_three min_three max_four min_four
set_option linter.unusedVariables false
set_option linter.unusedSimpArgs false
mutual
def spec_GetNum.j0:Nat→List Int→Int→Bool→Option (Int×Int×Bool)
 | 0,_,_,_=>none
 | k+1,x0,x1,x17=>if x17=true then (some (0,0,false)) else (spec_GetNum.l0 k x0 x1 0 0)
def spec_GetNum.l0:Nat→List Int→Int→Int→Int→Option (Int×Int×Bool)
 | 0,_,_,_,_=>none
 | k+1,x0,x1,x7,x8=>if x8 < 4 then (if 0≤(wrap64 (x1+x8)) then (if (wrap64 (x1+x8)) < (x0.length:Int) then (spec_GetNum.l0 k x0 x1 (wrap64 ((wrap64 (x7*256))+(wrap64 (rd x0 (wrap64 (x1+x8)))))) (wrap64 (x8+1))) else (none)) else (none)) else (if x7=0 then (some (0,0,false)) else (some (wrap64 (x7 - 2147483648),wrap64 (x1+4),true)))
end
def spec_GetNum.f (k:Nat) (l0:List Int) (a1:Int):Option (Int×Int×Bool):=if a1 < 0 then (spec_GetNum.j0 k l0 a1 true) else (spec_GetNum.j0 k l0 a1 (decide (a1 > (wrap64 ((l0.length:Int) - 4)))))
set_option maxHeartbeats 8000000 in
set_option maxRecDepth 100000 in
theorem spec_GetNum.calls (k:Nat) (A0:Option Addr) (c0:Nat) (l0:List Int) (a1:Int) (r1:Int) (r2:Int) (r3:Bool) (w:World) (hr0:Kd.C (Kd.int .u8) w A0 l0.length l0) (hc0:l0.length≤c0) (h:spec_GetNum.f k l0 a1=some (r1,r2,r3)) :
  Calls Try.prog 129 #[.slice A0 l0.length c0,.int .i64 a1] w fun e w'=>e = .returned (.tuple #[.int .i64 r1,.int .i64 r2,.bool r3])∧Drawn0 w w':=by
 have HR0:=Aside0.mk hr0
 have HC0:=Aside0.mk hc0
 clear hr0 hc0
 have H:(if a1 < 0 then (spec_GetNum.j0 k l0 a1 true) else (spec_GetNum.j0 k l0 a1 (decide (a1 > (wrap64 ((l0.length:Int) - 4))))))=some (r1,r2,r3):=h
 clear h
 have HC3:=Aside0.mk H
 clear H
 go_enter Try.func129,Try.ntmps129
 go_upto_region 1 with (fail)
 go_cut [17] (fun v17 wc=>∃ (kq:Nat) (x17_2:Bool),v17 = .bool x17_2∧Aside0 (spec_GetNum.j0 kq l0 a1 x17_2=some (r1,r2,r3))∧Aside0 (kq≤k)∧Drawn0 w wc)
 case first =>
  have H:=HC3.out
  clear HC3
  by_cases c4:a1 < 0
  ·rw [if_pos c4] at H
   have c4b0:decide (a1 < 0)=true:=decide_eq_true c4
   clear c4
   (first|rw [c4b0]|(simp only [i64_w,i32_w];rw [c4b0])|skip)
   have H':=Aside0.mk H
   clear H
   go_wp2
   go_meet
   case rel=>exact ⟨_,(true),(by first|rfl|(simp;done)|(simp [*];done)),H',⟨by first|omega|exact Nat.le_refl _⟩,by repeat (first|exact Drawn0.refl _|apply Drawn0.step)⟩
  ·rw [if_neg c4] at H
   have c4b0:decide (a1 < 0)=false:=decide_eq_false c4
   clear c4
   (first|rw [c4b0]|(simp only [i64_w,i32_w];rw [c4b0])|skip)
   have H':=Aside0.mk H
   clear H
   go_wp2
   go_meet
   case rel=>exact ⟨_,(decide (a1 > (wrap64 ((l0.length:Int) - 4)))),(by first|rfl|(simp;done)|(simp [*];done)),H',⟨by first|omega|exact Nat.le_refl _⟩,by repeat (first|exact Drawn0.refl _|apply Drawn0.step)⟩
 case rest =>
  clear HC3
  try clear c1
  try clear p2
  try clear c4
  try clear c4b0
  obtain ⟨kq,x17_2,rfl,HA,HJ2,⟨mc2,rfl⟩⟩:=hcut
  cases kq with
  | zero=>exact absurd HA.out (by simp [spec_GetNum.j0])
  | succ kj2 =>
   have H:=HA.out
   clear HA
   simp only [spec_GetNum.j0] at H
   by_cases c5:x17_2=true
   ·subst c5
    have H1:(some (0,0,false))=some (r1,r2,r3):=by rw [if_pos rfl] at H;exact H
    clear H
    have H:=H1
    clear H1
    simp only [Option.some.injEq,Prod.mk.injEq] at H
    obtain ⟨rfl,rfl,rfl⟩:=H
    go_wp2
    go_ret3
    exact ⟨by first|rfl|(simp;done)|(simp [*];done),by repeat (first|exact Drawn0.refl _|apply Drawn0.step)⟩
   ·replace c5:=Bool.eq_false_iff.mpr c5
    subst c5
    have H1:(spec_GetNum.l0 kj2 l0 a1 0 0)=some (r1,r2,r3):=by rw [if_neg (show ¬ (false=true) by decide)] at H;exact H
    clear H
    have H:=H1
    clear H1
    have H':=Aside0.mk H
    clear H
    go_wp2
    go_loopg [7,8] kj2 (fun kq v7 v8 w'=>∃ (x7_2:Int) (x8_2:Int),v7 = .int .i64 x7_2∧v8 = .int .i64 x8_2∧Aside0 (spec_GetNum.l0 kq l0 a1 x7_2 x8_2=some (r1,r2,r3))∧Aside0 (kq≤kj2)∧Drawn0 w w')
    case atStart=>exact ⟨(0),(0),(by first|rfl|(simp;done)|(simp [*];done)),(by first|rfl|(simp;done)|(simp [*];done)),H',⟨Nat.le_refl _⟩,by repeat (first|exact Drawn0.refl _|apply Drawn0.step)⟩
    case round =>
     clear H'
     try clear c1
     try clear c2
     try clear p2
     try clear c4
     try clear c4b0
     try clear c5
     try clear p2
     obtain ⟨x7_2,x8_2,rfl,rfl,HA,HK2,⟨m2,rfl⟩⟩:=hrel
     cases gk with
     | zero=>exact absurd HA.out (by simp [spec_GetNum.l0])
     | succ k2 =>
      have H:=HA.out
      clear HA
      simp only [spec_GetNum.l0] at H
      by_cases c6:x8_2 < 4
      ·rw [if_pos c6] at H
       have c6b0:decide (x8_2 < 4)=true:=decide_eq_true c6
       clear c6
       obtain ⟨ji7,hji7⟩:∃ j_:Int,(wrap64 (a1+x8_2))=j_:=⟨_,rfl⟩
       replace H:(if 0≤(ji7) then (if (ji7) < (l0.length:Int) then (spec_GetNum.l0 k2 l0 a1 (wrap64 ((wrap64 (x7_2*256))+(wrap64 (rd l0 (ji7))))) (wrap64 (x8_2+1))) else (none)) else (none))=some (r1,r2,r3):=by first|(rw [hji7] at H;exact H)|(simp only [hji7] at H ⊢;exact H)
       have hji7w:(IntKind.i64.wrap (a1+x8_2))=ji7:=(i64_w _).trans hji7
       by_cases c8:0≤(ji7)
       ·rw [if_pos c8] at H
        have c8b0:decide (0≤(ji7))=true:=decide_eq_true c8
        clear c8
        by_cases c9:(ji7) < (l0.length:Int)
        ·rw [if_pos c9] at H
         have c9b0:decide ((ji7) < (l0.length:Int))=true:=decide_eq_true c9
         clear c9
         have H':=Aside0.mk H
         clear H
         have p654:0≤((ji7):Int):=of_decide_eq_true (by first|(with_reducible assumption)|assumption)
         have q654:(ji7) < (l0.length:Int):=of_decide_eq_true (by first|(with_reducible assumption)|assumption)
         obtain ⟨ad654,e654,hx654_0⟩:=Kd.at_int HR0.out (ji7) p654 q654
         cases e654
         replace p654:=eq_true p654
         replace q654:=eq_true q654
         go_wp2
         go_roundg k2
         case measure=>have:=HJ2.out;have:=HK2.out;omega
         case rel=>exact ⟨(wrap64 ((wrap64 (x7_2*256))+(wrap64 (rd l0 (ji7))))),(wrap64 (x8_2+1)),(by first|rfl|(simp;done)|(simp only [← hji7]<;>(first|rfl|simp))|(simp [*];done)),(by first|rfl|(simp;done)|(simp [*];done)),H',⟨by have:=HJ2.out;have:=HK2.out;omega⟩,by repeat (first|exact Drawn0.refl _|apply Drawn0.step)⟩
        ·rw [if_neg c9] at H
         exact absurd H (by simp)
       ·rw [if_neg c8] at H
        exact absurd H (by simp)
      ·rw [if_neg c6] at H
       have c6b0:decide (x8_2 < 4)=false:=decide_eq_false c6
       clear c6
       by_cases c10:x7_2=0
       ·rw [if_pos c10] at H
        have c10b0:(x7_2==0)=true:=beq_iff_eq.mpr c10
        have c10b1:(x7_2 != 0)=false:=bne_eq_false_iff_eq.mpr c10
        clear c10
        simp only [Option.some.injEq,Prod.mk.injEq] at H
        obtain ⟨rfl,rfl,rfl⟩:=H
        go_wp2
        go_ret3
        exact ⟨by first|rfl|(simp;done)|(simp [*];done),by repeat (first|exact Drawn0.refl _|apply Drawn0.step)⟩
       ·rw [if_neg c10] at H
        have c10b0:(x7_2==0)=false:=beq_eq_false_iff_ne.mpr c10
        have c10b1:(x7_2 != 0)=true:=bne_iff_ne.mpr c10
        simp only [Option.some.injEq,Prod.mk.injEq] at H
        obtain ⟨rfl,rfl,rfl⟩:=H
        go_wp2
        go_ret3
        exact ⟨by first|rfl|(simp;done)|(simp [*];done),by repeat (first|exact Drawn0.refl _|apply Drawn0.step)⟩
def spec_l4Nums.l0:Nat→List Int→Int→List Int→Int→Int→Option (List Int×Int×Bool)
 | 0,_,_,_,_,_=>none
 | k+1,x0,x2,x9,x10,x11=>if x11 < x2 then ((spec_GetNum.f k x0 x10).bind fun bt658=>(if bt658.2.2=true then (if x9.length < 17592186044416 then (spec_l4Nums.l0 k x0 x2 (x9++[bt658.1]) bt658.2.1 (wrap64 (x11+1))) else (none)) else (some (x9,0,false)))) else (some (x9,x10,true))
def spec_l4Nums.f (k:Nat) (l0:List Int) (a1:Int) (a2:Int):Option (List Int×Int×Bool):=spec_l4Nums.l0 k l0 a2 (([]:List Int)) a1 0
set_option maxHeartbeats 8000000 in
set_option maxRecDepth 100000 in
theorem spec_l4Nums.calls (k:Nat) (A0:Option Addr) (c0:Nat) (l0:List Int) (a1:Int) (a2:Int) (r1:List Int) (r2:Int) (r3:Bool) (w:World) (hr0:Kd.C (Kd.int .u8) w A0 l0.length l0) (hc0:l0.length≤c0) (h:spec_l4Nums.f k l0 a1 a2=some (r1,r2,r3)) :
  Calls Try.prog 96 #[.slice A0 l0.length c0,.int .i64 a1,.int .i64 a2] w fun e w'=>∃ v0_:Value,e = .returned (.tuple #[v0_,.int .i64 r2,.bool r3])∧Kd.R (Kd.int .i64) 3 w' w.heap.size (fun _=>True) v0_ r1∧Below w.heap.size w w':=by
 have HR0:=Aside0.mk hr0
 have HC0:=Aside0.mk hc0
 clear hr0 hc0
 have HB:=Aside0.mk (Below.refl w.heap.size w)
 have H:(spec_l4Nums.l0 k l0 a2 (([]:List Int)) a1 0)=some (r1,r2,r3):=h
 clear h
 obtain ⟨y655,hy655⟩:∃ y_:List Int,y_=(([]:List Int)):=⟨_,rfl⟩
 replace H:(spec_l4Nums.l0 k l0 a2 y655 a1 0)=some (r1,r2,r3):=by first|(rw [hy655];with_reducible exact H)|(have H2_:=(Option.bind_some _ _).symm.trans H;rw [hy655];with_reducible exact H2_)|(have H2_:=(Option.bind_some _ _).symm.trans H;with_reducible exact H2_)|with_reducible exact H|(rw [hy655];exact H)|exact H
 have Ny655:=Aside0.mk hy655
 clear hy655
 have H':=Aside0.mk H
 clear H
 go_enter Try.func96,Try.ntmps96
 go_wp2_with (first|((with_reducible refine gate_dst (N:=15) rfl ?_);refine Kd.R_lit (Kd.int .i64) _ 3 ?hg (N:=15) ?hd (xs:=([]:List Int)) (inner:=[]) (ok:=fun _=>True) (okp:=fun _=>True) ?hr ?hp (fun _ hk=>hk) trivial (Below.refl _ _) (Nat.le_refl _) (by simp) ?_;(case hd=>rfl);(case hg=>rfl);(case hr=>first|(go_simp;done)|(go_simp;rfl));(case hp=>exact (Reps.none _ _));intro v656 w4 ho5 hb hg_ hnew_;clear hg_ hnew_;(first|rw [← Ny655.out] at ho5|(simp only [Int.reduceToNat] at ho5;rw [← Ny655.out] at ho5));have n0_:=Aside0.mk (Kd.R_lower ho5 (below_size (by repeat (first|(with_reducible first|exact HB.out|apply below_alloc|apply pw_below_drewN|apply below_drew1)|exact HB.out))));have n1_:=Aside0.mk (below_step (by repeat (first|(with_reducible first|exact HB.out|apply below_alloc|apply pw_below_drewN|apply below_drew1)|exact HB.out)) hb);clear HB;have HO657:=n0_;have HB:=n1_;clear n0_ n1_;clear hb ho5))
 go_loopg [9,10,11] k (fun kq v9 v10 v11 w'=>∃ (x9_1:List Int) (x10_1:Int) (x11_1:Int),v10 = .int .i64 x10_1∧v11 = .int .i64 x11_1∧Aside0 (spec_l4Nums.l0 kq l0 a2 x9_1 x10_1 x11_1=some (r1,r2,r3))∧Aside0 (kq≤k)∧Aside0 (Kd.R (Kd.int .i64) 3 w' w.heap.size (fun _=>True) v9 x9_1)∧Aside0 (Below w.heap.size w w'))
 case atStart=>exact ⟨(y655),(a1),(0),(by first|rfl|(simp;done)|(simp [*];done)),(by first|rfl|(simp;done)|(simp [*];done)),H',⟨Nat.le_refl _⟩,⟨by (with_reducible repeat (first|apply Kd.R_alloc|apply Kd.R_drewN|apply Kd.R_drew));exact HO657.out⟩,⟨by repeat (first|(with_reducible first|exact HB.out|apply below_alloc|apply pw_below_drewN|apply below_drew1)|exact HB.out)⟩⟩
 case round =>
  clear H'
  try clear p2
  obtain ⟨x9_1,x10_1,x11_1,rfl,rfl,HA,HK1,HO_9,HB⟩:=hrel
  cases gk with
  | zero=>exact absurd HA.out (by simp [spec_l4Nums.l0])
  | succ k1 =>
   have H:=HA.out
   clear HA
   simp only [spec_l4Nums.l0] at H
   by_cases c6:x11_1 < a2
   ·rw [if_pos c6] at H
    have c6b0:decide (x11_1 < a2)=true:=decide_eq_true c6
    clear c6
    replace H:=Option.bind_eq_some_iff.mp H
    obtain ⟨⟨t658,t659,t660⟩,A70,H⟩:=H
    replace H:(if t660=true then (if x9_1.length < 17592186044416 then (spec_l4Nums.l0 k1 l0 a2 (x9_1++[t658]) t659 (wrap64 (x11_1+1))) else (none)) else (some (x9_1,0,false)))=some (r1,r2,r3):=H
    have A7:=Aside0.mk A70
    clear A70
    by_cases c8:t660=true
    ·subst c8
     have H1:(if x9_1.length < 17592186044416 then (spec_l4Nums.l0 k1 l0 a2 (x9_1++[t658]) t659 (wrap64 (x11_1+1))) else (none))=some (r1,r2,r3):=by rw [if_pos rfl] at H;exact H
     clear H
     have H:=H1
     clear H1
     by_cases c9:x9_1.length < 17592186044416
     ·rw [if_pos c9] at H
      have LMc9:=Aside0.mk c9
      clear c9
      obtain ⟨y661,hy661⟩:∃ y_:List Int,y_=(x9_1++[t658]):=⟨_,rfl⟩
      replace H:(spec_l4Nums.l0 k1 l0 a2 y661 t659 (wrap64 (x11_1+1)))=some (r1,r2,r3):=by first|(rw [hy661];with_reducible exact H)|(have H2_:=(Option.bind_some _ _).symm.trans H;rw [hy661];with_reducible exact H2_)|(have H2_:=(Option.bind_some _ _).symm.trans H;with_reducible exact H2_)|with_reducible exact H|(rw [hy661];exact H)|exact H
      have Ny661:=Aside0.mk hy661
      clear hy661
      have H':=Aside0.mk H
      clear H
      go_wp2_with (first|((with_reducible refine gate_callee (f:=129) rfl ?_);refine goesL_ (some 25) rfl rfl Try.func129 (by kernel_rfl) rfl #[.slice A0 l0.length c0,.int .i64 x10_1] rfl (by (try simp only [List.map_toArray,List.map_cons,List.map_nil]);first|done|rfl|(simp only [List.length_drop,List.length_take];rfl)) ?_;(with_reducible refine (spec_GetNum.calls k1 _ _ l0 x10_1 t658 t659 true _ ?side1 ?side2 A7.out).mono ?_);(case side1=>repeat (first|exact (Kd.C_below HR0.out HB.out)|(with_reducible refine Kd.C_alloc ?_ _)|(with_reducible refine Kd.C_drewN ?_ _)|(with_reducible refine Kd.C_drew ?_)));(case side2=>exact HC0.out);rintro e w' ⟨rfl,⟨nd,rfl⟩⟩;refine ⟨_,rfl,?_⟩)|((with_reducible refine gate_builtin (b := .append) (xs:=#[.tmp 32,.tmp 34]) rfl ?_);at_builtin;refine Kd.R_append (Kd.int .i64) (w0:=w) w.heap.size rfl (.tmp 32) (.tmp 34) 67 3 (.int .i64 0) 8 rfl Try.underlying67 info3 rfl (by decide) (by omega) u9 x9_1 t658 [.int .i64 t658] (fun _=>True) (fun _=>False) rfl rfl ?aP (fun _ hk=>hk.elim) ?aF ?aO ?aB ?aS ?aL ?_;(case aP=>exact rfl);(case aB=>exact (by repeat (first|(with_reducible first|exact HB.out|apply below_alloc|apply pw_below_drewN|apply below_drew1)|exact HB.out)));(case aF=>exact (fun _ _=>trivial));(case aO=>exact (by (with_reducible repeat (first|apply Kd.R_alloc|apply Kd.R_drewN|apply Kd.R_drew));exact HO_9.out));(case aS=>exact (below_size (by repeat (first|(with_reducible first|exact HB.out|apply below_alloc|apply pw_below_drewN|apply below_drew1)|exact HB.out))));(case aL=>have:=LMc9.out;omega);intro v662 w10 ho hb hg hat;rw [← Ny661.out] at ho;have n0_:=Aside0.mk (hb);have n1_:=Aside0.mk (ho);clear HB;clear HO_9;have HB:=n0_;have HO663:=n1_;clear n0_ n1_;clear ho hb hg hat))
      go_roundg k1
      case measure=>have:=HK1.out;omega
      case rel=>exact ⟨(y661),(t659),(wrap64 (x11_1+1)),(by first|rfl|(simp;done)|(simp [*];done)),(by first|rfl|(simp;done)|(simp [*];done)),H',⟨by have:=HK1.out;omega⟩,⟨by (with_reducible repeat (first|apply Kd.R_alloc|apply Kd.R_drewN|apply Kd.R_drew));exact HO663.out⟩,⟨by repeat (first|(with_reducible first|exact HB.out|apply below_alloc|apply pw_below_drewN|apply below_drew1)|exact HB.out)⟩⟩
     ·rw [if_neg c9] at H
      exact absurd H (by simp)
    ·replace c8:=Bool.eq_false_iff.mpr c8
     subst c8
     have H1:(some (x9_1,0,false))=some (r1,r2,r3):=by rw [if_neg (show ¬ (false=true) by decide)] at H;exact H
     clear H
     have H:=H1
     clear H1
     simp only [Option.some.injEq,Prod.mk.injEq] at H
     obtain ⟨rfl,rfl,rfl⟩:=H
     go_wp2_with (first|((with_reducible refine gate_callee (f:=129) rfl ?_);refine goesL_ (some 25) rfl rfl Try.func129 (by kernel_rfl) rfl #[.slice A0 l0.length c0,.int .i64 x10_1] rfl (by (try simp only [List.map_toArray,List.map_cons,List.map_nil]);first|done|rfl|(simp only [List.length_drop,List.length_take];rfl)) ?_;(with_reducible refine (spec_GetNum.calls k1 _ _ l0 x10_1 t658 t659 false _ ?side1 ?side2 A7.out).mono ?_);(case side1=>repeat (first|exact (Kd.C_below HR0.out HB.out)|(with_reducible refine Kd.C_alloc ?_ _)|(with_reducible refine Kd.C_drewN ?_ _)|(with_reducible refine Kd.C_drew ?_)));(case side2=>exact HC0.out);rintro e w' ⟨rfl,⟨nd,rfl⟩⟩;refine ⟨_,rfl,?_⟩))
     go_ret3
     exact ⟨_,by first|rfl|(simp [errW_none,errW_some]<;>rfl)|(simp [*,errW_none,errW_some]<;>rfl),by (with_reducible repeat (first|apply Kd.R_alloc|apply Kd.R_drewN|apply Kd.R_drew));exact HO_9.out,by repeat (first|(with_reducible first|exact HB.out|apply below_alloc|apply pw_below_drewN|apply below_drew1)|exact HB.out)⟩
   ·rw [if_neg c6] at H
    have c6b0:decide (x11_1 < a2)=false:=decide_eq_false c6
    clear c6
    simp only [Option.some.injEq,Prod.mk.injEq] at H
    obtain ⟨rfl,rfl,rfl⟩:=H
    go_wp2
    go_ret3
    exact ⟨_,by first|rfl|(simp [errW_none,errW_some]<;>rfl)|(simp [*,errW_none,errW_some]<;>rfl),by (with_reducible repeat (first|apply Kd.R_alloc|apply Kd.R_drewN|apply Kd.R_drew));exact HO_9.out,by repeat (first|(with_reducible first|exact HB.out|apply below_alloc|apply pw_below_drewN|apply below_drew1)|exact HB.out)⟩
end Go.Proofs.Ytfkidiagmekleaa.QAll
