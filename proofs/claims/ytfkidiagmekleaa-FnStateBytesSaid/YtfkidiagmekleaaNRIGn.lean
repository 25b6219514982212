import Derived.Test.YtfkidiagmekleaaNQAllx0
namespace Go.Proofs.Ytfkidiagmekleaa.QAll
open Go.RowKit Go.Proofs.YtfkidiagmekleaaW.PrintWords Go.Proofs.YtfkidiagmekleaaW.PrintLast Go.Proofs.YtfkidiagmekleaaW.PrintMore
attribute [local go_sem] max2_int min2_int max_two min_two max_three min_three max_four min_four
set_option linter.unusedVariables false
set_option linter.unusedSimpArgs false
def impl_GetNum.j0:Nat→List Int→Int→Bool→Option (Int×Int×Bool)
 | 0,_,_,_=>none
 | k+1,x0,x1,x16=>if x16=true then (some (0,0,false)) else (if 0≤x1 then (if x1 < (x0.length:Int) then (if 0≤(wrap64 (x1+1)) then (if (wrap64 (x1+1)) < (x0.length:Int) then (if 0≤(wrap64 (x1+2)) then (if (wrap64 (x1+2)) < (x0.length:Int) then (if 0≤(wrap64 (x1+3)) then (if (wrap64 (x1+3)) < (x0.length:Int) then (if (Go.bits .or .i64 (Go.bits .or .i64 (Go.bits .or .i64 (wrap64 ((wrap64 (rd x0 x1))*16777216)) (wrap64 ((wrap64 (rd x0 (wrap64 (x1+1))))*65536))) (wrap64 ((wrap64 (rd x0 (wrap64 (x1+2))))*256))) (wrap64 (rd x0 (wrap64 (x1+3)))))=0 then (some (0,0,false)) else (some (wrap64 ((Go.bits .or .i64 (Go.bits .or .i64 (Go.bits .or .i64 (wrap64 ((wrap64 (rd x0 x1))*16777216)) (wrap64 ((wrap64 (rd x0 (wrap64 (x1+1))))*65536))) (wrap64 ((wrap64 (rd x0 (wrap64 (x1+2))))*256))) (wrap64 (rd x0 (wrap64 (x1+3))))) - 2147483648),wrap64 (x1+4),true))) else (none)) else (none)) else (none)) else (none)) else (none)) else (none)) else (none)) else (none))
def impl_GetNum.f (k:Nat) (l0:List Int) (a1:Int):Option (Int×Int×Bool):=if a1 < 0 then (impl_GetNum.j0 k l0 a1 true) else (impl_GetNum.j0 k l0 a1 (decide (a1 > (wrap64 ((l0.length:Int) - 4)))))
set_option maxHeartbeats 8000000 in
set_option maxRecDepth 100000 in
theorem impl_GetNum.calls (k:Nat) (A0:Option Addr) (c0:Nat) (l0:List Int) (a1:Int) (r1:Int) (r2:Int) (r3:Bool) (w:World) (hr0:Kd.C (Kd.int .u8) w A0 l0.length l0) (hc0:l0.length≤c0) (h:impl_GetNum.f k l0 a1=some (r1,r2,r3)) :
  Calls Try.prog 124 #[.slice A0 l0.length c0,.int .i64 a1] w fun e w'=>e = .returned (.tuple #[.int .i64 r1,.int .i64 r2,.bool r3])∧Drawn0 w w':=by
 have HR0:=Aside0.mk hr0
 have HC0:=Aside0.mk hc0
 clear hr0 hc0
 have H:(if a1 < 0 then (impl_GetNum.j0 k l0 a1 true) else (impl_GetNum.j0 k l0 a1 (decide (a1 > (wrap64 ((l0.length:Int) - 4))))))=some (r1,r2,r3):=h
 clear h
 have HC3:=Aside0.mk H
 clear H
 go_enter Try.func124,Try.ntmps124
 go_upto_region 1 with (fail)
 repeat (go_quiet (fail);go_upto_region 1 with (fail))
 go_cut [16] (fun v16 wc=>∃ (kq:Nat) (x16_2:Bool),v16 = .bool x16_2∧Aside0 (impl_GetNum.j0 kq l0 a1 x16_2=some (r1,r2,r3))∧Aside0 (kq≤k)∧Drawn0 w wc)
 case first =>
  have H:=HC3.out
  clear HC3
  by_cases c4:a1 < 0
  ·rw [if_pos c4] at H
   have c4b0:decide (a1 < 0)=true:=decide_eq_true c4
   clear c4
   (first|rw [c4b0]|(simp only [i64_w,i32_w];rw [c4b0])|skip)
   have H':=Aside0.mk H
   clear H
   go_wp2
   repeat (go_quiet (fail);try go_wp2)
   go_meet
   case rel=>exact ⟨_,(true),(by first|rfl|(simp;done)|(simp [*];done)),H',⟨by first|omega|exact Nat.le_refl _⟩,by repeat (first|exact Drawn0.refl _|apply Drawn0.step)⟩
  ·rw [if_neg c4] at H
   have c4b0:decide (a1 < 0)=false:=decide_eq_false c4
   clear c4
   (first|rw [c4b0]|(simp only [i64_w,i32_w];rw [c4b0])|skip)
   have H':=Aside0.mk H
   clear H
   go_wp2
   repeat (go_quiet (fail);try go_wp2)
   go_meet
   case rel=>exact ⟨_,(decide (a1 > (wrap64 ((l0.length:Int) - 4)))),(by first|rfl|(simp;done)|(simp [*];done)),H',⟨by first|omega|exact Nat.le_refl _⟩,by repeat (first|exact Drawn0.refl _|apply Drawn0.step)⟩
 case rest =>
  clear HC3
  try clear c1
  try clear p2
  try clear c4
  try clear c4b0
  obtain ⟨kq,x16_2,rfl,HA,HJ2,⟨mc2,rfl⟩⟩:=hcut
  cases kq with
  | zero=>exact absurd HA.out (by simp [impl_GetNum.j0])
  | succ kj2 =>
   have H:=HA.out
   clear HA
   simp only [impl_GetNum.j0] at H
   by_cases c5:x16_2=true
   ·subst c5
    have H1:(some (0,0,false))=some (r1,r2,r3):=by rw [if_pos rfl] at H;exact H
    clear H
    have H:=H1
    clear H1
    simp only [Option.some.injEq,Prod.mk.injEq] at H
    obtain ⟨rfl,rfl,rfl⟩:=H
    go_wp2
    repeat (go_quiet (fail);try go_wp2)
    go_ret3
    exact ⟨by first|rfl|(simp;done)|(simp [*];done),by repeat (first|exact Drawn0.refl _|apply Drawn0.step)⟩
   ·replace c5:=Bool.eq_false_iff.mpr c5
    subst c5
    have H1:(if 0≤a1 then (if a1 < (l0.length:Int) then (if 0≤(wrap64 (a1+1)) then (if (wrap64 (a1+1)) < (l0.length:Int) then (if 0≤(wrap64 (a1+2)) then (if (wrap64 (a1+2)) < (l0.length:Int) then (if 0≤(wrap64 (a1+3)) then (if (wrap64 (a1+3)) < (l0.length:Int) then (if (Go.bits .or .i64 (Go.bits .or .i64 (Go.bits .or .i64 (wrap64 ((wrap64 (rd l0 a1))*16777216)) (wrap64 ((wrap64 (rd l0 (wrap64 (a1+1))))*65536))) (wrap64 ((wrap64 (rd l0 (wrap64 (a1+2))))*256))) (wrap64 (rd l0 (wrap64 (a1+3)))))=0 then (some (0,0,false)) else (some (wrap64 ((Go.bits .or .i64 (Go.bits .or .i64 (Go.bits .or .i64 (wrap64 ((wrap64 (rd l0 a1))*16777216)) (wrap64 ((wrap64 (rd l0 (wrap64 (a1+1))))*65536))) (wrap64 ((wrap64 (rd l0 (wrap64 (a1+2))))*256))) (wrap64 (rd l0 (wrap64 (a1+3))))) - 2147483648),wrap64 (a1+4),true))) else (none)) else (none)) else (none)) else (none)) else (none)) else (none)) else (none)) else (none))=some (r1,r2,r3):=by rw [if_neg (show ¬ (false=true) by decide)] at H;exact H
    clear H
    have H:=H1
    clear H1
    by_cases c6:0≤a1
    ·rw [if_pos c6] at H
     have c6b0:decide (0≤a1)=true:=decide_eq_true c6
     clear c6
     by_cases c7:a1 < (l0.length:Int)
     ·rw [if_pos c7] at H
      have c7b0:decide (a1 < (l0.length:Int))=true:=decide_eq_true c7
      clear c7
      obtain ⟨ji8,hji8⟩:∃ j_:Int,(wrap64 (a1+1))=j_:=⟨_,rfl⟩
      replace H:(if 0≤(ji8) then (if (ji8) < (l0.length:Int) then (if 0≤(wrap64 (a1+2)) then (if (wrap64 (a1+2)) < (l0.length:Int) then (if 0≤(wrap64 (a1+3)) then (if (wrap64 (a1+3)) < (l0.length:Int) then (if (Go.bits .or .i64 (Go.bits .or .i64 (Go.bits .or .i64 (wrap64 ((wrap64 (rd l0 a1))*16777216)) (wrap64 ((wrap64 (rd l0 (ji8)))*65536))) (wrap64 ((wrap64 (rd l0 (wrap64 (a1+2))))*256))) (wrap64 (rd l0 (wrap64 (a1+3)))))=0 then (some (0,0,false)) else (some (wrap64 ((Go.bits .or .i64 (Go.bits .or .i64 (Go.bits .or .i64 (wrap64 ((wrap64 (rd l0 a1))*16777216)) (wrap64 ((wrap64 (rd l0 (ji8)))*65536))) (wrap64 ((wrap64 (rd l0 (wrap64 (a1+2))))*256))) (wrap64 (rd l0 (wrap64 (a1+3))))) - 2147483648),wrap64 (a1+4),true))) else (none)) else (none)) else (none)) else (none)) else (none)) else (none))=some (r1,r2,r3):=by first|(rw [hji8] at H;exact H)|(simp only [hji8] at H ⊢;exact H)
      have hji8w:(IntKind.i64.wrap (a1+1))=ji8:=(i64_w _).trans hji8
      by_cases c9:0≤(ji8)
      ·rw [if_pos c9] at H
       have c9b0:decide (0≤(ji8))=true:=decide_eq_true c9
       clear c9
       by_cases c10:(ji8) < (l0.length:Int)
       ·rw [if_pos c10] at H
        have c10b0:decide ((ji8) < (l0.length:Int))=true:=decide_eq_true c10
        clear c10
        obtain ⟨ji11,hji11⟩:∃ j_:Int,(wrap64 (a1+2))=j_:=⟨_,rfl⟩
        replace H:(if 0≤(ji11) then (if (ji11) < (l0.length:Int) then (if 0≤(wrap64 (a1+3)) then (if (wrap64 (a1+3)) < (l0.length:Int) then (if (Go.bits .or .i64 (Go.bits .or .i64 (Go.bits .or .i64 (wrap64 ((wrap64 (rd l0 a1))*16777216)) (wrap64 ((wrap64 (rd l0 (ji8)))*65536))) (wrap64 ((wrap64 (rd l0 (ji11)))*256))) (wrap64 (rd l0 (wrap64 (a1+3)))))=0 then (some (0,0,false)) else (some (wrap64 ((Go.bits .or .i64 (Go.bits .or .i64 (Go.bits .or .i64 (wrap64 ((wrap64 (rd l0 a1))*16777216)) (wrap64 ((wrap64 (rd l0 (ji8)))*65536))) (wrap64 ((wrap64 (rd l0 (ji11)))*256))) (wrap64 (rd l0 (wrap64 (a1+3))))) - 2147483648),wrap64 (a1+4),true))) else (none)) else (none)) else (none)) else (none))=some (r1,r2,r3):=by first|(rw [hji11] at H;exact H)|(simp only [hji11] at H ⊢;exact H)
        have hji11w:(IntKind.i64.wrap (a1+2))=ji11:=(i64_w _).trans hji11
        by_cases c12:0≤(ji11)
        ·rw [if_pos c12] at H
         have c12b0:decide (0≤(ji11))=true:=decide_eq_true c12
         clear c12
         by_cases c13:(ji11) < (l0.length:Int)
         ·rw [if_pos c13] at H
          have c13b0:decide ((ji11) < (l0.length:Int))=true:=decide_eq_true c13
          clear c13
          obtain ⟨ji14,hji14⟩:∃ j_:Int,(wrap64 (a1+3))=j_:=⟨_,rfl⟩
          replace H:(if 0≤(ji14) then (if (ji14) < (l0.length:Int) then (if (Go.bits .or .i64 (Go.bits .or .i64 (Go.bits .or .i64 (wrap64 ((wrap64 (rd l0 a1))*16777216)) (wrap64 ((wrap64 (rd l0 (ji8)))*65536))) (wrap64 ((wrap64 (rd l0 (ji11)))*256))) (wrap64 (rd l0 (ji14))))=0 then (some (0,0,false)) else (some (wrap64 ((Go.bits .or .i64 (Go.bits .or .i64 (Go.bits .or .i64 (wrap64 ((wrap64 (rd l0 a1))*16777216)) (wrap64 ((wrap64 (rd l0 (ji8)))*65536))) (wrap64 ((wrap64 (rd l0 (ji11)))*256))) (wrap64 (rd l0 (ji14)))) - 2147483648),wrap64 (a1+4),true))) else (none)) else (none))=some (r1,r2,r3):=by first|(rw [hji14] at H;exact H)|(simp only [hji14] at H ⊢;exact H)
          have hji14w:(IntKind.i64.wrap (a1+3))=ji14:=(i64_w _).trans hji14
          by_cases c15:0≤(ji14)
          ·rw [if_pos c15] at H
           have c15b0:decide (0≤(ji14))=true:=decide_eq_true c15
           clear c15
           by_cases c16:(ji14) < (l0.length:Int)
           ·rw [if_pos c16] at H
            have c16b0:decide ((ji14) < (l0.length:Int))=true:=decide_eq_true c16
            clear c16
            by_cases c17:(Go.bits .or .i64 (Go.bits .or .i64 (Go.bits .or .i64 (wrap64 ((wrap64 (rd l0 a1))*16777216)) (wrap64 ((wrap64 (rd l0 (ji8)))*65536))) (wrap64 ((wrap64 (rd l0 (ji11)))*256))) (wrap64 (rd l0 (ji14))))=0
            ·rw [if_pos c17] at H
             have c17b0:((Go.bits .or .i64 (Go.bits .or .i64 (Go.bits .or .i64 (wrap64 ((wrap64 (rd l0 a1))*16777216)) (wrap64 ((wrap64 (rd l0 (ji8)))*65536))) (wrap64 ((wrap64 (rd l0 (ji11)))*256))) (wrap64 (rd l0 (ji14))))==0)=true:=beq_iff_eq.mpr c17
             have c17b1:((Go.bits .or .i64 (Go.bits .or .i64 (Go.bits .or .i64 (wrap64 ((wrap64 (rd l0 a1))*16777216)) (wrap64 ((wrap64 (rd l0 (ji8)))*65536))) (wrap64 ((wrap64 (rd l0 (ji11)))*256))) (wrap64 (rd l0 (ji14)))) != 0)=false:=bne_eq_false_iff_eq.mpr c17
             clear c17
             simp only [Option.some.injEq,Prod.mk.injEq] at H
             obtain ⟨rfl,rfl,rfl⟩:=H
             have p516:0≤(a1:Int):=of_decide_eq_true (by first|(with_reducible assumption)|assumption)
             have q516:a1 < (l0.length:Int):=of_decide_eq_true (by first|(with_reducible assumption)|assumption)
             obtain ⟨ad516,e516,hx516_0⟩:=Kd.at_int HR0.out a1 p516 q516
             cases e516
             replace p516:=eq_true p516
             replace q516:=eq_true q516
             have p517:0≤((ji8):Int):=of_decide_eq_true (by first|(with_reducible assumption)|assumption)
             have q517:(ji8) < (l0.length:Int):=of_decide_eq_true (by first|(with_reducible assumption)|assumption)
             obtain ⟨ad517,e517,hx517_0⟩:=Kd.at_int HR0.out (ji8) p517 q517
             obtain rfl:ad516=ad517:=(by injection e517)
             replace p517:=eq_true p517
             replace q517:=eq_true q517
             have p518:0≤((ji11):Int):=of_decide_eq_true (by first|(with_reducible assumption)|assumption)
             have q518:(ji11) < (l0.length:Int):=of_decide_eq_true (by first|(with_reducible assumption)|assumption)
             obtain ⟨ad518,e518,hx518_0⟩:=Kd.at_int HR0.out (ji11) p518 q518
             obtain rfl:ad516=ad518:=(by injection e518)
             replace p518:=eq_true p518
             replace q518:=eq_true q518
             have p519:0≤((ji14):Int):=of_decide_eq_true (by first|(with_reducible assumption)|assumption)
             have q519:(ji14) < (l0.length:Int):=of_decide_eq_true (by first|(with_reducible assumption)|assumption)
             obtain ⟨ad519,e519,hx519_0⟩:=Kd.at_int HR0.out (ji14) p519 q519
             obtain rfl:ad516=ad519:=(by injection e519)
             replace p519:=eq_true p519
             replace q519:=eq_true q519
             go_wp2
             repeat (go_quiet (fail);try go_wp2)
             go_ret3
             exact ⟨by first|rfl|(simp;done)|(simp only [← hji8,←hji11,←hji14]<;>(first|rfl|simp))|(simp [*];done),by repeat (first|exact Drawn0.refl _|apply Drawn0.step)⟩
            ·rw [if_neg c17] at H
             have c17b0:((Go.bits .or .i64 (Go.bits .or .i64 (Go.bits .or .i64 (wrap64 ((wrap64 (rd l0 a1))*16777216)) (wrap64 ((wrap64 (rd l0 (ji8)))*65536))) (wrap64 ((wrap64 (rd l0 (ji11)))*256))) (wrap64 (rd l0 (ji14))))==0)=false:=beq_eq_false_iff_ne.mpr c17
             have c17b1:((Go.bits .or .i64 (Go.bits .or .i64 (Go.bits .or .i64 (wrap64 ((wrap64 (rd l0 a1))*16777216)) (wrap64 ((wrap64 (rd l0 (ji8)))*65536))) (wrap64 ((wrap64 (rd l0 (ji11)))*256))) (wrap64 (rd l0 (ji14)))) != 0)=true:=bne_iff_ne.mpr c17
             simp only [Option.some.injEq,Prod.mk.injEq] at H
             obtain ⟨rfl,rfl,rfl⟩:=H
             have p516:0≤(a1:Int):=of_decide_eq_true (by first|(with_reducible assumption)|assumption)
             have q516:a1 < (l0.length:Int):=of_decide_eq_true (by first|(with_reducible assumption)|assumption)
             obtain ⟨ad516,e516,hx516_0⟩:=Kd.at_int HR0.out a1 p516 q516
             cases e516
             replace p516:=eq_true p516
             replace q516:=eq_true q516
             have p517:0≤((ji8):Int):=of_decide_eq_true (by first|(with_reducible assumption)|assumption)
             have q517:(ji8) < (l0.length:Int):=of_decide_eq_true (by first|(with_reducible assumption)|assumption)
             obtain ⟨ad517,e517,hx517_0⟩:=Kd.at_int HR0.out (ji8) p517 q517
             obtain rfl:ad516=ad517:=(by injection e517)
             replace p517:=eq_true p517
             replace q517:=eq_true q517
             have p518:0≤((ji11):Int):=of_decide_eq_true (by first|(with_reducible assumption)|assumption)
             have q518:(ji11) < (l0.length:Int):=of_decide_eq_true (by first|(with_reducible assumption)|assumption)
             obtain ⟨ad518,e518,hx518_0⟩:=Kd.at_int HR0.out (ji11) p518 q518
             obtain rfl:ad516=ad518:=(by injection e518)
             replace p518:=eq_true p518
             replace q518:=eq_true q518
             have p519:0≤((ji14):Int):=of_decide_eq_true (by first|(with_reducible assumption)|assumption)
             have q519:(ji14) < (l0.length:Int):=of_decide_eq_true (by first|(with_reducible assumption)|assumption)
             obtain ⟨ad519,e519,hx519_0⟩:=Kd.at_int HR0.out (ji14) p519 q519
             obtain rfl:ad516=ad519:=(by injection e519)
             replace p519:=eq_true p519
             replace q519:=eq_true q519
             go_wp2
             repeat (go_quiet (fail);try go_wp2)
             go_ret3
             exact ⟨by first|rfl|(simp;done)|(simp only [← hji8,←hji11,←hji14]<;>(first|rfl|simp))|(simp [*];done),by repeat (first|exact Drawn0.refl _|apply Drawn0.step)⟩
           ·rw [if_neg c16] at H
            exact absurd H (by simp)
          ·rw [if_neg c15] at H
           exact absurd H (by simp)
         ·rw [if_neg c13] at H
          exact absurd H (by simp)
        ·rw [if_neg c12] at H
         exact absurd H (by simp)
       ·rw [if_neg c10] at H
        exact absurd H (by simp)
      ·rw [if_neg c9] at H
       exact absurd H (by simp)
     ·rw [if_neg c7] at H
      exact absurd H (by simp)
    ·rw [if_neg c6] at H
     exact absurd H (by simp)
def impl_getNums.l0:Nat→List Int→Int→List Int→Int→Int→Option (List Int×Int×Bool)
 | 0,_,_,_,_,_=>none
 | k+1,x0,x1,x9,x14,x15=>if x15 < x14 then ((impl_GetNum.f k x0 x1).bind fun bt523=>(if bt523.2.2=true then (if x9.length < 17592186044416 then (impl_getNums.l0 k x0 bt523.2.1 (x9++[bt523.1]) x14 (wrap64 (x15+1))) else (none)) else (some (([]:List Int),0,false)))) else (some (x9,x1,true))
def impl_getNums.f (k:Nat) (l0:List Int) (a1:Int) (a2:Int):Option (List Int×Int×Bool):=impl_getNums.l0 k l0 a1 (([]:List Int)) a2 0
set_option maxHeartbeats 8000000 in
set_option maxRecDepth 100000 in
theorem impl_getNums.calls (k:Nat) (A0:Option Addr) (c0:Nat) (l0:List Int) (a1:Int) (a2:Int) (r1:List Int) (r2:Int) (r3:Bool) (w:World) (hr0:Kd.C (Kd.int .u8) w A0 l0.length l0) (hc0:l0.length≤c0) (h:impl_getNums.f k l0 a1 a2=some (r1,r2,r3)) :
  Calls Try.prog 93 #[.slice A0 l0.length c0,.int .i64 a1,.int .i64 a2] w fun e w'=>∃ v0_:Value,e = .returned (.tuple #[v0_,.int .i64 r2,.bool r3])∧Kd.R (Kd.int .i64) 3 w' w.heap.size (fun _=>True) v0_ r1∧Below w.heap.size w w':=by
 have HR0:=Aside0.mk hr0
 have HC0:=Aside0.mk hc0
 clear hr0 hc0
 have HB:=Aside0.mk (Below.refl w.heap.size w)
 have H:(impl_getNums.l0 k l0 a1 (([]:List Int)) a2 0)=some (r1,r2,r3):=h
 clear h
 obtain ⟨y520,hy520⟩:∃ y_:List Int,y_=(([]:List Int)):=⟨_,rfl⟩
 replace H:(impl_getNums.l0 k l0 a1 y520 a2 0)=some (r1,r2,r3):=by first|(rw [hy520];with_reducible exact H)|(have H2_:=(Option.bind_some _ _).symm.trans H;rw [hy520];with_reducible exact H2_)|(have H2_:=(Option.bind_some _ _).symm.trans H;with_reducible exact H2_)|with_reducible exact H|(rw [hy520];exact H)|exact H
 have Ny520:=Aside0.mk hy520
 clear hy520
 have H':=Aside0.mk H
 clear H
 go_enter Try.func93,Try.ntmps93
 go_wp2_with (first|((with_reducible refine gate_dst (N:=13) rfl ?_);refine Kd.R_lit (Kd.int .i64) _ 3 ?hg (N:=13) ?hd (xs:=([]:List Int)) (inner:=[]) (ok:=fun _=>True) (okp:=fun _=>True) ?hr ?hp (fun _ hk=>hk) trivial (Below.refl _ _) (Nat.le_refl _) (by simp) ?_;(case hd=>rfl);(case hg=>rfl);(case hr=>first|(go_simp;done)|(go_simp;rfl));(case hp=>exact (Reps.none _ _));intro v521 w4 ho5 hb hg_ hnew_;clear hg_ hnew_;(first|rw [← Ny520.out] at ho5|(simp only [Int.reduceToNat] at ho5;rw [← Ny520.out] at ho5));have n0_:=Aside0.mk (Kd.R_lower ho5 (below_size (by repeat (first|(with_reducible first|exact HB.out|apply below_alloc|apply pw_below_drewN|apply below_drew1)|exact HB.out))));have n1_:=Aside0.mk (below_step (by repeat (first|(with_reducible first|exact HB.out|apply below_alloc|apply pw_below_drewN|apply below_drew1)|exact HB.out)) hb);clear HB;have HO522:=n0_;have HB:=n1_;clear n0_ n1_;clear hb ho5))
 go_loopg [1,9,15] k (fun kq v1 v9 v15 w'=>∃ (x1_1:Int) (x9_1:List Int) (x15_1:Int),v1 = .int .i64 x1_1∧v15 = .int .i64 x15_1∧Aside0 (impl_getNums.l0 kq l0 x1_1 x9_1 a2 x15_1=some (r1,r2,r3))∧Aside0 (kq≤k)∧Aside0 (Kd.R (Kd.int .i64) 3 w' w.heap.size (fun _=>True) v9 x9_1)∧Aside0 (Below w.heap.size w w'))
 case atStart=>exact ⟨(a1),(y520),(0),(by first|rfl|(simp;done)|(simp [*];done)),(by first|rfl|(simp;done)|(simp [*];done)),H',⟨Nat.le_refl _⟩,⟨by (with_reducible repeat (first|apply Kd.R_alloc|apply Kd.R_drewN|apply Kd.R_drew));exact HO522.out⟩,⟨by repeat (first|(with_reducible first|exact HB.out|apply below_alloc|apply pw_below_drewN|apply below_drew1)|exact HB.out)⟩⟩
 case round =>
  clear H'
  try clear p2
  obtain ⟨x1_1,x9_1,x15_1,rfl,rfl,HA,HK1,HO_9,HB⟩:=hrel
  cases gk with
  | zero=>exact absurd HA.out (by simp [impl_getNums.l0])
  | succ k1 =>
   have H:=HA.out
   clear HA
   simp only [impl_getNums.l0] at H
   by_cases c6:x15_1 < a2
   ·rw [if_pos c6] at H
    have c6b0:decide (x15_1 < a2)=true:=decide_eq_true c6
    clear c6
    replace H:=Option.bind_eq_some_iff.mp H
    obtain ⟨⟨t523,t524,t525⟩,A70,H⟩:=H
    replace H:(if t525=true then (if x9_1.length < 17592186044416 then (impl_getNums.l0 k1 l0 t524 (x9_1++[t523]) a2 (wrap64 (x15_1+1))) else (none)) else (some (([]:List Int),0,false)))=some (r1,r2,r3):=H
    have A7:=Aside0.mk A70
    clear A70
    by_cases c8:t525=true
    ·subst c8
     have H1:(if x9_1.length < 17592186044416 then (impl_getNums.l0 k1 l0 t524 (x9_1++[t523]) a2 (wrap64 (x15_1+1))) else (none))=some (r1,r2,r3):=by rw [if_pos rfl] at H;exact H
     clear H
     have H:=H1
     clear H1
     by_cases c9:x9_1.length < 17592186044416
     ·rw [if_pos c9] at H
      have LMc9:=Aside0.mk c9
      clear c9
      obtain ⟨y526,hy526⟩:∃ y_:List Int,y_=(x9_1++[t523]):=⟨_,rfl⟩
      replace H:(impl_getNums.l0 k1 l0 t524 y526 a2 (wrap64 (x15_1+1)))=some (r1,r2,r3):=by first|(rw [hy526];with_reducible exact H)|(have H2_:=(Option.bind_some _ _).symm.trans H;rw [hy526];with_reducible exact H2_)|(have H2_:=(Option.bind_some _ _).symm.trans H;with_reducible exact H2_)|with_reducible exact H|(rw [hy526];exact H)|exact H
      have Ny526:=Aside0.mk hy526
      clear hy526
      have H':=Aside0.mk H
      clear H
      go_wp2_with (first|((with_reducible refine gate_callee (f:=124) rfl ?_);refine goesL_ (some 20) rfl rfl Try.func124 (by kernel_rfl) rfl #[.slice A0 l0.length c0,.int .i64 x1_1] rfl (by (try simp only [List.map_toArray,List.map_cons,List.map_nil]);first|done|rfl|(simp only [List.length_drop,List.length_take];rfl)) ?_;(with_reducible refine (impl_GetNum.calls k1 _ _ l0 x1_1 t523 t524 true _ ?side1 ?side2 A7.out).mono ?_);(case side1=>repeat (first|exact (Kd.C_below HR0.out HB.out)|(with_reducible refine Kd.C_alloc ?_ _)|(with_reducible refine Kd.C_drewN ?_ _)|(with_reducible refine Kd.C_drew ?_)));(case side2=>exact HC0.out);rintro e w' ⟨rfl,⟨nd,rfl⟩⟩;refine ⟨_,rfl,?_⟩)|((with_reducible refine gate_builtin (b := .append) (xs:=#[.tmp 26,.tmp 28]) rfl ?_);at_builtin;refine Kd.R_append (Kd.int .i64) (w0:=w) w.heap.size rfl (.tmp 26) (.tmp 28) 67 3 (.int .i64 0) 8 rfl Try.underlying67 info3 rfl (by decide) (by omega) u9 x9_1 t523 [.int .i64 t523] (fun _=>True) (fun _=>False) rfl rfl ?aP (fun _ hk=>hk.elim) ?aF ?aO ?aB ?aS ?aL ?_;(case aP=>exact rfl);(case aB=>exact (by repeat (first|(with_reducible first|exact HB.out|apply below_alloc|apply pw_below_drewN|apply below_drew1)|exact HB.out)));(case aF=>exact (fun _ _=>trivial));(case aO=>exact (by (with_reducible repeat (first|apply Kd.R_alloc|apply Kd.R_drewN|apply Kd.R_drew));exact HO_9.out));(case aS=>exact (below_size (by repeat (first|(with_reducible first|exact HB.out|apply below_alloc|apply pw_below_drewN|apply below_drew1)|exact HB.out))));(case aL=>have:=LMc9.out;omega);intro v527 w10 ho hb hg hat;rw [← Ny526.out] at ho;have n0_:=Aside0.mk (hb);have n1_:=Aside0.mk (ho);clear HB;clear HO_9;have HB:=n0_;have HO528:=n1_;clear n0_ n1_;clear ho hb hg hat))
      go_roundg k1
      case measure=>have:=HK1.out;omega
      case rel=>exact ⟨(t524),(y526),(wrap64 (x15_1+1)),(by first|rfl|(simp;done)|(simp [*];done)),(by first|rfl|(simp;done)|(simp [*];done)),H',⟨by have:=HK1.out;omega⟩,⟨by (with_reducible repeat (first|apply Kd.R_alloc|apply Kd.R_drewN|apply Kd.R_drew));exact HO528.out⟩,⟨by repeat (first|(with_reducible first|exact HB.out|apply below_alloc|apply pw_below_drewN|apply below_drew1)|exact HB.out)⟩⟩
     ·rw [if_neg c9] at H
      exact absurd H (by simp)
    ·replace c8:=Bool.eq_false_iff.mpr c8
     subst c8
     have H1:(some (([]:List Int),0,false))=some (r1,r2,r3):=by rw [if_neg (show ¬ (false=true) by decide)] at H;exact H
     clear H
     have H:=H1
     clear H1
     simp only [Option.some.injEq,Prod.mk.injEq] at H
     obtain ⟨rfl,rfl,rfl⟩:=H
     go_wp2_with (first|((with_reducible refine gate_callee (f:=124) rfl ?_);refine goesL_ (some 20) rfl rfl Try.func124 (by kernel_rfl) rfl #[.slice A0 l0.length c0,.int .i64 x1_1] rfl (by (try simp only [List.map_toArray,List.map_cons,List.map_nil]);first|done|rfl|(simp only [List.length_drop,List.length_take];rfl)) ?_;(with_reducible refine (impl_GetNum.calls k1 _ _ l0 x1_1 t523 t524 false _ ?side1 ?side2 A7.out).mono ?_);(case side1=>repeat (first|exact (Kd.C_below HR0.out HB.out)|(with_reducible refine Kd.C_alloc ?_ _)|(with_reducible refine Kd.C_drewN ?_ _)|(with_reducible refine Kd.C_drew ?_)));(case side2=>exact HC0.out);rintro e w' ⟨rfl,⟨nd,rfl⟩⟩;refine ⟨_,rfl,?_⟩))
     go_ret3
     exact ⟨_,by first|rfl|(simp [errW_none,errW_some]<;>rfl)|(simp [*,errW_none,errW_some]<;>rfl),by first|exact Kd.R_nil _ _ _ _ _|exact Kd.N_nil _ _ _ _ _|exact Kd.V_nil _ _ _ _ _|exact Kd.Q_nil _ _ _ _ _|exact Kd.S_nil _ _ _ _ _,by repeat (first|(with_reducible first|exact HB.out|apply below_alloc|apply pw_below_drewN|apply below_drew1)|exact HB.out)⟩
   ·rw [if_neg c6] at H
    have c6b0:decide (x15_1 < a2)=false:=decide_eq_false c6
    clear c6
    simp only [Option.some.injEq,Prod.mk.injEq] at H
    obtain ⟨rfl,rfl,rfl⟩:=H
    go_wp2
    go_ret3
    exact ⟨_,by first|rfl|(simp [errW_none,errW_some]<;>rfl)|(simp [*,errW_none,errW_some]<;>rfl),by (with_reducible repeat (first|apply Kd.R_alloc|apply Kd.R_drewN|apply Kd.R_drew));exact HO_9.out,by repeat (first|(with_reducible first|exact HB.out|apply below_alloc|apply pw_below_drewN|apply below_drew1)|exact HB.out)⟩
end Go.Proofs.Ytfkidiagmekleaa.QAll
