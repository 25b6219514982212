/- The states and bytes that the law FnStateBytes draws (DrawPutState, DrawGetState), told by hand. -/
import Derived.Test.YtfkidiagmekleaaNHStB
import Derived.Test.YtfkidiagmekleaaNHAny
import Derived.Test.YtfkidiagmekleaaNRBnn
namespace Go.Proofs.Ytfkidiagmekleaa.QAll
open Go.RowKit Go.Proofs.YtfkidiagmekleaaW.PrintWords Go.Proofs.YtfkidiagmekleaaW.PrintLast Go.Proofs.YtfkidiagmekleaaW.PrintMore
set_option linter.unusedVariables false
set_option linter.unusedSimpArgs false
def Sv (B:Nat) (w':World) (v:Value) (ps:List S25) (ss:List S71) (a c:Int):Prop:=∃ (A:Option Addr) (ca:Nat) (A':Option Addr) (cb:Nat),v = .agg #[.slice A ps.length ca,.slice A' ss.length cb,.int .i64 a,.int .i64 c]∧Kd.R k25 25 w' B (fun _=>True) (.slice A ps.length ca) ps∧Kd.R k71 71 w' B (fun _=>True) (.slice A' ss.length cb) ss
def isSmall (ps:List S25) (ss:List S71):Prop:=ps.length≤20∧ss.length≤3
theorem Below.trans' {w w1 w2:World} (h:Below w.heap.size w w1) (k:Below w1.heap.size w1 w2):Below w.heap.size w w2:=below_then h h.size k
set_option maxHeartbeats 8000000 in
set_option maxRecDepth 100000 in
theorem drawPutState_ex (A:Option Addr) (k:Nat) (b:List Int) (w:World) (hr:Kd.C (Kd.int .u8) w A b.length b) (hc:b.length≤k) (hb:b.length≤1048576) :
  Calls Try.prog 69 #[.slice A b.length k] w fun e w'=>∃ (v:Value) (ps:List S25) (ss:List S71) (a c:Int),e = .returned v∧Sv w.heap.size w' v ps ss a c∧isSmall ps ss∧Below w.heap.size w w':=by
 have hu56:=Try.underlying56
 have HR:=Aside0.mk hr
 have HC:=Aside0.mk hc
 have HS:=Aside0.mk hb
 clear hr hc hb
 go_enter Try.func69,Try.ntmps69
 go_wp2_with (first
  | ((with_reducible refine gate_dst (N:=2) rfl ?_);refine box_event (N:=2) rfl rfl (cs:=#[.slice none 0 0,.slice none 0 0,.int .i64 0,.int .i64 0]) (t:=56) ?hr ?_;(case hr=>first|(go_simp;done)|(go_simp;rfl));intro g2 hg2 w1 hb2 hbb;have L2:=Aside0.mk (show w.heap.size≤g2 by rw [hg2];exact Nat.le_refl _);have B2:=Aside0.mk hb2;have K2:=Aside0.mk hbb;clear hg2 hb2 hbb)
  | (go_at_call 71;((with_reducible refine (new_ex A k b _ w1 (Below.refl _ w1) (Kd.C_below HR.out K2.out) HC.out HS.out).mono ?_);rintro e w2 ⟨g,rfl,hC,hbb⟩;have HCu:=Aside0.mk hC;have K3:=Aside0.mk hbb;have B3:=Aside0.mk (blk_below B2.out hbb);clear hC hbb))
  | (go_at_call 107;((with_reducible refine (l5Any_ex _ _ g b HCu.out).mono ?_);rintro e w3 ⟨vp,vs,a,c,ps,ss,rfl,hr0,hr1,hgs,hd⟩;have B4:=Aside0.mk (blk_step hd.2 (by have:=HCu.out.ge;have:=blk_lt B2.out;omega) B3.out);have R0:=Aside0.mk (Kd.R_lower hr0 (Nat.le_trans K2.out.size K3.out.size));have R1:=Aside0.mk (Kd.R_lower hr1 (Nat.le_trans K2.out.size K3.out.size));have HG:=Aside0.mk hgs;have HD:=Aside0.mk hd.1;obtain ⟨A0,c0,e0⟩:=Kd.R_slice hr0;obtain ⟨A1,c1,e1⟩:=Kd.R_slice hr1;subst e0;subst e1;clear hr0 hr1 hgs hd))
  | ((with_reducible refine gate_store (t:=56) (p:=2) (v := .tmp 7) rfl ?_);refine put_event rfl rfl rfl 56 g2 0 _ #[.slice A0 ps.length c0,.slice A1 ss.length c1,.int .i64 a,.int .i64 c] (.agg #[.slice A0 ps.length c0,.slice A1 ss.length c1,.int .i64 a,.int .i64 c]) [.slice A0 ps.length c0,.slice A1 ss.length c1,.int .i64 a,.int .i64 c] rfl rfl B4.out rfl (by kernel_rfl) (by simp) (by simp [Value.oneCell']) rfl ?_;intro w4 hb4 hg4;have BZ:=Aside0.mk hb4;have HZ:=Aside0.mk hg4;clear hb4 hg4))
 refine bodyPost_ret (results_cell_row rfl _ _ g2 56 _ (0,0) _ rfl BZ.out Try.underlying56 rfl (by kernel_rfl)) rfl ?_
 exact ⟨_,ps,ss,a,c,rfl,⟨_,_,_,_,rfl,R_box R0.out B4.out (by decide) HZ.out,R_box R1.out B4.out (by decide) HZ.out⟩,HG.out,below_put HZ.out L2.out (Nat.le_trans K2.out.size HD.out.size) (Below.trans' K2.out HD.out.2.1)⟩
theorem xor_byte (x y:Int):0≤Go.bits .xor .u8 x y∧Go.bits .xor .u8 x y≤255:=by
 show 0≤IntKind.u8.wrap _∧IntKind.u8.wrap _≤255
 rw [IntKind.wrap_u8]
 omega
theorem draw_bend (b:List Int) (i h:Int) (s:List Int) (hs:Bytes s) (hl:s.length≤60000) (hb:b.length≤1048576) (hi:At b i):∃ t i' h',spec_l1Bend.f b i h s=some (t,i',h')∧Bytes t∧t.length≤s.length+1∧At b i':=by
 obtain ⟨v,i1,h1,hv,hr,hi1⟩:=draw_below b i h 8 hb hi (by decide)
 unfold spec_l1Bend.f
 simp only [Option.bind_some,List.length_nil,List.nil_append]
 rw [if_pos (by omega),hv]
 simp only [Option.bind_some]
 by_cases hv0:v=0
 ·rw [if_pos hv0]
  by_cases hp:(s.length:Int) > 0
  ·rw [if_pos hp]
   obtain ⟨q,i2,h2,hq,hqr,hi2⟩:=draw_below b i1 h1 (s.length:Int) hb hi1 (by omega)
   have hq2:=hqr.2.1 (by omega)
   rw [hq]
   simp only [Option.bind_some]
   rw [if_pos hqr.1,if_pos hq2]
   obtain ⟨u,i3,h3,hu,hur,hi3⟩:=draw_below b i2 h2 255 hb hi2 (by decide)
   rw [hu]
   simp only [Option.bind_some]
   refine ⟨_,_,_,rfl,?_,by rw [List.length_set];omega,hi3⟩
   intro x hx
   rcases List.mem_or_eq_of_mem_set hx with hx|hx
   ·exact hs x hx
   ·rw [hx];exact xor_byte _ _
  ·rw [if_neg hp]
   exact ⟨_,_,_,rfl,hs,by omega,hi1⟩
 ·rw [if_neg hv0]
  by_cases hv1:v=1
  ·rw [if_pos hv1]
   by_cases hp:(s.length:Int) > 0
   ·rw [if_pos hp]
    obtain ⟨q,i2,h2,hq,hqr,hi2⟩:=draw_below b i1 h1 (s.length:Int) hb hi1 (by omega)
    have hq2:=hqr.2.1 (by omega)
    rw [hq]
    simp only [Option.bind_some]
    rw [if_pos hqr.1,if_pos (by omega)]
    exact ⟨_,_,_,rfl,fun x hx=>hs x (List.mem_of_mem_take hx),by rw [List.length_take];omega,hi2⟩
   ·rw [if_neg hp]
    exact ⟨_,_,_,rfl,hs,by omega,hi1⟩
  ·rw [if_neg hv1]
   by_cases hv2:v=2
   ·rw [if_pos hv2]
    obtain ⟨u,i2,h2,hu,hur,hi2⟩:=draw_byte b i1 h1 hb hi1
    rw [hu]
    simp only [Option.bind_some]
    rw [if_pos (by omega)]
    refine ⟨_,_,_,rfl,?_,by rw [List.length_append,List.length_singleton];omega,hi2⟩
    intro x hx
    rcases List.mem_append.1 hx with hx|hx
    ·exact hs x hx
    ·rw [List.mem_singleton.1 hx];omega
   ·rw [if_neg hv2]
    exact ⟨_,_,_,rfl,hs,by omega,hi1⟩
theorem st_bytes (ps:List S25) (ss:List S71) (a c:Int):Bytes (stCode ps ss a c):=by
 have hpc:∀ l:List S25,Bytes (l.flatMap pc):=by
  intro l x hx
  rw [List.mem_flatMap] at hx
  obtain ⟨y,-,hy⟩:=hx
  unfold pc at hy
  split at hy
  ·exact flat_bytes _ x hy
  ·exact absurd hy (List.not_mem_nil)
 have hsc:∀ l:List S71,Bytes (l.flatMap sc):=by
  intro l
  rw [← tri_code]
  exact flat_bytes _
 intro x hx
 unfold stCode at hx
 simp only [List.mem_append] at hx
 rcases hx with h|h|h|h|h|h
 ·exact code_bytes _ x h
 ·exact hpc _ x h
 ·exact code_bytes _ x h
 ·exact hsc _ x h
 ·exact code_bytes _ x h
 ·exact code_bytes _ x h
theorem put_bytes (ps:List S25) (ss:List S71) (a c:Int):Bytes (putSt ps ss a c):=by
 unfold putSt
 split
 ·exact st_bytes ps ss a c
 ·exact fun x hx=>absurd hx (List.not_mem_nil)
theorem bend_ex (A1:Option Addr) (c1:Nat) (s:List Int) (w0 w:World) (g:Nat) (b:List Int) (hC:Cur w0 w g b) (hr:Kd.C (Kd.int .u8) w A1 s.length s) (hc:s.length≤c1) (hf:∀ ad,A1=some ad→0 < s.length→ad.block≠g) (hs:Bytes s) (hl:s.length≤60000) :
  Calls Try.prog 94 #[.pointer (some ⟨g,0,none⟩),.slice A1 s.length c1] w fun e w'=>∃ (v:Value) (t:List Int),e = .returned v∧Kd.R (Kd.int .u8) 5 w' w.heap.size (fun _=>True) v t∧(Bytes t∧t.length≤s.length+1)∧Drew w0 w w' g b:=by
 obtain ⟨hb,hB,i,h,hI,hA⟩:=hC
 obtain ⟨t,i',h',e,ht,hl',hA'⟩:=draw_bend b i h s hs hl hb hA
 exact (spec_l1Bend.calls g b i h A1 c1 s t i' h' w0 w hI hB hr hc hf e).mono fun e w' ⟨v,he,hR,hi,hb',hk⟩=>⟨v,t,he,hR,⟨ht,hl'⟩,drew_of ⟨hb,hB,i,h,hI,hA⟩ hi hA' hb' hk⟩
theorem far_u8 {w0 W:World} {g c base:Nat} {b l:List Int} {A:Option Addr} {ok:Nat→Prop} (h:(Kd.int .u8).R 5 W base ok (.slice A l.length c) l) (hC:Cur w0 W g b):∀ ad,A=some ad→0 < l.length→ad.block≠g:=by
 rintro ad rfl _
 obtain ⟨cs,hc⟩:=hC.blk
 obtain ⟨inner,ho⟩:=Kd.R_own h
 exact own_blk ho (Kd.R_ne h hc (by decide))
set_option maxHeartbeats 8000000 in
set_option maxRecDepth 100000 in
theorem drawGetState_ex (A:Option Addr) (k:Nat) (b:List Int) (w:World) (hr:Kd.C (Kd.int .u8) w A b.length b) (hc:b.length≤k) (hb:b.length≤1048576) :
  Calls Try.prog 70 #[.slice A b.length k] w fun e w'=>∃ (D:Option Addr) (d:Nat) (t:List Int),e = .returned (.slice D t.length d)∧Kd.R (Kd.int .u8) 5 w' w.heap.size (fun _=>True) (.slice D t.length d) t∧(Bytes t∧t.length≤500)∧Below w.heap.size w w':=by
 have hu56:=Try.underlying56
 have HR:=Aside0.mk hr
 have HC:=Aside0.mk hc
 have HS:=Aside0.mk hb
 clear hr hc hb
 go_enter Try.func70,Try.ntmps70
 go_wp2_with (first
  | (go_at_call 71;((with_reducible refine (new_ex A k b _ w (Below.refl _ w) HR.out HC.out HS.out).mono ?_);rintro e w2 ⟨g,rfl,hC,hbb⟩;have HCu:=Aside0.mk hC;have K3:=Aside0.mk hbb;clear hC hbb))
  | (go_at_call 108;((with_reducible refine (l5Draw_ex w _ g b HCu.out).mono ?_);rintro e w3 ⟨vp,vs,a,c,ps,ss,rfl,hr0,hr1,hgs,hd⟩;have R0:=Aside0.mk hr0;have R1:=Aside0.mk hr1;have HG:=Aside0.mk (show stOk ps ss a c=true∧1≤ps.length∧ps.length≤5∧ss.length=2 from hgs);have HD:=Aside0.mk hd.1;obtain ⟨A0,c0,e0⟩:=Kd.R_slice hr0;obtain ⟨A1,c1,e1⟩:=Kd.R_slice hr1;subst e0;subst e1;clear hr0 hr1 hgs hd))
  | (go_at_call 52;((with_reducible refine (spec_PutState.calls 60 _ _ ps _ _ ss a c (putSt ps ss a c) _ (Kd.R_reads' R0.out).2.2 (Kd.R_reads' R0.out).2.1 (Kd.R_reads' R1.out).2.2 (Kd.R_reads' R1.out).2.1 (spec_put 60 ps ss a c (by have:=HG.out.2.2.1;have:=HG.out.2.2.2;omega) (by have:=HG.out.2.2.1;omega) (by have:=HG.out.2.2.2;omega))).mono ?_);rintro e w4 ⟨v,rfl,hp,hb4⟩;obtain ⟨D1,d1,rfl⟩:=Kd.R_slice hp;have HP:=Aside0.mk hp;have HD4:=Aside0.mk (HD.out.below hb4);clear hp hb4))
  | (go_at_call 94;((with_reducible refine (bend_ex _ _ _ w _ g b HD4.out (Kd.R_reads' HP.out).2.2 (Kd.R_reads' HP.out).2.1 (far_u8 HP.out HD4.out) (put_bytes ps ss a c) (by have:=putSt_length ps ss a c;omega)).mono ?_);rintro e w5 ⟨v,t,rfl,hp,ht,hd⟩;obtain ⟨D2,d2,rfl⟩:=Kd.R_slice hp;have HP2:=Aside0.mk (Kd.R_lower hp HD4.out.size);have HT:=Aside0.mk ht;have HE:=Aside0.mk hd.1.2.1;clear hp ht hd)))
 go_ret
 exact ⟨D2,d2,t,rfl,HP2.out,⟨HT.out.1,by have:=HT.out.2;have:=putSt_length ps ss a c;omega⟩,HE.out⟩
end Go.Proofs.Ytfkidiagmekleaa.QAll
