/- What GetState reads back: of the bytes that PutState wrote, the state; and the bytes that it reads are those that PutState writes of it. -/
import Derived.Test.YtfkidiagmekleaaNHOkI
import Derived.Test.YtfkidiagmekleaaNRIGs
import Derived.Test.YtfkidiagmekleaaNRSGs
import Derived.Test.YtfkidiagmekleaaNRIPs
import Derived.Test.YtfkidiagmekleaaNRSPs
namespace Go.Proofs.Ytfkidiagmekleaa.QAll
open Go.RowKit Go.Proofs.YtfkidiagmekleaaW.PrintWords Go.Proofs.YtfkidiagmekleaaW.PrintLast Go.Proofs.YtfkidiagmekleaaW.PrintMore
set_option linter.unusedVariables false
set_option linter.unusedSimpArgs false
theorem wrap_nat (n:Nat) (h:n≤4611686018427387904):wrap64 ((n:Int)+1)=((n+1:Nat):Int):=by unfold wrap64;omega
theorem rd_nat (l:List Int) (n:Nat) (h:n < l.length):l[n]?=some (rd l (n:Int)):=by
 unfold rd
 rw [Int.toNat_natCast,List.getD_eq_getElem?_getD,List.getElem?_eq_getElem h]
 rfl
def Bytes (l:List Int):Prop:=∀ x∈l,0≤x∧x≤255
theorem Bytes.rd {l:List Int} (h:Bytes l) (i:Int):0≤rd l i∧rd l i≤255:=by
 unfold Go.Proofs.YtfkidiagmekleaaW.PrintWords.rd
 rw [List.getD_eq_getElem?_getD]
 by_cases hi:i.toNat < l.length
 ·rw [List.getElem?_eq_getElem hi]
  exact h _ (List.getElem_mem hi)
 ·rw [List.getElem?_eq_none (by omega)]
  exact ⟨by decide,by decide⟩
def val4 (l:List Int) (i:Int):Int:=rd l i*16777216+rd l (i+1)*65536+rd l (i+2)*256+rd l (i+3)
def gn (l:List Int) (i:Int):Int×Int×Bool:=if i < 0∨i > (l.length:Int) - 4 then (0,0,false) else if val4 l i=0 then (0,0,false) else (val4 l i - 2147483648,i+4,true)
theorem orJoin (i:Nat) (x y:Int) (m:Int) (hm:m=2 ^ i) (hmb:m≤16777216) (h0:0≤x) (hx:x % m=0) (h1:x < 4611686018427387904) (g0:0≤y) (g1:y < m):Go.bits .or .i64 x y=x+y:=by
 have hy1:y < 9223372036854775808:=by omega
 have hi:i≤62:=by
  rcases Nat.lt_or_ge 62 i with h|h
  ·have h2:(2:Nat) ^ 62≤2 ^ i:=Nat.pow_le_pow_right (by decide) (by omega)
   have h3:((2 ^ 62:Nat):Int)≤((2 ^ i:Nat):Int):=Int.ofNat_le.2 h2
   rw [Int.natCast_pow] at h3
   have h4:((2:Nat):Int)=2:=rfl
   rw [h4,Int.natCast_pow,h4,←hm] at h3
   omega
  ·exact h
 subst hm
 exact bits_join .i64 63 (by decide) (fun n h0 h1=>by rw [IntKind.wrap_i64];omega) i x y h0 hx (by omega) g0 g1 (by omega)
theorem impl_getnum (k:Nat) (l:List Int) (i:Int) (hB:Bytes l) (hb:l.length≤4611686018427387904) (hk:1≤k):impl_GetNum.f k l i=some (gn l i):=by
 obtain ⟨k,rfl⟩:∃ q,k=q+1:=⟨k - 1,by omega⟩
 unfold impl_GetNum.f gn
 by_cases h0:i < 0
 ·rw [if_pos h0,if_pos (Or.inl h0)]
  simp only [impl_GetNum.j0,if_true]
 ·rw [if_neg h0]
  have hw:wrap64 ((l.length:Int) - 4)=(l.length:Int) - 4:=by unfold wrap64;omega
  rw [hw]
  by_cases h1:i > (l.length:Int) - 4
  ·rw [if_pos (Or.inr h1)]
   simp only [impl_GetNum.j0]
   rw [if_pos (by simpa using h1)]
  ·rw [if_neg (by omega)]
   have e1:wrap64 (i+1)=i+1:=by unfold wrap64;omega
   have e2:wrap64 (i+2)=i+2:=by unfold wrap64;omega
   have e3:wrap64 (i+3)=i+3:=by unfold wrap64;omega
   have e4:wrap64 (i+4)=i+4:=by unfold wrap64;omega
   simp only [impl_GetNum.j0]
   rw [if_neg (by simpa using h1),e1,e2,e3,e4,if_pos (by omega),if_pos (by omega),if_pos (by omega),if_pos (by omega),if_pos (by omega),if_pos (by omega),if_pos (by omega),if_pos (by omega)]
   have r0:=hB.rd i
   have r1:=hB.rd (i+1)
   have r2:=hB.rd (i+2)
   have r3:=hB.rd (i+3)
   unfold val4
   generalize rd l i=b0 at *
   generalize rd l (i+1)=b1 at *
   generalize rd l (i+2)=b2 at *
   generalize rd l (i+3)=b3 at *
   have w0:wrap64 ((wrap64 b0)*16777216)=b0*16777216:=by unfold wrap64;omega
   have w1:wrap64 ((wrap64 b1)*65536)=b1*65536:=by unfold wrap64;omega
   have w2:wrap64 ((wrap64 b2)*256)=b2*256:=by unfold wrap64;omega
   have w3:wrap64 b3=b3:=by unfold wrap64;omega
   rw [w0,w1,w2,w3,orJoin 24 (b0*16777216) (b1*65536) 16777216 (by decide) (by decide) (by omega) (by omega) (by omega) (by omega) (by omega),orJoin 16 (b0*16777216+b1*65536) (b2*256) 65536 (by decide) (by decide) (by omega) (by omega) (by omega) (by omega) (by omega),orJoin 8 (b0*16777216+b1*65536+b2*256) b3 256 (by decide) (by decide) (by omega) (by omega) (by omega) (by omega) (by omega)]
   have e5:wrap64 (b0*16777216+b1*65536+b2*256+b3 - 2147483648)=b0*16777216+b1*65536+b2*256+b3 - 2147483648:=by unfold wrap64;omega
   rw [e5]
   by_cases hz:b0*16777216+b1*65536+b2*256+b3=0
   ·rw [if_pos hz,if_pos hz]
   ·rw [if_neg hz,if_neg hz]
theorem spec_getnum_step (k:Nat) (l:List Int) (i x j:Int) (hB:Bytes l) (hb:l.length≤4611686018427387904) (h0:0≤i) (h1:i+4≤(l.length:Int)) (hj0:0≤j) (hj:j < 4) (hx0:0≤x) (hx:x≤4294967296) :
  spec_GetNum.l0 (k+1) l i x j=spec_GetNum.l0 k l i (x*256+rd l (i+j)) (j+1):=by
 have r0:=hB.rd (i+j)
 have e1:wrap64 (i+j)=i+j:=by unfold wrap64;omega
 have e2:wrap64 (j+1)=j+1:=by unfold wrap64;omega
 simp only [spec_GetNum.l0]
 rw [if_pos hj,e1,e2,if_pos (by omega),if_pos (by omega)]
 congr 1
 unfold wrap64
 omega
theorem spec_getnum (k:Nat) (l:List Int) (i:Int) (hB:Bytes l) (hb:l.length≤4611686018427387904) (hk:6≤k):spec_GetNum.f k l i=some (gn l i):=by
 obtain ⟨k,rfl⟩:∃ q,k=q+6:=⟨k - 6,by omega⟩
 unfold spec_GetNum.f gn
 by_cases h0:i < 0
 ·rw [if_pos h0,if_pos (Or.inl h0)]
  simp only [spec_GetNum.j0,if_true]
 ·rw [if_neg h0]
  have hw:wrap64 ((l.length:Int) - 4)=(l.length:Int) - 4:=by unfold wrap64;omega
  rw [hw]
  by_cases h1:i > (l.length:Int) - 4
  ·rw [if_pos (Or.inr h1)]
   simp only [spec_GetNum.j0]
   rw [if_pos (by simpa using h1)]
  ·rw [if_neg (by omega)]
   have r0:=hB.rd (i+0)
   have r1:=hB.rd (i+(0+1))
   have r2:=hB.rd (i+(0+1+1))
   have r3:=hB.rd (i+(0+1+1+1))
   simp only [spec_GetNum.j0]
   rw [if_neg (by simpa using h1),spec_getnum_step (k+4) l i 0 0 hB hb (by omega) (by omega) (by omega) (by omega) (by omega) (by omega),
    spec_getnum_step (k+3) l i _ _ hB hb (by omega) (by omega) (by omega) (by omega) (by omega) (by omega),
    spec_getnum_step (k+2) l i _ _ hB hb (by omega) (by omega) (by omega) (by omega) (by omega) (by omega),
    spec_getnum_step (k+1) l i _ _ hB hb (by omega) (by omega) (by omega) (by omega) (by omega) (by omega)]
   simp only [spec_GetNum.l0]
   have hv:((((0:Int)*256+rd l (i+0))*256+rd l (i+(0+1)))*256+rd l (i+(0+1+1)))*256+rd l (i+(0+1+1+1))=val4 l i:=by
    unfold val4
    rw [show i+0=i from by omega,show i+(0+1)=i+1 from by omega,show i+(0+1+1)=i+2 from by omega,show i+(0+1+1+1)=i+3 from by omega]
    omega
   rw [if_neg (by omega),hv]
   have hr:0≤val4 l i∧val4 l i≤4294967295:=by rw [← hv];omega
   by_cases hz:val4 l i=0
   ·rw [if_pos hz,if_pos hz]
   ·rw [if_neg hz,if_neg hz]
    have e4:wrap64 (i+4)=i+4:=by unfold wrap64;omega
    have e5:wrap64 (val4 l i - 2147483648)=val4 l i - 2147483648:=by unfold wrap64;omega
    rw [e4,e5]
def glr (b:List Int):Nat→Int→List Int→List Int×Int×Bool
 | 0,i,acc=>(acc,i,true)
 | d+1,i,acc=>if (gn b i).2.2=true then glr b d (gn b i).2.1 (acc++[(gn b i).1]) else ([],0,false)
abbrev PieceR:=Int×Int×Int×Int×Int×Int×Int×Int×Int×Int×Int×Bool×Bool×Int×Bool
def noPiece:PieceR:=(0,0,0,0,0,0,0,0,0,0,0,false,false,0,false)
def gpj (x:List Int) (i:Int) (bad:Bool):PieceR:=if bad=true then noPiece else if pok (rd x 0) (rd x 1) (rd x 2) (rd x 3) (rd x 4) (rd x 5) (rd x 6) (rd x 7) (rd x 8) (rd x 9) (rd x 10) ((rd x 11)==1) ((rd x 12)==1)=true then (rd x 0,rd x 1,rd x 2,rd x 3,rd x 4,rd x 5,rd x 6,rd x 7,rd x 8,rd x 9,rd x 10,((rd x 11)==1),((rd x 12)==1),i,true) else noPiece
def gpn (q:List Int×Int×Bool):PieceR:=if q.2.2=true then (if inr (rd q.1 11) 0 1=true then gpj q.1 q.2.1 (!inr (rd q.1 12) 0 1) else noPiece) else noPiece
def gpc (b:List Int) (i:Int):PieceR:=gpn (glr b 13 i [])
theorem glr_true (b:List Int):∀ (d:Nat) (i:Int) (acc:List Int),(glr b d i acc).2.2=true→(glr b d i acc).1.length=acc.length+d
 | 0,i,acc,_=>rfl
 | d+1,i,acc,h=>by
  unfold glr at h ⊢
  by_cases hg:(gn b i).2.2=true
  ·rw [if_pos hg] at h ⊢
   rw [glr_true b d _ _ h,List.length_append,List.length_singleton]
   omega
  ·rw [if_neg hg] at h
   cases h
theorem spec_nums_l0 (b:List Int) (hB:Bytes b) (hb:b.length≤4611686018427387904):∀ (d k n:Nat) (i:Int) (acc:List Int),n+d=13→d+8≤k→acc.length+d < 1000→∃ q,spec_l4Nums.l0 k b 13 acc i (n:Int)=some q∧q.2.2=(glr b d i acc).2.2∧((glr b d i acc).2.2=true→q=glr b d i acc)
 | 0,k,n,i,acc,hn,hk,ha=>by
  obtain ⟨k,rfl⟩:∃ q,k=q+1:=⟨k - 1,by omega⟩
  simp only [spec_l4Nums.l0]
  rw [if_neg (by omega)]
  exact ⟨_,rfl,rfl,fun _=>rfl⟩
 | d+1,k,n,i,acc,hn,hk,ha=>by
  obtain ⟨k,rfl⟩:∃ q,k=q+1:=⟨k - 1,by omega⟩
  simp only [spec_l4Nums.l0]
  rw [if_pos (by omega),spec_getnum k b i hB hb (by omega),wrap_nat n (by omega)]
  simp only [Option.bind_some,glr]
  by_cases h:(gn b i).2.2=true
  ·rw [if_pos h,if_pos h,if_pos (by omega)]
   exact spec_nums_l0 b hB hb d k (n+1) _ _ (by omega) (by omega) (by rw [List.length_append,List.length_singleton];omega)
  ·rw [if_neg h,if_neg h]
   exact ⟨_,rfl,rfl,fun h=>by cases h⟩
theorem impl_nums_l0 (b:List Int) (hB:Bytes b) (hb:b.length≤4611686018427387904):∀ (d k n:Nat) (i:Int) (acc:List Int),n+d=13→d+8≤k→acc.length+d < 1000→impl_getNums.l0 k b i acc 13 (n:Int)=some (glr b d i acc)
 | 0,k,n,i,acc,hn,hk,ha=>by
  obtain ⟨k,rfl⟩:∃ q,k=q+1:=⟨k - 1,by omega⟩
  simp only [impl_getNums.l0]
  rw [if_neg (by omega)]
  rfl
 | d+1,k,n,i,acc,hn,hk,ha=>by
  obtain ⟨k,rfl⟩:∃ q,k=q+1:=⟨k - 1,by omega⟩
  simp only [impl_getNums.l0]
  rw [if_pos (by omega),impl_getnum k b i hB hb (by omega),wrap_nat n (by omega)]
  simp only [Option.bind_some,glr]
  by_cases h:(gn b i).2.2=true
  ·rw [if_pos h,if_pos h,if_pos (by omega)]
   exact impl_nums_l0 b hB hb d k (n+1) _ _ (by omega) (by omega) (by rw [List.length_append,List.length_singleton];omega)
  ·rw [if_neg h,if_neg h]
theorem spec_gpj (k:Nat) (x:List Int) (i:Int) (bad:Bool) (hk:3≤k) (hx:bad=false→x.length=13):spec_GetPiece.j0 k x i bad=some (gpj x i bad):=by
 obtain ⟨k,rfl⟩:∃ q,k=q+1:=⟨k - 1,by omega⟩
 unfold gpj
 simp only [spec_GetPiece.j0]
 cases bad with
 | true=>rfl
 | false =>
  have hl:=hx rfl
  simp only [Bool.false_eq_true,if_false]
  rw [if_pos (by omega),if_pos (by omega),if_pos (by omega),if_pos (by omega),if_pos (by omega),if_pos (by omega),if_pos (by omega),if_pos (by omega),if_pos (by omega),if_pos (by omega),if_pos (by omega),if_pos (by omega),if_pos (by omega),spec_pieceok k _ _ _ _ _ _ _ _ _ _ _ _ _ (by omega)]
  simp only [Option.bind_some]
  split<;>rfl
theorem impl_gpj (k:Nat) (x:List Int) (i:Int) (bad:Bool) (hk:3≤k) (hx:bad=false→x.length=13):impl_GetPiece.j0 k x i bad=some (gpj x i bad):=by
 obtain ⟨k,rfl⟩:∃ q,k=q+1:=⟨k - 1,by omega⟩
 unfold gpj
 simp only [impl_GetPiece.j0]
 cases bad with
 | true=>rfl
 | false =>
  have hl:=hx rfl
  simp only [Bool.false_eq_true,if_false]
  rw [if_pos (by omega),if_pos (by omega),if_pos (by omega),if_pos (by omega),if_pos (by omega),if_pos (by omega),if_pos (by omega),if_pos (by omega),if_pos (by omega),if_pos (by omega),if_pos (by omega),if_pos (by omega),if_pos (by omega),impl_pieceok k _ _ _ _ _ _ _ _ _ _ _ _ _ (by omega)]
  simp only [Option.bind_some]
  split<;>rfl
theorem spec_getpiece (k:Nat) (b:List Int) (i:Int) (hB:Bytes b) (hb:b.length≤4611686018427387904) (hk:30≤k):spec_GetPiece.f k b i=some (gpc b i):=by
 obtain ⟨q,h1,h2,h3⟩:=spec_nums_l0 b hB hb 13 k 0 i [] rfl (by omega) (by simp)
 have hf:spec_l4Nums.f k b i 13=some q:=h1
 have hz:∀ x j,gpj x j true=noPiece:=fun _ _=>rfl
 unfold spec_GetPiece.f gpc gpn
 rw [hf]
 simp only [Option.bind_some]
 by_cases hq:(glr b 13 i []).2.2=true
 ·have hl:=glr_true b 13 i [] hq
  simp only [List.length_nil,Nat.zero_add] at hl
  rw [h3 hq]
  rw [if_pos hq,if_pos hq,if_pos (by omega),spec_in]
  simp only [Option.bind_some]
  by_cases h11:inr (rd (glr b 13 i []).1 11) 0 1=true
  ·rw [if_pos h11,if_pos h11,if_pos (by omega),spec_in]
   simp only [Option.bind_some]
   exact spec_gpj k _ _ _ (by omega) (fun _=>hl)
  ·rw [if_neg h11,if_neg h11,spec_gpj k _ _ _ (by omega) (fun h=>by cases h),hz]
 ·rw [if_neg (by rw [h2];exact hq),if_neg hq,spec_gpj k _ _ _ (by omega) (fun h=>by cases h),hz]
theorem impl_getpiece (k:Nat) (b:List Int) (i:Int) (hB:Bytes b) (hb:b.length≤4611686018427387904) (hk:30≤k):impl_GetPiece.f k b i=some (gpc b i):=by
 have h1:=impl_nums_l0 b hB hb 13 k 0 i [] rfl (by omega) (by simp)
 have hf:impl_getNums.f k b i 13=some (glr b 13 i []):=h1
 have hz:∀ x j,gpj x j true=noPiece:=fun _ _=>rfl
 unfold impl_GetPiece.f gpc gpn
 rw [hf]
 simp only [Option.bind_some]
 by_cases hq:(glr b 13 i []).2.2=true
 ·have hl:=glr_true b 13 i [] hq
  simp only [List.length_nil,Nat.zero_add] at hl
  rw [if_pos hq,if_pos hq,if_pos (by omega),impl_from_in]
  simp only [Option.bind_some]
  by_cases h11:inr (rd (glr b 13 i []).1 11) 0 1=true
  ·rw [if_pos h11,if_pos h11,if_pos (by omega),impl_from_in]
   simp only [Option.bind_some]
   exact impl_gpj k _ _ _ (by omega) (fun _=>hl)
  ·rw [if_neg h11,if_neg h11,impl_gpj k _ _ _ (by omega) (fun h=>by cases h),hz]
 ·rw [if_neg hq,if_neg hq,impl_gpj k _ _ _ (by omega) (fun h=>by cases h),hz]
theorem spec_numsN_l0 (b:List Int) (N:Nat) (hB:Bytes b) (hb:b.length≤4611686018427387904) (hN:N≤900):∀ (d k n:Nat) (i:Int) (acc:List Int),n+d=N→d+8≤k→acc.length=n→∃ q,spec_l4Nums.l0 k b (N:Int) acc i (n:Int)=some q∧q.2.2=(glr b d i acc).2.2∧((glr b d i acc).2.2=true→q=glr b d i acc)
 | 0,k,n,i,acc,hn,hk,ha=>by
  obtain ⟨k,rfl⟩:∃ q,k=q+1:=⟨k - 1,by omega⟩
  simp only [spec_l4Nums.l0]
  rw [if_neg (by omega)]
  exact ⟨_,rfl,rfl,fun _=>rfl⟩
 | d+1,k,n,i,acc,hn,hk,ha=>by
  obtain ⟨k,rfl⟩:∃ q,k=q+1:=⟨k - 1,by omega⟩
  simp only [spec_l4Nums.l0]
  rw [if_pos (by omega),spec_getnum k b i hB hb (by omega),wrap_nat n (by omega)]
  simp only [Option.bind_some,glr]
  by_cases h:(gn b i).2.2=true
  ·rw [if_pos h,if_pos h,if_pos (by omega)]
   exact spec_numsN_l0 b N hB hb hN d k (n+1) _ _ (by omega) (by omega) (by rw [List.length_append,List.length_singleton];omega)
  ·rw [if_neg h,if_neg h]
   exact ⟨_,rfl,rfl,fun h=>by cases h⟩
theorem impl_numsN_l0 (b:List Int) (N:Nat) (hB:Bytes b) (hb:b.length≤4611686018427387904) (hN:N≤900):∀ (d k n:Nat) (i:Int) (acc:List Int),n+d=N→d+8≤k→acc.length=n→impl_getNums.l0 k b i acc (N:Int) (n:Int)=some (glr b d i acc)
 | 0,k,n,i,acc,hn,hk,ha=>by
  obtain ⟨k,rfl⟩:∃ q,k=q+1:=⟨k - 1,by omega⟩
  simp only [impl_getNums.l0]
  rw [if_neg (by omega)]
  rfl
 | d+1,k,n,i,acc,hn,hk,ha=>by
  obtain ⟨k,rfl⟩:∃ q,k=q+1:=⟨k - 1,by omega⟩
  simp only [impl_getNums.l0]
  rw [if_pos (by omega),impl_getnum k b i hB hb (by omega),wrap_nat n (by omega)]
  simp only [Option.bind_some,glr]
  by_cases h:(gn b i).2.2=true
  ·rw [if_pos h,if_pos h,if_pos (by omega)]
   exact impl_numsN_l0 b N hB hb hN d k (n+1) _ _ (by omega) (by omega) (by rw [List.length_append,List.length_singleton];omega)
  ·rw [if_neg h,if_neg h]
abbrev StR:=List S25×List S71×Int×Int×Int
abbrev StB:=List S25×List S71×Int×Int×Bool
def noSt:StB:=([],[],0,0,false)
def fin (b:List Int) (q:StR):StB:=if q.2.2.2.2=(b.length:Int) then (q.1,q.2.1,q.2.2.1,q.2.2.2.1,true) else noSt
theorem fin_no (b:List Int) (ps:List S25) (ss:List S71) (x y e:Int) (h:e≠(b.length:Int)):fin b (ps,ss,x,y,e)=noSt:=if_neg h
theorem len_ne (b:List Int):(-1:Int)≠(b.length:Int):=by omega
theorem cut3 (l:List Int) (n:Nat) (h:3*n+3≤l.length):∃ y,(l.take ((3*(n:Int)+3):Int).toNat).drop ((3*(n:Int)):Int).toNat=y∧y.length=3∧rd y 0=rd l (3*(n:Int))∧rd y 1=rd l (3*(n:Int)+1)∧rd y 2=rd l (3*(n:Int)+2):=by
 have e1:((3*(n:Int)+3):Int).toNat=3*n+3:=by omega
 have e2:((3*(n:Int)):Int).toNat=3*n:=by omega
 have e3:((3*(n:Int)+1):Int).toNat=3*n+1:=by omega
 have e4:((3*(n:Int)+2):Int).toNat=3*n+2:=by omega
 rw [e1,e2]
 refine ⟨_,rfl,by rw [List.length_drop,List.length_take];omega,?_,?_,?_⟩
 ·unfold rd
  rw [e2]
  simp [List.getD_eq_getElem?_getD,List.getElem?_drop]
 ·unfold rd
  rw [e3]
  simp [List.getD_eq_getElem?_getD,List.getElem?_drop]
 ·unfold rd
  rw [e4]
  simp [List.getD_eq_getElem?_getD,List.getElem?_drop]
theorem w3 (n:Nat) (h:n≤1000):wrap64 (3*(n:Int))=3*(n:Int):=by unfold wrap64;omega
theorem w3a (n:Nat) (j:Int) (h:n≤1000) (h0:0≤j) (h1:j≤3):wrap64 (3*(n:Int)+j)=3*(n:Int)+j:=by unfold wrap64;omega
theorem stok_len {ps:List S25} {ss:List S71} {a c:Int} (h:stOk ps ss a c=true):ps.length≤8∧ss.length≤3:=by
 unfold stOk at h
 simp only [Bool.and_eq_true] at h
 obtain ⟨h1,h2,-⟩:=h
 have:=of_decide_eq_true h1
 have:=of_decide_eq_true (p:=2≤(ss.length:Int)∧(ss.length:Int)≤3) h2
 omega
def Fine (q:StR):Prop:=q.2.2.2.2 = -1∨stOk q.1 q.2.1 q.2.2.1 q.2.2.2.1=true
theorem sides_both (b l:List Int) (m:Nat) (hm:m≤3) (hl:l.length=3*m+2) (e:Int) (ps:List S25):∀ (d k k' n:Nat) (ss:List S71) (x y:Int),n+d=m→d < k→d < k'→ss.length=n→∃ q,spec_l5Get.l1 k (m:Int) l e (n:Int) ps ss x y=some q∧(q.2.2.2.2=e∨q.2.2.2.2 = -1)∧Fine q∧(e=(b.length:Int)→impl_GetState.l1 k' (m:Int) l (m:Int) (n:Int) ps ss x y=some (fin b q))
 | 0,k,k',n,ss,x,y,hn,hk,hk',hs=>by
  obtain ⟨k,rfl⟩:∃ q,k=q+1:=⟨k - 1,by omega⟩
  obtain ⟨k',rfl⟩:∃ q,k'=q+1:=⟨k' - 1,by omega⟩
  simp only [spec_l5Get.l1,impl_GetState.l1]
  have hnm:¬ ((n:Int) < (m:Int)):=by omega
  rw [if_neg hnm,if_neg hnm,w3 m (by omega),w3a m 1 (by omega) (by omega) (by omega)]
  simp (disch:=omega) only [if_pos,spec_StateOk.f,impl_StateOk.f,Option.bind_some]
  by_cases h:stOk ps ss (rd l (3*(m:Int))) (rd l (3*(m:Int)+1))=true
  ·rw [if_pos h,if_pos h]
   exact ⟨_,rfl,.inl rfl,.inr h,fun he=>by subst he;unfold fin;rw [if_pos rfl]⟩
  ·rw [if_neg h,if_neg h]
   exact ⟨_,rfl,.inr rfl,.inl rfl,fun he=>by rw [fin_no _ _ _ _ _ _ (len_ne b)];rfl⟩
 | d+1,k,k',n,ss,x,y,hn,hk,hk',hs=>by
  obtain ⟨k,rfl⟩:∃ q,k=q+1:=⟨k - 1,by omega⟩
  obtain ⟨k',rfl⟩:∃ q,k'=q+1:=⟨k' - 1,by omega⟩
  obtain ⟨yy,ey,ly,y0,y1,y2⟩:=cut3 l n (by omega)
  simp only [spec_l5Get.l1,impl_GetState.l1]
  have hnm:(n:Int) < (m:Int):=by omega
  rw [if_pos hnm,if_pos hnm,w3 n (by omega),w3a n 1 (by omega) (by omega) (by omega),w3a n 2 (by omega) (by omega) (by omega),w3a n 3 (by omega) (by omega) (by omega),wrap_nat n (by omega)]
  rw [ey]
  simp (disch:=omega) only [if_pos,Option.bind_some,spec_in,impl_from_in]
  rw [y0,y1,y2]
  by_cases h:inr (rd l (3*(n:Int)+2)) 0 1=true
  ·rw [if_pos h,if_pos h]
   exact sides_both b l m hm hl e ps d k k' (n+1) _ x y (by omega) (by omega) (by omega) (by rw [List.length_append,List.length_singleton];omega)
  ·rw [if_neg h,if_neg h]
   exact ⟨_,rfl,.inr rfl,.inl rfl,fun he=>by rw [fin_no _ _ _ _ _ _ (len_ne b)];rfl⟩
theorem j2_both (b:List Int) (hB:Bytes b) (hb:b.length≤1048576) (k k':Nat) (m at_:Int) (bad:Bool) (ps:List S25) (hk:40≤k) (hk':40≤k') (hm:bad=false→2≤m∧m≤3):∃ q,spec_l5Get.j2 k b m at_ bad ps 0 0=some q∧Fine q∧impl_GetState.j2 k' b at_ m bad ps 0 0=some (fin b q):=by
 obtain ⟨k,rfl⟩:∃ q,k=q+1:=⟨k - 1,by omega⟩
 obtain ⟨k',rfl⟩:∃ q,k'=q+1:=⟨k' - 1,by omega⟩
 simp only [spec_l5Get.j2,impl_GetState.j2]
 cases bad with
 | true=>exact ⟨_,rfl,.inl rfl,by rw [fin_no _ _ _ _ _ _ (len_ne b)];rfl⟩
 | false =>
  have hm:=hm rfl
  obtain ⟨m,rfl⟩:=Int.eq_ofNat_of_zero_le (show 0≤m by omega)
  simp only [Bool.false_eq_true,if_false]
  rw [w3 m (by omega),w3a m 2 (by omega) (by omega) (by omega)]
  obtain ⟨q,h1,h2,h3⟩:=spec_numsN_l0 b (3*m+2) hB (by omega) (by omega) (3*m+2) k 0 at_ [] (by omega) (by omega) rfl
  have h4:=impl_numsN_l0 b (3*m+2) hB (by omega) (by omega) (3*m+2) k' 0 at_ [] (by omega) (by omega) rfl
  have g1:spec_l4Nums.f k b at_ (3*(m:Int)+2)=some q:=h1
  have g2:impl_getNums.f k' b at_ (3*(m:Int)+2)=some (glr b (3*m+2) at_ []):=h4
  rw [g1,g2]
  simp only [Option.bind_some]
  by_cases hq:(glr b (3*m+2) at_ []).2.2=true
  ·have hl:=glr_true b (3*m+2) at_ [] hq
   simp only [List.length_nil,Nat.zero_add] at hl
   rw [h3 hq,if_pos hq,if_pos hq]
   obtain ⟨k'',rfl⟩:∃ q,k'=q+1:=⟨k' - 1,by omega⟩
   simp only [impl_GetState.j3]
   obtain ⟨r,r1,r2,rf,r3⟩:=sides_both b (glr b (3*m+2) at_ []).1 m (by omega) hl (glr b (3*m+2) at_ []).2.1 ps m k k'' 0 [] 0 0 (by omega) (by omega) (by omega) rfl
   refine ⟨r,r1,rf,?_⟩
   by_cases he:(glr b (3*m+2) at_ []).2.1=(b.length:Int)
   ·rw [if_neg (by simp [he])]
    exact r3 he
   ·rw [if_pos (by simpa using he)]
    obtain ⟨p1,p2,p3,p4,p5⟩:=r
    rw [fin_no _ _ _ _ _ _ (by
     rcases r2 with h|h
     ·exact fun e2=>he (h.symm.trans e2)
     ·exact fun e2=>len_ne b (h.symm.trans e2))]
    rfl
  ·rw [if_neg hq,if_neg (by rw [h2];exact hq)]
   obtain ⟨k'',rfl⟩:∃ q,k'=q+1:=⟨k' - 1,by omega⟩
   exact ⟨_,rfl,.inl rfl,by rw [fin_no _ _ _ _ _ _ (len_ne b)];simp only [impl_GetState.j3,if_true];rfl⟩
theorem pieces_both (b:List Int) (hB:Bytes b) (hb:b.length≤1048576) (c:Nat) (hc:c≤8):∀ (d k k' n:Nat) (i:Int) (ps:List S25),n+d=c→d+60 < k→d+60 < k'→ps.length=n→∃ q,spec_l5Get.l0 k b (c:Int) i (n:Int) ps 0 0=some q∧Fine q∧impl_GetState.l0 k' b i (c:Int) (n:Int) ps 0 0=some (fin b q)
 | 0,k,k',n,i,ps,hn,hk,hk',hp=>by
  obtain ⟨k,rfl⟩:∃ q,k=q+1:=⟨k - 1,by omega⟩
  obtain ⟨k',rfl⟩:∃ q,k'=q+1:=⟨k' - 1,by omega⟩
  simp only [spec_l5Get.l0,impl_GetState.l0]
  rw [if_neg (by omega),if_neg (by omega),spec_getnum k b i hB (by omega) (by omega),impl_getnum k' b i hB (by omega) (by omega)]
  simp only [Option.bind_some,spec_in,impl_from_in]
  by_cases h:(gn b i).2.2=true
  ·rw [if_pos h,if_pos h]
   exact j2_both b hB hb k k' _ _ _ ps (by omega) (by omega) (fun e=>by
    have:inr (gn b i).1 2 3=true:=by simpa using e
    unfold inr at this
    exact of_decide_eq_true this)
  ·rw [if_neg h,if_neg h]
   exact j2_both b hB hb k k' _ _ _ ps (by omega) (by omega) (fun e=>by cases e)
 | d+1,k,k',n,i,ps,hn,hk,hk',hp=>by
  obtain ⟨k,rfl⟩:∃ q,k=q+1:=⟨k - 1,by omega⟩
  obtain ⟨k',rfl⟩:∃ q,k'=q+1:=⟨k' - 1,by omega⟩
  simp only [spec_l5Get.l0,impl_GetState.l0]
  rw [if_pos (by omega),if_pos (by omega),spec_getpiece k b i hB (by omega) (by omega),impl_getpiece k' b i hB (by omega) (by omega),wrap_nat n (by omega)]
  simp only [Option.bind_some]
  by_cases h:(gpc b i).2.2.2.2.2.2.2.2.2.2.2.2.2.2=true
  ·rw [if_pos h,if_pos h,if_pos (by omega),if_pos (by omega)]
   exact pieces_both b hB hb c hc d k k' (n+1) _ _ (by omega) (by omega) (by omega) (by rw [List.length_append,List.length_singleton];omega)
  ·rw [if_neg h,if_neg h]
   exact ⟨_,rfl,.inl rfl,by rw [fin_no _ _ _ _ _ _ (len_ne b)];rfl⟩
theorem fine_fin (b:List Int) (q:StR) (h:Fine q):fin b q=noSt∨((fin b q).2.2.2.2=true∧stOk (fin b q).1 (fin b q).2.1 (fin b q).2.2.1 (fin b q).2.2.2.1=true):=by
 unfold fin
 split
 ·rename_i he
  rcases h with h|h
  ·omega
  ·exact .inr ⟨rfl,h⟩
 ·exact .inl rfl
theorem getstate_both (b:List Int) (hB:Bytes b) (hb:b.length≤1048576) (k k':Nat) (hk:100≤k) (hk':100≤k'):∃ r:StB,spec_GetState.f k b=some r∧impl_GetState.f k' b=some r∧(r=noSt∨(r.2.2.2.2=true∧stOk r.1 r.2.1 r.2.2.1 r.2.2.2.1=true)):=by
 unfold spec_GetState.f spec_l5Get.f impl_GetState.f
 rw [spec_getnum k b 0 hB (by omega) (by omega),impl_getnum k' b 0 hB (by omega) (by omega)]
 simp only [Option.bind_some,spec_in,impl_from_in]
 have key:∀ bad:Bool,(bad=false→0≤(gn b 0).1∧(gn b 0).1≤8)→∃ q,spec_l5Get.j0 k b (gn b 0).1 (gn b 0).2.1 bad 0 0=some q∧Fine q∧impl_GetState.j0 k' b (gn b 0).1 (gn b 0).2.1 bad=some (fin b q):=by
  intro bad hbad
  obtain ⟨k,rfl⟩:∃ q,k=q+1:=⟨k - 1,by omega⟩
  obtain ⟨k',rfl⟩:∃ q,k'=q+1:=⟨k' - 1,by omega⟩
  simp only [spec_l5Get.j0,impl_GetState.j0]
  cases bad with
  | true=>exact ⟨_,rfl,.inl rfl,by rw [fin_no _ _ _ _ _ _ (len_ne b)];rfl⟩
  | false =>
   have h:=hbad rfl
   simp only [Bool.false_eq_true,if_false]
   generalize (gn b 0).2.1=i
   generalize (gn b 0).1=c at h
   obtain ⟨c,rfl⟩:=Int.eq_ofNat_of_zero_le h.1
   exact pieces_both b hB hb c (by omega) c k k' 0 i [] (by omega) (by omega) (by omega) rfl
 have fin_eq:∀ q:StR,((some q).bind fun bt=>(if bt.2.2.2.2=(b.length:Int) then (some (bt.1,bt.2.1,bt.2.2.1,bt.2.2.2.1,true)) else (some (([]:List (S25)),([]:List (S71)),0,0,false))))=some (fin b q):=by
  intro q
  simp only [Option.bind_some]
  unfold fin noSt
  split<;>rfl
 by_cases h:(gn b 0).2.2=true
 ·rw [if_pos h,if_pos h]
  obtain ⟨q,h1,hf,h2⟩:=key (!inr (gn b 0).1 0 8) (fun e=>by
   have:inr (gn b 0).1 0 8=true:=by simpa using e
   unfold inr at this
   exact of_decide_eq_true this)
  rw [h1,h2,fin_eq]
  exact ⟨_,rfl,rfl,fine_fin b q hf⟩
 ·rw [if_neg h,if_neg h]
  obtain ⟨q,h1,hf,h2⟩:=key true (fun e=>by cases e)
  rw [h1,h2,fin_eq]
  exact ⟨_,rfl,rfl,fine_fin b q hf⟩
def bnd (n:Int):Int:=if n > 2147483647 then 2147483647 else if n < -2147483647 then -2147483647 else n
theorem spec_bound (n:Int):spec_Bound.f n=some (bnd n):=by
 unfold spec_Bound.f bnd
 by_cases h1:n > 2147483647
 ·rw [if_pos h1,if_pos h1]
 ·rw [if_neg h1,if_neg h1]
  by_cases h2:n < -2147483647
  ·rw [if_pos h2,if_pos h2]
  ·rw [if_neg h2,if_neg h2]
theorem impl_bound (n:Int):impl_Bound.f n=some (bnd n):=by
 unfold impl_Bound.f bnd mx mn
 congr 1
 split<;>split<;>(try split)<;>omega
theorem bnd_range (n:Int) : -2147483647≤bnd n∧bnd n≤2147483647:=by
 unfold bnd
 split
 ·omega
 ·split<;>omega
def code (n:Int):List Int:=[(bnd n+2147483648) / 16777216,(bnd n+2147483648) / 65536 % 256,(bnd n+2147483648) / 256 % 256,(bnd n+2147483648) % 256]
theorem code_length (n:Int):(code n).length=4:=rfl
theorem and255 (x:Int) (h0:0≤x) (h:x≤4611686018427387904):Go.bits .and .i64 x 255=x % 256 :=
 bits_mask .i64 63 (by decide) (fun n h0 h1=>by rw [IntKind.wrap_i64];omega) 8 (by decide) x h0 (by omega)
theorem impl_putnum (l:List Int) (n:Int) (hb:l.length < 140737488355000):impl_PutNum.f l n=some (l++code n):=by
 have hr:=bnd_range n
 have hw:wrap64 (bnd n+2147483648)=bnd n+2147483648:=by unfold wrap64;omega
 unfold impl_PutNum.f slices_Clone_byte_byte.f
 rw [impl_bound]
 simp only [Option.bind_some,List.length_nil,List.nil_append,List.length_cons]
 rw [if_pos (by omega)]
 simp only [Option.bind_some]
 rw [if_pos (by omega),hw]
 unfold code
 congr 4
 omega
theorem spec_putnum (l:List Int) (n:Int) (hb:l.length < 140737488355000):spec_PutNum.f l n=some (l++code n):=by
 have hr:=bnd_range n
 have hw:wrap64 (bnd n+2147483648)=bnd n+2147483648:=by unfold wrap64;omega
 unfold spec_PutNum.f
 rw [spec_bound]
 simp only [Option.bind_some,List.length_nil,List.nil_append,List.length_cons]
 rw [if_pos (by omega)]
 rw [if_pos (by omega),hw,and255 _ (by omega) (by omega),and255 _ (by omega) (by omega),and255 _ (by omega) (by omega),and255 _ (by omega) (by omega)]
 unfold code
 congr 3
 ·omega
 ·congr 1
  ·omega
  ·congr 1
   ·omega
   ·congr 1
    omega
theorem flat_length (l:List Int):(l.flatMap code).length=4*l.length:=by
 induction l with
 | nil=>rfl
 | cons x l ih=>rw [List.flatMap_cons,List.length_append,code_length,ih,List.length_cons];omega
theorem drop_cons (l:List Int) (n:Nat) (h:n < l.length):l.drop n=rd l (n:Int)::l.drop (n+1):=by
 have h1:=rd_nat l n h
 rw [List.getElem?_eq_getElem h] at h1
 rw [List.drop_eq_getElem_cons h,Option.some.inj h1]
def bit (b:Bool):Int:=if b=true then 1 else 0
def nums (a0 a1 a2 a3 a4 a5 a6 a7 a8 a9 a10:Int) (a11 a12:Bool):List Int:=[a0,a1,a2,a3,a4,a5,a6,a7,a8,a9,a10,bit a11,bit a12]
def pput (b:List Int) (a0 a1 a2 a3 a4 a5 a6 a7 a8 a9 a10:Int) (a11 a12:Bool):List Int :=
 if pok a0 a1 a2 a3 a4 a5 a6 a7 a8 a9 a10 a11 a12=true then b++(nums a0 a1 a2 a3 a4 a5 a6 a7 a8 a9 a10 a11 a12).flatMap code else b
theorem pput_length (b:List Int) (a0 a1 a2 a3 a4 a5 a6 a7 a8 a9 a10:Int) (a11 a12:Bool):(pput b a0 a1 a2 a3 a4 a5 a6 a7 a8 a9 a10 a11 a12).length≤b.length+52:=by
 unfold pput
 split
 ·rw [List.length_append,flat_length];unfold nums;simp
 ·omega
theorem impl_putpiece_l0:∀ (d k n:Nat) (out l:List Int),n+d=l.length→d < k→l.length≤255→out.length+4*d < 140737488300000→impl_PutPiece.l0 k out l (l.length:Int) (n:Int)=some (out++(l.drop n).flatMap code)
 | 0,k,n,out,l,hn,hk,hl,hb=>by
  obtain ⟨k,rfl⟩:∃ q,k=q+1:=⟨k - 1,by omega⟩
  simp only [impl_PutPiece.l0]
  rw [if_neg (by omega),List.drop_eq_nil_of_le (by omega)]
  simp
 | d+1,k,n,out,l,hn,hk,hl,hb=>by
  obtain ⟨k,rfl⟩:∃ q,k=q+1:=⟨k - 1,by omega⟩
  simp only [impl_PutPiece.l0]
  rw [if_pos (by omega),if_pos (by omega),if_pos (by omega),impl_putnum _ _ (by omega),wrap_nat n (by omega)]
  simp only [Option.bind_some]
  rw [impl_putpiece_l0 d k (n+1) _ l (by omega) (by omega) hl (by rw [List.length_append,code_length];omega),drop_cons l n (by omega),List.flatMap_cons,List.append_assoc]
theorem spec_putpiece_l0:∀ (d k n:Nat) (out l:List Int),n+d=l.length→d < k→l.length≤255→out.length+4*d < 140737488300000→spec_PutPiece.l0 k out l (n:Int)=some (out++(l.drop n).flatMap code)
 | 0,k,n,out,l,hn,hk,hl,hb=>by
  obtain ⟨k,rfl⟩:∃ q,k=q+1:=⟨k - 1,by omega⟩
  simp only [spec_PutPiece.l0]
  rw [if_neg (by omega),List.drop_eq_nil_of_le (by omega)]
  simp
 | d+1,k,n,out,l,hn,hk,hl,hb=>by
  obtain ⟨k,rfl⟩:∃ q,k=q+1:=⟨k - 1,by omega⟩
  simp only [spec_PutPiece.l0]
  rw [if_pos (by omega),if_pos (by omega),spec_putnum _ _ (by omega),wrap_nat n (by omega)]
  simp only [Option.bind_some]
  rw [spec_putpiece_l0 d k (n+1) _ l (by omega) (by omega) hl (by rw [List.length_append,code_length];omega),drop_cons l n (by omega),List.flatMap_cons,List.append_assoc]
theorem impl_bit_f (b:Bool):impl_bit.f b=some (bit b):=by cases b<;>rfl
theorem spec_bit_f (b:Bool):spec_l4Bit.f b=some (bit b):=by cases b<;>rfl
theorem impl_putpiece (k:Nat) (b:List Int) (a0 a1 a2 a3 a4 a5 a6 a7 a8 a9 a10:Int) (a11 a12:Bool) (hk:14≤k) (hb:b.length < 140737488200000):impl_PutPiece.f k b a0 a1 a2 a3 a4 a5 a6 a7 a8 a9 a10 a11 a12=some (pput b a0 a1 a2 a3 a4 a5 a6 a7 a8 a9 a10 a11 a12):=by
 unfold impl_PutPiece.f slices_Clone_byte_byte.f pput
 simp only [Option.bind_some,List.length_nil,List.nil_append]
 rw [if_pos (by omega)]
 simp only [Option.bind_some]
 rw [impl_pieceok k _ _ _ _ _ _ _ _ _ _ _ _ _ (by omega)]
 simp only [Option.bind_some,impl_bit_f]
 split
 ·exact impl_putpiece_l0 13 k 0 b (nums a0 a1 a2 a3 a4 a5 a6 a7 a8 a9 a10 a11 a12) rfl (by omega) (by unfold nums;simp) (by omega)
 ·rfl
theorem spec_putpiece (k:Nat) (b:List Int) (a0 a1 a2 a3 a4 a5 a6 a7 a8 a9 a10:Int) (a11 a12:Bool) (hk:14≤k) (hb:b.length < 140737488200000):spec_PutPiece.f k b a0 a1 a2 a3 a4 a5 a6 a7 a8 a9 a10 a11 a12=some (pput b a0 a1 a2 a3 a4 a5 a6 a7 a8 a9 a10 a11 a12):=by
 unfold spec_PutPiece.f pput
 simp only [Option.bind_some,List.length_nil,List.nil_append]
 rw [if_pos (by omega)]
 rw [spec_pieceok k _ _ _ _ _ _ _ _ _ _ _ _ _ (by omega)]
 simp only [Option.bind_some,spec_bit_f]
 split
 ·exact spec_putpiece_l0 13 k 0 b (nums a0 a1 a2 a3 a4 a5 a6 a7 a8 a9 a10 a11 a12) rfl (by omega) (by unfold nums;simp) (by omega)
 ·rfl
def pc (x:S25):List Int:=if pokS x=true then (nums x.f0 x.f1 x.f2 x.f3 x.f4 x.f5 x.f6 x.f7 x.f8 x.f9 x.f10 x.f11 x.f12).flatMap code else []
theorem pput_pc (b:List Int) (x:S25):pput b x.f0 x.f1 x.f2 x.f3 x.f4 x.f5 x.f6 x.f7 x.f8 x.f9 x.f10 x.f11 x.f12=b++pc x:=by
 unfold pput pc pokS
 split
 ·rfl
 ·rw [List.append_nil]
theorem pc_length (x:S25):(pc x).length≤52:=by
 have h:=pput_length [] x.f0 x.f1 x.f2 x.f3 x.f4 x.f5 x.f6 x.f7 x.f8 x.f9 x.f10 x.f11 x.f12
 rw [pput_pc] at h
 simpa using h
def sc (x:S71):List Int:=code x.f0++(code x.f1++code (bit x.f2))
theorem sc_length (x:S71):(sc x).length=12:=rfl
def stCode (ps:List S25) (ss:List S71) (a c:Int):List Int:=code (ps.length:Int)++(ps.flatMap pc++(code (ss.length:Int)++(ss.flatMap sc++(code a++code c))))
theorem drop_T25 (l:List S25) (n:Nat) (h:n < l.length):l.drop n=rd_T25 l (n:Int)::l.drop (n+1):=by
 rw [List.drop_eq_getElem_cons h]
 simp [rd_T25,h]
theorem drop_T71 (l:List S71) (n:Nat) (h:n < l.length):l.drop n=rd_T71 l (n:Int)::l.drop (n+1):=by
 rw [List.drop_eq_getElem_cons h]
 simp [rd_T71,h]
theorem impl_put_l1 (ps:List S25) (ss:List S71) (a c:Int) (hs:ss.length≤1048576):∀ (d k n:Nat) (out:List Int),n+d=ss.length→d < k→out.length+12*d < 140737488300000→impl_PutState.l1 k out ss (ss.length:Int) (n:Int) ps ss a c=some (out++((ss.drop n).flatMap sc++(code a++code c)))
 | 0,k,n,out,hn,hk,hb=>by
  obtain ⟨k,rfl⟩:∃ q,k=q+1:=⟨k - 1,by omega⟩
  simp only [impl_PutState.l1]
  rw [if_neg (by omega),List.drop_eq_nil_of_le (by omega),impl_putnum _ _ (by omega)]
  simp only [Option.bind_some]
  rw [impl_putnum _ _ (by rw [List.length_append,code_length];omega)]
  simp only [Option.bind_some,List.flatMap_nil,List.nil_append,List.append_assoc]
 | d+1,k,n,out,hn,hk,hb=>by
  obtain ⟨k,rfl⟩:∃ q,k=q+1:=⟨k - 1,by omega⟩
  simp only [impl_PutState.l1]
  rw [if_pos (by omega),if_pos (by omega),if_pos (by omega),impl_putnum _ _ (by omega)]
  simp only [Option.bind_some]
  rw [impl_putnum _ _ (by rw [List.length_append,code_length];omega)]
  simp only [Option.bind_some,impl_bit_f]
  rw [impl_putnum _ _ (by rw [List.length_append,List.length_append,code_length,code_length];omega),wrap_nat n (by omega)]
  simp only [Option.bind_some]
  rw [impl_put_l1 ps ss a c hs d k (n+1) _ (by omega) (by omega) (by rw [List.length_append,List.length_append,List.length_append,code_length,code_length,code_length];omega),drop_T71 ss n (by omega),List.flatMap_cons]
  unfold sc
  simp only [List.append_assoc]
theorem impl_put_l0 (ps:List S25) (ss:List S71) (a c:Int) (hp:ps.length≤1048576) (hs:ss.length≤1048576):∀ (d k n:Nat) (out:List Int),n+d=ps.length→d+ss.length+20 < k→out.length+52*d+12*ss.length+100 < 140737488200000→impl_PutState.l0 k out ps (ps.length:Int) (n:Int) ps ss a c=some (out++((ps.drop n).flatMap pc++(code (ss.length:Int)++(ss.flatMap sc++(code a++code c)))))
 | 0,k,n,out,hn,hk,hb=>by
  obtain ⟨k,rfl⟩:∃ q,k=q+1:=⟨k - 1,by omega⟩
  simp only [impl_PutState.l0]
  rw [if_neg (by omega),List.drop_eq_nil_of_le (by omega),impl_putnum _ _ (by omega)]
  simp only [Option.bind_some]
  have h:=impl_put_l1 ps ss a c hs ss.length k 0 (out++code (ss.length:Int)) (by omega) (by omega) (by rw [List.length_append,code_length];omega)
  rw [show ((0:Nat):Int)=0 from rfl] at h
  rw [h]
  simp only [List.drop_zero,List.flatMap_nil,List.nil_append,List.append_assoc]
 | d+1,k,n,out,hn,hk,hb=>by
  obtain ⟨k,rfl⟩:∃ q,k=q+1:=⟨k - 1,by omega⟩
  simp only [impl_PutState.l0]
  rw [if_pos (by omega),if_pos (by omega),if_pos (by omega),impl_putpiece k _ _ _ _ _ _ _ _ _ _ _ _ _ _ (by omega) (by omega),pput_pc,wrap_nat n (by omega)]
  simp only [Option.bind_some]
  have hl:=pc_length (rd_T25 ps (n:Int))
  rw [impl_put_l0 ps ss a c hp hs d k (n+1) _ (by omega) (by omega) (by rw [List.length_append];omega),drop_T25 ps n (by omega),List.flatMap_cons]
  simp only [List.append_assoc]
theorem spec_put_l1 (ps:List S25) (ss:List S71) (a c:Int) (hs:ss.length≤1048576):∀ (d k n:Nat) (out:List Int),n+d=ss.length→d < k→out.length+12*d < 140737488300000→spec_PutState.l1 k out (n:Int) ps ss a c=some (out++((ss.drop n).flatMap sc++(code a++code c)))
 | 0,k,n,out,hn,hk,hb=>by
  obtain ⟨k,rfl⟩:∃ q,k=q+1:=⟨k - 1,by omega⟩
  simp only [spec_PutState.l1]
  rw [if_neg (by omega),List.drop_eq_nil_of_le (by omega),spec_putnum _ _ (by omega)]
  simp only [Option.bind_some]
  rw [spec_putnum _ _ (by rw [List.length_append,code_length];omega)]
  simp only [Option.bind_some,List.flatMap_nil,List.nil_append,List.append_assoc]
 | d+1,k,n,out,hn,hk,hb=>by
  obtain ⟨k,rfl⟩:∃ q,k=q+1:=⟨k - 1,by omega⟩
  simp only [spec_PutState.l1]
  rw [if_pos (by omega),if_pos (by omega),spec_putnum _ _ (by omega)]
  simp only [Option.bind_some]
  rw [spec_putnum _ _ (by rw [List.length_append,code_length];omega)]
  simp only [Option.bind_some,spec_bit_f]
  rw [spec_putnum _ _ (by rw [List.length_append,List.length_append,code_length,code_length];omega),wrap_nat n (by omega)]
  simp only [Option.bind_some]
  rw [spec_put_l1 ps ss a c hs d k (n+1) _ (by omega) (by omega) (by rw [List.length_append,List.length_append,List.length_append,code_length,code_length,code_length];omega),drop_T71 ss n (by omega),List.flatMap_cons]
  unfold sc
  simp only [List.append_assoc]
theorem spec_put_l0 (ps:List S25) (ss:List S71) (a c:Int) (hp:ps.length≤1048576) (hs:ss.length≤1048576):∀ (d k n:Nat) (out:List Int),n+d=ps.length→d+ss.length+20 < k→out.length+52*d+12*ss.length+100 < 140737488200000→spec_PutState.l0 k out (n:Int) ps ss a c=some (out++((ps.drop n).flatMap pc++(code (ss.length:Int)++(ss.flatMap sc++(code a++code c)))))
 | 0,k,n,out,hn,hk,hb=>by
  obtain ⟨k,rfl⟩:∃ q,k=q+1:=⟨k - 1,by omega⟩
  simp only [spec_PutState.l0]
  rw [if_neg (by omega),List.drop_eq_nil_of_le (by omega),spec_putnum _ _ (by omega)]
  simp only [Option.bind_some]
  have h:=spec_put_l1 ps ss a c hs ss.length k 0 (out++code (ss.length:Int)) (by omega) (by omega) (by rw [List.length_append,code_length];omega)
  rw [show ((0:Nat):Int)=0 from rfl] at h
  rw [h]
  simp only [List.drop_zero,List.flatMap_nil,List.nil_append,List.append_assoc]
 | d+1,k,n,out,hn,hk,hb=>by
  obtain ⟨k,rfl⟩:∃ q,k=q+1:=⟨k - 1,by omega⟩
  simp only [spec_PutState.l0]
  rw [if_pos (by omega),if_pos (by omega),spec_putpiece k _ _ _ _ _ _ _ _ _ _ _ _ _ _ (by omega) (by omega),pput_pc,wrap_nat n (by omega)]
  simp only [Option.bind_some]
  have hl:=pc_length (rd_T25 ps (n:Int))
  rw [spec_put_l0 ps ss a c hp hs d k (n+1) _ (by omega) (by omega) (by rw [List.length_append];omega),drop_T25 ps n (by omega),List.flatMap_cons]
  simp only [List.append_assoc]
def putSt (ps:List S25) (ss:List S71) (a c:Int):List Int:=if stOk ps ss a c=true then stCode ps ss a c else []
theorem impl_put (k:Nat) (ps:List S25) (ss:List S71) (a c:Int) (hk:ps.length+ss.length+20 < k) (hp:ps.length≤1048576) (hs:ss.length≤1048576):impl_PutState.f k ps ss a c=some (putSt ps ss a c):=by
 unfold impl_PutState.f putSt
 rw [show impl_StateOk.f k ps ss a c=some (stOk ps ss a c) from rfl]
 simp only [Option.bind_some]
 split
 ·rw [impl_putnum _ _ (by simp)]
  simp only [Option.bind_some,List.nil_append]
  have h:=impl_put_l0 ps ss a c hp hs ps.length k 0 (code (ps.length:Int)) (by omega) (by omega) (by rw [code_length];omega)
  rw [show ((0:Nat):Int)=0 from rfl] at h
  rw [h]
  rfl
 ·rfl
theorem spec_put (k:Nat) (ps:List S25) (ss:List S71) (a c:Int) (hk:ps.length+ss.length+20 < k) (hp:ps.length≤1048576) (hs:ss.length≤1048576):spec_PutState.f k ps ss a c=some (putSt ps ss a c):=by
 unfold spec_PutState.f putSt
 rw [show spec_StateOk.f k ps ss a c=some (stOk ps ss a c) from rfl]
 simp only [Option.bind_some]
 split
 ·rw [spec_putnum _ _ (by simp)]
  simp only [Option.bind_some,List.nil_append]
  have h:=spec_put_l0 ps ss a c hp hs ps.length k 0 (code (ps.length:Int)) (by omega) (by omega) (by rw [code_length];omega)
  rw [show ((0:Nat):Int)=0 from rfl] at h
  rw [h]
  rfl
 ·rfl
theorem good_len {ps:List S25} {ss:List S71} {a c:Int} (h:stOk ps ss a c=true):ps.length≤8∧2≤ss.length∧ss.length≤3:=by
 unfold stOk at h
 simp only [Bool.and_eq_true,decide_eq_true_eq,inr] at h
 omega
theorem flat_le {α:Type} (f:α→List Int) (n:Nat) (hf:∀ x,(f x).length≤n):∀ l:List α,(l.flatMap f).length≤n*l.length
 | []=>by simp
 | x::l=>by
  have h1:=flat_le f n hf l
  have h2:=hf x
  rw [List.flatMap_cons,List.length_append,List.length_cons,Nat.mul_succ]
  omega
theorem putSt_length (ps:List S25) (ss:List S71) (a c:Int):(putSt ps ss a c).length≤468:=by
 unfold putSt
 split
 ·rename_i h
  have hl:=good_len h
  unfold stCode
  simp only [List.length_append,code_length]
  have h1:=flat_le pc 52 pc_length ps
  have h2:=flat_le sc 12 (fun x=>Nat.le_of_eq (sc_length x)) ss
  omega
 ·simp
theorem rd_right (p s:List Int) (j:Nat):rd (p++s) ((p.length:Int)+(j:Int))=rd s (j:Int):=by
 unfold rd
 rw [List.getD_eq_getElem?_getD,List.getD_eq_getElem?_getD,List.getElem?_append_right (by omega)]
 congr 2
 omega
theorem rd_right0 (p s:List Int):rd (p++s) (p.length:Int)=rd s 0:=by
 have:=rd_right p s 0
 rw [show ((p.length:Int)+((0:Nat):Int))=(p.length:Int) from by omega] at this
 exact this
theorem gn_code (p:List Int) (x:Int) (r:List Int):gn (p++(code x++r)) (p.length:Int)=(bnd x,(p.length:Int)+4,true):=by
 have hr:=bnd_range x
 have hv:val4 (p++(code x++r)) (p.length:Int)=bnd x+2147483648:=by
  unfold val4
  rw [rd_right0,show (p.length:Int)+1=(p.length:Int)+((1:Nat):Int) from rfl,show (p.length:Int)+2=(p.length:Int)+((2:Nat):Int) from rfl,show (p.length:Int)+3=(p.length:Int)+((3:Nat):Int) from rfl,rd_right,rd_right,rd_right]
  show (bnd x+2147483648) / 16777216*16777216+(bnd x+2147483648) / 65536 % 256*65536+(bnd x+2147483648) / 256 % 256*256+(bnd x+2147483648) % 256=bnd x+2147483648
  omega
 unfold gn
 rw [if_neg,hv,if_neg (by omega)]
 ·rw [Int.add_sub_cancel]
 ·rw [List.length_append,List.length_append,code_length];omega
theorem code_bytes (x:Int):Bytes (code x):=by
 have hr:=bnd_range x
 intro y hy
 unfold code at hy
 simp only [List.mem_cons,List.not_mem_nil,or_false] at hy
 rcases hy with rfl|rfl|rfl|rfl<;>omega
theorem flat_bytes (l:List Int):Bytes (l.flatMap code):=by
 intro y hy
 obtain ⟨x,_,h⟩:=List.mem_flatMap.1 hy
 exact code_bytes x y h
theorem drop4 (s:List Int) (i:Nat) (h:i+4≤s.length):s.drop i=[rd s (i:Int),rd s ((i:Int)+1),rd s ((i:Int)+2),rd s ((i:Int)+3)]++s.drop (i+4):=by
 rw [drop_cons s i (by omega),drop_cons s (i+1) (by omega),drop_cons s (i+2) (by omega),drop_cons s (i+3) (by omega)]
 rfl
theorem glr_inv (s:List Int) (hs:Bytes s):∀ (d i:Nat) (acc xs:List Int) (e:Int),glr s d (i:Int) acc=(xs,e,true)→∃ ys:List Int,xs=acc++ys∧ys.length=d∧e=(i:Int)+4*(d:Int)∧(s.drop i).take (4*d)=ys.flatMap code∧∀ y∈ys,bnd y=y
 | 0,i,acc,xs,e,h=>by
  unfold glr at h
  cases h
  exact ⟨[],by simp,rfl,by omega,by simp,by intro y hy;cases hy⟩
 | d+1,i,acc,xs,e,h=>by
  unfold glr at h
  by_cases hg:(gn s (i:Int)).2.2=true
  ·rw [if_pos hg] at h
   have hi:¬ ((i:Int) < 0∨(i:Int) > (s.length:Int) - 4):=by
    intro hc
    unfold gn at hg
    rw [if_pos hc] at hg
    cases hg
   have hz:¬ val4 s (i:Int)=0:=by
    intro hc
    unfold gn at hg
    rw [if_neg hi,if_pos hc] at hg
    cases hg
   have hv:gn s (i:Int)=(val4 s (i:Int) - 2147483648,(i:Int)+4,true):=by
    unfold gn
    rw [if_neg hi,if_neg hz]
   rw [hv] at h
   simp only at h
   obtain ⟨ys,h1,h2,h3,h4,h5⟩:=glr_inv s hs d (i+4) _ xs e (by rw [← h];rfl)
   have r0:=hs.rd (i:Int)
   have r1:=hs.rd ((i:Int)+1)
   have r2:=hs.rd ((i:Int)+2)
   have r3:=hs.rd ((i:Int)+3)
   have hb:bnd (val4 s (i:Int) - 2147483648)=val4 s (i:Int) - 2147483648:=by
    unfold val4 at *
    unfold bnd
    rw [if_neg (by omega),if_neg (by omega)]
   have hc:code (val4 s (i:Int) - 2147483648)=[rd s (i:Int),rd s ((i:Int)+1),rd s ((i:Int)+2),rd s ((i:Int)+3)]:=by
    unfold code
    rw [hb,Int.sub_add_cancel]
    unfold val4
    congr 1
    ·omega
    ·congr 1
     ·omega
     ·congr 1
      ·omega
      ·congr 1
       omega
   refine ⟨(val4 s (i:Int) - 2147483648)::ys,?_,by rw [List.length_cons,h2],by omega,?_,?_⟩
   ·rw [h1,List.append_assoc];rfl
   ·rw [drop4 s i (by omega),List.flatMap_cons,hc,show 4*(d+1)=4*d+1+1+1+1 from by omega]
    simp only [List.cons_append,List.nil_append,List.take_succ_cons,h4]
   ·intro y hy
    rcases List.mem_cons.1 hy with rfl|hy
    ·exact hb
    ·exact h5 y hy
  ·rw [if_neg hg] at h
   cases h
theorem inr_iff (a lo hi:Int):inr a lo hi=true↔lo≤a∧a≤hi:=by unfold inr;exact decide_eq_true_iff
theorem bnd_self (n lo hi:Int) (h:inr n lo hi=true) (h1 : -2147483647≤lo) (h2:hi≤2147483647):bnd n=n:=by
 have:=(inr_iff _ _ _).1 h
 unfold bnd
 rw [if_neg (by omega),if_neg (by omega)]
theorem bnd_bit (b:Bool):bnd (bit b)=bit b:=by cases b<;>rfl
theorem bit_eq (b:Bool):(bit b==1)=b:=by cases b<;>rfl
theorem bit_in (b:Bool):inr (bit b) 0 1=true:=by cases b<;>rfl
theorem glr_neg (d:Nat) (b:List Int) (i:Int) (acc:List Int) (h:i < 0):glr b (d+1) i acc=([],0,false):=by
 have:gn b i=(0,0,false):=by unfold gn;rw [if_pos (Or.inl h)]
 unfold glr
 rw [this,if_neg (by decide)]
theorem list13 (l:List Int) (h:l.length=13):l=[rd l 0,rd l 1,rd l 2,rd l 3,rd l 4,rd l 5,rd l 6,rd l 7,rd l 8,rd l 9,rd l 10,rd l 11,rd l 12]:=by
 match l,h with
 | [x0,x1,x2,x3,x4,x5,x6,x7,x8,x9,x10,x11,x12],_=>rfl
theorem bit_of (n:Int) (h:inr n 0 1=true):bit (n==1)=n:=by
 have:=(inr_iff _ _ _).1 h
 have:n=0∨n=1:=by omega
 rcases this with rfl|rfl<;>rfl
theorem gpc_inv (d:List Int) (hB:Bytes d) (i:Int) (y:PieceR) (hy:gpc d i=y):(y.2.2.2.2.2.2.2.2.2.2.2.2.2.2=false∧y=noPiece)∨(y.2.2.2.2.2.2.2.2.2.2.2.2.2.2=true∧pok y.1 y.2.1 y.2.2.1 y.2.2.2.1 y.2.2.2.2.1 y.2.2.2.2.2.1 y.2.2.2.2.2.2.1 y.2.2.2.2.2.2.2.1 y.2.2.2.2.2.2.2.2.1 y.2.2.2.2.2.2.2.2.2.1 y.2.2.2.2.2.2.2.2.2.2.1 y.2.2.2.2.2.2.2.2.2.2.2.1 y.2.2.2.2.2.2.2.2.2.2.2.2.1=true∧0≤i∧i≤y.2.2.2.2.2.2.2.2.2.2.2.2.2.1∧y.2.2.2.2.2.2.2.2.2.2.2.2.2.1≤(d.length:Int)∧pput [] y.1 y.2.1 y.2.2.1 y.2.2.2.1 y.2.2.2.2.1 y.2.2.2.2.2.1 y.2.2.2.2.2.2.1 y.2.2.2.2.2.2.2.1 y.2.2.2.2.2.2.2.2.1 y.2.2.2.2.2.2.2.2.2.1 y.2.2.2.2.2.2.2.2.2.2.1 y.2.2.2.2.2.2.2.2.2.2.2.1 y.2.2.2.2.2.2.2.2.2.2.2.2.1=(d.take y.2.2.2.2.2.2.2.2.2.2.2.2.2.1.toNat).drop i.toNat):=by
 subst hy
 unfold gpc gpn
 by_cases h1:(glr d 13 i []).2.2=true
 ·rw [if_pos h1]
  by_cases h2:inr (rd (glr d 13 i []).1 11) 0 1=true
  ·rw [if_pos h2]
   unfold gpj
   by_cases h3:inr (rd (glr d 13 i []).1 12) 0 1=true
   ·rw [if_neg (by rw [h3];decide)]
    split
    ·rename_i h4
     refine .inr ⟨rfl,h4,?_⟩
     have h0:0≤i:=by
      rcases Int.lt_or_le i 0 with h|h
      ·rw [glr_neg 12 d i [] h] at h1
       cases h1
      ·exact h
     obtain ⟨n,rfl⟩:∃ n:Nat,i=(n:Int):=⟨i.toNat,by omega⟩
     obtain ⟨ys,e1,e2,e3,e4,e5⟩:=glr_inv d hB 13 n [] (glr d 13 (n:Int) []).1 (glr d 13 (n:Int) []).2.1 (by rw [← h1])
     rw [List.nil_append] at e1
     have hlen:=congrArg List.length e4
     rw [flat_length,e2,List.length_take,List.length_drop] at hlen
     have hnums:nums (rd ys 0) (rd ys 1) (rd ys 2) (rd ys 3) (rd ys 4) (rd ys 5) (rd ys 6) (rd ys 7) (rd ys 8) (rd ys 9) (rd ys 10) (rd ys 11==1) (rd ys 12==1)=ys:=by
      rw [e1] at h2 h3
      unfold nums
      rw [bit_of _ h2,bit_of _ h3]
      exact (list13 ys e2).symm
     refine ⟨by omega,by show (n:Int)≤(glr d 13 (n:Int) []).2.1;rw [e3];omega,by show (glr d 13 (n:Int) []).2.1≤(d.length:Int);rw [e3];omega,?_⟩
     show pput [] _ _ _ _ _ _ _ _ _ _ _ _ _=(d.take (glr d 13 (n:Int) []).2.1.toNat).drop (n:Int).toNat
     unfold pput
     rw [if_pos h4,List.nil_append]
     show (nums (rd (glr d 13 (n:Int) []).1 0) (rd (glr d 13 (n:Int) []).1 1) (rd (glr d 13 (n:Int) []).1 2) (rd (glr d 13 (n:Int) []).1 3) (rd (glr d 13 (n:Int) []).1 4) (rd (glr d 13 (n:Int) []).1 5) (rd (glr d 13 (n:Int) []).1 6) (rd (glr d 13 (n:Int) []).1 7) (rd (glr d 13 (n:Int) []).1 8) (rd (glr d 13 (n:Int) []).1 9) (rd (glr d 13 (n:Int) []).1 10) (rd (glr d 13 (n:Int) []).1 11==1) (rd (glr d 13 (n:Int) []).1 12==1)).flatMap code=_
     rw [e1,hnums,←e4,e3,Int.toNat_natCast,show ((n:Int)+4*((13:Nat):Int)).toNat=n+52 by omega,List.drop_take]
     congr 1
     omega
    ·exact .inl ⟨rfl,rfl⟩
   ·rw [if_pos (by simpa using h3)]
    exact .inl ⟨rfl,rfl⟩
  ·rw [if_neg h2]
   exact .inl ⟨rfl,rfl⟩
 ·rw [if_neg h1]
  exact .inl ⟨rfl,rfl⟩
def pOf (y:PieceR):S25:=⟨y.1,y.2.1,y.2.2.1,y.2.2.2.1,y.2.2.2.2.1,y.2.2.2.2.2.1,y.2.2.2.2.2.2.1,y.2.2.2.2.2.2.2.1,y.2.2.2.2.2.2.2.2.1,y.2.2.2.2.2.2.2.2.2.1,y.2.2.2.2.2.2.2.2.2.2.1,y.2.2.2.2.2.2.2.2.2.2.2.1,y.2.2.2.2.2.2.2.2.2.2.2.2.1⟩
theorem glr_flat_r:∀ (l p acc r:List Int),glr (p++(l.flatMap code++r)) l.length (p.length:Int) acc=(acc++l.map bnd,(p.length:Int)+4*(l.length:Int),true)
 | [],p,acc,r=>by simp [glr]
 | x::l,p,acc,r=>by
  have h:=gn_code p x (l.flatMap code++r)
  have ih:=glr_flat_r l (p++code x) (acc++[bnd x]) r
  rw [List.append_assoc] at ih
  rw [List.flatMap_cons,List.length_cons,List.append_assoc]
  unfold glr
  rw [h]
  simp only [if_true]
  rw [show ((p.length:Int)+4)=((p++code x).length:Int) from by rw [List.length_append,code_length];omega,ih]
  simp only [List.map_cons,List.append_assoc,List.cons_append,List.nil_append,List.length_append,code_length]
  congr 2
  omega
theorem pc_of (x:S25) (h:pokS x=true):pc x=(nums x.f0 x.f1 x.f2 x.f3 x.f4 x.f5 x.f6 x.f7 x.f8 x.f9 x.f10 x.f11 x.f12).flatMap code:=by unfold pc;rw [if_pos h]
theorem pc_len (x:S25) (h:pokS x=true):(pc x).length=52:=by rw [pc_of x h,flat_length];rfl
theorem gpc_read (u r:List Int) (x:S25) (h:pokS x=true):gpc (u++(pc x++r)) (u.length:Int)=(x.f0,x.f1,x.f2,x.f3,x.f4,x.f5,x.f6,x.f7,x.f8,x.f9,x.f10,x.f11,x.f12,(u.length:Int)+52,true):=by
 obtain ⟨a0,a1,a2,a3,a4,a5,a6,a7,a8,a9,a10,a11,a12⟩:=x
 have h:pok a0 a1 a2 a3 a4 a5 a6 a7 a8 a9 a10 a11 a12=true:=h
 have hp:pc ⟨a0,a1,a2,a3,a4,a5,a6,a7,a8,a9,a10,a11,a12⟩=(nums a0 a1 a2 a3 a4 a5 a6 a7 a8 a9 a10 a11 a12).flatMap code:=pc_of _ h
 have hg:=h
 unfold pok at hg
 simp only [Bool.and_eq_true] at hg
 obtain ⟨g0,g1,g2,g3,g4,g5,g6,g7,g8,g9,g10,_⟩:=hg
 have hn:(nums a0 a1 a2 a3 a4 a5 a6 a7 a8 a9 a10 a11 a12).length=13:=rfl
 have hm:(nums a0 a1 a2 a3 a4 a5 a6 a7 a8 a9 a10 a11 a12).map bnd=nums a0 a1 a2 a3 a4 a5 a6 a7 a8 a9 a10 a11 a12:=by
  unfold nums
  simp only [List.map_cons,List.map_nil,bnd_self _ _ _ g0 (by decide) (by decide),bnd_self _ _ _ g1 (by decide) (by decide),bnd_self _ _ _ g2 (by decide) (by decide),bnd_self _ _ _ g3 (by decide) (by decide),bnd_self _ _ _ g4 (by decide) (by decide),bnd_self _ _ _ g5 (by decide) (by decide),bnd_self _ _ _ g6 (by decide) (by decide),bnd_self _ _ _ g7 (by decide) (by decide),bnd_self _ _ _ g8 (by decide) (by decide),bnd_self _ _ _ g9 (by decide) (by decide),bnd_self _ _ _ g10 (by decide) (by decide),bnd_bit]
 have hf:=glr_flat_r (nums a0 a1 a2 a3 a4 a5 a6 a7 a8 a9 a10 a11 a12) u [] r
 rw [hm,hn,List.nil_append] at hf
 rw [hp]
 unfold gpc
 rw [hf]
 unfold gpn
 have e11:rd (nums a0 a1 a2 a3 a4 a5 a6 a7 a8 a9 a10 a11 a12) 11=bit a11:=rfl
 have e12:rd (nums a0 a1 a2 a3 a4 a5 a6 a7 a8 a9 a10 a11 a12) 12=bit a12:=rfl
 rw [if_pos rfl]
 show (if inr (rd (nums a0 a1 a2 a3 a4 a5 a6 a7 a8 a9 a10 a11 a12) 11) 0 1=true then gpj (nums a0 a1 a2 a3 a4 a5 a6 a7 a8 a9 a10 a11 a12) ((u.length:Int)+4*((13:Nat):Int)) (!inr (rd (nums a0 a1 a2 a3 a4 a5 a6 a7 a8 a9 a10 a11 a12) 12) 0 1) else noPiece)=_
 rw [e11,e12,bit_in,bit_in,if_pos rfl]
 unfold gpj
 rw [if_neg (by decide),e11,e12,bit_eq,bit_eq]
 rw [if_pos (show pok (rd (nums a0 a1 a2 a3 a4 a5 a6 a7 a8 a9 a10 a11 a12) 0) (rd (nums a0 a1 a2 a3 a4 a5 a6 a7 a8 a9 a10 a11 a12) 1) (rd (nums a0 a1 a2 a3 a4 a5 a6 a7 a8 a9 a10 a11 a12) 2) (rd (nums a0 a1 a2 a3 a4 a5 a6 a7 a8 a9 a10 a11 a12) 3) (rd (nums a0 a1 a2 a3 a4 a5 a6 a7 a8 a9 a10 a11 a12) 4) (rd (nums a0 a1 a2 a3 a4 a5 a6 a7 a8 a9 a10 a11 a12) 5) (rd (nums a0 a1 a2 a3 a4 a5 a6 a7 a8 a9 a10 a11 a12) 6) (rd (nums a0 a1 a2 a3 a4 a5 a6 a7 a8 a9 a10 a11 a12) 7) (rd (nums a0 a1 a2 a3 a4 a5 a6 a7 a8 a9 a10 a11 a12) 8) (rd (nums a0 a1 a2 a3 a4 a5 a6 a7 a8 a9 a10 a11 a12) 9) (rd (nums a0 a1 a2 a3 a4 a5 a6 a7 a8 a9 a10 a11 a12) 10) a11 a12=true from h)]
 rfl
theorem fwd_l0 (cnt:Nat) (hc:cnt≤8) (B:List Int) (hB:Bytes B) (hb:B.length≤1048576):∀ (rest done:List S25) (u tail:List Int) (k:Nat),(∀ x∈rest,pokS x=true)→B=u++(rest.flatMap pc++tail)→done.length+rest.length=cnt→rest.length+60 < k→∃ k',k=k'+rest.length∧impl_GetState.l0 k B (u.length:Int) (cnt:Int) (done.length:Int) done 0 0=impl_GetState.l0 k' B ((u++rest.flatMap pc).length:Int) (cnt:Int) (cnt:Int) (done++rest) 0 0
 | [],done,u,tail,k,hp,hB2,hn,hk=>⟨k,by simp,by
  have:done.length=cnt:=by simpa using hn
  rw [this]
  simp⟩
 | x::rest,done,u,tail,k,hp,hB2,hn,hk=>by
  rw [List.length_cons] at hn hk
  obtain ⟨k,rfl⟩:∃ q,k=q+1:=⟨k - 1,by omega⟩
  have hx:=hp x List.mem_cons_self
  have hg:gpc B (u.length:Int)=(x.f0,x.f1,x.f2,x.f3,x.f4,x.f5,x.f6,x.f7,x.f8,x.f9,x.f10,x.f11,x.f12,(u.length:Int)+52,true):=by
   rw [hB2,List.flatMap_cons,List.append_assoc]
   exact gpc_read u (rest.flatMap pc++tail) x hx
  obtain ⟨k',e1,e2⟩:=fwd_l0 cnt hc B hB hb rest (done++[x]) (u++pc x) tail k (fun y hy=>hp y (List.mem_cons_of_mem _ hy)) (by rw [hB2,List.flatMap_cons,List.append_assoc,List.append_assoc]) (by rw [List.length_append,List.length_singleton];omega) (by omega)
  refine ⟨k',by rw [List.length_cons];omega,?_⟩
  simp only [impl_GetState.l0]
  rw [if_pos (by omega),impl_getpiece k B _ hB (by omega) (by omega),hg]
  simp only [Option.bind_some,if_true]
  rw [if_pos (by omega),wrap_nat _ (by omega)]
  rw [show ((done.length+1:Nat):Int)=(((done++[x]).length:Nat):Int) from by rw [List.length_append,List.length_singleton],show (u.length:Int)+52=(((u++pc x).length:Nat):Int) from by rw [List.length_append,pc_len x hx];omega]
  rw [show (done++[(⟨x.f0,x.f1,x.f2,x.f3,x.f4,x.f5,x.f6,x.f7,x.f8,x.f9,x.f10,x.f11,x.f12⟩:S25)])=done++[x] from rfl,e2]
  simp only [List.flatMap_cons,List.append_assoc,List.cons_append,List.nil_append]
def tri (x:S71):List Int:=[x.f0,x.f1,bit x.f2]
theorem tri_len:∀ l:List S71,(l.flatMap tri).length=3*l.length
 | []=>rfl
 | x::l=>by rw [List.flatMap_cons,List.length_append,tri_len l,List.length_cons];show 3+_=_;omega
theorem tri_code:∀ l:List S71,(l.flatMap tri).flatMap code=l.flatMap sc
 | []=>rfl
 | x::l=>by
  rw [List.flatMap_cons,List.flatMap_append,tri_code l,List.flatMap_cons]
  congr 1
theorem side_eta (x:S71):(⟨x.f0,x.f1,(bit x.f2==1)⟩:S71)=x:=by rw [bit_eq]
theorem rd_off (p s:List Int) (n j:Nat) (hp:p.length=3*n):rd (p++s) (3*(n:Int)+(j:Int))=rd s (j:Int):=by
 have:=rd_right p s j
 rw [hp] at this
 rw [← this,show ((3*n:Nat):Int)=3*(n:Int) from by omega]
theorem rd_off0 (p s:List Int) (n:Nat) (hp:p.length=3*n):rd (p++s) (3*(n:Int))=rd s 0:=by
 have:=rd_off p s n 0 hp
 simpa using this
theorem fwd_l1 (ps:List S25) (ss:List S71) (a c:Int) (h:stOk ps ss a c=true) (hs:ss.length≤3) (L:List Int) (hL:L=ss.flatMap tri++[a,c]):∀ (rest done:List S71) (k:Nat),ss=done++rest→rest.length < k→impl_GetState.l1 k (ss.length:Int) L (ss.length:Int) (done.length:Int) ps done 0 0=some (ps,ss,a,c,true)
 | [],done,k,hd,hk=>by
  obtain ⟨k,rfl⟩:∃ q,k=q+1:=⟨k - 1,by omega⟩
  rw [List.append_nil] at hd
  subst hd
  have hl:L.length=3*ss.length+2:=by rw [hL,List.length_append,tri_len];rfl
  have r0:rd L (3*(ss.length:Int))=a:=by rw [hL];exact rd_off0 _ _ _ (tri_len ss)
  have r1:rd L (3*(ss.length:Int)+1)=c:=by rw [hL];exact rd_off _ _ _ 1 (tri_len ss)
  have hnm:¬ ((ss.length:Int) < (ss.length:Int)):=by omega
  simp only [impl_GetState.l1]
  rw [if_neg hnm,w3 _ (by omega),w3a _ 1 (by omega) (by omega) (by omega)]
  simp (disch:=omega) only [if_pos,impl_StateOk.f,Option.bind_some]
  rw [r0,r1,if_pos h]
 | x::rest,done,k,hd,hk=>by
  rw [List.length_cons] at hk
  obtain ⟨k,rfl⟩:∃ q,k=q+1:=⟨k - 1,by omega⟩
  have hsl:ss.length=done.length+(rest.length+1):=by rw [hd,List.length_append,List.length_cons]
  have hl:L.length=3*ss.length+2:=by rw [hL,List.length_append,tri_len];rfl
  have hL2:L=done.flatMap tri++(tri x++(rest.flatMap tri++[a,c])):=by rw [hL,hd,List.flatMap_append,List.flatMap_cons,List.append_assoc,List.append_assoc]
  have r0:rd L (3*(done.length:Int))=x.f0:=by rw [hL2];exact rd_off0 _ _ _ (tri_len done)
  have r1:rd L (3*(done.length:Int)+1)=x.f1:=by rw [hL2];exact rd_off _ _ _ 1 (tri_len done)
  have r2:rd L (3*(done.length:Int)+2)=bit x.f2:=by rw [hL2];exact rd_off _ _ _ 2 (tri_len done)
  obtain ⟨yy,ey,ly,y0,y1,y2⟩:=cut3 L done.length (by omega)
  have hnm:(done.length:Int) < (ss.length:Int):=by omega
  have ih:=fwd_l1 ps ss a c h hs L hL rest (done++[x]) k (by rw [hd,List.append_assoc];rfl) (by omega)
  simp only [impl_GetState.l1]
  rw [if_pos hnm,w3 _ (by omega),w3a _ 3 (by omega) (by omega) (by omega),wrap_nat _ (by omega)]
  rw [ey]
  simp (disch:=omega) only [if_pos,Option.bind_some,impl_from_in]
  rw [y0,y1,y2,r0,r1,r2,bit_in,if_pos rfl,side_eta]
  rw [List.length_append,List.length_singleton] at ih
  exact ih
theorem goodFrom_pok (ps:List S25) (ns c:Int):∀ (l:List S25) (i:Nat),goodFrom ps ns c i l=true→∀ x∈l,pokS x=true
 | [],_,_,x,hx=>absurd hx (List.not_mem_nil)
 | y::l,i,h,x,hx=>by
  have h':(goodAt ps ns c i y&&goodFrom ps ns c (i+1) l)=true:=h
  rw [Bool.and_eq_true] at h'
  rcases List.mem_cons.1 hx with rfl|hx
  ·have:=h'.1
   unfold goodAt at this
   rw [Bool.and_eq_true] at this
   exact this.1
  ·exact goodFrom_pok ps ns c l (i+1) h'.2 x hx
theorem map_bnd_tri:∀ l:List S71,(∀ x∈l,sideOk x=true)→(l.flatMap tri).map bnd=l.flatMap tri
 | [],_=>rfl
 | x::l,h=>by
  have hx:=h x List.mem_cons_self
  unfold sideOk at hx
  rw [Bool.and_eq_true] at hx
  rw [List.flatMap_cons,List.map_append,map_bnd_tri l (fun y hy=>h y (List.mem_cons_of_mem _ hy))]
  congr 1
  unfold tri
  simp only [List.map_cons,List.map_nil,bnd_self _ _ _ hx.1 (by decide) (by decide),bnd_self _ _ _ hx.2 (by decide) (by decide),bnd_bit]
theorem get_put (k:Nat) (ps:List S25) (ss:List S71) (a c:Int) (h:stOk ps ss a c=true) (hB:Bytes (stCode ps ss a c)) (hb:(stCode ps ss a c).length≤1048576) (hk:200≤k):impl_GetState.f k (stCode ps ss a c)=some (ps,ss,a,c,true):=by
 have hst:=h
 obtain ⟨l1,l2,l3⟩:=good_len h
 unfold stOk at hst
 simp only [Bool.and_eq_true] at hst
 obtain ⟨-,-,ha,hc,hg,hs⟩:=hst
 have hs':∀ x∈ss,sideOk x=true:=by simpa using hs
 have hp:=goodFrom_pok ps _ _ ps 0 hg
 have bn:bnd (ps.length:Int)=(ps.length:Int):=by unfold bnd;rw [if_neg (by omega),if_neg (by omega)]
 have bm:bnd (ss.length:Int)=(ss.length:Int):=by unfold bnd;rw [if_neg (by omega),if_neg (by omega)]
 have ba:bnd a=a:=bnd_self a 0 3 ((inr_iff _ _ _).2 (by have:=(inr_iff _ _ _).1 ha;omega)) (by decide) (by decide)
 have bc:bnd c=c:=bnd_self c 0 9999 hc (by decide) (by decide)
 generalize hT:stCode ps ss a c=B at hB hb
 have e0:gn B 0=((ps.length:Int),4,true):=by
  rw [← hT]
  have:=gn_code [] (ps.length:Int) (ps.flatMap pc++(code (ss.length:Int)++(ss.flatMap sc++(code a++code c))))
  rw [bn] at this
  exact this
 have e1:B=(code (ps.length:Int))++(ps.flatMap pc++(code (ss.length:Int)++(ss.flatMap sc++(code a++code c)))):=hT.symm
 obtain ⟨u,hu⟩:∃ u,u=code (ps.length:Int)++ps.flatMap pc:=⟨_,rfl⟩
 have e2:B=u++(code (ss.length:Int)++(ss.flatMap sc++(code a++code c))):=by rw [e1,hu,List.append_assoc]
 have e3:gn B (u.length:Int)=((ss.length:Int),(u.length:Int)+4,true):=by
  rw [e2]
  have:=gn_code u (ss.length:Int) (ss.flatMap sc++(code a++code c))
  rw [bm] at this
  exact this
 obtain ⟨L,hL⟩:∃ L,L=ss.flatMap tri++[a,c]:=⟨_,rfl⟩
 have lL:L.length=3*ss.length+2:=by rw [hL,List.length_append,tri_len];rfl
 have e4:B=(u++code (ss.length:Int))++(L.flatMap code++[]):=by
  rw [e2,hL,List.flatMap_append,tri_code]
  simp
 have mL:L.map bnd=L:=by
  rw [hL,List.map_append,map_bnd_tri ss hs']
  simp only [List.map_cons,List.map_nil,ba,bc]
 have e5:glr B (3*ss.length+2) ((u.length:Int)+4) []=(L,(B.length:Int),true):=by
  have:=glr_flat_r L (u++code (ss.length:Int)) [] []
  rw [← e4,mL,lL,List.nil_append,show (((u++code (ss.length:Int)).length:Nat):Int)=(u.length:Int)+4 from by rw [List.length_append,code_length];omega] at this
  rw [this]
  congr 2
  have hlen:=congrArg List.length e4
  rw [List.append_nil,List.length_append,List.length_append,code_length,flat_length,lL] at hlen
  omega
 unfold impl_GetState.f
 rw [impl_getnum k B 0 hB (by omega) (by omega),e0]
 simp only [Option.bind_some,if_true,impl_from_in]
 rw [show inr (ps.length:Int) 0 8=true from (inr_iff _ _ _).2 (by omega)]
 obtain ⟨k,rfl⟩:∃ q,k=q+1:=⟨k - 1,by omega⟩
 simp only [impl_GetState.j0,Bool.not_true,Bool.false_eq_true,if_false]
 obtain ⟨k',f1,f2⟩:=fwd_l0 ps.length (by omega) B hB hb ps [] (code (ps.length:Int)) _ k hp e1 (by simp) (by omega)
 have f2':impl_GetState.l0 k B 4 (ps.length:Int) 0 [] 0 0=impl_GetState.l0 k' B (u.length:Int) (ps.length:Int) (ps.length:Int) ps 0 0:=by
  rw [hu]
  exact f2
 rw [f2']
 obtain ⟨k',rfl⟩:∃ q,k'=q+1:=⟨k' - 1,by omega⟩
 simp only [impl_GetState.l0]
 rw [if_neg (show ¬ ((ps.length:Int) < (ps.length:Int)) by omega),impl_getnum k' B _ hB (by omega) (by omega),e3]
 simp only [Option.bind_some,if_true,impl_from_in]
 rw [show inr (ss.length:Int) 2 3=true from (inr_iff _ _ _).2 (by omega)]
 obtain ⟨k',rfl⟩:∃ q,k'=q+1:=⟨k' - 1,by omega⟩
 simp only [impl_GetState.j2,Bool.not_true,Bool.false_eq_true,if_false]
 rw [w3 _ (by omega),w3a _ 2 (by omega) (by omega) (by omega)]
 have g2:impl_getNums.f k' B ((u.length:Int)+4) (3*(ss.length:Int)+2)=some (glr B (3*ss.length+2) ((u.length:Int)+4) []):=impl_numsN_l0 B (3*ss.length+2) hB (by omega) (by omega) (3*ss.length+2) k' 0 _ [] (by omega) (by omega) rfl
 rw [g2,e5]
 simp only [Option.bind_some,if_true]
 obtain ⟨k',rfl⟩:∃ q,k'=q+1:=⟨k' - 1,by omega⟩
 simp only [impl_GetState.j3]
 rw [if_neg (by simp)]
 exact fwd_l1 ps ss a c h (by omega) L hL ss [] k' rfl (by omega)
theorem take_one (l:List Int) (j:Nat) (h:j < l.length):l.take (j+1)=l.take j++[rd l (j:Int)]:=by
 rw [List.take_add_one,rd_nat l j h]
 rfl
theorem take3 (l:List Int) (n:Nat) (h:3*n+3≤l.length):l.take (3*(n+1))=l.take (3*n)++[rd l (3*(n:Int)),rd l (3*(n:Int)+1),rd l (3*(n:Int)+2)]:=by
 rw [show 3*(n+1)=3*n+1+1+1 from by omega,take_one l (3*n+1+1) (by omega),take_one l (3*n+1) (by omega),take_one l (3*n) (by omega),List.append_assoc,List.append_assoc]
 congr 2
theorem take2 (l:List Int) (n:Nat) (h:l.length=3*n+2):l=l.take (3*n)++[rd l (3*(n:Int)),rd l (3*(n:Int)+1)]:=by
 have e:l.take (3*n+1+1)=l:=List.take_of_length_le (by omega)
 rw [take_one l (3*n+1) (by omega),take_one l (3*n) (by omega),List.append_assoc] at e
 exact e.symm
theorem back_l1 (ps:List S25) (l:List Int) (m:Nat) (hm:m≤3) (hl:l.length=3*m+2) (ps':List S25) (ss':List S71) (a c:Int):∀ (d k n:Nat) (ss:List S71),n+d=m→ss.length=n→l.take (3*n)=ss.flatMap tri→impl_GetState.l1 k (m:Int) l (m:Int) (n:Int) ps ss 0 0=some (ps',ss',a,c,true)→ps'=ps∧l=ss'.flatMap tri++[a,c]∧ss'.length=m∧stOk ps' ss' a c=true
 | d,0,n,ss,hn,hs,ht,h=>by simp [impl_GetState.l1] at h
 | 0,k+1,n,ss,hn,hs,ht,h=>by
  have hnm:¬ ((n:Int) < (m:Int)):=by omega
  simp only [impl_GetState.l1] at h
  rw [if_neg hnm,w3 m (by omega),w3a m 1 (by omega) (by omega) (by omega)] at h
  simp (disch:=omega) only [if_pos,impl_StateOk.f,Option.bind_some] at h
  by_cases hst:stOk ps ss (rd l (3*(m:Int))) (rd l (3*(m:Int)+1))=true
  ·rw [if_pos hst] at h
   simp only [Option.some.injEq,Prod.mk.injEq,and_true] at h
   obtain ⟨rfl,rfl,rfl,rfl⟩:=h
   refine ⟨rfl,?_,by omega,hst⟩
   have e:=take2 l m hl
   have hn':n=m:=by omega
   rw [hn'] at ht
   rw [ht] at e
   exact e
  ·rw [if_neg hst] at h
   simp at h
 | d+1,k+1,n,ss,hn,hs,ht,h=>by
  have hnm:(n:Int) < (m:Int):=by omega
  obtain ⟨yy,ey,ly,y0,y1,y2⟩:=cut3 l n (by omega)
  simp only [impl_GetState.l1] at h
  rw [if_pos hnm,w3 n (by omega),w3a n 3 (by omega) (by omega) (by omega),wrap_nat n (by omega)] at h
  rw [ey] at h
  simp (disch:=omega) only [if_pos,Option.bind_some,impl_from_in] at h
  rw [y0,y1,y2] at h
  by_cases hb:inr (rd l (3*(n:Int)+2)) 0 1=true
  ·rw [if_pos hb] at h
   refine back_l1 ps l m hm hl ps' ss' a c d k (n+1) _ (by omega) (by rw [List.length_append,List.length_singleton];omega) ?_ h
   rw [take3 l n (by omega),ht,List.flatMap_append]
   congr 1
   show _=[rd l (3*(n:Int)),rd l (3*(n:Int)+1),bit (rd l (3*(n:Int)+2)==1)]++[]
   rw [bit_of _ hb]
   rfl
  ·rw [if_neg hb] at h
   simp at h
theorem gn_inv (b:List Int) (hB:Bytes b) (j:Nat) (h:(gn b (j:Int)).2.2=true):(gn b (j:Int)).2.1=(j:Int)+4∧(b.drop j).take 4=code (gn b (j:Int)).1∧j+4≤b.length:=by
 have e:glr b 1 (j:Int) []=([(gn b (j:Int)).1],(gn b (j:Int)).2.1,true):=by
  unfold glr
  rw [if_pos h]
  rfl
 obtain ⟨ys,e1,e2,e3,e4,e5⟩:=glr_inv b hB 1 j [] _ _ e
 rw [List.nil_append] at e1
 rw [← e1] at e4
 refine ⟨e3,?_,?_⟩
 ·rw [show 4=4*1 from rfl,e4]
  simp
 ·have hlen:=congrArg List.length e4
  rw [flat_length,List.length_take,List.length_drop] at hlen
  simp at hlen
  omega
theorem back_l0 (b:List Int) (hB:Bytes b) (hb:b.length≤1048576) (cnt:Nat) (hc:cnt≤8) (ps':List S25) (ss':List S71) (a c:Int):∀ (d k n j:Nat) (ps:List S25),n+d=cnt→ps.length=n→j≤b.length→d+60 < k→b.take j=code (cnt:Int)++ps.flatMap pc→impl_GetState.l0 k b (j:Int) (cnt:Int) (n:Int) ps 0 0=some (ps',ss',a,c,true)→b=stCode ps' ss' a c∧stOk ps' ss' a c=true
 | 0,k,n,j,ps,hn,hs,hj,hk,ht,h=>by
  obtain ⟨k,rfl⟩:∃ q,k=q+1:=⟨k - 1,by omega⟩
  have hnm:¬ ((n:Int) < (cnt:Int)):=by omega
  simp only [impl_GetState.l0] at h
  rw [if_neg hnm,impl_getnum k b _ hB (by omega) (by omega)] at h
  simp only [Option.bind_some,impl_from_in] at h
  have bad:∀ (x y:Int),impl_GetState.j2 k b x y true ps 0 0=some (ps',ss',a,c,true)→False:=by
   intro x y hh
   obtain ⟨k,rfl⟩:∃ q,k=q+1:=⟨k - 1,by omega⟩
   simp [impl_GetState.j2] at hh
  by_cases hg:(gn b (j:Int)).2.2=true
  ·rw [if_pos hg] at h
   obtain ⟨g1,g2,g3⟩:=gn_inv b hB j hg
   by_cases hr:inr (gn b (j:Int)).1 2 3=true
   ·rw [hr,g1] at h
    have hr2:=(inr_iff _ _ _).1 hr
    obtain ⟨m,hm⟩:∃ m:Nat,(gn b (j:Int)).1=(m:Int):=⟨(gn b (j:Int)).1.toNat,by omega⟩
    rw [hm] at h g2 hr2
    obtain ⟨k,rfl⟩:∃ q,k=q+1:=⟨k - 1,by omega⟩
    simp only [impl_GetState.j2,Bool.not_true,Bool.false_eq_true,if_false] at h
    rw [w3 m (by omega),w3a m 2 (by omega) (by omega) (by omega)] at h
    have q2:impl_getNums.f k b ((j:Int)+4) (3*(m:Int)+2)=some (glr b (3*m+2) ((j:Int)+4) []):=impl_numsN_l0 b (3*m+2) hB (by omega) (by omega) (3*m+2) k 0 _ [] (by omega) (by omega) rfl
    rw [q2] at h
    simp only [Option.bind_some] at h
    obtain ⟨k,rfl⟩:∃ q,k=q+1:=⟨k - 1,by omega⟩
    simp only [impl_GetState.j3] at h
    by_cases hq:(glr b (3*m+2) ((j:Int)+4) []).2.2=true
    ·rw [if_pos hq] at h
     by_cases he:(glr b (3*m+2) ((j:Int)+4) []).2.1=(b.length:Int)
     ·rw [if_neg (by simp [he])] at h
      obtain ⟨ys,e1,e2,e3,e4,e5⟩:=glr_inv b hB (3*m+2) (j+4) [] (glr b (3*m+2) ((j:Int)+4) []).1 (glr b (3*m+2) ((j:Int)+4) []).2.1 (by rw [show ((j+4:Nat):Int)=(j:Int)+4 from by omega,←hq])
      rw [List.nil_append] at e1
      rw [e1] at h
      obtain ⟨r1,r2,r3,r4⟩:=back_l1 ps ys m (by omega) (by omega) ps' ss' a c m k 0 [] (by omega) rfl rfl h
      refine ⟨?_,r4⟩
      have d1:b.drop (j+4)=ys.flatMap code:=by
       rw [← e4]
       exact (List.take_of_length_le (by rw [List.length_drop];omega)).symm
      have d2:b.drop j=code (m:Int)++b.drop (j+4):=by
       have:=List.take_append_drop 4 (b.drop j)
       rw [g2,List.drop_drop] at this
       exact this.symm
      have d3:b=b.take j++b.drop j:=(List.take_append_drop j b).symm
      have hlen:(ps.length:Int)=(cnt:Int):=by omega
      rw [d3,d2,d1,ht,r2,r1]
      unfold stCode
      rw [List.flatMap_append,tri_code,hlen,r3]
      simp
     ·rw [if_pos (by simpa using he)] at h
      simp at h
    ·rw [if_neg hq] at h
     simp at h
   ·rw [show inr (gn b (j:Int)).1 2 3=false from by simpa using hr] at h
    exact (bad _ _ h).elim
  ·rw [if_neg hg] at h
   exact (bad _ _ h).elim
 | d+1,k,n,j,ps,hn,hs,hj,hk,ht,h=>by
  obtain ⟨k,rfl⟩:∃ q,k=q+1:=⟨k - 1,by omega⟩
  have hnm:(n:Int) < (cnt:Int):=by omega
  simp only [impl_GetState.l0] at h
  rw [if_pos hnm,impl_getpiece k b _ hB (by omega) (by omega),wrap_nat n (by omega)] at h
  simp only [Option.bind_some] at h
  obtain ⟨y,hy⟩:∃ y,gpc b (j:Int)=y:=⟨_,rfl⟩
  rw [hy] at h
  rcases gpc_inv b hB (j:Int) y hy with ⟨h1,-⟩|⟨h1,h2,h3,h4,h5,h6⟩
  ·rw [h1] at h
   simp at h
  ·rw [if_pos h1,if_pos (by omega)] at h
   obtain ⟨j',hj'⟩:∃ j':Nat,y.2.2.2.2.2.2.2.2.2.2.2.2.2.1=(j':Int):=⟨y.2.2.2.2.2.2.2.2.2.2.2.2.2.1.toNat,by omega⟩
   rw [hj'] at h h4 h5 h6
   refine back_l0 b hB hb cnt hc ps' ss' a c d k (n+1) j' _ (by omega) (by rw [List.length_append,List.length_singleton];omega) (by omega) (by omega) ?_ h
   have t1:b.take j'=b.take j++(b.take j').drop j:=by
    have:=List.take_append_drop j (b.take j')
    rw [List.take_take,Nat.min_eq_left (by omega)] at this
    exact this.symm
   have hpp:=pput_pc [] (pOf y)
   have h6':[]++pc (pOf y)=(b.take j').drop j:=by
    rw [← hpp]
    have:=h6
    rw [Int.toNat_natCast,Int.toNat_natCast] at this
    exact this
   rw [t1,ht,←h6',List.flatMap_append,List.append_assoc]
   congr 2
   show _=pc (pOf y)++[]
   simp
theorem get_inv (k:Nat) (b:List Int) (hB:Bytes b) (hb:b.length≤1048576) (hk:200≤k) (ps':List S25) (ss':List S71) (a c:Int) (h:impl_GetState.f k b=some (ps',ss',a,c,true)):b=stCode ps' ss' a c∧stOk ps' ss' a c=true:=by
 unfold impl_GetState.f at h
 rw [impl_getnum k b 0 hB (by omega) (by omega)] at h
 simp only [Option.bind_some,impl_from_in] at h
 obtain ⟨k,rfl⟩:∃ q,k=q+1:=⟨k - 1,by omega⟩
 simp only [impl_GetState.j0] at h
 by_cases hg:(gn b 0).2.2=true
 ·rw [if_pos hg] at h
  obtain ⟨g1,g2,g3⟩:=gn_inv b hB 0 hg
  have g1:(gn b 0).2.1=((4:Nat):Int):=g1
  by_cases hr:inr (gn b 0).1 0 8=true
  ·rw [hr,if_neg (by simp),g1] at h
   have hr2:=(inr_iff _ _ _).1 hr
   have g2:(b.drop 0).take 4=code (gn b 0).1:=g2
   obtain ⟨m,hm⟩:∃ m:Nat,(gn b 0).1=(m:Int):=⟨(gn b 0).1.toNat,by omega⟩
   rw [hm] at h g2 hr2
   exact back_l0 b hB hb m (by omega) ps' ss' a c m k 0 4 [] (by omega) rfl (by omega) (by omega) (by rw [List.drop_zero] at g2;rw [g2];simp) h
  ·rw [show inr (gn b 0).1 0 8=false from by simpa using hr] at h
   simp at h
 ·rw [if_neg hg] at h
  simp at h
end Go.Proofs.Ytfkidiagmekleaa.QAll
