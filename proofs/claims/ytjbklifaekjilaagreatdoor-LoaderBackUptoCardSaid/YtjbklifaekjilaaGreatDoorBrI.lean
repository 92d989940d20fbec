/- Texts of this proof, what it rests on, merged: part I. -/
import Derived.Lib.MapLaws
import Derived.Test.YtjbklifaekjilaaGreatDoorBrH
noncomputable section
namespace Go.Am
open Go Go.Proofs Go.RowKit
open Tryz
set_option maxRecDepth 100000
set_option linter.unusedVariables false
set_option linter.unusedSimpArgs false
set_option maxHeartbeats 2000000
theorem Abn{P:Program}{f:FuncId}{args:List D}{b:Bool}{vs:Array Value}{w:World}(Hw:Enters P f)(hc:BZ P f args [] λ h r=>h=[]/\r= .p (.bool b))(hd:∀F M,IW F w M (sg []) args vs.toList):
   Calls P f vs w λ e w'=>e= .returned (.bool b)/\Below w.heap.size w w':=by
 have Zo:=hc vs w (λ _=>False) (λ _=>⟨0,0,[]⟩) ⟨λ id o h=>by simp[get] at h,λ id o Ou o' b h=>by simp[get] at h⟩ (λ _ h=>h.elim) (λ id h=>(h rfl).elim) (hd _ _);have Lg:=Zo.resolve_right (λ ⟨v,w',h1,_⟩=>by rw[Hw] at h1;cases h1);refine Lg.2.mono ?_;rintro e w' ⟨v,h',r,F',M',rfl,⟨rfl,rfl⟩,_,hd,hk⟩;obtain rfl:v= .bool b:=by cases hd with | p hd=>cases hd;rfl
 exact ⟨rfl,hk.os,hk.tape,hk.output,hk.size,λ k h=>hk.LR k h (by rintro ⟨id,o,h1,_⟩;simp[get] at h1)⟩
theorem repeatL_one(c:UInt8)(n:Nat):Lib.repeatL [c] n=List.replicate n c:=by
 induction n with
 | zero=>rfl
 | succ n ih=>simp[Lib.repeatL,ih,List.replicate_succ]
theorem VD(c:UInt8)(n:Nat)(hn:n<=100000000):BZ prog 96 [.p (.str [c]),.p (.int .i64 (n:Nat))] [] λ h r=>h=[]/\r= .p (.str (List.replicate n c)):=by
 refine Ls Alm λ vs w F M _ _ hd=>?_;obtain ⟨a,b,rfl,ha,hb⟩:=XN hd;rw[Ab6 ha,Av8 hb];refine (Tryz.strings_Repeat ⟨#[c]⟩ n w (by omega) (by show 1*n<=_;omega)).mono ?_;rintro e w' ⟨rfl,hb⟩;have e1:=repeatL_one c n;refine ⟨_,rfl,?_,hb⟩;have:=PR.str (F:=λ _=>False) (w:=w') (List.replicate n c);rw[<-e1] at this;exact e1 ▸ this
def Ahw(c:Int):Bool:=if 126<c then true else !HF (IntKind.u8.wrap c)
theorem Aro(c:Int):BZ prog 131 [.p (.int .i32 c)] [] λ h r=>h=[]/\r= .p (.bool (Ahw c)):=by
 refine B1 func131 rfl Rj (by simp[Tryz.f131]) ?_;by_cases h1:126<c
 . simp only[go_sem,h1];simp[Ahw,h1]
 . simp only[go_sem,h1];refine Cq (JU _) ?_;simp only[go_sem];simp[Ahw,h1]
def Abh(x:Nat):Bool:=Ahw (x:Int)
theorem Ahx(b:UInt8)(h:b.toNat<128):Abh b.toNat=!HF b.toNat:=by
 unfold Abh Ahw;have hw:IntKind.u8.wrap (b.toNat:Int)=(b.toNat:Int):=by rw[IntKind.wrap_u8];omega
 rw[hw];split
 . have:¬((b.toNat:Int)<=126):=by omega
   simp[HF,this]
 . rfl
theorem Ao9(x:Nat)(h:128<=x):Abh x=true:=by
 unfold Abh Ahw;rw[if_pos (by omega)]
theorem Al9(l:List UInt8)(i:Nat):(⟨l.toArray⟩:ByteArray).get! i=l.getD i 0:=by
 show l.toArray[i]! =l.getD i 0
 simp[List.getD];rfl
theorem V0(l:List UInt8):∀(f pos:Nat),l.length<=pos+f->(Lib.idxFuncFrom Abh true ⟨l.toArray⟩ f pos<0↔(l.drop pos).all (λ b=>HF b.toNat)=true)
 | 0,pos,h=>by
   rw[BG (by omega)];simp[Lib.idxFuncFrom]
 | f+1,pos,h=>by
   have Em:(⟨l.toArray⟩:ByteArray).size=l.length:=by simp[ByteArray.size]
   unfold Lib.idxFuncFrom;rw[Em];by_cases hp:pos<l.length
   . rw[if_pos hp,DO l pos 0 hp];have hd:=Lib.decode_at ⟨l.toArray⟩ pos;rw[Al9] at hd;generalize hb:l.getD pos 0=b at*;simp only[List.all_cons];by_cases h8:b.toNat<128
     . have Jt:Utf8.decode ⟨l.toArray⟩ pos=(b.toNat,1):=by
         rw[hd];unfold Lib.decodeN;rw[if_pos h8]
       rw[Jt];simp only[Ahx b h8];cases ha:HF b.toNat
       . simp
       . have:=V0 l f (pos+1) (by omega)
         simpa using this
     . have Jt:128<=(Utf8.decode ⟨l.toArray⟩ pos).1:=by
         rw[hd];rcases Lib.decodeN_shape ((⟨l.toArray⟩:ByteArray).size - pos) b.toNat ((⟨l.toArray⟩:ByteArray).get! (pos+1)).toNat ((⟨l.toArray⟩:ByteArray).get! (pos+2)).toNat ((⟨l.toArray⟩:ByteArray).get! (pos+3)).toNat with h1 | h1 | h1 | h1 | h1
         . omega
         . rw[h1.2.2.2.2];exact h1.2.2.2.1
         . rw[h1.2.2.2.2.2.2];have:=h1.2.2.2.2.1;simp only;omega
         . rw[h1.2.2.2.2.2.2.2];have:=h1.2.2.2.2.2.1;simp only;omega
         . rw[h1];decide
       rw[Ao9 _ Jt,if_pos rfl];have ha:HF b.toNat=false:=by
         have:¬((b.toNat:Int)<=126):=by omega
         simp[HF,this]
       rw[ha];simp
   . rw[if_neg hp,BG (by omega)];simp
def Acg(l:List UInt8):Int:=Lib.idxFunc Abh true ⟨l.toArray⟩
theorem Akj(l:List UInt8):Acg l<0↔l.all (λ b=>HF b.toNat)=true:=by
 have:=V0 l l.length 0 (by omega);have Em:(⟨l.toArray⟩:ByteArray).size=l.length:=by simp[ByteArray.size]
 unfold Acg Lib.idxFunc;rw[Em]
 simpa using this
theorem Aer(l:List UInt8):BZ prog 130 [.p (.str l),.fn 131 []] [] λ h r=>h=[]/\r= .p (.int .i64 (Acg l)):=by
 refine Ls Ag9 λ vs w F M _ _ hd=>?_;obtain ⟨a,b,rfl,ha,hb⟩:=XN hd;rw[Ab6 ha];obtain rfl:b= .func (.func 131) #[] #[]:=by
   cases hb with
   | fn f cap vs hl h=>
     obtain rfl:vs=#[]:=Array.eq_empty_of_size_eq_zero (by simpa using hl);rfl
 refine (Tryz.strings_IndexFunc_grows 131 #[] Rj Abh ⟨l.toArray⟩ w λ W x hx hb=>?_).mono ?_
 . refine Abn (args:=[.p (.int .i32 (x:Int))]) Rj (Aro (x:Int)) λ F M=>⟨rfl,λ i d hd=>?_⟩;cases i with
   | zero=>simp only[AK,Al] at hd;subst hd;exact .p (.int _ _)
   | succ i=>simp at hd
 . rintro e w' ⟨rfl,hb⟩;exact ⟨_,rfl,.int _ _,hb⟩
theorem Ae0(s:List UInt8):BZ prog 94 [.p (.str s)] [] λ h r=>h=[]/\r= .p (.bool (G2 s)):=by
 refine B1 func94 rfl Aln (by simp[Tryz.f94]) ?_;by_cases h1:s=[]
 . subst h1;simp only[go_sem];simp[G2]
 . by_cases h2:(s.length:Int)<=12
   . simp only[go_sem,h1,h2];refine Cq (Aer s) ?_;simp only[go_sem];have He:s.length<=12:=by omega
     have:=Akj s;simp only[G2,h1,He,ne_eq,not_false_eq_true,decide_true,Bl];by_cases h3:Acg s<0
     . simp[h3,this.1 h3]
     . have h4:(s.all λ b=>HF b.toNat)=false:=by
         cases h5:s.all λ b=>HF b.toNat
         . rfl
         . exact (h3 (this.2 h5)).elim
       simp[h3,h4]
   . have He:¬s.length<=12:=by omega
     simp only[go_sem,h1,h2];simp[G2,He]
end Go.Am
end
noncomputable section
namespace Go.Am
open Go Go.Proofs
open Tryz
set_option maxRecDepth 100000
set_option linter.unusedVariables false
set_option linter.unusedSimpArgs false
set_option maxHeartbeats 2000000
def Asm(r:List UInt8×Int):D:= .Dg [.p (.str r.1),.p (.int .i64 r.2)]
theorem SR(a b:D):List.take 2 [a,b]=[a,b]:=rfl
def RT(l:List Ln)(i:Nat)(at_:Nat)(txt:List UInt8):St:=
 ⟨[(10,.ptr 10 0),(11,.p (.int .i64 (at_:Nat))),(57,.p (.sl (GA l))),(58,.p (.int .i64 (l.length:Nat))),(59,.p (.int .i64 (i:Nat)))],
   match i with
   | 0=>[(10,.box [.np,.cl []] 142)]
   | _+1=>[(10,.box [.ptr 10 0,.ref 10073 0 txt.length txt.length] 142),(10073,.arr 5 1 (D3 txt))],79⟩
theorem Akd(l:List Ln)(hl:l.length<=4000000/\∀x∈l,x.fs.length<=4000000/\x.num<=9223372036854775807):BZ prog 52 [.p (.sl (GA l))] [] λ h r=>h=[]/\r=Asm (Pw l):=by
 obtain ⟨hl,hz⟩:=hl;refine B1 func52 rfl Ame (by simp[Tryz.f52]) ?_;simp only[go_sem,DB];refine B5 (λ q:Nat×Int×Nat=>⟨[(0,.p (.sl (GA l))),(4,.p (.int .i64 q.2.1)),(5,.p (.int .i64 (q.2.2:Nat))),(14,.p (.sl (GA l))),(15,.p (.int .i64 (l.length:Nat))),(16,.p (.int .i64 (q.1:Nat)))],[],79⟩)
   (λ q=>q.1<=l.length/\0<=q.2.1/\q.2.2<=60000000*q.1/\FA q.2.1 (l.drop q.1)=FA 0 l/\Hn q.2.1 (l.drop q.1)=Hn 0 l/\(FA 0 l=true->q.2.2+Yb (l.drop q.1)=Yb l)) (λ q=>l.length - q.1) (0,0,0)
   ⟨AE _,by simp,by simp,by simp,by simp,by simp⟩ (Wk.forget (by simp[ZF])) ?_
 rintro ⟨i,last,sz⟩ n ⟨hi,V6,Em,hf,hla,Af5⟩ ih;simp only at hi V6 Em hf hla Af5;simp only[go_sem];refine Cx (λ h1=>?_) (λ h1=>?_)
 . have Ct:i<l.length:=by simp at h1;omega
   have Dx:(0:Int)<=(i:Int)/\(i:Int)<(l.length:Int):=by omega
   have hw:=Cg i (by omega);have hg:=Ug l i Ct;have hzx:=hz _ (CK l i ln0 Ct);rw[DO l i ln0 Ct] at hf hla Af5;generalize l.getD i ln0=x at*;obtain ⟨num,fs⟩:=x;simp only at hg hzx;simp only[go_sem,DB,Ab,hg,Dx,SR,B6];have bad:FA last (⟨num,fs⟩::l.drop (i+1))=false->Pw l=([],20):=by
     intro h;rw[hf] at h;simp[Pw,h]
   cases c1:decide (num<=last);rotate_left
   . simp only[go_sem,c1];rw[bad (by have:=Ad c1;simp[FA];omega)];refine BY ?_;simp only[go_sem];rfl
   have Lb:=Ae c1;cases c2:decide ((fs.length:Int)=0);rotate_left
   . simp only[go_sem,c1,c2,B6];rw[bad (by have:=Ad c2;have:fs=[]:=A1 (by omega);simp[FA,this])];refine BY ?_;simp only[go_sem];rfl
   have OW:=Ae c2;have Ay4:fs≠[]:=by rintro rfl;simp at OW
   simp only[go_sem,c1,c2,B6];refine B5 (λ q:Nat×Nat=>⟨[(0,.p (.sl (GA l))),(4,.p (.int .i64 num)),(5,.p (.int .i64 (q.2:Nat))),(14,.p (.sl (GA l))),(15,.p (.int .i64 (l.length:Nat))),(16,.p (.int .i64 (i:Nat))),(33,.p (.sl (CJ fs))),(34,.p (.int .i64 (fs.length:Nat))),(35,.p (.int .i64 (q.1:Nat)))],[],79⟩)
     (λ q=>q.1<=fs.length/\q.2<=sz+13*q.1/\q.2+Qu (fs.drop q.1)=sz+Qu fs/\(fs.drop q.1).all G2=fs.all G2) (λ q=>fs.length - q.1) (0,sz) ⟨AE _,by simp,by simp,by simp⟩ (Wk.forget (by simp[ZF])) ?_
   rintro ⟨j,OV⟩ n2 ⟨hj,Mp,p7,Ke⟩ JP;simp only at hj Mp p7 Ke;simp only[go_sem];refine Cx (λ h2=>?_) (λ h2=>?_)
   . have Yi:j<fs.length:=by simp at h2;omega
     have hj0:(0:Int)<=(j:Int)/\(j:Int)<(fs.length:Int):=by omega
     have p5:=Cg j (by omega);have hgj:=D2 fs j Yi;rw[DO fs j [] Yi] at p7 Ke;generalize fs.getD j []=s at*;simp only[go_sem,B6,Ab,hgj,hj0];refine Cq (Ae0 s) ?_;cases hp:G2 s
     . simp only[go_sem,hp];have:fs.all G2=false:=by rw[<-Ke];simp[hp]
       rw[bad (by simp[FA,this])];refine BY ?_;simp only[go_sem];rfl
     . have hs12:=(I1.1 hp).2.1;simp only[Qu] at p7;simp only[List.all_cons,hp,Bl] at Ke;have RW:IntKind.i64.wrap ((s.length:Int)+1)=((s.length+1:Nat):Int):=Cg _ (by omega);have U8:IntKind.i64.wrap ((OV:Int)+((s.length+1:Nat):Int))=((OV+(s.length+1):Nat):Int):=by rw[B3]<;>omega
       simp only[go_sem,hp,RW,U8,p5];refine JP (j+1,OV+(s.length+1)) _ ⟨Yi,by simp only;omega,by simp only;omega,Ke⟩ (by simp only;omega) (Wk.forget (by simp[ZF]))
   . have hjl:j=fs.length:=by simp at h2;omega
     subst hjl;simp only[BA,Qu,List.all_nil,Bj] at p7 Ke;simp only[go_sem,hw];have hfb:FA last (⟨num,fs⟩::l.drop (i+1))=FA num (l.drop (i+1)):=by
       have:last<num:=by omega
       simp[FA,this,Ay4,<-Ke]
     refine ih (i+1,num,OV) _ ⟨Ct,by simp only;omega,by have:=hzx.1;simp only;omega,by simp only;rw[<-hf,hfb],by simp only;rw[<-hla];rfl,λ h=>?_⟩ (by simp only;omega) (Wk.forget (by simp[ZF]));have:=Af5 h;simp only[Yb] at this;simp only;omega
 . have Aau:i=l.length:=by simp at h1;omega
   subst Aau;simp only[BA,FA,Hn,Yb,Bj] at hf hla Af5;have Mu:=hf.symm;have Aue:=Af5 Mu;clear hf Af5 ih;have Yi:=Aem l Mu;rw[<-hla,<-Aue] at Yi;have RW:IntKind.i64.wrap ((sz:Int) - (l.length:Int))=(sz:Int) - l.length:=by rw[B3]<;>omega
   have PF:(if (6001:Int)<last then 6001 else last)=min last 6001:=by split<;>omega
   have U8:IntKind.i64.wrap (6000 - (if (6001:Int)<last then 6001 else last))=6000 - min last 6001:=by rw[PF,B3]<;>omega
   simp only[go_sem,DB,RW,U8];by_cases Aqu:(6000:Int) - min last 6001<(sz:Int) - (l.length:Int)
   . simp only[go_sem,Aqu];have:=Yi.2 Aqu;rw[show Pw l=([],1) by simp[Pw,Mu,this]];refine BY ?_;simp only[go_sem];rfl
   . have Auh:¬6000<(FP 1 l).length:=λ h=>Aqu (Yi.1 h);have hjv:Pw l=(FP 1 l,0):=by simp[Pw,Mu,Auh]
     rw[hjv];simp only[go_sem,Aqu,DB];refine B5 (λ q:Nat×Nat×List UInt8=>RT l q.1 q.2.1 q.2.2)
       (λ q=>q.1<=l.length/\(1<=q.2.1/\q.2.1<=q.2.2.length+1)/\FA ((q.2.1 - 1:Nat):Int) (l.drop q.1)=true/\q.2.2++FP q.2.1 (l.drop q.1)=FP 1 l/\(q.1=0->q.2.2=[])/\(q.1≠0->q.2.2≠[])) (λ q=>l.length - q.1) (0,1,[])
       ⟨Nat.zero_le _,by simp,by simpa using Mu,by simp,by simp,by simp⟩ (Wk.forget (by simp[ZF,RT])) ?_
     rintro ⟨k,at_,txt⟩ n ⟨hk,II,hfk,htx,Hu,Q5⟩ ih;simp only at hk II hfk htx Hu Q5;by_cases Ct:k<l.length
     . have hki:(k:Int)<(l.length:Int):=by omega
       have Bbt:(0:Int)<=(k:Int):=by omega
       have hw:=Cg k (by omega);have hg:=Ug l k Ct;have hzx:=hz _ (CK l k ln0 Ct);rw[DO l k ln0 Ct] at hfk htx;generalize l.getD k ln0=x at*;obtain ⟨num,fs⟩:=x;obtain ⟨f1,f2,f3,f4⟩:=Jv.1 hfk;simp only at hg hzx f1 f2 f3 f4;obtain ⟨m,rfl⟩:∃m:Nat,num=(m:Int):=⟨num.toNat,by omega⟩;simp only[FP,Ab] at htx;have hlen:=AR List.length htx;simp only[Au,BH,Ar] at hlen;have hwl:=N5 fs f2;have hle:at_<=m:=by clear RW U8 Yi;omega
       have hws:IntKind.i64.wrap ((m:Int) - (at_:Int))=((m - at_:Nat):Int):=by
         have:=hzx.2;clear RW U8 Yi PF;rw[B3]<;>omega
       have hm6:m<=10000:=by clear RW U8 Yi PF;omega
       have hwm:IntKind.i64.wrap ((m:Int)+1)=((m+1:Nat):Int):=by rw[B3]<;>omega
       have SC:((m+1 - 1:Nat):Int)=(m:Int):=by omega
       have I5:List.replicate (m - at_) (10:UInt8)++FG fs++[10]=List.replicate (m - at_) 10++(FG fs++[10]):=by simp
       generalize hs:List.replicate (m - at_) (10:UInt8)++FG fs++[10]=s at*;have Axe:s≠[]:=by rw[<-hs];simp
       have hsl:s.length<=6000:=by rw[<-hs];simp;omega
       have Axf:m+1<=(txt++s).length+1:=by rw[<-hs];simp;omega
       have Zq:(txt++s)++FP (m+1) (l.drop (k+1))=FP 1 l:=by rw[<-htx,<-hs];simp
       cases k with
       | zero=>
         have Aud:=Hu rfl;subst Aud;simp only[RT];have hkz:(0:Int)<(l.length:Int):=by omega
         have Bbs:(0:Int)<=(0:Int):=by omega
         simp only[go_sem,DB,Ab,hkz,Bbs,hg,SR,Int.reduceToNat];refine CH mixed (p:=[(0,0),(1,0),(2,0),(3,0),(5,0),(6,0),(4,2),(7,2),(8,0),(9,0),(10,3)]) (by kernel_rfl) (by simp[C8,get]) ?_;simp only[go_sem,hws];refine Gq ((VD 10 (m - at_) (by omega))) ?_;simp only[go_sem];refine Gq ((Zb fs f2 (by omega) (by omega))) ?_;simp only[go_sem,hs];refine ⟨by unfold maxLen;first | omega | (simp;omega),by unfold maxLen;first | omega | (simp;omega),?_⟩;refine Gq ((X1 s Axe (by omega))) ?_;have Axb:IntKind.i64.wrap 1=1:=rfl;simp only[go_sem,hwm,hw,Axb];refine ih (0+1,m+1,s) _ ⟨Ct,⟨by simp only;omega,by simpa using Axf⟩,by first | (simp only[SC];exact f4) | (rw[SC];exact f4),by simpa using Zq,by simp,λ _=>Axe⟩ (by first | omega | (simp only;omega)) (Wk.forget (by simp[ZF,RT,Axb]))
       | succ k=>
         have Bb9:=Q5 (by omega);simp only[RT];simp only[go_sem,DB,Ab,hki,Bbt,hg,SR];refine CH mixed (p:=[(0,0),(1,0),(2,0),(3,0),(5,0),(6,0),(4,2),(7,2),(8,0),(9,0),(10,3)]) (by kernel_rfl) (by simp[C8,get]) ?_;simp only[go_sem,hws];refine Gq ((VD 10 (m - at_) (by omega))) ?_;simp only[go_sem];refine Gq ((Zb fs f2 (by omega) (by omega))) ?_;simp only[go_sem,hs];refine ⟨by unfold maxLen;first | omega | (simp;omega),by unfold maxLen;first | omega | (simp;omega),?_⟩;refine Gq ((k8 txt s (by have:=AR List.length Zq;simp at this;omega))) ?_;simp only[go_sem,hwm,hw];refine ih (k+1+1,m+1,txt++s) _ ⟨Ct,⟨by simp only;omega,Axf⟩,by simp only[SC];exact f4,Zq,by simp,λ _=>by simp[Bb9]⟩ (by simp only;omega) (Wk.forget (by simp[ZF,RT]))
     . have TR:k=l.length:=by omega
       have hki:¬(k:Int)<(l.length:Int):=by omega
       rw[BG (by omega)] at htx;simp only[FP,List.append_nil] at htx;rw[<-htx];cases k with
       | zero=>
         have Aud:=Hu rfl;subst Aud;simp only[RT];have hkz:¬(0:Int)<(l.length:Int):=by omega
         simp only[go_sem,hkz];refine Cq ((l5 (T:=142) (by decide))) ?_;simp only[go_sem];refine BY ?_;simp only[go_sem];rfl
       | succ k=>
         simp only[RT];simp only[go_sem,hki];refine Cq ((Abe (Q5 (by omega)))) ?_;simp only[go_sem];refine BY ?_;simp only[go_sem];rfl
def HI{σ ε:Type}(f:σ->Option ε):σ⊕ε->Option ε
 | .inl s=>f s
 | .inr e=>some e
theorem B4{σ ε:Type}(f:σ->Option ε)(s:σ):HI f (.inl s)=f s:=rfl
theorem B2{σ ε:Type}(f:σ->Option ε)(e:ε):HI f (.inr e)=some e:=rfl
def G4{σ ε:Type}(step:σ->Option (σ⊕ε)):Nat->σ->Option ε
 | 0,_=>none
 | n+1,s=>(step s).bind (HI (G4 step n))
def Cv{σ ε:Type}(step:σ->Option (σ⊕ε))(s:σ):Option ε:=
 open Classical in if h:∃n e,G4 step n s=some e then some (Classical.choose (Classical.choose_spec h)) else none
theorem Oq{σ ε:Type}{step:σ->Option (σ⊕ε)}:∀{n m:Nat} {s:σ} {e:ε},G4 step n s=some e->n<=m->G4 step m s=some e
 | 0,_,_,_,h,_=>by simp[G4] at h
 | n+1,0,_,_,_,h=>by omega
 | n+1,m+1,s,e,h,hm=>by
   simp only[G4] at h ⊢;cases hs:step s with
   | none=>rw[hs] at h;simp at h
   | some y=>
     rw[hs] at h;cases y with
     | inl s'=>exact Oq (n:=n) (m:=m) (by simpa [HI] using h) (by omega)
     | inr e'=>simpa [HI] using h
theorem Kr{σ ε:Type}{step:σ->Option (σ⊕ε)}{s:σ}{e:ε}:Cv step s=some e↔∃n,G4 step n s=some e:=by
 constructor
 . intro h;unfold Cv at h;split at h
   . rename_i hh;have h1:=Classical.choose_spec (Classical.choose_spec hh);rw[Ac h] at h1;exact ⟨_,h1⟩
   . cases h
 . rintro ⟨n,hn⟩;unfold Cv;have hh:∃n e,G4 step n s=some e:=⟨n,e,hn⟩;rw[dif_pos hh];have h1:=Classical.choose_spec (Classical.choose_spec hh);have a:=Oq h1 (Nat.le_max_left _ n);have b:=Oq hn (Nat.le_max_right (Classical.choose hh) n);rw[a] at b;exact b
theorem CV{σ ε:Type}(step:σ->Option (σ⊕ε))(s:σ):Cv step s=(step s).bind (HI (Cv step)):=by
 apply Option.ext;intro e;rw[Kr];constructor
 . rintro ⟨n,hn⟩;cases n with
   | zero=>simp[G4] at hn
   | succ n=>
     simp only[G4] at hn;cases hs:step s with
     | none=>rw[hs] at hn;simp at hn
     | some y=>
       rw[hs] at hn;cases y with
       | inl s'=>exact Kr.2 ⟨n,by simpa [HI] using hn⟩
       | inr e'=>simpa [HI] using hn
 . intro h;cases hs:step s with
   | none=>rw[hs] at h;simp at h
   | some y=>
     rw[hs] at h;cases y with
     | inl s'=>
       obtain ⟨n,hn⟩:=Kr.1 (show Cv step s'=some e by simpa [HI] using h);exact ⟨n+1,by simpa [G4,hs,HI] using hn⟩
     | inr e'=>exact ⟨1,by simpa [G4,hs,HI] using h⟩
theorem QT{σ ε:Type}{step:σ->Option (σ⊕ε)}(I:σ->Prop)(μ:σ->Nat)(Q:ε->Prop)
   (h:∀s,I s->∃y,step s=some y/\match y with | .inl s'=>I s'/\μ s'<μ s | .inr e=>Q e) (s:σ) (h0:I s):∃e,Cv step s=some e/\Q e:=by
 have key:∀n s,I s->μ s<n->∃e,Cv step s=some e/\Q e:=by
   intro n
   induction n with
   | zero=>intro s _ h;omega
   | succ n ih=>
     intro s hs hm;obtain ⟨y,h1,h2⟩:=h s hs;rw[CV,h1];cases y with
     | inl s'=>exact ih s' h2.1 (by have:=h2.2;omega)
     | inr e=>exact ⟨e,rfl,h2⟩
 exact key _ s h0 (Nat.lt_succ_self _)
theorem I2{σ ε:Type}{step:σ->Option (σ⊕ε)}(n:Nat)(S:Nat->σ)(out:ε)(early:Nat->Option ε)
   (h1:∀i,i<n->(∀j,j<i->early j=none)->step (S i)=some (match early i with | some e=> .inr e | none=> .inl (S (i+1)))) (h2:(∀j,j<n->early j=none)->step (S n)=some (.inr out)):
   Cv step (S 0)=some (((List.range n).findSome? early).getD out):=by
 have key:∀m i,i+m=n->(∀j,j<i->early j=none)->Cv step (S i)=some ((((List.range n).drop i).findSome? early).getD out):=by
   intro m
   induction m with
   | zero=>
     intro i hi hj;obtain rfl:i=n:=by omega
     rw[CV,h2 hj,BG (by simp)];rfl
   | succ m ih=>
     intro i hi hj;rw[CV,h1 i (by omega) hj];have hd:(List.range n).drop i=i::(List.range n).drop (i+1):=by
       rw[AX (by simp;omega)];simp
     rw[hd,List.findSome?_cons];cases he:early i with
     | some e=>simp[HI]
     | none=>
       simp only[Aa,HI];exact ih (i+1) (by omega) (λ j hj2=>by
         by_cases e:j=i
         . rw[e];exact he
         . exact hj j (by omega))
 have:=key n 0 (by omega) (λ j hj=>by omega)
 simpa using this
section
variable {P:Program} {st:St} {x:Code} {k:Kt}
theorem CQ{σ ε:Type}{step:σ->Option (σ⊕ε)}{s0:σ}{e:ε}(hr:Cv step s0=some e)(S:σ->St)(hw:Wk st (S s0))
   (hs:∀s n,(step s).bind (HI (G4 step n))=some e->(∀s' st',G4 step n s'=some e->Wk st' (S s')->L P x k n st')->X P x (.lp x n k) (S s)):X P (.loop x) k st:=by
 obtain ⟨n,hn⟩:=Kr.1 hr;have key:∀n s,G4 step n s=some e->L P x k n (S s):=by
   intro n
   induction n with
   | zero=>intro s h;simp[G4] at h
   | succ n ih=>intro s h;exact ⟨S s,Wk.refl _,hs s n h λ s' st' h' hw'=>Ai3 hw' (ih s' h')⟩
 exact X5 _ (Ai3 hw (key n s0 hn))
end
def CE{α:Type}(l:List α)(i:Int):Option α:=if 0<=i then l[i.toNat]? else none
theorem HY{α:Type}{l:List α}{i:Int}{x:α}(h:CE l i=some x):(0<=i/\i<(l.length:Int))/\l[i.toNat]?=some x:=by
 unfold CE at h;split at h
 . have:=(An.1 h).1;exact ⟨by omega,h⟩
 . cases h
theorem B9{α:Type}{l:List α}{i:Int}{x:α}(h:CE l i=some x):0<=i/\i<(l.length:Int):=(HY h).1
theorem Ca{α:Type}{l:List α}{i:Int}{x:α}(f:α->List Pd)(h:CE l i=some x):(l.map f).getD i.toNat []=f x:=by
 simp[List.getD,(HY h).2]
theorem Hq{α:Type}(l:List α)(i:Nat):CE l (i:Int)=l[i]?:=by
 unfold CE;rw[if_pos (by omega)];rfl
structure Ai9 where
 cq:Int
 ca:Int
 cd:Int
 cp:Int
theorem P3:BX []=[]:=rfl
theorem PZ:CJ []=[]:=rfl
theorem PX:CT []=[]:=rfl
theorem P4:Cr []=[]:=rfl
theorem P5:EV []=[]:=rfl
theorem P1:GA []=[]:=rfl
theorem P2:C2 []=[]:=rfl
theorem P0:C1 []=[]:=rfl
theorem KF(l:List Bool):(CT l).length=l.length:=by simp[CT]
theorem KL(l:List (List Int)):(Cr l).length=l.length:=by simp[Cr]
theorem KH(l:List ER):(C2 l).length=l.length:=by simp[C2]
theorem E9(l:List C3):(C1 l).length=l.length:=by simp[C1]
theorem Ab4(l:List Int)(x:Int):BX l++[[.int .i64 x]]=BX (l++[x]):=by simp[BX]
theorem Ab5(l:List Dc)(a b:Int)(c:List (List UInt8))(d:List Int):EV l++[[.int .i64 a,.int .i64 b,.sl (CJ c),.sl (BX d)]]=EV (l++[⟨a,b,c,d⟩]):=by simp[EV]
theorem Uc(l:List Bool)(x:Bool):CT (l++[x])=CT l++[[.bool x]]:=by simp[CT]
theorem Uj(l:List (List Int))(x:List Int):Cr (l++[x])=Cr l++[[.sl (BX x)]]:=by simp[Cr]
theorem Uh(l:List ER)(x:ER):C2 (l++[x])=C2 l++[[.str x.name,.int .i64 x.x,.int .i64 x.y]]:=by simp[C2]
theorem Uf(l:List C3)(x:C3):C1 (l++[x])=C1 l++[[.str x.name,.bool x.CA,.int .i64 x.HW,.int .i64 x.out,.int .i64 x.Co,.int .i64 x.base]]:=by simp[C1]
theorem Ah6(l:List Int)(i:Nat)(x:Int):(BX l).set i [.int .i64 x]=BX (l.set i x):=by simp[BX,BD]
theorem Ah5(l:List C3)(i:Nat)(a:List UInt8)(b:Bool)(c d e f:Int):(C1 l).set i [.str a,.bool b,.int .i64 c,.int .i64 d,.int .i64 e,.int .i64 f]=C1 (l.set i ⟨a,b,c,d,e,f⟩):=by simp[C1,BD]
theorem Lh(l:List Int):(BX l).take l.length=BX l:=by simp[BX,<-List.map_take]
theorem OE(l:List (List UInt8)):(CJ l).take l.length=CJ l:=by simp[CJ,<-List.map_take]
theorem OD(l:List Bool):(CT l).take l.length=CT l:=by simp[CT,<-List.map_take]
theorem OI(l:List (List Int)):(Cr l).take l.length=Cr l:=by simp[Cr,<-List.map_take]
theorem OJ(l:List Dc):(EV l).take l.length=EV l:=by simp[EV,<-List.map_take]
theorem OG(l:List Ln):(GA l).take l.length=GA l:=by simp[GA,<-List.map_take]
theorem OH(l:List ER):(C2 l).take l.length=C2 l:=by simp[C2,<-List.map_take]
theorem OF(l:List C3):(C1 l).take l.length=C1 l:=by simp[C1,<-List.map_take]
theorem Ar8(l:List Int)(a b:Nat):((BX l).take b).drop a=BX ((l.take b).drop a):=by simp[BX]
theorem Anc(n:Nat):List.replicate n [Pd.int .i64 0]=BX (List.replicate n 0):=by simp[BX]
theorem Ah2(n:Nat):List.replicate n [Pd.bool false]=CT (List.replicate n false):=by simp[CT]
theorem Jy(l:List Int):LI 1 (BX l):=by simp[LI,BX]
theorem Anf(l:List Dc):LI 4 (EV l):=by simp[LI,EV]
theorem Wo(l:List Bool)(i:Nat)(x:Bool):CT (l.set i x)=(CT l).set i [.bool x]:=by simp[CT,BD]
theorem Wu(l:List (List Int))(i:Nat)(x:List Int):Cr (l.set i x)=(Cr l).set i [.sl (BX x)]:=by simp[Cr,BD]
theorem Wv(l:List Dc)(i:Nat)(x:Dc):EV (l.set i x)=(EV l).set i [.int .i64 x.word,.int .i64 x.line,.sl (CJ x.names),.sl (BX x.B7)]:=by simp[EV,BD]
theorem Wt(l:List ER)(i:Nat)(x:ER):C2 (l.set i x)=(C2 l).set i [.str x.name,.int .i64 x.x,.int .i64 x.y]:=by simp[C2,BD]
theorem Rk(l:List C3)(i:Nat)(x:C3):C1 (l.set i x)=(C1 l).set i [.str x.name,.bool x.CA,.int .i64 x.HW,.int .i64 x.out,.int .i64 x.Co,.int .i64 x.base]:=by simp[C1,BD]
theorem ZU(x:Int):BX [x]=[[.int .i64 x]]:=rfl
theorem ZR(x:List UInt8):CJ [x]=[[.str x]]:=rfl
theorem ZQ(x:Bool):CT [x]=[[.bool x]]:=rfl
theorem Ui(x:Int)(l:List Int):BX (x::l)=[.int .i64 x]::BX l:=rfl
theorem Ue(x:List UInt8)(l:List (List UInt8)):CJ (x::l)=[.str x]::CJ l:=rfl
theorem Ud(x:Bool)(l:List Bool):CT (x::l)=[.bool x]::CT l:=rfl
theorem Uk(x:List Int)(l:List (List Int)):Cr (x::l)=[.sl (BX x)]::Cr l:=rfl
attribute [go_sem] BW B6 KF KL FD DB KH E9
attribute [go_sem] List.length_set Ab4 Ab5
attribute [go_sem] Ah6 Ah5
attribute [go_sem] Lh OE OD OI OJ OG OH OF Anc Ah2 Int.toNat_natCast
attribute [go_sem] KK.fit DJ DY Aab Tq Xg Pd.flat Ts Ajz Ak3 Aa6 Aa8 Xh Ac8 Ac9
attribute [go_sem] Ar8
theorem bE{α β:Type}{a:Option α}{f:α->Option β}{r:β}(h:a.bind f=some r):∃x,a=some x/\f x=some r:=by
 cases a with
 | none=>cases h
 | some x=>exact ⟨x,rfl,h⟩
theorem bK{α β γ:Type}{a:Option α}{f:α->Option β}{k:β->Option γ}{r:γ}(h:(a.bind f).bind k=some r):∃x,a=some x/\(f x).bind k=some r:=by
 cases a with
 | none=>cases h
 | some x=>exact ⟨x,rfl,h⟩
theorem gE{α:Type}{c:Bool}{x:Option α}{r:α}(h:cond c x none=some r):c=true/\x=some r:=by
 cases c with
 | false=>cases h
 | true=>exact ⟨rfl,h⟩
theorem gK{α γ:Type}{c:Bool}{x:Option α}{k:α->Option γ}{r:γ}(h:(cond c x none).bind k=some r):c=true/\x.bind k=some r:=by
 cases c with
 | false=>cases h
 | true=>exact ⟨rfl,h⟩
theorem ZE:(type_of% @P3)/\(type_of% @PZ)/\(type_of% @PX)/\(type_of% @P4)/\(type_of% @P5)/\(type_of% @P1)/\(type_of% @P2)/\(type_of% @P0)/\(type_of% @Xg)/\(type_of% @Xh)/\(type_of% @Ui)/\(type_of% @Ue)/\(type_of% @Ud)/\(type_of% @Uk)/\(type_of% @ZU)/\(type_of% @ZR)/\(type_of% @ZQ)/\(type_of% @D5)/\(type_of% @E8)/\(type_of% @Uc)/\(type_of% @Uj)/\(type_of% @Rl)/\(type_of% @Nl)/\(type_of% @Uh)/\(type_of% @Uf)/\(type_of% @Db)/\(type_of% @PY)/\(type_of% @Wo)/\(type_of% @Wu)/\(type_of% @Wv)/\(type_of% @Wt)/\(type_of% @Rk)/\(type_of% @BW)/\(type_of% @B6)/\(type_of% @KF)/\(type_of% @KL)/\(type_of% @FD)/\(type_of% @DB)/\(type_of% @KH)/\(type_of% @E9):=⟨@P3,@PZ,@PX,@P4,@P5,@P1,@P2,@P0,@Xg,@Xh,@Ui,@Ue,@Ud,@Uk,@ZU,@ZR,@ZQ,@D5,@E8,@Uc,@Uj,@Rl,@Nl,@Uh,@Uf,@Db,@PY,@Wo,@Wu,@Wv,@Wt,@Rk,@BW,@B6,@KF,@KL,@FD,@DB,@KH,@E9⟩
theorem ZB:(type_of% @Lh)/\(type_of% @OE)/\(type_of% @OD)/\(type_of% @OI)/\(type_of% @OJ)/\(type_of% @OG)/\(type_of% @OH)/\(type_of% @OF)/\(type_of% @BW)/\(type_of% @B6)/\(type_of% @KF)/\(type_of% @KL)/\(type_of% @FD)/\(type_of% @DB)/\(type_of% @KH)/\(type_of% @E9)/\(type_of% @P3)/\(type_of% @PZ)/\(type_of% @PX)/\(type_of% @P4)/\(type_of% @P5)/\(type_of% @P1)/\(type_of% @P2)/\(type_of% @P0):=⟨@Lh,@OE,@OD,@OI,@OJ,@OG,@OH,@OF,@BW,@B6,@KF,@KL,@FD,@DB,@KH,@E9,@P3,@PZ,@PX,@P4,@P5,@P1,@P2,@P0⟩
theorem C6{σ ε:Type}{step:σ->Option (σ⊕ε)}(n:Nat)(S:Nat->σ)(out:ε)(h1:∀i,i<n->step (S i)=some (.inl (S (i+1))))(h2:step (S n)=some (.inr out)):Cv step (S 0)=some out:=by
 have:=I2 n S out (λ _=>none) (λ i hi _=>h1 i hi) (λ _=>h2);rw[this];have:(List.range n).findSome? (λ _=>(none:Option ε))=none:=by rw[Bs];simp
 rw[this];rfl
theorem E5{σ ε:Type}{step:σ->Option (σ⊕ε)}(n:Nat)(S:Nat->σ)(out bad:ε)(Re:Nat->Bool)
   (h1:∀i,i<n->(∀j,j<i->Re j=true)->step (S i)=some (if Re i=true then .inl (S (i+1)) else .inr bad)) (h2:(∀j,j<n->Re j=true)->step (S n)=some (.inr out)):
   Cv step (S 0)=some (if (∀j,j<n->Re j=true) then out else bad):=by
 have h:=I2 n S out (λ i=>if Re i=true then none else some bad)
   (λ i hi hj=>by
     rw[h1 i hi (λ j hj2=>by have:=hj j hj2;by_cases g:Re j=true;exact g;simp[g] at this)];by_cases g:Re i=true<;>simp[g])
   (λ hj=>h2 (λ j hj2=>by have:=hj j hj2;by_cases g:Re j=true;exact g;simp[g] at this))
 rw[h];by_cases g:∀j,j<n->Re j=true
 . rw[if_pos g];have:(List.range n).findSome? (λ i=>if Re i=true then none else some bad)=none:=by
     rw[Bs];intro x hx;simp[g x (by simpa using hx)]
   rw[this];rfl
 . rw[if_neg g];cases hf:(List.range n).findSome? (λ i=>if Re i=true then none else some bad) with
   | none=>
     exfalso;rw[Bs] at hf;refine g λ j hj=>?_;have:=hf j (by simpa using hj);by_cases g2:Re j=true
     . exact g2
     . simp[g2] at this
   | some e=>
     obtain ⟨i,hi,he⟩:=List.exists_of_findSome?_eq_some hf;by_cases g2:Re i=true
     . simp[g2] at he
     . simp[g2] at he;simp[he]
theorem Ch{α:Type}(l:List α)(i:Nat)(x:α)(h:i<l.length):CE l (i:Int)=some (l.getD i x):=by rw[Hq];simp[List.getD,h]
theorem Et{i n:Nat}(h:i<n):decide ((i:Int)<((n:Nat):Int))=true:=Ag (by omega)
theorem E4{n:Nat}:decide ((n:Int)<((n:Nat):Int))=false:=Ah (by omega)
def KN(a0:List (List Int))(v3:Int)(DI:List Int):Int->Option ((Int)⊕(Int⊕Int))
 | NR=>cond (decide (NR<((DI.length:Nat):Int))) (Option.bind (CE DI NR) λ x23=>cond (decide (x23<0)) (some (Sum.inr (.inr ((20:Int))))) (cond (decide (((a0.length:Nat):Int)<=x23)) (some (Sum.inr (.inr ((20:Int))))) (cond (decide (x23=v3)) (some (Sum.inr (.inr ((20:Int))))) (cond (decide (0<NR)) (Option.bind (CE DI (IntKind.i64.wrap (NR - 1))) λ x31=>cond (decide (x23<=x31)) (some (Sum.inr (.inr ((20:Int))))) (some (Sum.inl (IntKind.i64.wrap (NR+1))))) (some (Sum.inl (IntKind.i64.wrap (NR+1)))))))) (some (Sum.inr (.inl NR)))
def KM(a0:List (List Int)):Int->Option ((Int)⊕(Int⊕Int))
 | v3=>cond (decide (v3<((a0.length:Nat):Int))) (Option.bind (CE a0 v3) λ DI=>Option.bind (Cv (KN a0 v3 DI) 0) (λ | .inl v36=>some (Sum.inl (IntKind.i64.wrap (v3+1))) | .inr (r37)=>some (Sum.inr (.inr (r37))))) (some (Sum.inr (.inl v3)))
def Fc(a0:List (List Int))(a1:List Bool):Option (Int):=
 cond (decide (24<((a0.length:Nat):Int))) (some 20) (Option.bind (Cv (KM a0) 0) (λ | .inl v38=>cond (decide (((a1.length:Nat):Int)=((a0.length:Nat):Int))) (some 0) (some 19) | .inr (r40)=>some r40))
theorem Uq(a0:List (List Int))(a1:List Bool)(r:Int)(hr:Fc a0 a1=some r):
   BZ prog 116 [.p (.sl (Cr a0)),.p (.sl (CT a1))] [] λ h d=>h=[]/\d= .p (.int .i64 r):=by
 refine B1 func116 rfl Agk (by simp[Tryz.f116]) ?_;unfold Fc at hr;cases c1:decide (24<((a0.length:Nat):Int))
 . simp only[c1,Aj] at hr;obtain ⟨e7,g8,hr⟩:=bE hr;(try simp only[go_sem,c1]);refine CQ g8 (λ q:Int=>⟨[(0,.p (.sl (Cr a0))),(1,.p (.sl (CT a1))),(12,.p (.sl (Cr a0))),(13,.p (.int .i64 ((a0.length:Nat):Int))),(14,.p (.int .i64 q))],[],59⟩) ((Wk.forget (by simp[ZF,ZE]))) ?_;rintro v3 m6 D7 U6;rw[KM.eq_1] at D7;cases c9:decide (v3<((a0.length:Nat):Int))
   . simp only[c9,Aj] at D7;simp only[Aa,B2] at D7;cases D7;(try dsimp only at hr);cases Kf:decide (((a1.length:Nat):Int)=((a0.length:Nat):Int))
     . simp only[Kf,Aj] at hr;cases hr;(try simp only[go_sem,c9,Kf]);all_goals ((try refine BY ?_);(try simp only[go_sem,c9,Kf]);try first | rfl | exact ⟨rfl,rfl⟩ | (simp;done))
     simp only[Kf,Ak] at hr;cases hr;(try simp only[go_sem,c9,Kf]);all_goals ((try refine BY ?_);(try simp only[go_sem,c9,Kf]);try first | rfl | exact ⟨rfl,rfl⟩ | (simp;done))
   simp only[c9,Ak] at D7;obtain ⟨DI,g12,D7⟩:=bK D7;have f13:=B9 g12;have f14:(Cr a0).getD (Int.toNat v3) []=[(.sl (BX DI))]:=Ca _ g12;obtain ⟨e20,g21,D7⟩:=bK D7;(try simp only[go_sem,c9,f13,f14]);refine CQ g21 (λ q:Int=>⟨[(0,.p (.sl (Cr a0))),(1,.p (.sl (CT a1))),(5,.p (.int .i64 v3)),(6,.p (.sl (BX DI))),(12,.p (.sl (Cr a0))),(13,.p (.int .i64 ((a0.length:Nat):Int))),(14,.p (.int .i64 v3)),(19,.p (.sl (BX DI))),(20,.p (.int .i64 ((DI.length:Nat):Int))),(21,.p (.int .i64 q))],[],59⟩) ((Wk.forget (by simp[ZF,ZE]))) ?_;rintro NR m19 El Aqh;rw[KN.eq_1] at El;cases SF:decide (NR<((DI.length:Nat):Int))
   . simp only[SF,Aj] at El;simp only[Aa,B2] at El;cases El;(try dsimp only at D7);simp only[Aa,B4] at D7;(try simp only[go_sem,SF]);exact U6 (IntKind.i64.wrap (v3+1)) _ D7 ((Wk.forget (by simp[ZF,ZE])))
   simp only[SF,Ak] at El;obtain ⟨x23,g24,El⟩:=bK El;have f25:=B9 g24;have f26:(BX DI).getD (Int.toNat NR) []=[(.int .i64 x23)]:=Ca _ g24;cases c27:decide (x23<0)
   . simp only[c27,Aj] at El;cases WE:decide (((a0.length:Nat):Int)<=x23)
     . simp only[WE,Aj] at El;cases Sa:decide (x23=v3)
       . simp only[Sa,Aj] at El;cases OO:decide (0<NR)
         . simp only[OO,Aj] at El;simp only[Aa,B4] at El;(try simp only[go_sem,SF,f25,f26,c27,WE,Sa,OO]);exact Aqh (IntKind.i64.wrap (NR+1)) _ El ((Wk.forget (by simp[ZF,ZE])))
         simp only[OO,Ak] at El;obtain ⟨x31,g32,El⟩:=bK El;have f33:=B9 g32;have f34:(BX DI).getD (Int.toNat (IntKind.i64.wrap (NR - 1))) []=[(.int .i64 x31)]:=Ca _ g32;cases c35:decide (x23<=x31)
         . simp only[c35,Aj] at El;simp only[Aa,B4] at El;(try simp only[go_sem,SF,f25,f26,c27,WE,Sa,OO,f33,f34,c35]);exact Aqh (IntKind.i64.wrap (NR+1)) _ El ((Wk.forget (by simp[ZF,ZE])))
         simp only[c35,Ak] at El;simp only[Aa,B2] at El;cases El;(try dsimp only at D7);simp only[Aa,B2] at D7;cases D7;(try dsimp only at hr);cases hr;(try simp only[go_sem,SF,f25,f26,c27,WE,Sa,OO,f33,f34,c35]);all_goals ((try refine BY ?_);(try simp only[go_sem,SF,f25,f26,c27,WE,Sa,OO,f33,f34,c35]);try first | rfl | exact ⟨rfl,rfl⟩ | (simp;done))
       simp only[Sa,Ak] at El;simp only[Aa,B2] at El;cases El;(try dsimp only at D7);simp only[Aa,B2] at D7;cases D7;(try dsimp only at hr);cases hr;(try simp only[go_sem,SF,f25,f26,c27,WE,Sa]);all_goals ((try refine BY ?_);(try simp only[go_sem,SF,f25,f26,c27,WE,Sa]);try first | rfl | exact ⟨rfl,rfl⟩ | (simp;done))
     simp only[WE,Ak] at El;simp only[Aa,B2] at El;cases El;(try dsimp only at D7);simp only[Aa,B2] at D7;cases D7;(try dsimp only at hr);cases hr;(try simp only[go_sem,SF,f25,f26,c27,WE]);all_goals ((try refine BY ?_);(try simp only[go_sem,SF,f25,f26,c27,WE]);try first | rfl | exact ⟨rfl,rfl⟩ | (simp;done))
   simp only[c27,Ak] at El;simp only[Aa,B2] at El;cases El;(try dsimp only at D7);simp only[Aa,B2] at D7;cases D7;(try dsimp only at hr);cases hr;(try simp only[go_sem,SF,f25,f26,c27]);all_goals ((try refine BY ?_);(try simp only[go_sem,SF,f25,f26,c27]);try first | rfl | exact ⟨rfl,rfl⟩ | (simp;done))
 simp only[c1,Ak] at hr;cases hr;try simp only[go_sem,c1]
 all_goals ((try refine BY ?_);(try simp only[go_sem,c1]);try first | rfl | exact ⟨rfl,rfl⟩ | (simp;done))
def Ki(a0:List Int)(a1:Int):Int->Option ((Int)⊕(Int⊕Int))
 | v2=>cond (decide (v2<((a0.length:Nat):Int))) (Option.bind (CE a0 v2) λ x9=>cond (decide (a1=x9)) (some (Sum.inr (.inr ((v2:Int))))) (some (Sum.inl (IntKind.i64.wrap (v2+1))))) (some (Sum.inr (.inl v2)))
def O9(a0:List Int)(a1:Int):Option (Int):=
 Option.bind (Cv (Ki a0 a1) 0) (λ | .inl SQ=>some (-1) | .inr (r15)=>some r15)
theorem Aa0(a0:List Int)(a1:Int)(r:Int)(hr:O9 a0 a1=some r):
   BZ prog 171 [.p (.sl (BX a0)),.p (.int .i64 a1)] [] λ h d=>h=[]/\d= .p (.int .i64 r):=by
 refine B1 func171 rfl Wm (by simp[Tryz.f171]) ?_;unfold O9 at hr;obtain ⟨e6,g7,hr⟩:=bE hr;try simp only[go_sem]
 refine CQ g7 (λ q:Int=>⟨[(0,.p (.sl (BX a0))),(1,.p (.int .i64 a1)),(7,.p (.int .i64 ((a0.length:Nat):Int))),(8,.p (.int .i64 q))],[],19⟩) ((Wk.forget (by simp[ZF,ZE]))) ?_;rintro v2 m5 PH VZ;rw[Ki.eq_1] at PH;cases c8:decide (v2<((a0.length:Nat):Int))
 . simp only[c8,Aj] at PH;simp only[Aa,B2] at PH;cases PH;(try dsimp only at hr);cases hr;(try simp only[go_sem,c8]);all_goals ((try refine BY ?_);(try simp only[go_sem,c8]);try first | rfl | exact ⟨rfl,rfl⟩ | (simp;done))
 simp only[c8,Ak] at PH;obtain ⟨x9,g10,PH⟩:=bK PH;have f11:=B9 g10;have f12:(BX a0).getD (Int.toNat v2) []=[(.int .i64 x9)]:=Ca _ g10;cases Sb:decide (a1=x9)
 . simp only[Sb,Aj] at PH;simp only[Aa,B4] at PH;(try simp only[go_sem,c8,f11,f12,Sb]);exact VZ (IntKind.i64.wrap (v2+1)) _ PH ((Wk.forget (by simp[ZF,ZE])))
 simp only[Sb,Ak] at PH;simp only[Aa,B2] at PH;cases PH;try dsimp only at hr
 cases hr;try simp only[go_sem,c8,f11,f12,Sb]
 all_goals ((try refine BY ?_);(try simp only[go_sem,c8,f11,f12,Sb]);try first | rfl | exact ⟨rfl,rfl⟩ | (simp;done))
def O8(a0:List Int):Int×Int->Option ((Int×Int)⊕((Int×Int)))
 | (v8,v9)=>cond (decide (v9<((a0.length:Nat):Int))) (Option.bind (CE a0 v9) λ Qm=>some (Sum.inl ((if Qm<v8 then Qm else v8),(IntKind.i64.wrap (v9+1))))) (some (Sum.inr (v8,v9)))
def W5(a0:List Int):Option (Int):=
 cond (decide (((a0.length:Nat):Int)<1)) none (Option.bind (CE a0 0) λ x2=>Option.bind (Cv (O8 a0) (x2,1)) (λ (v20,v21)=>some v20))
theorem Aj4(a0:List Int)(r:Int)(hr:W5 a0=some r):
   BZ prog 179 [.p (.sl (BX a0))] [] λ h d=>h=[]/\d= .p (.int .i64 r):=by
 refine B1 func179 rfl Afo (by simp[Tryz.f179]) ?_;unfold W5 at hr;cases c1:decide (((a0.length:Nat):Int)<1)
 . simp only[c1,Aj] at hr;obtain ⟨x2,g3,hr⟩:=bE hr;have f4:=B9 g3;have f5:(BX a0).getD 0 []=[(.int .i64 x2)]:=Ca _ g3;obtain ⟨e13,g14,hr⟩:=bE hr;(try simp only[go_sem,c1,f4,f5]);refine CQ g14 (λ q:Int×Int=>⟨[(0,.p (.sl (BX a0))),(3,.p (.int .i64 q.1)),(4,.p (.int .i64 q.2))],[],25⟩) ((Wk.forget (by simp[ZF,ZE]))) ?_;rintro ⟨v8,v9⟩ m12 XB Bb1;rw[O8.eq_1] at XB;cases JS:decide (v9<((a0.length:Nat):Int))
   . simp only[JS,Aj] at XB;simp only[Aa,B2] at XB;cases XB;(try dsimp only at hr);cases hr;(try simp only[go_sem,JS]);all_goals ((try refine BY ?_);(try simp only[go_sem,JS]);try first | rfl | exact ⟨rfl,rfl⟩ | (simp;done))
   simp only[JS,Ak] at XB;obtain ⟨Qm,g17,XB⟩:=bK XB;have f18:=B9 g17;have f19:(BX a0).getD (Int.toNat v9) []=[(.int .i64 Qm)]:=Ca _ g17;simp only[Aa,B4] at XB;(try simp only[go_sem,JS,f18,f19]);exact Bb1 ((if Qm<v8 then Qm else v8),(IntKind.i64.wrap (v9+1))) _ XB ((Wk.forget (by simp[ZF,ZE])))
 simp only[c1,Ak] at hr;simp at hr
def okE(n v:Nat)(r:List Int)(i:Nat):Bool:=!decide (r.getD i 0<0)&&!decide ((n:Int)<=r.getD i 0)&&!decide (r.getD i 0=(v:Int))&&(decide (i=0)||!decide (r.getD i 0<=r.getD (i - 1) 0))
def UG(n v:Nat)(r:List Int):Prop:=∀i,i<r.length->okE n v r i=true
instance (n v:Nat) (r:List Int):Decidable (UG n v r):=by unfold UG;infer_instance
theorem cL1(g:List (List Int))(v:Nat)(r:List Int)(hr:r.length<=2000000):
   Cv (KN g (v:Nat) r) 0=some (if UG g.length v r then .inl ((r.length:Nat):Int) else .inr 20):=by
 refine E5 r.length (λ i=>((i:Nat):Int)) _ _ (okE g.length v r) ?_ ?_
 . intro i hi _;rw[KN.eq_1,Et hi,Ak,Ch r i 0 hi,Aa];unfold okE;cases c1:decide (r.getD i 0<0)
   . cases c2:decide ((g.length:Int)<=r.getD i 0)
     . cases c3:decide (r.getD i 0=(v:Int))
       . rcases i with _ | i
         . have c4:decide (0<(((0:Nat):Int)))=false:=by decide
           simp only[Aj,c4];rw[Cu (by omega)];simp
         . have c4:decide (0<(((i+1:Nat):Int)))=true:=Ag (by omega);have e1:IntKind.i64.wrap (((i+1:Nat):Int) - 1)=((i:Nat):Int):=by
             simp[IntKind.wrap,IntKind.bits,IntKind.signed];omega
           simp only[Aj,Ak,c4,e1];rw[Ch r i 0 (by omega),Aa,Cu (by omega)];have e2:i+1 - 1=i:=rfl;rw[e2];cases c5:decide (r.getD (i+1) 0<=r.getD i 0)<;>simp
       . simp
     . simp
   . simp
 . intro _;rw[KN.eq_1,E4,Aj]
theorem cL2(g:List (List Int))(hn:g.length<=2000000)(hr:∀v,v<g.length->(g.getD v []).length<=2000000):
   Cv (KM g) 0=some (if ∀v,v<g.length->decide (UG g.length v (g.getD v []))=true then .inl ((g.length:Nat):Int) else .inr 20):=by
 refine E5 g.length (λ i=>((i:Nat):Int)) _ _ (λ v=>decide (UG g.length v (g.getD v []))) ?_ ?_
 . intro v hv _;rw[KM.eq_1,Et hv,Ak,Ch g v [] hv,Aa,cL1 g v _ (hr v hv),Aa];by_cases h:UG g.length v (g.getD v [])
   . rw[if_pos h,if_pos (Ag h)];simp only;rw[Cu (by omega)]
   . rw[if_neg h,if_neg (λ h9=>h (Ad h9))]
 . intro _;rw[KM.eq_1,E4,Aj]
theorem Ru(g:List (List Int))(sh:List Bool)(hr:∀v,v<g.length->(g.getD v []).length<=2000000):
   Fc g sh=some (if 24<g.length then 20 else if ∀v,v<g.length->decide (UG g.length v (g.getD v []))=true then (if sh.length=g.length then 0 else 19) else 20):=by
 unfold Fc;by_cases h1:24<g.length
 . rw[if_pos h1,Ag (by omega),Ak]
 . rw[if_neg h1,Ah (by omega),Aj,cL2 g (by omega) hr,Aa];by_cases h2:∀v,v<g.length->decide (UG g.length v (g.getD v []))=true
   . rw[if_pos h2,if_pos h2];simp only;by_cases h3:sh.length=g.length
     . rw[if_pos h3,Ag (by omega),Ak]
     . rw[if_neg h3,Ah (by omega),Aj]
   . rw[if_neg h2,if_neg h2]
theorem Apv{n v:Nat}{r:List Int}(h:UG n v r)(k:Nat)(hk:k<r.length):∃w:Nat,r.getD k 0=(w:Int)/\w<n:=by
 have:=h k hk;unfold okE at this;simp only[Ao,BS,BB] at this;obtain ⟨⟨⟨h1,h2⟩,_⟩,_⟩:=this;exact ⟨(r.getD k 0).toNat,by omega,by omega⟩
theorem Ahk{g:List (List Int)}{sh:List Bool}(hr:∀v,v<g.length->(g.getD v []).length<=2000000)(h:Fc g sh=some 0):
   g.length<=24/\sh.length=g.length/\∀v k,k<(g.getD v []).length->∃w:Nat,(g.getD v []).getD k 0=(w:Int)/\w<g.length:=by
 rw[Ru g sh hr] at h;have h:=Ac h;split at h
 . cases h
 rename_i h1;split at h
 case isFalse=>cases h
 rename_i h2;split at h
 case isFalse=>cases h
 rename_i h3;refine ⟨by omega,h3,λ v k hk=>?_⟩;by_cases hv:v<g.length
 . exact Apv (Ad (h2 v hv)) k hk
 . rw[List.getD,List.getElem?_eq_none (by omega)] at hk;exact absurd hk (AZ _)
def Ed(g:List (List Int))(sh:List Bool)(v w:Nat):Prop:=(w:Int)∈g.getD v []/\sh.getD w false=false
inductive IL (g:List (List Int)) (sh:List Bool):Nat->Nat->Prop
 | refl (v:Nat):IL g sh v v
 | tail {u v w:Nat} (h:IL g sh u v) (e:Ed g sh v w):IL g sh u w
theorem IL.trans{g:List (List Int)}{sh:List Bool}{u v w:Nat}(h:IL g sh u v)(k:IL g sh v w):IL g sh u w:=by
 induction k with
 | refl=>exact h
 | tail _ e ih=>exact ih.tail e
def Ry(g:List (List Int))(sh:List Bool)(v:Nat)(x:Int):Prop:=∃y:Nat,x=(y:Int)/\IL g sh v y/\IL g sh y v/\∀z,IL g sh v z->IL g sh z v->y<=z
structure Sr where
 seen:List Nat
 low:List Nat
 at_:List Nat
 path:List Nat
 held:List Nat
 count:Nat
 names:List Int
def Sr.sn(s:Sr)(v:Nat):Nat:=s.seen.getD v 0
def Sr.lw(s:Sr)(v:Nat):Nat:=s.low.getD v 0
def Sr.ad(s:Sr)(v:Nat):Nat:=s.at_.getD v 0
def Sr.nm(s:Sr)(v:Nat):Int:=s.names.getD v (-1)
structure TJ(g:List (List Int))(sh:List Bool)(UZ:Nat->Prop)(s:Sr):Prop where
 l1:s.seen.length=g.length
 l2:s.low.length=g.length
 l3:s.at_.length=g.length
 l4:s.names.length=g.length
 rng:∀v k,k<(g.getD v []).length->∃w:Nat,(g.getD v []).getD k 0=(w:Int)/\w<g.length
 j4:∀v,s.sn v<=s.count
 inj:∀v w,s.sn v=s.sn w->s.sn v≠0->v=w
 Yc:∀v,s.sn v≠0->v<g.length/\sh.getD v false=false
 at0:∀v,s.sn v=0->s.ad v=0
 atl:∀v,s.ad v<=(g.getD v []).length
 Ng:∀v,v∈s.held↔s.sn v≠0/\s.nm v<0
 hso:s.held.Pairwise λ a b=>s.sn a<s.sn b
 UF:∀p∈s.path,p∈s.held
 pso:s.path.Pairwise λ a b=>s.sn a<s.sn b
 UH:∀v,0<=s.nm v->s.sn v≠0/\Ry g sh v (s.nm v)
 nmc:∀v w,0<=s.nm v->Ed g sh v w->0<=s.nm w
 fin:∀x∈s.held,x∉s.path->s.ad x=(g.getD x []).length/\s.lw x<s.sn x
 edg:∀x∈s.held,∀k,k<s.ad x->∀w:Nat,(g.getD x []).getD k 0=(w:Int)->sh.getD w false=false->(s.sn w=0->UZ w)/\(w∈s.held->s.lw x<=s.sn w)
 low:∀x∈s.held,s.lw x<=s.sn x/\∃u∈s.held,s.sn u=s.lw x/\IL g sh x u
 rch:∀p∈s.path,∀x∈s.held,s.sn p<=s.sn x->IL g sh p x
 own:∀p∈s.path,∀x∈s.held,x∉s.path->s.sn p<s.sn x->(∀q∈s.path,s.sn q<=s.sn x->s.sn q<=s.sn p)->s.lw p<=s.lw x
 anc:∀x∈s.held,∃p∈s.path,s.sn p<=s.sn x
 nmx:∀v,s.nm v<0->s.nm v=-1
def Sr.enter(s:Sr)(v:Nat):Sr:={s with count:=s.count+1,seen:=s.seen.set v (s.count+1),low:=s.low.set v (s.count+1),path:=s.path++[v],held:=s.held++[v]}
def Pm:Nat->Prop:=λ _=>False
theorem TJ.enter{g:List (List Int)}{sh:List Bool}{s:Sr}{v:Nat}(h:TJ g sh (λ w=>w=v) s)(hv:v<g.length)(ho:sh.getD v false=false)(h0:s.sn v=0)(hp:∀p∈s.path,IL g sh p v):TJ g sh Pm (s.enter v):=by
 have Ej:∀w,(s.enter v).sn w=if w=v then s.count+1 else s.sn w:=λ w=>E6 _ _ _ _ _ (by rw[h.l1];exact hv)
 have lw':∀w,(s.enter v).lw w=if w=v then s.count+1 else s.lw w:=λ w=>E6 _ _ _ _ _ (by rw[h.l2];exact hv)
 have Qh:v∉s.held:=λ hm=>((h.Ng v).1 hm).1 h0;have Dl:∀x∈s.held,x≠v:=λ x hx e=>Qh (e ▸ hx);have mh:∀x,x∈(s.enter v).held↔x∈s.held∨x=v:=λ x=>by simp[Sr.enter]
 have mp:∀x,x∈(s.enter v).path↔x∈s.path∨x=v:=λ x=>by simp[Sr.enter]
 have Vx:∀x∈s.held,(s.enter v).sn x=s.sn x:=λ x hx=>by rw[Ej,if_neg (Dl x hx)]
 have lwh:∀x∈s.held,(s.enter v).lw x=s.lw x:=λ x hx=>by rw[lw',if_neg (Dl x hx)]
 have snv:(s.enter v).sn v=s.count+1:=by rw[Ej,if_pos rfl]
 have lwv:(s.enter v).lw v=s.count+1:=by rw[lw',if_pos rfl]
 have nmv:s.nm v<0:=by
   rcases Int.lt_or_le (s.nm v) 0 with h1 | h1
   . exact h1
   . exact absurd h0 (h.UH v h1).1
 refine ⟨by simp[Sr.enter,h.l1],by simp[Sr.enter,h.l2],h.l3,h.l4,h.rng,?_,?_,?_,?_,h.atl,?_,?_,?_,?_,?_,h.nmc,?_,?_,?_,?_,?_,?_,h.nmx⟩
 . intro w;rw[Ej];have:=h.j4 w;show _<=s.count+1;split<;>omega
 . intro a b;rw[Ej,Ej];have ha:=h.j4 a;have hb:=h.j4 b
   by_cases e1:a=v
   . by_cases e2:b=v
     . intros;omega
     . rw[if_pos e1,if_neg e2];intros;omega
   . by_cases e2:b=v
     . rw[if_neg e1,if_pos e2];intros;omega
     . rw[if_neg e1,if_neg e2];exact h.inj a b
 . intro w;rw[Ej];split
   . rename_i e;subst e;exact λ _=>⟨hv,ho⟩
   . exact h.Yc w
 . intro w;rw[Ej];split
   . intro;omega
   . exact h.at0 w
 . intro w;rw[mh,Ej];by_cases e:w=v
   . subst e;simp only[or_true,AM,true_iff];exact ⟨by omega,nmv⟩
   . rw[if_neg e];simp only[e,or_false];rw[h.Ng];exact Iff.rfl
 . show (s.held++[v]).Pairwise _
   rw[Bv];refine ⟨?_,by simp,λ a ha b hb=>?_⟩
   . exact List.Pairwise.imp_of_mem (λ ha hb XG=>by rw[Vx _ ha,Vx _ hb];exact XG) h.hso
   . rw[Aw.1 hb,Vx a ha,snv];have:=h.j4 a;omega
 . intro p hp';rw[mh];rcases (mp p).1 hp' with h1 | h1
   . exact .inl (h.UF p h1)
   . exact .inr h1
 . show (s.path++[v]).Pairwise _
   rw[Bv];refine ⟨?_,by simp,λ a ha b hb=>?_⟩
   . exact List.Pairwise.imp_of_mem (λ ha hb XG=>by rw[Vx _ (h.UF _ ha),Vx _ (h.UF _ hb)];exact XG) h.pso
   . rw[Aw.1 hb,Vx a (h.UF a ha),snv];have:=h.j4 a;omega
 . intro w hw;have:=h.UH w hw;refine ⟨?_,this.2⟩;rw[Ej];split
   . omega
   . exact this.1
 . intro x TM hp';rcases (mh x).1 TM with h1 | h1
   . have LU:x∉s.path:=λ hm=>hp' ((mp x).2 (.inl hm));rw[lwh x h1,Vx x h1];exact h.fin x h1 LU
   . exact absurd ((mp x).2 (.inr h1)) hp'
 . intro x TM k hk w hw how;have hk':k<s.ad x:=hk;rcases (mh x).1 TM with h1 | h1
   . obtain ⟨a,b⟩:=h.edg x h1 k hk' w hw how;by_cases Xu:w=v
     . rw[Ej,if_pos Xu,lwh x h1];have h3:=(h.low x h1).1;have h4:=h.j4 x;exact ⟨λ h=>by omega,λ _=>by omega⟩
     . rw[Ej,if_neg Xu,lwh x h1];refine ⟨λ h5=>absurd (a h5) Xu,λ hm=>?_⟩;rcases (mh w).1 hm with h2 | h2
       . exact b h2
       . exact absurd h2 Xu
   . subst h1;have:=h.at0 x h0;omega
 . intro x TM;rcases (mh x).1 TM with h1 | h1
   . obtain ⟨a,u,b,c,d⟩:=h.low x h1;rw[lwh x h1,Vx x h1];exact ⟨a,u,(mh u).2 (.inl b),by rw[Vx u b];exact c,d⟩
   . subst h1;rw[lwv,snv];exact ⟨Ai _,x,(mh x).2 (.inr rfl),snv,.refl x⟩
 . intro p hp' x TM;rcases (mp p).1 hp' with h1 | h1
   . rcases (mh x).1 TM with h2 | h2
     . rw[Vx p (h.UF p h1),Vx x h2];exact h.rch p h1 x h2
     . subst h2;intro _;exact hp p h1
   . subst h1;rcases (mh x).1 TM with h2 | h2
     . rw[snv,Vx x h2];have:=h.j4 x;intro;omega
     . subst h2;intro _;exact .refl x
 . intro p hp' x TM LU Ct hq;rcases (mh x).1 TM with h2 | h2
   . have Bbl:x∉s.path:=λ hm=>LU ((mp x).2 (.inl hm));rcases (mp p).1 hp' with h1 | h1
     . rw[lwh p (h.UF p h1),lwh x h2];rw[Vx p (h.UF p h1),Vx x h2] at Ct;refine h.own p h1 x h2 Bbl Ct λ q UI V3=>?_;have:=hq q ((mp q).2 (.inl UI));rw[Vx q (h.UF q UI),Vx x h2,Vx p (h.UF p h1)] at this;exact this V3
     . subst h1;rw[snv,Vx x h2] at Ct;have:=h.j4 x;omega
   . exact absurd ((mp x).2 (.inr h2)) LU
 . intro x TM;rcases (mh x).1 TM with h2 | h2
   . obtain ⟨p,h3,h4⟩:=h.anc x h2;exact ⟨p,(mp p).2 (.inl h3),by rw[Vx p (h.UF p h3),Vx x h2];exact h4⟩
   . exact ⟨v,(mp v).2 (.inr rfl),by rw[h2];exact Ai _⟩
theorem TJ.last{g:List (List Int)}{sh:List Bool}{UZ:Nat->Prop}{s:Sr}(h:TJ g sh UZ s){ps:List Nat}{v:Nat}(hp:s.path=ps++[v]):v∈s.path/\v∈s.held/\v<g.length/\sh.getD v false=false/\(∀q∈s.path,s.sn q<=s.sn v)/\(∀q∈ps,s.sn q<s.sn v)/\v∉ps:=by
 have hv:v∈s.path:=by rw[hp];simp
 have hh:=h.UF v hv;have ho:=h.Yc v ((h.Ng v).1 hh).1;have Ct:∀q∈ps,s.sn q<s.sn v:=by
   have:=h.pso;rw[hp,Bv] at this;exact λ q hq=>this.2.2 q hq v (by simp)
 refine ⟨hv,hh,ho.1,ho.2,λ q hq=>?_,Ct,λ hm=>?_⟩
 . rw[hp] at hq;rcases Av.1 hq with h1 | h1
   . exact Nat.le_of_lt (Ct q h1)
   . rw[Aw.1 h1];exact Ai _
 . have:=Ct v hm;omega
theorem TJ.step{g:List (List Int)}{sh:List Bool}{s s':Sr}{UZ:Nat->Prop}(h:TJ g sh Pm s){ps:List Nat}{v w L:Nat}(hp:s.path=ps++[v])(hk:s.ad v<(g.getD v []).length)(hw:(g.getD v []).getD (s.ad v) 0=(w:Int))
   (e1:s'.seen=s.seen) (e2:∀x,s'.lw x=if x=v then L else s.lw x) (e2':s'.low.length=s.low.length) (e3:∀x,s'.ad x=if x=v then s.ad v+1 else s.ad x) (e3':s'.at_.length=s.at_.length)
   (e4:s'.path=s.path) (e5:s'.held=s.held) (e6:s'.count=s.count) (e7:s'.names=s.names)
   (hL:L<=s.lw v) (hu:∃u∈s.held,s.sn u=L/\IL g sh v u) (hq:sh.getD w false=false->(s.sn w=0->UZ w)/\(w∈s.held->L<=s.sn w)):TJ g sh UZ s':=by
 obtain ⟨hvp,Qh,Io,Yf,TQ,_,_⟩:=h.last hp;have Ej:∀x,s'.sn x=s.sn x:=λ x=>by unfold Sr.sn;rw[e1]
 have nm':∀x,s'.nm x=s.nm x:=λ x=>by unfold Sr.nm;rw[e7]
 refine ⟨by rw[e1];exact h.l1,by rw[e2'];exact h.l2,by rw[e3'];exact h.l3,by rw[e7];exact h.l4,h.rng,?_,?_,?_,?_,?_,?_,?_,?_,?_,?_,?_,?_,?_,?_,?_,?_,?_,λ x=>by rw[nm'];exact h.nmx x⟩
 . intro x;rw[Ej,e6];exact h.j4 x
 . intro a b;rw[Ej,Ej];exact h.inj a b
 . intro x;rw[Ej];exact h.Yc x
 . intro x;rw[Ej,e3];split
   . rename_i e;subst e;intro h0;exact absurd h0 ((h.Ng x).1 Qh).1
   . exact h.at0 x
 . intro x;rw[e3];split
   . rename_i e;subst e;omega
   . exact h.atl x
 . intro x;rw[e5,Ej,nm'];exact h.Ng x
 . rw[e5];exact h.hso.imp λ XG=>by rw[Ej,Ej];exact XG
 . rw[e4,e5];exact h.UF
 . rw[e4];exact h.pso.imp λ XG=>by rw[Ej,Ej];exact XG
 . intro x;rw[nm',Ej];exact h.UH x
 . intro x y;rw[nm',nm'];exact h.nmc x y
 . intro x hx LU;rw[e5] at hx;rw[e4] at LU;have Dl:x≠v:=λ e=>LU (e ▸ hvp);rw[e3,e2,Ej,if_neg Dl,if_neg Dl];exact h.fin x hx LU
 . intro x hx k hk' y hy hyo;rw[e5] at hx;rw[e3] at hk';rw[Ej,e5,e2];by_cases p4:x=v
   . subst p4;rw[if_pos rfl] at hk' ⊢;by_cases JF:k=s.ad x
     . subst JF;rw[hw] at hy;obtain rfl:w=y:=by omega
       exact hq hyo
     . obtain ⟨a,b⟩:=h.edg x hx k (by omega) y hy hyo;exact ⟨λ h0=>(a h0).elim,λ hm=>Bw hL (b hm)⟩
   . rw[if_neg p4] at hk' ⊢;obtain ⟨a,b⟩:=h.edg x hx k hk' y hy hyo;exact ⟨λ h0=>(a h0).elim,b⟩
 . intro x hx;rw[e5] at hx;obtain ⟨a,u,b,c,d⟩:=h.low x hx;rw[e2,Ej];by_cases p4:x=v
   . subst p4;rw[if_pos rfl];obtain ⟨u2,b2,c2,d2⟩:=hu;exact ⟨by omega,u2,by rw[e5];exact b2,by rw[Ej];exact c2,d2⟩
   . rw[if_neg p4];exact ⟨a,u,by rw[e5];exact b,by rw[Ej];exact c,d⟩
 . intro p hp' x hx;rw[e4] at hp';rw[e5] at hx;rw[Ej,Ej];exact h.rch p hp' x hx
 . intro p hp' x hx LU Ct Yh;rw[e4] at hp' LU Yh;rw[e5] at hx;rw[Ej,Ej] at Ct;have Dl:x≠v:=λ e=>LU (e ▸ hvp);have:=h.own p hp' x hx LU Ct λ q h1 h2=>by have:=Yh q h1;rw[Ej,Ej,Ej] at this;exact this h2
   rw[e2,e2,if_neg Dl];split
   . rename_i e;subst e;omega
   . exact this
 . intro x hx;rw[e5] at hx;obtain ⟨p,h1,h2⟩:=h.anc x hx;exact ⟨p,by rw[e4];exact h1,by rw[Ej,Ej];exact h2⟩
theorem Ak0{g:List (List Int)}{sh:List Bool}{x w:Nat}(h:Ed g sh x w):∃k,k<(g.getD x []).length/\(g.getD x []).getD k 0=(w:Int):=by
 obtain ⟨k,hk,he⟩:=AA.1 h.1;refine ⟨k,hk,?_⟩;generalize g.getD x []=l at*;rw[<-he];simp[List.getD,hk]
theorem TJ.named{g:List (List Int)}{sh:List Bool}{UZ:Nat->Prop}{s:Sr}(h:TJ g sh UZ s){v w:Nat}(hv:0<=s.nm v)(hr:IL g sh v w):0<=s.nm w:=by
 induction hr with
 | refl=>exact hv
 | tail _ e ih=>exact h.nmc _ _ ih e
theorem TJ.comp{g:List (List Int)}{sh:List Bool}{s:Sr}(h:TJ g sh Pm s){ps:List Nat}{v:Nat}(hp:s.path=ps++[v])(ha:s.ad v=(g.getD v []).length)(hl:s.lw v=s.sn v):
   (∀x∈s.held,s.sn v<=s.sn x->s.lw v<=s.lw x/\IL g sh v x/\IL g sh x v/\∀y,Ed g sh x y->0<=s.nm y∨(y∈s.held/\s.sn v<=s.sn y))/\∀y,IL g sh v y->IL g sh y v->y∈s.held/\s.sn v<=s.sn y:=by
 obtain ⟨hvp,Qh,Io,Yf,TQ,_,_⟩:=h.last hp;have Auv:∀x∈s.held,s.sn v<=s.sn x->s.lw v<=s.lw x/\(x=v∨x∉s.path):=by
   intro x hx hsx;by_cases p4:x=v
   . exact ⟨by rw[p4];exact Ai _,.inl p4⟩
   . have Dl:s.sn v≠s.sn x:=λ e=>p4 (h.inj x v e.symm ((h.Ng x).1 hx).1);have LU:x∉s.path:=λ hm=>by have:=TQ x hm;omega
     exact ⟨h.own v hvp x hx LU (by omega) λ q hq _=>TQ q hq,.inr LU⟩
 have G6:∀n,∀x∈s.held,s.sn v<=s.sn x->s.sn x<=n->IL g sh x v:=by
   intro n
   induction n with
   | zero=>intro x hx _ h0;exact absurd (Nat.le_zero.1 h0) ((h.Ng x).1 hx).1
   | succ n ih=>
     intro x hx hsx hn;obtain ⟨r5,hor⟩:=Auv x hx hsx;rcases hor with rfl | LU
     . exact .refl _
     . obtain ⟨_,hf⟩:=h.fin x hx LU;obtain ⟨_,u,hu,hul,hru⟩:=h.low x hx;exact hru.trans (ih u hu (by omega) (by omega))
 have Qk:∀x∈s.held,s.sn v<=s.sn x->∀y,Ed g sh x y->0<=s.nm y∨(y∈s.held/\s.sn v<=s.sn y):=by
   intro x hx hsx y hy;obtain ⟨r5,hor⟩:=Auv x hx hsx;have DK:s.ad x=(g.getD x []).length:=by
     rcases hor with rfl | LU
     . exact ha
     . exact (h.fin x hx LU).1
   obtain ⟨k,hk,hky⟩:=Ak0 hy;obtain ⟨a,b⟩:=h.edg x hx k (by omega) y hky hy.2;have hsy:s.sn y≠0:=λ e=>(a e).elim;rcases Int.lt_or_le (s.nm y) 0 with h1 | h1
   . have hyh:=(h.Ng y).2 ⟨hsy,h1⟩;have:=b hyh;exact .inr ⟨hyh,by omega⟩
   . exact .inl h1
 refine ⟨λ x hx hsx=>⟨(Auv x hx hsx).1,h.rch v hvp x hx hsx,G6 _ x hx hsx (Ai _),Qk x hx hsx⟩,λ y h1 h2=>?_⟩;have key:∀y,IL g sh v y->0<=s.nm y∨(y∈s.held/\s.sn v<=s.sn y):=by
   intro y hy
   induction hy with
   | refl=>exact .inr ⟨Qh,Ai _⟩
   | tail _ e ih=>
     rcases ih with h3 | h3
     . exact .inl (h.nmc _ _ h3 e)
     . exact Qk _ h3.1 h3.2 _ e
 rcases key y h1 with h3 | h3
 . have:=h.named h3 h2;have:=((h.Ng v).1 Qh).2;omega
 . exact h3
theorem TJ.complete{g:List (List Int)}{sh:List Bool}{s s':Sr}(h:TJ g sh Pm s){ps:List Nat}{v:Nat}(hp:s.path=ps++[v])(ha:s.ad v=(g.getD v []).length)(hl:s.lw v=s.sn v){y0:Nat}
   (hy:y0∈s.held/\s.sn v<=s.sn y0) (PF:∀z∈s.held,s.sn v<=s.sn z->y0<=z)
   (e1:s'.seen=s.seen) (e2:s'.low=s.low) (e3:s'.at_=s.at_) (e4:s'.path=ps) (e5:∀x,x∈s'.held↔x∈s.held/\s.sn x<s.sn v) (e5':s'.held.Pairwise λ a b=>s.sn a<s.sn b) (e6:s'.count=s.count)
   (e7:∀x,s'.nm x=if x∈s.held/\s.sn v<=s.sn x then (y0:Int) else s.nm x) (e7':s'.names.length=s.names.length):TJ g sh Pm s':=by
 obtain ⟨hvp,Qh,Io,Yf,TQ,hps,Aqm⟩:=h.last hp;obtain ⟨hK,hC⟩:=h.comp hp ha hl;have Ej:∀x,s'.sn x=s.sn x:=λ x=>by unfold Sr.sn;rw[e1]
 have lw':∀x,s'.lw x=s.lw x:=λ x=>by unfold Sr.lw;rw[e2]
 have ad':∀x,s'.ad x=s.ad x:=λ x=>by unfold Sr.ad;rw[e3]
 have Iy:∀p∈ps,p∈s.path:=λ p La=>by rw[hp];simp[La]
 have Axl:∀x∈s.held,s.sn x<s.sn v->x∉ps->x∉s.path:=λ x hx Ct hn hm=>by
   rw[hp] at hm;rcases Av.1 hm with h1 | h1
   . exact hn h1
   . rw[Aw.1 h1] at Ct;omega
 refine ⟨by rw[e1];exact h.l1,by rw[e2];exact h.l2,by rw[e3];exact h.l3,by rw[e7'];exact h.l4,h.rng,?_,?_,?_,?_,?_,?_,?_,?_,?_,?_,?_,?_,?_,?_,?_,?_,?_,λ x hx=>by rw[e7] at hx ⊢;(by_cases hn:x∈s.held/\s.sn v<=s.sn x);(rw[if_pos hn] at hx;omega);(rw[if_neg hn] at hx ⊢;exact h.nmx x hx)⟩
 . intro x;rw[Ej,e6];exact h.j4 x
 . intro a b;rw[Ej,Ej];exact h.inj a b
 . intro x;rw[Ej];exact h.Yc x
 . intro x;rw[Ej,ad'];exact h.at0 x
 . intro x;rw[ad'];exact h.atl x
 . intro x;rw[e5,Ej,e7];constructor
   . rintro ⟨hxh,c⟩;obtain ⟨a,b⟩:=(h.Ng x).1 hxh;rw[if_neg (λ hh=>by omega)];exact ⟨a,b⟩
   . rintro ⟨a,b⟩;split at b
     . omega
     . rename_i hn;refine ⟨(h.Ng x).2 ⟨a,b⟩,?_⟩;rcases Nat.lt_or_ge (s.sn x) (s.sn v) with h1 | h1
       . exact h1
       . exact absurd ⟨(h.Ng x).2 ⟨a,b⟩,h1⟩ hn
 . exact e5'.imp λ XG=>by rw[Ej,Ej];exact XG
 . intro p La;rw[e4] at La;exact (e5 p).2 ⟨h.UF p (Iy p La),hps p La⟩
 . rw[e4];have:=h.pso;rw[hp,Bv] at this;exact this.1.imp λ XG=>by rw[Ej,Ej];exact XG
 . intro x hx;rw[e7] at hx ⊢;rw[Ej];split at hx
   . rename_i LW;rw[if_pos LW];obtain ⟨_,k2,k3,_⟩:=hK x LW.1 LW.2;obtain ⟨_,k5,k6,_⟩:=hK y0 hy.1 hy.2;refine ⟨((h.Ng x).1 LW.1).1,y0,rfl,k3.trans k5,k6.trans k2,λ z hz1 hz2=>?_⟩;obtain ⟨m1,m2⟩:=hC z (k2.trans hz1) (hz2.trans k3);exact PF z m1 m2
   . rename_i hn;rw[if_neg hn];exact h.UH x hx
 . intro x y hx hxy;rw[e7] at hx ⊢;split
   . omega
   . rename_i hny;split at hx
     . rename_i LW;rcases (hK x LW.1 LW.2).2.2.2 y hxy with h1 | h1
       . exact h1
       . exact absurd h1 hny
     . exact h.nmc x y hx hxy
 . intro x hx LU;rw[e4] at LU;obtain ⟨h1,h2⟩:=(e5 x).1 hx;rw[ad',lw',Ej];exact h.fin x h1 (Axl x h1 h2 LU)
 . intro x hx k hk y hy hyo;obtain ⟨h1,h2⟩:=(e5 x).1 hx;rw[ad'] at hk;rw[Ej,lw'];obtain ⟨a,b⟩:=h.edg x h1 k hk y hy hyo;exact ⟨a,λ hm=>b ((e5 y).1 hm).1⟩
 . intro x hx;obtain ⟨h1,h2⟩:=(e5 x).1 hx;obtain ⟨a,u,b,c,d⟩:=h.low x h1;rw[lw',Ej];exact ⟨a,u,(e5 u).2 ⟨b,by omega⟩,by rw[Ej];exact c,d⟩
 . intro p La x hx;rw[e4] at La;rw[Ej,Ej];exact h.rch p (Iy p La) x ((e5 x).1 hx).1
 . intro p La x hx LU Ct hq;rw[e4] at La LU hq;obtain ⟨h1,h2⟩:=(e5 x).1 hx;rw[Ej,Ej] at Ct;rw[lw',lw'];refine h.own p (Iy p La) x h1 (Axl x h1 h2 LU) Ct λ q UI V3=>?_;rw[hp] at UI;rcases Av.1 UI with h3 | h3
   . have:=hq q h3;rw[Ej,Ej,Ej] at this;exact this V3
   . rw[Aw.1 h3] at V3;omega
 . intro x hx;obtain ⟨h1,h2⟩:=(e5 x).1 hx;obtain ⟨p,h3,h4⟩:=h.anc x h1;rw[hp] at h3;rcases Av.1 h3 with h5 | h5
   . exact ⟨p,by rw[e4];exact h5,by rw[Ej,Ej];exact h4⟩
   . rw[Aw.1 h5] at h4;omega
theorem TJ.back{g:List (List Int)}{sh:List Bool}{s s':Sr}(h:TJ g sh Pm s){ps:List Nat}{v t:Nat}(hp:s.path=ps++[t]++[v])(ha:s.ad v=(g.getD v []).length)(hl:s.lw v≠s.sn v)
   (e1:s'.seen=s.seen) (e2:∀x,s'.lw x=if x=t then min (s.lw t) (s.lw v) else s.lw x) (e2':s'.low.length=s.low.length) (e3:s'.at_=s.at_) (e4:s'.path=ps++[t]) (e5:s'.held=s.held) (e6:s'.count=s.count) (e7:s'.names=s.names):TJ g sh Pm s':=by
 obtain ⟨hvp,Qh,Io,Yf,TQ,hps,Aqm⟩:=h.last hp;have Ej:∀x,s'.sn x=s.sn x:=λ x=>by unfold Sr.sn;rw[e1]
 have nm':∀x,s'.nm x=s.nm x:=λ x=>by unfold Sr.nm;rw[e7]
 have ad':∀x,s'.ad x=s.ad x:=λ x=>by unfold Sr.ad;rw[e3]
 have hlv:=h.low v Qh;have Iy:∀p∈ps++[t],p∈s.path:=λ p La=>by rw[hp,Av];exact .inl La
 have htp:t∈s.path:=Iy t (by simp);have hth:=h.UF t htp;have htv:s.sn t<s.sn v:=hps t (by simp);have hmt:∀q∈ps++[t],s.sn q<=s.sn t:=by
   have:=h.pso;rw[hp,Bv,Bv] at this;intro q hq;rcases Av.1 hq with h1 | h1
   . exact Nat.le_of_lt (this.1.2.2 q h1 t (by simp))
   . rw[Aw.1 h1];exact Ai _
 have Ct:s.lw v<s.sn v:=by omega
 have TN:∀q,q∈s.path↔q∈ps++[t]∨q=v:=λ q=>by rw[hp,Av,Aw]
 refine ⟨by rw[e1];exact h.l1,by rw[e2'];exact h.l2,by rw[e3];exact h.l3,by rw[e7];exact h.l4,h.rng,?_,?_,?_,?_,?_,?_,?_,?_,?_,?_,?_,?_,?_,?_,?_,?_,?_,λ x=>by rw[nm'];exact h.nmx x⟩
 . intro x;rw[Ej,e6];exact h.j4 x
 . intro a b;rw[Ej,Ej];exact h.inj a b
 . intro x;rw[Ej];exact h.Yc x
 . intro x;rw[Ej,ad'];exact h.at0 x
 . intro x;rw[ad'];exact h.atl x
 . intro x;rw[e5,Ej,nm'];exact h.Ng x
 . rw[e5];exact h.hso.imp λ XG=>by rw[Ej,Ej];exact XG
 . intro p La;rw[e4] at La;rw[e5];exact h.UF p (Iy p La)
 . rw[e4];have:=h.pso;rw[hp,Bv] at this;exact this.1.imp λ XG=>by rw[Ej,Ej];exact XG
 . intro x;rw[nm',Ej];exact h.UH x
 . intro x y;rw[nm',nm'];exact h.nmc x y
 . intro x hx LU;rw[e5] at hx;rw[e4] at LU;have hxt:x≠t:=λ e=>LU (by rw[e];simp);rw[ad',e2,if_neg hxt,Ej];by_cases p4:x=v
   . subst p4;exact ⟨ha,Ct⟩
   . exact h.fin x hx λ hm=>by exact ((TN x).1 hm).elim LU p4
 . intro x hx k hk y hy hyo;rw[e5] at hx;rw[ad'] at hk;rw[Ej,e5,e2];obtain ⟨a,b⟩:=h.edg x hx k hk y hy hyo;refine ⟨a,λ hm=>?_⟩;have:=b hm;split
   . rename_i e;subst e;omega
   . exact this
 . intro x hx;rw[e5] at hx;obtain ⟨a,u,b,c,d⟩:=h.low x hx;rw[e2,Ej];by_cases hxt:x=t
   . subst hxt;rw[if_pos rfl];refine ⟨by omega,?_⟩;rcases Nat.le_total (s.lw x) (s.lw v) with h1 | h1
     . exact ⟨u,by rw[e5];exact b,by rw[Ej,Nat.min_eq_left h1];exact c,d⟩
     . obtain ⟨_,u2,b2,c2,d2⟩:=hlv;exact ⟨u2,by rw[e5];exact b2,by rw[Ej,Nat.min_eq_right h1];exact c2,(h.rch x htp v Qh (by omega)).trans d2⟩
   . rw[if_neg hxt];exact ⟨a,u,by rw[e5];exact b,by rw[Ej];exact c,d⟩
 . intro p La x hx;rw[e4] at La;rw[e5] at hx;rw[Ej,Ej];exact h.rch p (Iy p La) x hx
 . intro p La x hx LU Sn hq;rw[e4] at La LU hq;rw[e5] at hx;rw[Ej,Ej] at Sn;have hxt:x≠t:=λ e=>LU (by rw[e];simp);have V3:∀q∈ps++[t],s.sn q<=s.sn x->s.sn q<=s.sn p:=λ q h1 h2=>by have:=hq q h1;rw[Ej,Ej,Ej] at this;exact this h2
   rw[e2,e2,if_neg hxt];have base:s.sn v<=s.sn x->p=t/\s.lw v<=s.lw x:=by
     intro Nd;have h1:=V3 t (by simp) (by omega);have h2:=hmt p La;have hpt:p=t:=h.inj p t (by omega) ((h.Ng p).1 (h.UF p (Iy p La))).1;refine ⟨hpt,?_⟩;by_cases p4:x=v
     . rw[p4];exact Ai _
     . have Dl:s.sn v≠s.sn x:=λ e=>p4 (h.inj x v e.symm ((h.Ng x).1 hx).1);exact h.own v hvp x hx (λ hm=>by exact ((TN x).1 hm).elim LU p4) (by omega) λ q UI _=>TQ q UI
   rcases Nat.lt_or_ge (s.sn x) (s.sn v) with Nd | Nd
   . have:=h.own p (Iy p La) x hx (λ hm=>by
       rcases (TN x).1 hm with h3 | h3
       . exact LU h3
       . rw[h3] at Nd;omega) Sn λ q UI hq3=>by
         rcases (TN q).1 UI with h3 | h3
         . exact V3 q h3 hq3
         . rw[h3] at hq3;omega
     split
     . rename_i e;subst e;omega
     . exact this
   . obtain ⟨h1,h2⟩:=base Nd;rw[if_pos h1];omega
 . intro x hx;rw[e5] at hx;obtain ⟨p,h3,h4⟩:=h.anc x hx;rcases (TN p).1 h3 with h5 | h5
   . exact ⟨p,by rw[e4];exact h5,by rw[Ej,Ej];exact h4⟩
   . rw[h5] at h4;exact ⟨t,by rw[e4];simp,by rw[Ej,Ej];omega⟩
theorem TJ.root{g:List (List Int)}{sh:List Bool}{s:Sr}(h:TJ g sh Pm s){v:Nat}(hp:s.path=[v]):s.lw v=s.sn v:=by
 obtain ⟨hvp,Qh,_⟩:=h.last (ps:=[]) (v:=v) hp;obtain ⟨a,u,b,c,_⟩:=h.low v Qh;obtain ⟨p,h1,h2⟩:=h.anc u b;rw[hp] at h1;rw[Aw.1 h1] at h2;omega
def UU(n:Nat)(f:Nat->Nat):Nat:=((List.range n).map f).sum
theorem IX(n:Nat)(f:Nat->Nat):UU (n+1) f=UU n f+f n:=by simp[UU,List.range_succ]
theorem u4(n:Nat){f f':Nat->Nat}(h:∀x,x<n->f' x=f x):UU n f'=UU n f:=by
 induction n with
 | zero=>rfl
 | succ n ih=>rw[IX,IX,ih (λ x hx=>h x (by omega)),h n (by omega)]
theorem YE{n v d:Nat}{f f':Nat->Nat}(hv:v<n)(h:∀x,x≠v->f' x=f x)(h1:f' v+d=f v):UU n f'+d=UU n f:=by
 induction n with
 | zero=>omega
 | succ n ih=>
   rw[IX,IX];by_cases e:v=n
   . subst e;rw[u4 v (f:=f) (f':=f') (λ x hx=>h x (by omega))];omega
   . have:=ih (by omega);rw[h n (Bm e)];omega
def QD(g:List (List Int))(s:Sr):Nat:=UU g.length λ v=>(g.getD v []).length - s.ad v
def Lv(g:List (List Int))(s:Sr):Nat:=UU g.length λ v=>if s.sn v=0 then 1 else 0
def FM(g:List (List Int))(s:Sr):Nat:=QD g s+2*Lv g s+s.path.length
theorem QA{g:List (List Int)}{s s':Sr}{v:Nat}(hv:v<g.length)(hk:s.ad v<(g.getD v []).length)(h:∀x,s'.ad x=if x=v then s.ad v+1 else s.ad x):QD g s'+1=QD g s:=by
 unfold QD;refine YE hv (λ x hx=>by rw[h,if_neg hx]) ?_;rw[h,if_pos rfl];omega
theorem QB{g:List (List Int)}{s s':Sr}(h:s'.at_=s.at_):QD g s'=QD g s:=by unfold QD Sr.ad;rw[h]
theorem Ic{g:List (List Int)}{s s':Sr}(h:s'.seen=s.seen):Lv g s'=Lv g s:=by unfold Lv Sr.sn;rw[h]
theorem Adg{g:List (List Int)}{s:Sr}{v:Nat}(hv:v<g.length)(hl:s.seen.length=g.length)(h0:s.sn v=0):Lv g (s.enter v)+1=Lv g s:=by
 have Ej:∀w,(s.enter v).sn w=if w=v then s.count+1 else s.sn w:=λ w=>E6 _ _ _ _ _ (by rw[hl];exact hv)
 unfold Lv;refine YE hv (λ x hx=>by rw[Ej,if_neg hx]) ?_;rw[Ej,if_pos rfl,h0];simp
theorem Aim(g:List (List Int))(s:Sr):Lv g s<=g.length:=by
 unfold Lv;generalize g.length=n
 induction n with
 | zero=>exact Ai _
 | succ n ih=>rw[IX];split<;>omega
theorem At8(n:Int)(h0:0<=n)(h1:n<=24):IntKind.u64.wrap n=n:=Vp n h0 (by omega)
theorem At9(n:Int)(h0:0<=n)(h1:n<=24):IntKind.i64.wrap n=n:=by
 simp[IntKind.wrap,IntKind.bits,IntKind.signed];omega
def Jf(n k:Nat):List Int:=List.replicate k (-1)++List.replicate (n - k) 0
theorem YQ(n k:Nat)(h:k<=n):(Jf n k).length=n:=by simp[Jf];omega
theorem Adu(n:Nat):Jf n n=List.replicate n (-1):=by simp[Jf]
theorem Adt(n k:Nat)(h:k<=n):(Jf n k).take k++((Jf n k).take k).take (n - k)++(Jf n k).drop (k+min (n - k) k)=Jf n (k+min (n - k) k):=by
 have t1:(Jf n k).take k=List.replicate k (-1):=by simp[Jf]
 have t2:(List.replicate k (-1:Int)).take (n - k)=List.replicate (min (n - k) k) (-1):=by simp
 have t3:(Jf n k).drop (k+min (n - k) k)=List.replicate (n - (k+min (n - k) k)) 0:=by
   simp only[Jf,List.drop_append,BH];rw[List.drop_eq_nil_of_le (by simp),Bh,List.drop_replicate]
   congr 1;omega
 rw[t1,t2,t3,List.replicate_append_replicate];rfl
theorem Azl(l:List Int):LI 1 (BX l):=by simp[LI,BX]
theorem Apm(n:Nat)(hn:n<=24):
   BZ prog 117 [.p (.sl (BX [-1])),.p (.int .i64 (n:Nat))] [] λ h d=>h=[(0,.arr 3 1 (BX (List.replicate n (-1))))]/\d= .ref 0 0 n n:=by
 have h0:(0:Int)<=(n:Nat):=by omega
 have h1:((n:Nat):Int)<=24:=by omega
 have w1:=At8 n h0 h1;have w2:=At9 n h0 h1;have c1:decide (((n:Nat):Int)<0)=false:=by simp
 have w3:IntKind.u64.wrap 1=1:=Vp 1 (by omega) (by omega);refine B1 func117 rfl Agj (by simp[Tryz.f117]) ?_;simp only[go_sem,c1,w1,w3];refine Cq ((Au3 n h0 (by omega))) ?_;have c2:decide (9223372036854775807<((n:Nat):Int))=false:=by simp;omega
 simp only[go_sem,c2,w2,Ab];refine ⟨by omega,⟨⟨by simp[LI,BX],by simp⟩,?_⟩⟩;refine B5 (λ k:Nat=>⟨[(7,.ref 30 0 n n),(8,.p (.int .i64 (k:Nat)))],[(30,.arr 3 1 (BX (Jf n k)))],48⟩) (λ k=>k<=n/\(k=0->n=0)) (λ k=>n - k) (min n 1) ⟨by omega,by omega⟩
   ?_ ?_
 . rcases n with _ | n
   . exact (Wk.forget (by simp[ZF,Jf]))
   . have e1:min (n+1) 1=1:=by omega
     rw[e1];exact (Wk.forget (by simp[ZF,BX,Jf]))
 rintro k m ⟨Q5,JF⟩ ih;cases c3:decide ((k:Int)<(n:Nat))
 . obtain rfl:k=n:=by have:=Ae c3;omega
   have hl:=YQ k k (Ai _);simp only[go_sem,c3,hl];refine C0 ?_;simp only[go_sem,c3,hl,Adu]
 . have hk3:k<n:=by simpa using Ad c3
   have hl:=YQ n k (by omega);have h4:(0:Int)<=(k:Int)/\(k:Int)<=((n:Nat):Int):=by omega
   simp only[go_sem,c3,h4,hl];refine Dm [(30,.arr 3 1 (BX (Jf n k)))] mixed (p:=[(0,0),(1,0),(2,0),(3,0),(4,0),(5,0),(6,0),(7,4),(8,4),(9,4)]) (by kernel_rfl) (by simp[C8,get]) ?_;have Sp:(BX (Jf n k)).length=n:=by rw[BW];exact hl
   have e1:(((n:Nat):Int) - (k:Int)).toNat=n - k:=by omega
   have e2:((k:Int) - 0).toNat=k:=by omega
   have e3:((BX (Jf n k)).take k).length=k:=by rw[Bi,Sp];omega
   have e4:IntKind.i64.wrap ((k:Int)+((min (n - k) k:Nat):Int))=((k+min (n - k) k:Nat):Int):=by
     simp[IntKind.wrap,IntKind.bits,IntKind.signed];omega
   have e5:(BX (Jf n k)).take k++((BX (Jf n k)).take k).take (n - k)++(BX (Jf n k)).drop (k+min (n - k) k)=BX (Jf n (k+min (n - k) k)):=by
     rw[<-Adt n k Q5];simp[BX,Bz,List.map_drop]
   have e6:LI 1 ((BX (Jf n k)).take k):=by
     rw[Li];exact Azl _
   simp only[go_sem,c3,h4,hl];simp only[e1,e2,e3,e4,e5];refine ⟨BP _,⟨e6,by omega⟩,ih (k+min (n - k) k) _ ⟨by omega,by omega⟩ (by omega) (Wk.forget (by simp[ZF]))⟩
def XD(a0:List Int)(a1:Int):Int->Option ((Int)⊕(Int⊕Bool))
 | v2=>cond (decide (v2<((a0.length:Nat):Int))) (Option.bind (CE a0 v2) λ x9=>cond (decide (x9=a1)) (some (Sum.inr (.inr ((true:Bool))))) (some (Sum.inl (IntKind.i64.wrap (v2+1))))) (some (Sum.inr (.inl v2)))
def Aco(a0:List Int)(a1:Int):Option (Bool):=
 Option.bind (Cv (XD a0 a1) 0) (λ | .inl SQ=>some false | .inr (r15)=>some r15)
def Nb(a0:List Int)(a1:Int):(List Int)×Bool×Int->Option (((List Int)×Bool×Int)⊕(((List Int)×Bool×Int)))
 | (v6,v7,v8)=>cond (decide (v8<((a0.length:Nat):Int))) (cond v7 (Option.bind (CE a0 v8) λ NQ=>cond (decide (v6.length+1<10000000)) (some (Sum.inl ((v6++[NQ]),true,(IntKind.i64.wrap (v8+1))))) none) (Option.bind (CE a0 v8) λ UE=>cond (decide (a1<UE)) (cond (decide (v6.length+1<10000000)) (cond (decide ((v6++[a1]).length+1<10000000)) (some (Sum.inl (((v6++[a1])++[UE]),true,(IntKind.i64.wrap (v8+1))))) none) none) (cond (decide (v6.length+1<10000000)) (some (Sum.inl ((v6++[UE]),false,(IntKind.i64.wrap (v8+1))))) none))) (some (Sum.inr (v6,v7,v8)))
def TC(a0:List Int)(a1:Int):Option ((List Int)):=
 Option.bind (Cv (Nb a0 a1) ([],false,0)) (λ (v32,v33,v34)=>cond v33 (some v32) (cond (decide (v32.length+1<10000000)) (some (v32++[a1])) none))
def M4(a0:Nt)(a1:List UInt8):Int->Option ((Int)⊕(Int⊕Int))
 | v2=>cond (decide (v2<((a0.blocks.length:Nat):Int))) (Option.bind (CE a0.blocks v2) λ x9=>cond (decide (x9.name=a1)) (some (Sum.inr (.inr ((v2:Int))))) (some (Sum.inl (IntKind.i64.wrap (v2+1))))) (some (Sum.inr (.inl v2)))
def Ih(a0:Nt)(a1:List UInt8):Option (Int):=
 Option.bind (Cv (M4 a0 a1) 0) (λ | .inl SQ=>some (-1) | .inr (r15)=>some r15)
def Pb(a0:Nt)(a1:List UInt8):Int->Option ((Int)⊕(Int⊕Int))
 | v2=>cond (decide (v2<((a0.spurs.length:Nat):Int))) (Option.bind (CE a0.spurs v2) λ x9=>cond (decide (x9.name=a1)) (some (Sum.inr (.inr ((v2:Int))))) (some (Sum.inl (IntKind.i64.wrap (v2+1))))) (some (Sum.inr (.inl v2)))
def Pa(a0:Nt)(a1:List UInt8):Option (Int):=
 Option.bind (Cv (Pb a0 a1) 0) (λ | .inl SQ=>some (-1) | .inr (r15)=>some r15)
def J0(a0:Ai9):Option (Bool):=
 cond (decide (1<=a0.cq)) (cond (decide (a0.cq<=8)) (cond (decide (0<=a0.ca)) (cond (decide (a0.ca<=4)) (cond (decide (0<=a0.cd)) (cond (decide (a0.cd<=3)) (cond (decide (1<=a0.cp)) (some (decide (a0.cp<=16))) (some false)) (some false)) (some false)) (some false)) (some false)) (some false)) (some false)
def QF(a0:List ER)(a1:List (List Int))(a2:List C3)(a3:List Int)(a4:Int)(a5:Int)(a6:Int)(a7:Int)(a8:Bool)(a9:Dc):Option (Int×(List ER)×(List (List Int))×(List C3)×(List Int)×Int×Int×Int×Int×Bool):=
 Option.bind (CE a9.names 0) λ x1=>Option.bind (Ih (⟨a0,a1,a2,a3,a4,a5,a6,a7⟩:Nt) x1) λ x5=>cond (decide (0<=x5)) (some (8,a0,a1,a2,a3,a4,a5,a6,a7,a8)) (Option.bind (Pa (⟨a0,a1,a2,a3,a4,a5,a6,a7⟩:Nt) x1) λ x8=>cond (decide (0<=x8)) (some (8,a0,a1,a2,a3,a4,a5,a6,a7,a8)) (cond (decide (((a0.length:Nat):Int)=24)) (some (14,a0,a1,a2,a3,a4,a5,a6,a7,a8)) (Option.bind (CE a9.B7 0) λ x12=>Option.bind (CE a9.B7 1) λ Qm=>cond (decide (a0.length+1<10000000)) (cond (decide (a1.length+1<10000000)) (some (0,(a0++[(⟨x1,x12,Qm⟩:ER)]),(a1++[[]]),a2,a3,a4,a5,a6,a7,a8)) none) none)))
def Kk(a0:List ER)(a2:List C3)(a3:List Int)(a4:Int)(a5:Int)(a6:Int)(a7:Int)(a8:Bool)(a9:Dc):(List (List Int))×Int->Option (((List (List Int))×Int)⊕(((List (List Int))×Int)⊕(Int×(List ER)×(List (List Int))×(List C3)×(List Int)×Int×Int×Int×Int×Bool)))
 | (v3,v4)=>cond (decide ((IntKind.i64.wrap (v4+1))<((a9.names.length:Nat):Int))) (Option.bind (CE a9.names v4) λ DI=>Option.bind (CE a9.names (IntKind.i64.wrap (v4+1))) λ x15=>Option.bind (Ih (⟨a0,v3,a2,a3,a4,a5,a6,a7⟩:Nt) DI) λ Yl=>Option.bind (Ih (⟨a0,v3,a2,a3,a4,a5,a6,a7⟩:Nt) x15) λ Vo=>cond (decide (Yl<0)) (some (Sum.inr (.inr (((9,a0,v3,a2,a3,a4,a5,a6,a7,a8):Int×(List ER)×(List (List Int))×(List C3)×(List Int)×Int×Int×Int×Int×Bool))))) (cond (decide (Vo<0)) (some (Sum.inr (.inr (((9,a0,v3,a2,a3,a4,a5,a6,a7,a8):Int×(List ER)×(List (List Int))×(List C3)×(List Int)×Int×Int×Int×Int×Bool))))) (cond (decide (Yl=Vo)) (some (Sum.inr (.inr (((10,a0,v3,a2,a3,a4,a5,a6,a7,a8):Int×(List ER)×(List (List Int))×(List C3)×(List Int)×Int×Int×Int×Int×Bool))))) (Option.bind (CE v3 Yl) λ NQ=>Option.bind (Aco NQ Vo) λ UO=>cond UO (some (Sum.inr (.inr (((11,a0,v3,a2,a3,a4,a5,a6,a7,a8):Int×(List ER)×(List (List Int))×(List C3)×(List Int)×Int×Int×Int×Int×Bool))))) (cond (decide (((NQ.length:Nat):Int)=4)) (some (Sum.inr (.inr (((14,a0,v3,a2,a3,a4,a5,a6,a7,a8):Int×(List ER)×(List (List Int))×(List C3)×(List Int)×Int×Int×Int×Int×Bool))))) (Option.bind (TC NQ Vo) λ SL=>some (Sum.inl ((v3.set (Int.toNat Yl) SL),(IntKind.i64.wrap (v4+1)))))))))) (some (Sum.inr (.inl (v3,v4))))
def Td(a0:List ER)(a1:List (List Int))(a2:List C3)(a3:List Int)(a4:Int)(a5:Int)(a6:Int)(a7:Int)(a8:Bool)(a9:Dc):Option (Int×(List ER)×(List (List Int))×(List C3)×(List Int)×Int×Int×Int×Int×Bool):=
 Option.bind (Cv (Kk a0 a2 a3 a4 a5 a6 a7 a8 a9) (a1,0)) (λ | .inl (v36,v37)=>some (0,a0,v36,a2,a3,a4,a5,a6,a7,a8) | .inr (r38)=>some r38)
def Pf(a0:List ER)(a1:List (List Int))(a2:List C3)(a3:List Int)(a4:Int)(a5:Int)(a6:Int)(a7:Int)(a8:Bool)(a9:Dc):Option (Int×(List ER)×(List (List Int))×(List C3)×(List Int)×Int×Int×Int×Int×Bool):=
 Option.bind (CE a9.names 1) λ x1=>Option.bind (CE a9.names 2) λ x5=>Option.bind (Ih (⟨a0,a1,a2,a3,a4,a5,a6,a7⟩:Nt) x1) λ x9=>Option.bind (Ih (⟨a0,a1,a2,a3,a4,a5,a6,a7⟩:Nt) x5) λ DI=>Option.bind (CE a9.names 0) λ Qn=>Option.bind (Ih (⟨a0,a1,a2,a3,a4,a5,a6,a7⟩:Nt) Qn) λ Ym=>cond (decide (0<=Ym)) (some (8,a0,a1,a2,a3,a4,a5,a6,a7,a8)) (Option.bind (Pa (⟨a0,a1,a2,a3,a4,a5,a6,a7⟩:Nt) Qn) λ s6=>cond (decide (0<=s6)) (some (8,a0,a1,a2,a3,a4,a5,a6,a7,a8)) (cond (decide (x9<0)) (some (9,a0,a1,a2,a3,a4,a5,a6,a7,a8)) (cond (decide (DI<0)) (some (9,a0,a1,a2,a3,a4,a5,a6,a7,a8)) (Option.bind (CE a9.B7 0) λ Qg=>cond (decide (Qg<1)) (some (12,a0,a1,a2,a3,a4,a5,a6,a7,a8)) (cond (decide (4<Qg)) (some (12,a0,a1,a2,a3,a4,a5,a6,a7,a8)) (cond (decide (((a2.length:Nat):Int)=6)) (some (14,a0,a1,a2,a3,a4,a5,a6,a7,a8)) (cond (decide (a2.length+1<10000000)) (some (0,a0,a1,(a2++[(⟨Qn,decide (a9.word=4),x9,DI,Qg,0⟩:C3)]),a3,a4,a5,a6,a7,a8)) none)))))))
def QE(a0:List ER)(a1:List (List Int))(a2:List C3)(a3:List Int)(a4:Int)(a5:Int)(a6:Int)(a7:Int)(a8:Bool)(a9:Dc):Option (Int×(List ER)×(List (List Int))×(List C3)×(List Int)×Int×Int×Int×Int×Bool):=
 Option.bind (CE a9.names 0) λ x1=>Option.bind (Pa (⟨a0,a1,a2,a3,a4,a5,a6,a7⟩:Nt) x1) λ x5=>cond (decide (x5<0)) (some (9,a0,a1,a2,a3,a4,a5,a6,a7,a8)) (Option.bind (CE a2 x5) λ x8=>cond x8.CA (Option.bind (CE a9.B7 0) λ Qn=>cond (decide (Qn<1)) (some (12,a0,a1,a2,a3,a4,a5,a6,a7,a8)) (cond (decide (x8.Co<Qn)) (some (12,a0,a1,a2,a3,a4,a5,a6,a7,a8)) (Option.bind (Aco a3 (IntKind.i64.wrap ((IntKind.i64.wrap (x5*8))+Qn))) λ Yl=>cond Yl (some (13,a0,a1,a2,a3,a4,a5,a6,a7,a8)) (cond (decide (((a3.length:Nat):Int)=8)) (some (14,a0,a1,a2,a3,a4,a5,a6,a7,a8)) (cond (decide (a3.length+1<10000000)) (some (0,a0,a1,a2,(a3++[(IntKind.i64.wrap ((IntKind.i64.wrap (x5*8))+Qn))]),a4,a5,a6,a7,a8)) none))))) (some (9,a0,a1,a2,a3,a4,a5,a6,a7,a8)))
def Oh(a0:List ER)(a1:List (List Int))(a2:List C3)(a3:List Int)(a4:Int)(a5:Int)(a6:Int)(a7:Int)(a8:Bool)(a9:Dc):Option (Int×(List ER)×(List (List Int))×(List C3)×(List Int)×Int×Int×Int×Int×Bool):=
 cond a8 (some (11,a0,a1,a2,a3,a4,a5,a6,a7,true)) (Option.bind (CE a9.B7 0) λ x2=>Option.bind (CE a9.B7 1) λ x6=>Option.bind (CE a9.B7 2) λ OU=>Option.bind (CE a9.B7 3) λ O1=>Option.bind (J0 (⟨x2,x6,OU,O1⟩:Ai9)) λ UE=>cond UE (some (0,a0,a1,a2,a3,x2,x6,OU,O1,true)) (some (19,a0,a1,a2,a3,a4,a5,a6,a7,false)))
def PO(l:List UInt8):Option Bool:=some (CL l)
theorem Wf(l:List UInt8)(r:Bool)(h:PO l=some r):BZ prog 42 [.p (.str l)] [] λ h d=>h=[]/\d= .p (.bool r):=by cases h;exact Pp l
def Abz(l:List UInt8):Option Bool:=some (CL l)
def L6(a0:Int):Option (Int×Int):=
 cond (decide (a0=1)) (some (1,2)) (cond (decide (a0=2)) (some (2,0)) (cond (decide (a0=3)) (some (3,1)) (cond (decide (a0=4)) (some (3,1)) (cond (decide (a0=5)) (some (1,1)) (some (0,4))))))
def F7(a0:Dc):Int->Option ((Int)⊕(Int⊕Bool))
 | v18=>cond (decide (v18<((a0.B7.length:Nat):Int))) (Option.bind (CE a0.B7 v18) λ Qg=>cond (decide (Qg<(-9999))) (some (Sum.inr (.inr ((false:Bool))))) (cond (decide (9999<Qg)) (some (Sum.inr (.inr ((false:Bool))))) (some (Sum.inl (IntKind.i64.wrap (v18+1)))))) (some (Sum.inr (.inl v18)))
def F6(a0:Dc):Int->Option ((Int)⊕(Int⊕Bool))
 | v10=>cond (decide (v10<((a0.names.length:Nat):Int))) (Option.bind (CE a0.names v10) λ x33=>Option.bind (Abz x33) λ x37=>cond x37 (some (Sum.inl (IntKind.i64.wrap (v10+1)))) (some (Sum.inr (.inr ((false:Bool)))))) (some (Sum.inr (.inl v10)))
def L7(a0:Dc):Option (Bool):=
 cond (decide (a0.word<1)) (some false) (cond (decide (6<a0.word)) (some false) (Option.bind (L6 a0.word) λ (x3,x4)=>cond (decide (((a0.B7.length:Nat):Int)=x4)) (cond (decide (((a0.names.length:Nat):Int)<x3)) (some false) (cond (decide (x3<((a0.names.length:Nat):Int))) (cond (decide (a0.word=2)) (Option.bind (Cv (F6 a0) 0) (λ | .inl v90=>Option.bind (Cv (F7 a0) 0) (λ | .inl v105=>some true | .inr (Bao)=>some Bao) | .inr (Ban)=>some Ban)) (some false)) (Option.bind (Cv (F6 a0) 0) (λ | .inl v40=>Option.bind (Cv (F7 a0) 0) (λ | .inl v55=>some true | .inr (r56)=>some r56) | .inr (r57)=>some r57)))) (some false)))
def JM(a0:List ER)(a1:List (List Int))(a2:List C3)(a3:List Int)(a4:Int)(a5:Int)(a6:Int)(a7:Int)(a8:Bool)(a9:Dc):Option (Int×(List ER)×(List (List Int))×(List C3)×(List Int)×Int×Int×Int×Int×Bool):=
 Option.bind (L7 (⟨a9.word,a9.line,a9.names,a9.B7⟩:Dc)) λ x1=>cond x1 (cond (decide (a9.word=1)) (Option.bind (QF a0 a1 a2 a3 a4 a5 a6 a7 a8 (⟨a9.word,a9.line,a9.names,a9.B7⟩:Dc)) λ (x64,x65,x66,x67,x68,x69,x70,Lt,x72,x73)=>some (x64,x65,x66,x67,x68,x69,x70,Lt,x72,x73)) (cond (decide (a9.word=2)) (Option.bind (Td a0 a1 a2 a3 a4 a5 a6 a7 a8 (⟨a9.word,a9.line,a9.names,a9.B7⟩:Dc)) λ (x53,x54,x55,x56,x57,x58,x59,x60,x61,x62)=>some (x53,x54,x55,x56,x57,x58,x59,x60,x61,x62)) (cond (decide (a9.word=3)) (Option.bind (Pf a0 a1 a2 a3 a4 a5 a6 a7 a8 (⟨a9.word,a9.line,a9.names,a9.B7⟩:Dc)) λ (x42,x43,x44,x45,x46,x47,x48,x49,X9,x51)=>some (x42,x43,x44,x45,x46,x47,x48,x49,X9,x51)) (cond (decide (a9.word=4)) (Option.bind (Pf a0 a1 a2 a3 a4 a5 a6 a7 a8 (⟨a9.word,a9.line,a9.names,a9.B7⟩:Dc)) λ (x31,x32,x33,SL,p0,x36,x37,x38,x39,x40)=>some (x31,x32,x33,SL,p0,x36,x37,x38,x39,x40)) (cond (decide (a9.word=5)) (Option.bind (QE a0 a1 a2 a3 a4 a5 a6 a7 a8 (⟨a9.word,a9.line,a9.names,a9.B7⟩:Dc)) λ (s6,Vo,x22,x23,x24,Qg,NQ,WQ,x28,x29)=>some (s6,Vo,x22,x23,x24,Qg,NQ,WQ,x28,x29)) (Option.bind (Oh a0 a1 a2 a3 a4 a5 a6 a7 a8 (⟨a9.word,a9.line,a9.names,a9.B7⟩:Dc)) λ (x9,OU,DI,x12,Qn,O1,x15,Qm,Ym,UE)=>some (x9,OU,DI,x12,Qn,O1,x15,Qm,Ym,UE))))))) (some (20,a0,a1,a2,a3,a4,a5,a6,a7,a8))
def FY(a0:List Int)(a1:List Int):Int->Option ((Int)⊕(Int⊕Bool))
 | v3=>cond (decide (v3<((a0.length:Nat):Int))) (Option.bind (CE a0 v3) λ OU=>Option.bind (CE a1 v3) λ O1=>cond (decide (OU=O1)) (some (Sum.inl (IntKind.i64.wrap (v3+1)))) (some (Sum.inr (.inr ((false:Bool)))))) (some (Sum.inr (.inl v3)))
def ES(a0:List Int)(a1:List Int):Option (Bool):=
 cond (decide (((a0.length:Nat):Int)=((a1.length:Nat):Int))) (Option.bind (Cv (FY a0 a1) 0) (λ | .inl Ya=>some true | .inr (r20)=>some r20)) (some false)
theorem Ix(a0:List Int)(a1:List Int)(r:Bool)(hr:ES a0 a1=some r):
   BZ prog 26 [.p (.sl (BX a0)),.p (.sl (BX a1))] [] λ h d=>h=[]/\d= .p (.bool r):=by
 refine B1 func26 rfl Amx (by simp[Tryz.f26]) ?_;unfold ES at hr;cases c1:decide (((a0.length:Nat):Int)=((a1.length:Nat):Int))
 . simp only[c1,Aj] at hr;cases hr;(try simp only[go_sem,c1]);all_goals ((try refine BY ?_);(try simp only[go_sem,c1]);try first | rfl | exact ⟨rfl,rfl⟩ | (simp;done))
 simp only[c1,Ak] at hr;obtain ⟨e7,g8,hr⟩:=bE hr;try simp only[go_sem,c1]
 refine CQ g8 (λ q:Int=>⟨[(0,.p (.sl (BX a0))),(1,.p (.sl (BX a1))),(5,.p (.int .i64 q))],[],26⟩) ((Wk.forget (by simp[ZF,ZE]))) ?_;rintro v3 m6 D7 U6;rw[FY.eq_1] at D7;cases c9:decide (v3<((a0.length:Nat):Int))
 . simp only[c9,Aj] at D7;simp only[Aa,B2] at D7;cases D7;(try dsimp only at hr);cases hr;(try simp only[go_sem,c9]);all_goals ((try refine BY ?_);(try simp only[go_sem,c9]);try first | rfl | exact ⟨rfl,rfl⟩ | (simp;done))
 simp only[c9,Ak] at D7;try simp only[go_sem,c9]
 refine CH mixed (p:=[(0,0),(1,0),(2,0),(3,0),(4,0),(5,0),(6,0),(7,0),(8,0)]) (by kernel_rfl) (by simp[C8,get]) ?_;obtain ⟨OU,g11,D7⟩:=bK D7;have f12:=B9 g11;have f13:(BX a0).getD (Int.toNat v3) []=[(.int .i64 OU)]:=Ca _ g11;obtain ⟨O1,g15,D7⟩:=bK D7;have f16:=B9 g15;have f17:(BX a1).getD (Int.toNat v3) []=[(.int .i64 O1)]:=Ca _ g15;cases JG:decide (OU=O1)
 . simp only[JG,Aj] at D7;simp only[Aa,B2] at D7;cases D7;(try dsimp only at hr);cases hr;(try simp only[go_sem,f12,f13,f16,f17,JG]);all_goals ((try refine BY ?_);(try simp only[go_sem,f12,f13,f16,f17,JG]);try first | rfl | exact ⟨rfl,rfl⟩ | (simp;done))
 simp only[JG,Ak] at D7;simp only[Aa,B4] at D7;try simp only[go_sem,f12,f13,f16,f17,JG]
 exact U6 (IntKind.i64.wrap (v3+1)) _ D7 ((Wk.forget (by simp[ZF,ZE])))
def Fy(a0:List (List Int))(a1:List (List Int)):Int->Option ((Int)⊕(Int⊕Bool))
 | v3=>cond (decide (v3<((a0.length:Nat):Int))) (Option.bind (CE a0 v3) λ OU=>Option.bind (CE a1 v3) λ O1=>Option.bind (ES OU O1) λ UE=>cond UE (some (Sum.inl (IntKind.i64.wrap (v3+1)))) (some (Sum.inr (.inr ((false:Bool)))))) (some (Sum.inr (.inl v3)))
def FX(a0:List (List Int))(a1:List (List Int)):Option (Bool):=
 cond (decide (((a0.length:Nat):Int)=((a1.length:Nat):Int))) (Option.bind (Cv (Fy a0 a1) 0) (λ | .inl v21=>some true | .inr (r22)=>some r22)) (some false)
theorem QR(a0:List (List Int))(a1:List (List Int))(r:Bool)(hr:FX a0 a1=some r):
   BZ prog 34 [.p (.sl (Cr a0)),.p (.sl (Cr a1))] [] λ h d=>h=[]/\d= .p (.bool r):=by
 refine B1 func34 rfl Amq (by simp[Tryz.f34]) ?_;unfold FX at hr;cases c1:decide (((a0.length:Nat):Int)=((a1.length:Nat):Int))
 . simp only[c1,Aj] at hr;cases hr;(try simp only[go_sem,c1]);all_goals ((try refine BY ?_);(try simp only[go_sem,c1]);try first | rfl | exact ⟨rfl,rfl⟩ | (simp;done))
 simp only[c1,Ak] at hr;obtain ⟨e7,g8,hr⟩:=bE hr;try simp only[go_sem,c1]
 refine CQ g8 (λ q:Int=>⟨[(0,.p (.sl (Cr a0))),(1,.p (.sl (Cr a1))),(5,.p (.int .i64 q))],[],27⟩) ((Wk.forget (by simp[ZF,ZE]))) ?_;rintro v3 m6 D7 U6;rw[Fy.eq_1] at D7;cases c9:decide (v3<((a0.length:Nat):Int))
 . simp only[c9,Aj] at D7;simp only[Aa,B2] at D7;cases D7;(try dsimp only at hr);cases hr;(try simp only[go_sem,c9]);all_goals ((try refine BY ?_);(try simp only[go_sem,c9]);try first | rfl | exact ⟨rfl,rfl⟩ | (simp;done))
 simp only[c9,Ak] at D7;try simp only[go_sem,c9]
 refine CH mixed (p:=[(0,0),(1,0),(2,0),(3,0),(4,0),(5,0),(6,0),(7,0),(8,2),(9,0)]) (by kernel_rfl) (by simp[C8,get]) ?_;obtain ⟨OU,g11,D7⟩:=bK D7;have f12:=B9 g11;have f13:(Cr a0).getD (Int.toNat v3) []=[(.sl (BX OU))]:=Ca _ g11;obtain ⟨O1,g15,D7⟩:=bK D7;have f16:=B9 g15;have f17:(Cr a1).getD (Int.toNat v3) []=[(.sl (BX O1))]:=Ca _ g15;obtain ⟨UE,g19,D7⟩:=bK D7;try simp only[go_sem,f12,f13,f16,f17]
 refine Gq (Ix OU O1 _ g19) ?_;cases WH:UE
 . simp only[WH,Aj] at D7;simp only[Aa,B2] at D7;cases D7;(try dsimp only at hr);cases hr;(try simp only[go_sem,WH]);all_goals ((try refine BY ?_);(try simp only[go_sem,WH]);try first | rfl | exact ⟨rfl,rfl⟩ | (simp;done))
 simp only[WH,Ak] at D7;simp only[Aa,B4] at D7;try simp only[go_sem,WH]
 exact U6 (IntKind.i64.wrap (v3+1)) _ D7 ((Wk.forget (by simp[ZF,ZE,WH])))
def Jb(a0:Nt)(a1:Nt):Int->Option ((Int)⊕(Int⊕Bool))
 | Ya=>cond (decide (Ya<((a0.spurs.length:Nat):Int))) (Option.bind (CE a0.spurs Ya) λ NQ=>Option.bind (CE a1.spurs Ya) λ UO=>cond (decide (NQ.name=UO.name)&&((NQ.CA==UO.CA)&&(decide (NQ.HW=UO.HW)&&(decide (NQ.out=UO.out)&&(decide (NQ.Co=UO.Co)&&decide (NQ.base=UO.base)))))) (some (Sum.inl (IntKind.i64.wrap (Ya+1)))) (some (Sum.inr (.inr ((false:Bool)))))) (some (Sum.inr (.inl Ya)))
def Ja(a0:Nt)(a1:Nt):Int->Option ((Int)⊕(Int⊕Bool))
 | v11=>cond (decide (v11<((a0.blocks.length:Nat):Int))) (Option.bind (CE a0.blocks v11) λ x37=>Option.bind (CE a1.blocks v11) λ x41=>cond (decide (x37.name=x41.name)&&(decide (x37.x=x41.x)&&decide (x37.y=x41.y))) (some (Sum.inl (IntKind.i64.wrap (v11+1)))) (some (Sum.inr (.inr ((false:Bool)))))) (some (Sum.inr (.inl v11)))
def MY(a0:Nt)(a1:Nt):Option (Bool):=
 cond (decide (((a0.blocks.length:Nat):Int)=((a1.blocks.length:Nat):Int))) (Option.bind (FX a0.next a1.next) λ x2=>cond x2 (cond (decide (((a0.spurs.length:Nat):Int)=((a1.spurs.length:Nat):Int))) (Option.bind (ES a0.B0 a1.B0) λ x6=>cond x6 (cond (decide (a0.cq=a1.cq)&&(decide (a0.ca=a1.ca)&&(decide (a0.cd=a1.cd)&&decide (a0.cp=a1.cp)))) (Option.bind (Cv (Ja a0 a1) 0) (λ | .inl v46=>Option.bind (Cv (Jb a0 a1) 0) (λ | .inl v64=>some true | .inr (r65)=>some r65) | .inr (r66)=>some r66)) (some false)) (some false)) (some false)) (some false)) (some false)
theorem YM(a0:Nt)(a1:Nt)(r:Bool)(hr:MY a0 a1=some r):
   BZ prog 12 [.agg [.p (.sl (C2 a0.blocks)),.p (.sl (Cr a0.next)),.p (.sl (C1 a0.spurs)),.p (.sl (BX a0.B0)),.p (.int .i64 a0.cq),.p (.int .i64 a0.ca),.p (.int .i64 a0.cd),.p (.int .i64 a0.cp)],.agg [.p (.sl (C2 a1.blocks)),.p (.sl (Cr a1.next)),.p (.sl (C1 a1.spurs)),.p (.sl (BX a1.B0)),.p (.int .i64 a1.cq),.p (.int .i64 a1.ca),.p (.int .i64 a1.cd),.p (.int .i64 a1.cp)]] [] λ h d=>h=[]/\d= .p (.bool r):=by
 refine B1 func12 rfl An7 (by simp[Tryz.f12]) ?_;unfold MY at hr;cases c1:decide (((a0.blocks.length:Nat):Int)=((a1.blocks.length:Nat):Int))
 . simp only[c1,Aj] at hr;cases hr;(try simp only[go_sem,c1]);all_goals ((try refine BY ?_);(try simp only[go_sem,c1]);try first | rfl | exact ⟨rfl,rfl⟩ | (simp;done))
 simp only[c1,Ak] at hr;obtain ⟨x2,g3,hr⟩:=bE hr;try simp only[go_sem,c1]
 refine Cq (QR a0.next a1.next _ g3) ?_;cases c4:x2
 . simp only[c4,Aj] at hr;cases hr;(try simp only[go_sem,c1,c4]);all_goals ((try refine BY ?_);(try simp only[go_sem,c1,c4]);try first | rfl | exact ⟨rfl,rfl⟩ | (simp;done))
 simp only[c4,Ak] at hr;cases c5:decide (((a0.spurs.length:Nat):Int)=((a1.spurs.length:Nat):Int))
 . simp only[c5,Aj] at hr;cases hr;(try simp only[go_sem,c1,c4,c5]);all_goals ((try refine BY ?_);(try simp only[go_sem,c1,c4,c5]);try first | rfl | exact ⟨rfl,rfl⟩ | (simp;done))
 simp only[c5,Ak] at hr;obtain ⟨x6,g7,hr⟩:=bE hr;try simp only[go_sem,c1,c4,c5]
 refine Cq (Ix a0.B0 a1.B0 _ g7) ?_;cases c8:x6
 . simp only[c8,Aj] at hr;cases hr;(try simp only[go_sem,c5,c8]);all_goals ((try refine BY ?_);(try simp only[go_sem,c5,c8]);try first | rfl | exact ⟨rfl,rfl⟩ | (simp;done))
 simp only[c8,Ak] at hr;cases c9:decide (a0.cq=a1.cq)&&(decide (a0.ca=a1.ca)&&(decide (a0.cd=a1.cd)&&decide (a0.cp=a1.cp)))
 . simp only[c9,Aj] at hr;cases hr;(try simp only[go_sem,c5,c8,c9]);all_goals ((try refine BY ?_);(try simp only[go_sem,c5,c8,c9]);try first | rfl | exact ⟨rfl,rfl⟩ | (simp;done))
 simp only[c9,Ak] at hr;obtain ⟨e15,g16,hr⟩:=bE hr;try simp only[go_sem,c5,c8,c9]
 refine CQ g16 (λ q:Int=>⟨[(2,.ptr 2 0),(3,.ptr 3 0),(5,.p (.int .i64 q))],[(2,.box [.p (.sl (C2 a0.blocks)),.p (.sl (Cr a0.next)),.p (.sl (C1 a0.spurs)),.p (.sl (BX a0.B0)),.p (.int .i64 a0.cq),.p (.int .i64 a0.ca),.p (.int .i64 a0.cd),.p (.int .i64 a0.cp)]),(3,.box [.p (.sl (C2 a1.blocks)),.p (.sl (Cr a1.next)),.p (.sl (C1 a1.spurs)),.p (.sl (BX a1.B0)),.p (.int .i64 a1.cq),.p (.int .i64 a1.ca),.p (.int .i64 a1.cd),.p (.int .i64 a1.cp)])],82⟩) ((Wk.forget (by simp[ZF,ZE,c4,c8]))) ?_;rintro v11 m14 Ev Aki;rw[Ja.eq_1] at Ev;cases ML:decide (v11<((a0.blocks.length:Nat):Int))
 . simp only[ML,Aj] at Ev;simp only[Aa,B2] at Ev;cases Ev;(try dsimp only at hr);obtain ⟨e23,g24,hr⟩:=bE hr;(try simp only[go_sem,ML]);refine CQ g24 (λ q:Int=>⟨[(2,.ptr 2 0),(3,.ptr 3 0),(6,.p (.int .i64 q))],[(2,.box [.p (.sl (C2 a0.blocks)),.p (.sl (Cr a0.next)),.p (.sl (C1 a0.spurs)),.p (.sl (BX a0.B0)),.p (.int .i64 a0.cq),.p (.int .i64 a0.ca),.p (.int .i64 a0.cd),.p (.int .i64 a0.cp)]),(3,.box [.p (.sl (C2 a1.blocks)),.p (.sl (Cr a1.next)),.p (.sl (C1 a1.spurs)),.p (.sl (BX a1.B0)),.p (.int .i64 a1.cq),.p (.int .i64 a1.ca),.p (.int .i64 a1.cd),.p (.int .i64 a1.cp)])],82⟩) ((Wk.forget (by simp[ZF,ZE,c4,c8]))) ?_;rintro Ya m22 Oz Bax;rw[Jb.eq_1] at Oz;cases c25:decide (Ya<((a0.spurs.length:Nat):Int))
   . simp only[c25,Aj] at Oz;simp only[Aa,B2] at Oz;cases Oz;(try dsimp only at hr);cases hr;(try simp only[go_sem,c25]);all_goals ((try refine BY ?_);(try simp only[go_sem,c25]);try first | rfl | exact ⟨rfl,rfl⟩ | (simp;done))
   simp only[c25,Ak] at Oz;(try simp only[go_sem,c25]);refine CH mixed (p:=[(0,0),(1,0),(2,0),(3,0),(4,0),(5,0),(6,0),(7,0),(8,0),(9,0),(10,0)]) (by kernel_rfl) (by simp[C8,get]) ?_;obtain ⟨NQ,g27,Oz⟩:=bK Oz;have f28:=B9 g27;have f29:(C1 a0.spurs).getD (Int.toNat Ya) []=[(.str NQ.name),(.bool NQ.CA),(.int .i64 NQ.HW),(.int .i64 NQ.out),(.int .i64 NQ.Co),(.int .i64 NQ.base)]:=Ca _ g27;obtain ⟨UO,g31,Oz⟩:=bK Oz;have f32:=B9 g31;have f33:(C1 a1.spurs).getD (Int.toNat Ya) []=[(.str UO.name),(.bool UO.CA),(.int .i64 UO.HW),(.int .i64 UO.out),(.int .i64 UO.Co),(.int .i64 UO.base)]:=Ca _ g31;cases Rv:decide (NQ.name=UO.name)&&((NQ.CA==UO.CA)&&(decide (NQ.HW=UO.HW)&&(decide (NQ.out=UO.out)&&(decide (NQ.Co=UO.Co)&&decide (NQ.base=UO.base)))))
   . simp only[Rv,Aj] at Oz;simp only[Aa,B2] at Oz;cases Oz;(try dsimp only at hr);cases hr;(try simp only[go_sem,f28,f29,f32,f33,Rv]);all_goals ((try refine BY ?_);(try simp only[go_sem,f28,f29,f32,f33,Rv]);try first | rfl | exact ⟨rfl,rfl⟩ | (simp;done))
   simp only[Rv,Ak] at Oz;simp only[Aa,B4] at Oz;(try simp only[go_sem,f28,f29,f32,f33,Rv]);exact Bax (IntKind.i64.wrap (Ya+1)) _ Oz ((Wk.forget (by simp[ZF,ZE,c4,c8])))
 simp only[ML,Ak] at Ev;try simp only[go_sem,ML]
 refine CH mixed (p:=[(0,0),(1,0),(2,0),(3,0),(4,0),(5,0),(6,0),(7,0),(8,0),(9,0),(10,0)]) (by kernel_rfl) (by simp[C8,get]) ?_;obtain ⟨x37,g38,Ev⟩:=bK Ev;have f39:=B9 g38;have f40:(C2 a0.blocks).getD (Int.toNat v11) []=[(.str x37.name),(.int .i64 x37.x),(.int .i64 x37.y)]:=Ca _ g38;obtain ⟨x41,g42,Ev⟩:=bK Ev;have f43:=B9 g42;have f44:(C2 a1.blocks).getD (Int.toNat v11) []=[(.str x41.name),(.int .i64 x41.x),(.int .i64 x41.y)]:=Ca _ g42;cases c45:decide (x37.name=x41.name)&&(decide (x37.x=x41.x)&&decide (x37.y=x41.y))
 . simp only[c45,Aj] at Ev;simp only[Aa,B2] at Ev;cases Ev;(try dsimp only at hr);cases hr;(try simp only[go_sem,f39,f40,f43,f44,c45]);all_goals ((try refine BY ?_);(try simp only[go_sem,f39,f40,f43,f44,c45]);try first | rfl | exact ⟨rfl,rfl⟩ | (simp;done))
 simp only[c45,Ak] at Ev;simp only[Aa,B4] at Ev;try simp only[go_sem,f39,f40,f43,f44,c45]
 exact Aki (IntKind.i64.wrap (v11+1)) _ Ev ((Wk.forget (by simp[ZF,ZE,c4,c8])))
def CR(a0:Int)(a1:Int)(a2:Int):Option (Bool):=
 cond (decide (a1<=a0)) (some (decide (a0<=a2))) (some false)
theorem C7(a0:Int)(a1:Int)(a2:Int)(r:Bool)(hr:CR a0 a1 a2=some r):
   BZ prog 40 [.p (.int .i64 a0),.p (.int .i64 a1),.p (.int .i64 a2)] [] λ h d=>h=[]/\d= .p (.bool r):=by
 refine B1 func40 rfl ZP (by simp[Tryz.f40]) ?_;unfold CR at hr;cases c1:decide (a1<=a0)
 . simp only[c1,Aj] at hr;cases hr;(try simp only[go_sem,c1]);all_goals ((try refine BY ?_);(try simp only[go_sem,c1]);try first | rfl | exact ⟨rfl,rfl⟩ | (simp;done))
 simp only[c1,Ak] at hr;cases hr;try simp only[go_sem,c1]
 all_goals ((try refine BY ?_);(try simp only[go_sem,c1]);try first | rfl | exact ⟨rfl,rfl⟩ | (simp;done))
def DX(a0:Ai9):Option (Bool):=
 Option.bind (CR a0.cq 1 8) λ x1=>cond x1 (Option.bind (CR a0.ca 0 4) λ x4=>cond x4 (Option.bind (CR a0.cd 0 3) λ x7=>cond x7 (Option.bind (CR a0.cp 1 16) λ OU=>some OU) (some false)) (some false)) (some false)
theorem K3(a0:Ai9)(r:Bool)(hr:DX a0=some r):
   BZ prog 41 [.agg [.p (.int .i64 a0.cq),.p (.int .i64 a0.ca),.p (.int .i64 a0.cd),.p (.int .i64 a0.cp)]] [] λ h d=>h=[]/\d= .p (.bool r):=by
 refine B1 func41 rfl ZO (by simp[Tryz.f41]) ?_;unfold DX at hr;obtain ⟨x1,g2,hr⟩:=bE hr;try simp only[go_sem]
 refine Cq (C7 a0.cq 1 8 _ g2) ?_;cases c3:x1
 . simp only[c3,Aj] at hr;cases hr;(try simp only[go_sem,c3]);all_goals ((try refine BY ?_);(try simp only[go_sem,c3]);try first | rfl | exact ⟨rfl,rfl⟩ | (simp;done))
 simp only[c3,Ak] at hr;obtain ⟨x4,g5,hr⟩:=bE hr;try simp only[go_sem,c3]
 refine Cq (C7 a0.ca 0 4 _ g5) ?_;cases c6:x4
 . simp only[c6,Aj] at hr;cases hr;(try simp only[go_sem,c3,c6]);all_goals ((try refine BY ?_);(try simp only[go_sem,c3,c6]);try first | rfl | exact ⟨rfl,rfl⟩ | (simp;done))
 simp only[c6,Ak] at hr;obtain ⟨x7,g8,hr⟩:=bE hr;try simp only[go_sem,c3,c6]
 refine Cq (C7 a0.cd 0 3 _ g8) ?_;cases c9:x7
 . simp only[c9,Aj] at hr;cases hr;(try simp only[go_sem,c6,c9]);all_goals ((try refine BY ?_);(try simp only[go_sem,c6,c9]);try first | rfl | exact ⟨rfl,rfl⟩ | (simp;done))
 simp only[c9,Ak] at hr;obtain ⟨OU,g11,hr⟩:=bE hr;try simp only[go_sem,c6,c9]
 refine Cq (C7 a0.cp 1 16 _ g11) ?_;cases hr;try simp only[go_sem,c9]
 all_goals ((try refine BY ?_);(try simp only[go_sem,c9]);try first | rfl | exact ⟨rfl,rfl⟩ | (simp;done))
def D9(a0:List Int)(a1:Int)(a2:Int):Int×Int->Option ((Int×Int)⊕((Int×Int)⊕Bool))
 | (v3,v4)=>cond (decide (v3<((a0.length:Nat):Int))) (Option.bind (CE a0 v3) λ DI=>cond (decide (DI<=v4)) (some (Sum.inr (.inr ((false:Bool))))) (cond (decide (a2<=DI)) (some (Sum.inr (.inr ((false:Bool))))) (cond (decide (DI=a1)) (some (Sum.inr (.inr ((false:Bool))))) (some (Sum.inl ((IntKind.i64.wrap (v3+1)),DI)))))) (some (Sum.inr (.inl (v3,v4))))
def Es(a0:List Int)(a1:Int)(a2:Int):Option (Bool):=
 Option.bind (Cv (D9 a0 a1 a2) (0,(-1))) (λ | .inl (v18,Ya)=>some (decide (((a0.length:Nat):Int)<=4)) | .inr (r20)=>some r20)
theorem Mf(a0:List Int)(a1:Int)(a2:Int)(r:Bool)(hr:Es a0 a1 a2=some r):
   BZ prog 43 [.p (.sl (BX a0)),.p (.int .i64 a1),.p (.int .i64 a2)] [] λ h d=>h=[]/\d= .p (.bool r):=by
 refine B1 func43 rfl Amm (by simp[Tryz.f43]) ?_;unfold Es at hr;obtain ⟨e8,g9,hr⟩:=bE hr;try simp only[go_sem]
 refine CQ g9 (λ q:Int×Int=>⟨[(0,.p (.sl (BX a0))),(1,.p (.int .i64 a1)),(2,.p (.int .i64 a2)),(7,.p (.int .i64 q.2)),(10,.p (.sl (BX a0))),(11,.p (.int .i64 ((a0.length:Nat):Int))),(12,.p (.int .i64 q.1))],[],34⟩) ((Wk.forget (by simp[ZF,ZE]))) ?_;rintro ⟨v3,v4⟩ m7 Iz ih6;rw[D9.eq_1] at Iz;cases Kf:decide (v3<((a0.length:Nat):Int))
 . simp only[Kf,Aj] at Iz;simp only[Aa,B2] at Iz;cases Iz;(try dsimp only at hr);cases hr;(try simp only[go_sem,Kf]);all_goals ((try refine BY ?_);(try simp only[go_sem,Kf]);try first | rfl | exact ⟨rfl,rfl⟩ | (simp;done))
 simp only[Kf,Ak] at Iz;obtain ⟨DI,g12,Iz⟩:=bK Iz;have f13:=B9 g12;have f14:(BX a0).getD (Int.toNat v3) []=[(.int .i64 DI)]:=Ca _ g12;cases JS:decide (DI<=v4)
 . simp only[JS,Aj] at Iz;cases MM:decide (a2<=DI)
   . simp only[MM,Aj] at Iz;cases ML:decide (DI=a1)
     . simp only[ML,Aj] at Iz;simp only[Aa,B4] at Iz;(try simp only[go_sem,Kf,f13,f14,JS,MM,ML]);exact ih6 ((IntKind.i64.wrap (v3+1)),DI) _ Iz ((Wk.forget (by simp[ZF,ZE])))
     simp only[ML,Ak] at Iz;simp only[Aa,B2] at Iz;cases Iz;(try dsimp only at hr);cases hr;(try simp only[go_sem,Kf,f13,f14,JS,MM,ML]);all_goals ((try refine BY ?_);(try simp only[go_sem,Kf,f13,f14,JS,MM,ML]);try first | rfl | exact ⟨rfl,rfl⟩ | (simp;done))
   simp only[MM,Ak] at Iz;simp only[Aa,B2] at Iz;cases Iz;(try dsimp only at hr);cases hr;(try simp only[go_sem,Kf,f13,f14,JS,MM]);all_goals ((try refine BY ?_);(try simp only[go_sem,Kf,f13,f14,JS,MM]);try first | rfl | exact ⟨rfl,rfl⟩ | (simp;done))
 simp only[JS,Ak] at Iz;simp only[Aa,B2] at Iz;cases Iz;try dsimp only at hr
 cases hr;try simp only[go_sem,Kf,f13,f14,JS]
 all_goals ((try refine BY ?_);(try simp only[go_sem,Kf,f13,f14,JS]);try first | rfl | exact ⟨rfl,rfl⟩ | (simp;done))
def EJ(a0:Nt):(List (Int×Bool))×Int->Option (((List (Int×Bool))×Int)⊕(((List (Int×Bool))×Int)))
 | (v37,v38)=>cond (decide (v38<((a0.B0.length:Nat):Int))) (Option.bind (CE a0.B0 v38) λ x45=>some (Sum.inl ((LQ v37 x45),(IntKind.i64.wrap (v38+1))))) (some (Sum.inr (v37,v38)))
def D6(a0:Nt):(List (Int×Bool))×Bool×Int->Option (((List (Int×Bool))×Bool×Int)⊕(((List (Int×Bool))×Bool×Int)))
 | (v54,v55,v56)=>cond (decide (v56<((a0.B0.length:Nat):Int))) (Option.bind (CE a0.B0 v56) λ MS=>cond v55 (some (Sum.inl ((LQ v54 MS),((IU v54 MS).getD false),(IntKind.i64.wrap (v56+1))))) (some (Sum.inl ((LQ v54 MS),false,(IntKind.i64.wrap (v56+1)))))) (some (Sum.inr (v54,v55,v56)))
def EI(Lt:C3):(List (Int×Bool))×Int×Int->Option (((List (Int×Bool))×Int×Int)⊕(((List (Int×Bool))×Int×Int)))
 | (v91,v92,v93)=>cond (decide (v92<Lt.Co)) (cond Lt.CA (some (Sum.inl ((QJ v91 v93 true),(IntKind.i64.wrap (v92+1)),(IntKind.i64.wrap (v93+1))))) (some (Sum.inl (v91,(IntKind.i64.wrap (v92+1)),(IntKind.i64.wrap (v93+1)))))) (some (Sum.inr (v91,v92,v93)))
def EH(a0:Nt):(List (List UInt8×Int))×(List (Int×Bool))×Int×Int->Option (((List (List UInt8×Int))×(List (Int×Bool))×Int×Int)⊕(((List (List UInt8×Int))×(List (Int×Bool))×Int×Int)⊕Bool))
 | (v24,v25,v26,O4)=>cond (decide (O4<((a0.spurs.length:Nat):Int))) (Option.bind (CE a0.spurs O4) λ Lt=>Option.bind (PO Lt.name) λ x75=>cond x75 (Option.bind (CR Lt.HW 0 (IntKind.i64.wrap (((a0.blocks.length:Nat):Int) - 1))) λ x78=>cond x78 (Option.bind (CR Lt.out 0 (IntKind.i64.wrap (((a0.blocks.length:Nat):Int) - 1))) λ x81=>cond x81 (Option.bind (CR Lt.Co 1 4) λ x84=>cond x84 (cond (decide (Lt.base=v26)) (Option.bind (Cv (EI Lt) (v25,0,v26)) (λ (Azy,v102,Azx)=>some (Sum.inl ((HS v24 Lt.name (IntKind.i64.wrap (((DN v24 Lt.name).getD 0)+1))),Azy,Azx,(IntKind.i64.wrap (O4+1)))))) (some (Sum.inr (.inr ((false:Bool)))))) (some (Sum.inr (.inr ((false:Bool)))))) (some (Sum.inr (.inr ((false:Bool)))))) (some (Sum.inr (.inr ((false:Bool)))))) (some (Sum.inr (.inr ((false:Bool)))))) (some (Sum.inr (.inl (v24,v25,v26,O4))))
def EG(a0:Nt):(List (List UInt8×Int))×Int->Option (((List (List UInt8×Int))×Int)⊕(((List (List UInt8×Int))×Int)⊕Bool))
 | (v12,RB)=>cond (decide (RB<((a0.blocks.length:Nat):Int))) (Option.bind (CE a0.blocks RB) λ OZ=>Option.bind (PO OZ.name) λ At5=>cond At5 (Option.bind (CR OZ.x (-9999) 9999) λ Aie=>cond Aie (Option.bind (CR OZ.y (-9999) 9999) λ At4=>cond At4 (Option.bind (CE a0.next RB) λ Ap1=>Option.bind (Es Ap1 RB ((a0.blocks.length:Nat):Int)) λ At3=>cond At3 (some (Sum.inl ((HS v12 OZ.name (IntKind.i64.wrap (((DN v12 OZ.name).getD 0)+1))),(IntKind.i64.wrap (RB+1))))) (some (Sum.inr (.inr ((false:Bool)))))) (some (Sum.inr (.inr ((false:Bool)))))) (some (Sum.inr (.inr ((false:Bool)))))) (some (Sum.inr (.inr ((false:Bool)))))) (some (Sum.inr (.inl (v12,RB))))
def E3(a0:Nt):Option (Bool):=
 Option.bind (CR ((a0.blocks.length:Nat):Int) 1 24) λ x1=>cond x1 (cond (decide (((a0.next.length:Nat):Int)=((a0.blocks.length:Nat):Int))) (cond (decide (6<((a0.spurs.length:Nat):Int))) (some false) (cond (decide (8<((a0.B0.length:Nat):Int))) (some false) (Option.bind (DX (⟨a0.cq,a0.ca,a0.cd,a0.cp⟩:Ai9)) λ x7=>cond x7 (Option.bind (Cv (EG a0) ([],0)) (λ | .inl (Azs,v167)=>Option.bind (Cv (EH a0) (Azs,[],((a0.blocks.length:Nat):Int),0)) (λ | .inl (Ate,Ap6,v254,v255)=>cond (decide (0<((Ap6.length:Nat):Int))) (Option.bind (Cv (D6 a0) (Ap6,decide (((Ate.length:Nat):Int)=(IntKind.i64.wrap (((a0.blocks.length:Nat):Int)+((a0.spurs.length:Nat):Int)))),0)) (λ (v290,Azr,v292)=>some Azr)) (Option.bind (Cv (EJ a0) (Ap6,0)) (λ (v271,v272)=>some false)) | .inr (Bam)=>some Bam) | .inr (Bal)=>some Bal)) (some false)))) (some false)) (some false)
theorem Kp(a0:Nt)(r:Bool)(hr:E3 a0=some r):
   BZ prog 19 [.agg [.p (.sl (C2 a0.blocks)),.p (.sl (Cr a0.next)),.p (.sl (C1 a0.spurs)),.p (.sl (BX a0.B0)),.p (.int .i64 a0.cq),.p (.int .i64 a0.ca),.p (.int .i64 a0.cd),.p (.int .i64 a0.cp)]] [] λ h d=>h=[]/\d= .p (.bool r):=by
 refine B1 func19 rfl An3 (by simp[Tryz.f19]) ?_;unfold E3 at hr;obtain ⟨x1,g2,hr⟩:=bE hr;try simp only[go_sem]
 refine Cq (C7 ((a0.blocks.length:Nat):Int) 1 24 _ g2) ?_;cases c3:x1
 . simp only[c3,Aj] at hr;cases hr;(try simp only[go_sem,c3]);all_goals ((try refine BY ?_);(try simp only[go_sem,c3]);try first | rfl | exact ⟨rfl,rfl⟩ | (simp;done))
 simp only[c3,Ak] at hr;cases c4:decide (((a0.next.length:Nat):Int)=((a0.blocks.length:Nat):Int))
 . simp only[c4,Aj] at hr;cases hr;(try simp only[go_sem,c3,c4]);all_goals ((try refine BY ?_);(try simp only[go_sem,c3,c4]);try first | rfl | exact ⟨rfl,rfl⟩ | (simp;done))
 simp only[c4,Ak] at hr;cases c5:decide (6<((a0.spurs.length:Nat):Int))
 . simp only[c5,Aj] at hr;cases c6:decide (8<((a0.B0.length:Nat):Int))
   . simp only[c6,Aj] at hr;obtain ⟨x7,g8,hr⟩:=bE hr;(try simp only[go_sem,c3,c4,c5,c6]);refine Cq (K3 (⟨a0.cq,a0.ca,a0.cd,a0.cp⟩:Ai9) _ g8) ?_;cases c9:x7
     . simp only[c9,Aj] at hr;cases hr;(try simp only[go_sem,c6,c9]);all_goals ((try refine BY ?_);(try simp only[go_sem,c6,c9]);try first | rfl | exact ⟨rfl,rfl⟩ | (simp;done))
     simp only[c9,Ak] at hr;obtain ⟨e17,g18,hr⟩:=bE hr;(try simp only[go_sem,c6,c9]);refine CQ g18 (λ q:(List (List UInt8×Int))×Int=>⟨[(1,.ptr 1 0),(3,.mv 45),(47,.p (.sl (C2 a0.blocks))),(48,.p (.int .i64 ((a0.blocks.length:Nat):Int))),(49,.p (.int .i64 q.2))],[(1,.box [.p (.sl (C2 a0.blocks)),.p (.sl (Cr a0.next)),.p (.sl (C1 a0.spurs)),.p (.sl (BX a0.B0)),.p (.int .i64 a0.cq),.p (.int .i64 a0.ca),.p (.int .i64 a0.cd),.p (.int .i64 a0.cp)]),(45,.mp (Kb q.1))],185⟩) ((Wk.forget (by simp[ZF,ZE,c3,c9]))) ?_;rintro ⟨v12,RB⟩ m16 FZ Bb0;rw[EG.eq_1] at FZ;cases SG:decide (RB<((a0.blocks.length:Nat):Int))
     . simp only[SG,Aj] at FZ;simp only[Aa,B2] at FZ;cases FZ;(try dsimp only at hr);obtain ⟨e31,g32,hr⟩:=bE hr;(try simp only[go_sem,SG]);refine CQ g32 (λ q:(List (List UInt8×Int))×(List (Int×Bool))×Int×Int=>⟨[(1,.ptr 1 0),(3,.mv 45),(6,.p (.int .i64 q.2.2.1)),(7,.mv 92),(94,.p (.sl (C1 a0.spurs))),(95,.p (.int .i64 ((a0.spurs.length:Nat):Int))),(96,.p (.int .i64 q.2.2.2))],[(1,.box [.p (.sl (C2 a0.blocks)),.p (.sl (Cr a0.next)),.p (.sl (C1 a0.spurs)),.p (.sl (BX a0.B0)),.p (.int .i64 a0.cq),.p (.int .i64 a0.ca),.p (.int .i64 a0.cd),.p (.int .i64 a0.cp)]),(45,.mp (Kb q.1)),(92,.mp (Xi q.2.1))],185⟩) ((Wk.forget (by simp[ZF,ZE,c3,c9]))) ?_;rintro ⟨v24,v25,v26,O4⟩ m30 Dr Aqf;rw[EH.eq_1] at Dr;cases c33:decide (O4<((a0.spurs.length:Nat):Int))
       . simp only[c33,Aj] at Dr;simp only[Aa,B2] at Dr;cases Dr;(try dsimp only at hr);(try simp only[go_sem,c33]);refine WO rfl rfl rfl rfl Ajx rfl rfl ?_;cases Rv:decide (0<((v25.length:Nat):Int))
         . simp only[Rv,Aj] at hr;obtain ⟨e42,g43,hr⟩:=bE hr;(try simp only[go_sem,Rv]);refine CQ g43 (λ q:(List (Int×Bool))×Int=>⟨[(7,.mv 92),(10,.p (.bool false)),(169,.p (.sl (BX a0.B0))),(170,.p (.int .i64 ((a0.B0.length:Nat):Int))),(171,.p (.int .i64 q.2))],[(92,.mp (Xi q.1))],185⟩) ((Wk.forget (by simp[ZF,ZE,c3,c9]))) ?_;rintro ⟨v37,v38⟩ m41 XA Bav;rw[EJ.eq_1] at XA;cases c44:decide (v38<((a0.B0.length:Nat):Int))
           . simp only[c44,Aj] at XA;simp only[Aa,B2] at XA;cases XA;(try dsimp only at hr);cases hr;(try simp only[go_sem,c44]);all_goals ((try refine BY ?_);(try simp only[go_sem,c44]);try first | rfl | exact ⟨rfl,rfl⟩ | (simp;done))
           simp only[c44,Ak] at XA;obtain ⟨x45,g46,XA⟩:=bK XA;have f47:=B9 g46;have f48:(BX a0.B0).getD (Int.toNat v38) []=[(.int .i64 x45)]:=Ca _ g46;(try simp only[go_sem,c44,f47,f48]);refine RA rfl rfl rfl rfl Ajx rfl rfl rfl rfl (Ts _ _) ?_;simp only[Aa,B4] at XA;(try simp only[go_sem]);exact Bav ((LQ v37 x45),(IntKind.i64.wrap (v38+1))) _ XA ((Wk.forget (by simp[ZF,ZE,c3,c9])))
         simp only[Rv,Ak] at hr;(try simp only[go_sem,Rv]);refine WO rfl rfl rfl rfl Ax0 rfl rfl ?_;obtain ⟨e60,g61,hr⟩:=bE hr;(try simp only[go_sem,Rv]);refine CQ g61 (λ q:(List (Int×Bool))×Bool×Int=>⟨[(7,.mv 92),(10,.p (.bool q.2.1)),(169,.p (.sl (BX a0.B0))),(170,.p (.int .i64 ((a0.B0.length:Nat):Int))),(171,.p (.int .i64 q.2.2))],[(92,.mp (Xi q.1))],185⟩) ((Wk.forget (by simp[ZF,ZE,c3,c9]))) ?_;rintro ⟨v54,v55,v56⟩ m59 Q8 Ax4;rw[D6.eq_1] at Q8;cases c62:decide (v56<((a0.B0.length:Nat):Int))
         . simp only[c62,Aj] at Q8;simp only[Aa,B2] at Q8;cases Q8;(try dsimp only at hr);cases hr;(try simp only[go_sem,c62]);all_goals ((try refine BY ?_);(try simp only[go_sem,c62]);try first | rfl | exact ⟨rfl,rfl⟩ | (simp;done))
         simp only[c62,Ak] at Q8;obtain ⟨MS,g64,Q8⟩:=bK Q8;have f65:=B9 g64;have f66:(BX a0.B0).getD (Int.toNat v56) []=[(.int .i64 MS)]:=Ca _ g64;cases c67:v55
         . simp only[c67,Aj] at Q8;(try simp only[go_sem,c62,f65,f66,c67]);refine RA rfl rfl rfl rfl Ajx rfl rfl rfl rfl (Ts _ _) ?_;simp only[Aa,B4] at Q8;(try simp only[go_sem]);exact Ax4 ((LQ v54 MS),false,(IntKind.i64.wrap (v56+1))) _ Q8 ((Wk.forget (by simp[ZF,ZE,c3,c9,c67])))
         simp only[c67,Ak] at Q8;(try simp only[go_sem,c62,f65,f66,c67]);refine RA rfl rfl rfl rfl Ajx rfl rfl rfl rfl (Ts _ _) ?_;simp only[Aa,B4] at Q8;(try simp only[go_sem]);exact Ax4 ((LQ v54 MS),((IU v54 MS).getD false),(IntKind.i64.wrap (v56+1))) _ Q8 ((Wk.forget (by simp[ZF,ZE,c3,c9,c67])))
       simp only[c33,Ak] at Dr;obtain ⟨Lt,g72,Dr⟩:=bK Dr;have f73:=B9 g72;have f74:(C1 a0.spurs).getD (Int.toNat O4) []=[(.str Lt.name),(.bool Lt.CA),(.int .i64 Lt.HW),(.int .i64 Lt.out),(.int .i64 Lt.Co),(.int .i64 Lt.base)]:=Ca _ g72;obtain ⟨x75,g76,Dr⟩:=bK Dr;(try simp only[go_sem,c33,f73,f74]);refine Cq (Wf Lt.name _ g76) ?_;cases c77:x75
       . simp only[c77,Aj] at Dr;simp only[Aa,B2] at Dr;cases Dr;(try dsimp only at hr);cases hr;(try simp only[go_sem,c77]);all_goals ((try refine BY ?_);(try simp only[go_sem,c77]);try first | rfl | exact ⟨rfl,rfl⟩ | (simp;done))
       simp only[c77,Ak] at Dr;obtain ⟨x78,g79,Dr⟩:=bK Dr;(try simp only[go_sem,c77]);refine Cq (C7 Lt.HW 0 (IntKind.i64.wrap (((a0.blocks.length:Nat):Int) - 1)) _ g79) ?_;cases c80:x78
       . simp only[c80,Aj] at Dr;simp only[Aa,B2] at Dr;cases Dr;(try dsimp only at hr);cases hr;(try simp only[go_sem,c77,c80]);all_goals ((try refine BY ?_);(try simp only[go_sem,c77,c80]);try first | rfl | exact ⟨rfl,rfl⟩ | (simp;done))
       simp only[c80,Ak] at Dr;obtain ⟨x81,g82,Dr⟩:=bK Dr;(try simp only[go_sem,c77,c80]);refine Cq (C7 Lt.out 0 (IntKind.i64.wrap (((a0.blocks.length:Nat):Int) - 1)) _ g82) ?_;cases WD:x81
       . simp only[WD,Aj] at Dr;simp only[Aa,B2] at Dr;cases Dr;(try dsimp only at hr);cases hr;(try simp only[go_sem,c80,WD]);all_goals ((try refine BY ?_);(try simp only[go_sem,c80,WD]);try first | rfl | exact ⟨rfl,rfl⟩ | (simp;done))
       simp only[WD,Ak] at Dr;obtain ⟨x84,g85,Dr⟩:=bK Dr;(try simp only[go_sem,c80,WD]);refine Cq (C7 Lt.Co 1 4 _ g85) ?_;cases c86:x84
       . simp only[c86,Aj] at Dr;simp only[Aa,B2] at Dr;cases Dr;(try dsimp only at hr);cases hr;(try simp only[go_sem,WD,c86]);all_goals ((try refine BY ?_);(try simp only[go_sem,WD,c86]);try first | rfl | exact ⟨rfl,rfl⟩ | (simp;done))
       simp only[c86,Ak] at Dr;cases c87:decide (Lt.base=v26)
       . simp only[c87,Aj] at Dr;simp only[Aa,B2] at Dr;cases Dr;(try dsimp only at hr);cases hr;(try simp only[go_sem,WD,c86,c87]);all_goals ((try refine BY ?_);(try simp only[go_sem,WD,c86,c87]);try first | rfl | exact ⟨rfl,rfl⟩ | (simp;done))
       simp only[c87,Ak] at Dr;obtain ⟨e97,g98,Dr⟩:=bK Dr;(try simp only[go_sem,WD,c86,c87]);refine CQ g98 (λ q:(List (Int×Bool))×Int×Int=>⟨[(1,.ptr 1 0),(3,.mv 45),(6,.p (.int .i64 q.2.2)),(7,.mv 92),(9,.ptr 9 0),(94,.p (.sl (C1 a0.spurs))),(95,.p (.int .i64 ((a0.spurs.length:Nat):Int))),(96,.p (.int .i64 O4)),(142,.p (.int .i64 Lt.Co)),(143,.p (.int .i64 q.2.1))],[(1,.box [.p (.sl (C2 a0.blocks)),.p (.sl (Cr a0.next)),.p (.sl (C1 a0.spurs)),.p (.sl (BX a0.B0)),.p (.int .i64 a0.cq),.p (.int .i64 a0.ca),.p (.int .i64 a0.cd),.p (.int .i64 a0.cp)]),(9,.box [.p (.str Lt.name),.p (.bool Lt.CA),.p (.int .i64 Lt.HW),.p (.int .i64 Lt.out),.p (.int .i64 Lt.Co),.p (.int .i64 Lt.base)]),(45,.mp (Kb (HS v24 Lt.name (IntKind.i64.wrap (((DN v24 Lt.name).getD 0)+1))))),(92,.mp (Xi q.1))],185⟩) ((Wk.forget (by simp[ZF,ZE,c3,c9,c77,c80,WD,c86]))) ?_;rintro ⟨v91,v92,v93⟩ m96 TT Ax3;rw[EI.eq_1] at TT;cases c99:decide (v92<Lt.Co)
       . simp only[c99,Aj] at TT;simp only[Aa,B2] at TT;cases TT;(try dsimp only at Dr);simp only[Aa,B4] at Dr;(try simp only[go_sem,c99]);exact Aqf ((HS v24 Lt.name (IntKind.i64.wrap (((DN v24 Lt.name).getD 0)+1))),v91,v93,(IntKind.i64.wrap (O4+1))) _ Dr ((Wk.forget (by simp[ZF,ZE,c3,c9,c77,c80,WD,c86])))
       simp only[c99,Ak] at TT;cases Ahr:Lt.CA
       . simp only[Ahr,Aj] at TT;simp only[Aa,B4] at TT;(try simp only[go_sem,c99,Ahr]);exact Ax3 (v91,(IntKind.i64.wrap (v92+1)),(IntKind.i64.wrap (v93+1))) _ TT ((Wk.forget (by simp[ZF,ZE,c3,c9,c77,c80,WD,c86,Ahr])))
       simp only[Ahr,Ak] at TT;simp only[Aa,B4] at TT;(try simp only[go_sem,c99,Ahr]);exact Ax3 ((QJ v91 v93 true),(IntKind.i64.wrap (v92+1)),(IntKind.i64.wrap (v93+1))) _ TT ((Wk.forget (by simp[ZF,ZE,c3,c9,c77,c80,WD,c86,Ahr])))
     simp only[SG,Ak] at FZ;obtain ⟨OZ,Ayj,FZ⟩:=bK FZ;have f148:=B9 Ayj;have f149:(C2 a0.blocks).getD (Int.toNat RB) []=[(.str OZ.name),(.int .i64 OZ.x),(.int .i64 OZ.y)]:=Ca _ Ayj;(try simp only[go_sem,SG,f148,f149]);refine CH mixed (p:=[(0,0),(1,0),(2,2),(3,0),(4,0),(5,0),(6,0),(7,2),(8,0),(9,0),(10,0),(11,0),(12,0),(13,2),(14,0),(15,0),(16,0),(17,0),(18,0),(19,0),(20,0),(21,0),(22,0),(23,0),(24,0),(25,0),(26,2),(27,0),(28,0)]) (by kernel_rfl) (by simp[C8,get]) ?_;obtain ⟨At5,Bcf,FZ⟩:=bK FZ;(try simp only[go_sem]);refine Gq (Wf OZ.name _ Bcf) ?_;cases XZ:At5
     . simp only[XZ,Aj] at FZ;simp only[Aa,B2] at FZ;cases FZ;(try dsimp only at hr);cases hr;(try simp only[go_sem,XZ]);all_goals ((try refine BY ?_);(try simp only[go_sem,XZ]);try first | rfl | exact ⟨rfl,rfl⟩ | (simp;done))
     simp only[XZ,Ak] at FZ;obtain ⟨Aie,Aqz,FZ⟩:=bK FZ;(try simp only[go_sem,XZ]);refine Gq (C7 OZ.x (-9999) 9999 _ Aqz) ?_;cases XY:Aie
     . simp only[XY,Aj] at FZ;simp only[Aa,B2] at FZ;cases FZ;(try dsimp only at hr);cases hr;(try simp only[go_sem,XZ,XY]);all_goals ((try refine BY ?_);(try simp only[go_sem,XZ,XY]);try first | rfl | exact ⟨rfl,rfl⟩ | (simp;done))
     simp only[XY,Ak] at FZ;obtain ⟨At4,Bce,FZ⟩:=bK FZ;(try simp only[go_sem,XZ,XY]);refine Gq (C7 OZ.y (-9999) 9999 _ Bce) ?_;cases XX:At4
     . simp only[XX,Aj] at FZ;simp only[Aa,B2] at FZ;cases FZ;(try dsimp only at hr);cases hr;(try simp only[go_sem,XY,XX]);all_goals ((try refine BY ?_);(try simp only[go_sem,XY,XX]);try first | rfl | exact ⟨rfl,rfl⟩ | (simp;done))
     simp only[XX,Ak] at FZ;obtain ⟨Ap1,Ayh,FZ⟩:=bK FZ;have f161:=B9 Ayh;have f162:(Cr a0.next).getD (Int.toNat RB) []=[(.sl (BX Ap1))]:=Ca _ Ayh;obtain ⟨At3,Bcd,FZ⟩:=bK FZ;(try simp only[go_sem,XY,XX,f161,f162]);refine Gq (Mf Ap1 RB ((a0.blocks.length:Nat):Int) _ Bcd) ?_;cases Ahp:At3
     . simp only[Ahp,Aj] at FZ;simp only[Aa,B2] at FZ;cases FZ;(try dsimp only at hr);cases hr;(try simp only[go_sem,XX,Ahp]);all_goals ((try refine BY ?_);(try simp only[go_sem,XX,Ahp]);try first | rfl | exact ⟨rfl,rfl⟩ | (simp;done))
     simp only[Ahp,Ak] at FZ;simp only[Aa,B4] at FZ;(try simp only[go_sem,XX,Ahp]);exact Bb0 ((HS v12 OZ.name (IntKind.i64.wrap (((DN v12 OZ.name).getD 0)+1))),(IntKind.i64.wrap (RB+1))) _ FZ ((Wk.forget (by simp[ZF,ZE,c3,c9,XZ,XY,XX,Ahp])))
   simp only[c6,Ak] at hr;cases hr;(try simp only[go_sem,c3,c4,c5,c6]);all_goals ((try refine BY ?_);(try simp only[go_sem,c3,c4,c5,c6]);try first | rfl | exact ⟨rfl,rfl⟩ | (simp;done))
 simp only[c5,Ak] at hr;cases hr;try simp only[go_sem,c3,c4,c5]
 all_goals ((try refine BY ?_);(try simp only[go_sem,c3,c4,c5]);try first | rfl | exact ⟨rfl,rfl⟩ | (simp;done))
def CY(a0:Int)(a1:List (List UInt8))(a2:List Int)(a3:List Dc):Option ((List Dc)):=
 cond (decide (a3.length+1<10000000)) (some (a3++[(⟨a0,(IntKind.i64.wrap (((a3.length:Nat):Int)+1)),a1,a2⟩:Dc)])) none
theorem Ds(a0:Int)(a1:List (List UInt8))(a2:List Int)(a3:List Dc)(r:(List Dc))(hr:CY a0 a1 a2 a3=some r):
   BZ prog 88 [.p (.int .i64 a0),.p (.sl (CJ a1)),.p (.sl (BX a2)),.ptr 1000000 0] [(1000000,.box [.ref 1000001 0 a3.length a3.length]),(1000001,.arr 82 4 (EV a3))] λ h d=>h=[(1000000,.box [.ref 1000001 0 r.length r.length]),(1000001,.arr 82 4 (EV r))]/\d= .Dg []:=by
 refine B1 func88 rfl Als (by simp[Tryz.f88]) ?_;unfold CY at hr;obtain ⟨c1,hr⟩:=gE hr;try simp only[go_sem]
 refine ⟨by have:=Ad c1;(try simp only[Ar,Az,Au] at*);(repeat' refine And.intro ?_ ?_)<;>first | exact EB _ _ rfl | exact Anf _ | omega | (simp[LI];done),?_⟩;cases hr;try simp only[go_sem]
 all_goals ((try refine C0 ?_);(try simp only[go_sem]);try first | rfl | exact ⟨rfl,rfl⟩ | (simp;done))
def Ea(a0:C3)(a1:Int):Option (Bool×Int):=
 cond (decide (a0.base<=a1)) (some (decide (a1<(IntKind.i64.wrap (a0.base+a0.Co))),a1)) (some (false,a1))
theorem LK(a0:C3)(a1:Int)(r:Bool×Int)(hr:Ea a0 a1=some r):
   BZ prog 90 [.agg [.p (.str a0.name),.p (.bool a0.CA),.p (.int .i64 a0.HW),.p (.int .i64 a0.out),.p (.int .i64 a0.Co),.p (.int .i64 a0.base)],.ptr 1000000 0] [(1000000,.box [.p (.int .i64 a1)])] λ h d=>h=[(1000000,.box [.p (.int .i64 r.2)])]/\d= .p (.bool r.1):=by
 refine B1 func90 rfl Alr (by simp[Tryz.f90]) ?_;unfold Ea at hr;cases c1:decide (a0.base<=a1)
 . simp only[c1,Aj] at hr;cases hr;(try simp only[go_sem,c1]);all_goals ((try refine C0 ?_);(try simp only[go_sem,c1]);try first | rfl | exact ⟨rfl,rfl⟩ | (simp;done))
 simp only[c1,Ak] at hr;cases hr;try simp only[go_sem,c1]
 all_goals ((try refine C0 ?_);(try simp only[go_sem,c1]);try first | rfl | exact ⟨rfl,rfl⟩ | (simp;done))
def D8(a0:List C3):Int×Int->Option ((Int×Int)⊕((Int×Int)⊕(Int×Int)))
 | (v3,v4)=>cond (decide (v4<((a0.length:Nat):Int))) (Option.bind (CE a0 v4) λ DI=>Option.bind (Ea (⟨DI.name,DI.CA,DI.HW,DI.out,DI.Co,DI.base⟩:C3) v3) λ (x15,Qm)=>cond x15 (some (Sum.inr (.inr (((v4,Qm):Int×Int))))) (some (Sum.inl (Qm,(IntKind.i64.wrap (v4+1)))))) (some (Sum.inr (.inl (v3,v4))))
def Er(a0:List C3)(a1:Int):Option (Int×Int):=
 Option.bind (Cv (D8 a0) (a1,0)) (λ | .inl (Ya,v20)=>some ((-1),Ya) | .inr (r21)=>some r21)
theorem L2(a0:List C3)(a1:Int)(r:Int×Int)(hr:Er a0 a1=some r):
   BZ prog 89 [.p (.sl (C1 a0)),.fn 90 [.ptr 1000000 0]] [(1000000,.box [.p (.int .i64 a1)])] λ h d=>h=[(1000000,.box [.p (.int .i64 r.2)])]/\d= .p (.int .i64 r.1):=by
 refine B1 func89 rfl ZL (by simp[Tryz.f89]) ?_;unfold Er at hr;obtain ⟨e8,g9,hr⟩:=bE hr;try simp only[go_sem]
 refine CQ g9 (λ q:Int×Int=>⟨[(0,.p (.sl (C1 a0))),(1,.fn 90 [.ptr 1000000 0]),(7,.p (.int .i64 ((a0.length:Nat):Int))),(8,.p (.int .i64 q.2))],[(1000000,.box [.p (.int .i64 q.1)])],19⟩) ((Wk.forget (by simp[ZF,ZE]))) ?_;rintro ⟨v3,v4⟩ m7 Iz ih6;rw[D8.eq_1] at Iz;cases Kf:decide (v4<((a0.length:Nat):Int))
 . simp only[Kf,Aj] at Iz;simp only[Aa,B2] at Iz;cases Iz;(try dsimp only at hr);cases hr;(try simp only[go_sem,Kf]);all_goals ((try refine C0 ?_);(try simp only[go_sem,Kf]);try first | rfl | exact ⟨rfl,rfl⟩ | (simp;done))
 simp only[Kf,Ak] at Iz;obtain ⟨DI,g12,Iz⟩:=bK Iz;have f13:=B9 g12;have f14:(C1 a0).getD (Int.toNat v4) []=[(.str DI.name),(.bool DI.CA),(.int .i64 DI.HW),(.int .i64 DI.out),(.int .i64 DI.Co),(.int .i64 DI.base)]:=Ca _ g12;obtain ⟨⟨x15,Qm⟩,g17,Iz⟩:=bK Iz;try simp only[go_sem,Kf,f13,f14]
 refine Cq (LK (⟨DI.name,DI.CA,DI.HW,DI.out,DI.Co,DI.base⟩:C3) v3 _ g17) ?_;cases JG:x15
 . simp only[JG,Aj] at Iz;simp only[Aa,B4] at Iz;(try simp only[go_sem,JG]);exact ih6 (Qm,(IntKind.i64.wrap (v4+1))) _ Iz ((Wk.forget (by simp[ZF,ZE,JG])))
 simp only[JG,Ak] at Iz;simp only[Aa,B2] at Iz;cases Iz;try dsimp only at hr
 cases hr;try simp only[go_sem,JG]
 all_goals ((try refine C0 ?_);(try simp only[go_sem,JG]);try first | rfl | exact ⟨rfl,rfl⟩ | (simp;done))
def Gl(a0:Nt):(List Dc)×Int->Option (((List Dc)×Int)⊕(((List Dc)×Int)))
 | (v36,v37)=>cond (decide (v37<((a0.B0.length:Nat):Int))) (Option.bind (CE a0.B0 v37) λ x46=>Option.bind (Er a0.spurs x46) λ (X9,x51)=>Option.bind (CE a0.spurs X9) λ x53=>Option.bind (CY 5 [x53.name] [(IntKind.i64.wrap ((IntKind.i64.wrap (x51 - x53.base))+1))] v36) λ x57=>some (Sum.inl (x57,(IntKind.i64.wrap (v37+1))))) (some (Sum.inr (v36,v37)))
def Gj(a0:Nt):(List Dc)×Int->Option (((List Dc)×Int)⊕(((List Dc)×Int)))
 | (v26,O4)=>cond (decide (O4<((a0.spurs.length:Nat):Int))) (Option.bind (CE a0.spurs O4) λ MS=>cond MS.CA (Option.bind (CE a0.blocks MS.HW) λ x78=>Option.bind (CE a0.blocks MS.out) λ x82=>Option.bind (CY 4 [MS.name,x78.name,x82.name] [MS.Co] v26) λ x86=>some (Sum.inl (x86,(IntKind.i64.wrap (O4+1))))) (Option.bind (CE a0.blocks MS.HW) λ x68=>Option.bind (CE a0.blocks MS.out) λ x72=>Option.bind (CY 3 [MS.name,x68.name,x72.name] [MS.Co] v26) λ x76=>some (Sum.inl (x76,(IntKind.i64.wrap (O4+1)))))) (some (Sum.inr (v26,O4)))
def Gi(a0:Nt)(v17:Int)(UQ:List Int):(List Dc)×Int->Option (((List Dc)×Int)⊕(((List Dc)×Int)))
 | (Ail,YB)=>cond (decide (YB<((UQ.length:Nat):Int))) (Option.bind (CE UQ YB) λ Ap2=>Option.bind (CE a0.blocks v17) λ Ad3=>Option.bind (CE a0.blocks Ap2) λ Ad2=>Option.bind (CY 2 [Ad3.name,Ad2.name] [] Ail) λ At6=>some (Sum.inl (At6,(IntKind.i64.wrap (YB+1))))) (some (Sum.inr (Ail,YB)))
def Gb(a0:Nt):(List Dc)×Int->Option (((List Dc)×Int)⊕(((List Dc)×Int)))
 | (NR,v17)=>cond (decide (v17<((a0.next.length:Nat):Int))) (Option.bind (CE a0.next v17) λ UQ=>Option.bind (Cv (Gi a0 v17 UQ) (NR,0)) (λ (Azu,v148)=>some (Sum.inl (Azu,(IntKind.i64.wrap (v17+1)))))) (some (Sum.inr (NR,v17)))
def F9(a0:Nt):(List Dc)×Int->Option (((List Dc)×Int)⊕(((List Dc)×Int)))
 | (v6,v7)=>cond (decide (v7<((a0.blocks.length:Nat):Int))) (Option.bind (CE a0.blocks v7) λ UP=>Option.bind (CY 1 [UP.name] [UP.x,UP.y] v6) λ At2=>some (Sum.inl (At2,(IntKind.i64.wrap (v7+1))))) (some (Sum.inr (v6,v7)))
def JO(a0:Nt):Option ((List Dc)×Int):=
 Option.bind (E3 (⟨a0.blocks,a0.next,a0.spurs,a0.B0,a0.cq,a0.ca,a0.cd,a0.cp⟩:Nt)) λ x1=>cond x1 (Option.bind (Cv (F9 a0) ([],0)) (λ (Ate,Ap6)=>Option.bind (Cv (Gb a0) (Ate,0)) (λ (Azp,v390)=>Option.bind (Cv (Gj a0) (Azp,0)) (λ (Azo,v456)=>Option.bind (Cv (Gl a0) (Azo,0)) (λ (Azn,v483)=>Option.bind (CY 6 [] [a0.cq,a0.ca,a0.cd,a0.cp] Azn) λ Azj=>some (Azj,0)))))) (some ([],20))
theorem U1(a0:Nt)(r:(List Dc)×Int)(hr:JO a0=some r):
   BZ prog 50 [.agg [.p (.sl (C2 a0.blocks)),.p (.sl (Cr a0.next)),.p (.sl (C1 a0.spurs)),.p (.sl (BX a0.B0)),.p (.int .i64 a0.cq),.p (.int .i64 a0.ca),.p (.int .i64 a0.cd),.p (.int .i64 a0.cp)]] [] λ h d=>h=[]/\d= .Dg [.p (.sl (EV r.1)),.p (.int .i64 r.2)]:=by
 refine B1 func50 rfl Amg (by simp[Tryz.f50]) ?_;unfold JO at hr;obtain ⟨x1,g2,hr⟩:=bE hr;try simp only[go_sem]
 refine Cq (Kp (⟨a0.blocks,a0.next,a0.spurs,a0.B0,a0.cq,a0.ca,a0.cd,a0.cp⟩:Nt) _ g2) ?_;cases c3:x1
 . simp only[c3,Aj] at hr;cases hr;(try simp only[go_sem,c3]);all_goals ((try refine BY ?_);(try simp only[go_sem,c3]);try first | rfl | exact ⟨rfl,rfl⟩ | (simp;done))
 simp only[c3,Ak] at hr;obtain ⟨e11,g12,hr⟩:=bE hr;try simp only[go_sem,c3]
 refine CQ g12 (λ q:(List Dc)×Int=>⟨[(1,.ptr 1 0),(4,.ptr 4 0),(5,.fn 88 [.ptr 4 0]),(24,.p (.sl (C2 a0.blocks))),(25,.p (.int .i64 ((a0.blocks.length:Nat):Int))),(26,.p (.int .i64 q.2))],[(1,.box [.p (.sl (C2 a0.blocks)),.p (.sl (Cr a0.next)),.p (.sl (C1 a0.spurs)),.p (.sl (BX a0.B0)),.p (.int .i64 a0.cq),.p (.int .i64 a0.ca),.p (.int .i64 a0.cd),.p (.int .i64 a0.cp)]),(4,.box [.ref 504000 0 q.1.length q.1.length]),(504000,.arr 82 4 (EV q.1))],150⟩) ((Wk.Hl (id:=4) (j:=0) (q:=504000) (sz:=4) 82 rfl rfl rfl (by decide)).trans ((Wk.forget (by simp[ZF,ZE,c3])))) ?_;rintro ⟨v6,v7⟩ m10 GH ih9;rw[F9.eq_1] at GH;cases Sb:decide (v7<((a0.blocks.length:Nat):Int))
 . simp only[Sb,Aj] at GH;simp only[Aa,B2] at GH;cases GH;(try dsimp only at hr);obtain ⟨e21,g22,hr⟩:=bE hr;(try simp only[go_sem,Sb]);refine CQ g22 (λ q:(List Dc)×Int=>⟨[(1,.ptr 1 0),(4,.ptr 4 0),(5,.fn 88 [.ptr 4 0]),(42,.p (.sl (Cr a0.next))),(43,.p (.int .i64 ((a0.next.length:Nat):Int))),(44,.p (.int .i64 q.2))],[(1,.box [.p (.sl (C2 a0.blocks)),.p (.sl (Cr a0.next)),.p (.sl (C1 a0.spurs)),.p (.sl (BX a0.B0)),.p (.int .i64 a0.cq),.p (.int .i64 a0.ca),.p (.int .i64 a0.cd),.p (.int .i64 a0.cp)]),(4,.box [.ref 504000 0 q.1.length q.1.length]),(504000,.arr 82 4 (EV q.1))],150⟩) ((Wk.forget (by simp[ZF,ZE,c3]))) ?_;rintro ⟨NR,v17⟩ m20 Gn Aub;rw[Gb.eq_1] at Gn;cases WG:decide (v17<((a0.next.length:Nat):Int))
   . simp only[WG,Aj] at Gn;simp only[Aa,B2] at Gn;cases Gn;(try dsimp only at hr);obtain ⟨e31,g32,hr⟩:=bE hr;(try simp only[go_sem,WG]);refine CQ g32 (λ q:(List Dc)×Int=>⟨[(1,.ptr 1 0),(4,.ptr 4 0),(5,.fn 88 [.ptr 4 0]),(73,.p (.sl (C1 a0.spurs))),(74,.p (.int .i64 ((a0.spurs.length:Nat):Int))),(75,.p (.int .i64 q.2))],[(1,.box [.p (.sl (C2 a0.blocks)),.p (.sl (Cr a0.next)),.p (.sl (C1 a0.spurs)),.p (.sl (BX a0.B0)),.p (.int .i64 a0.cq),.p (.int .i64 a0.ca),.p (.int .i64 a0.cd),.p (.int .i64 a0.cp)]),(4,.box [.ref 504000 0 q.1.length q.1.length]),(504000,.arr 82 4 (EV q.1))],150⟩) ((Wk.forget (by simp[ZF,ZE,c3]))) ?_;rintro ⟨v26,O4⟩ m30 Dr Aqf;rw[Gj.eq_1] at Dr;cases c33:decide (O4<((a0.spurs.length:Nat):Int))
     . simp only[c33,Aj] at Dr;simp only[Aa,B2] at Dr;cases Dr;(try dsimp only at hr);obtain ⟨e41,g42,hr⟩:=bE hr;(try simp only[go_sem,c33]);refine CQ g42 (λ q:(List Dc)×Int=>⟨[(1,.ptr 1 0),(4,.ptr 4 0),(5,.fn 88 [.ptr 4 0]),(106,.p (.sl (BX a0.B0))),(107,.p (.int .i64 ((a0.B0.length:Nat):Int))),(108,.p (.int .i64 q.2))],[(1,.box [.p (.sl (C2 a0.blocks)),.p (.sl (Cr a0.next)),.p (.sl (C1 a0.spurs)),.p (.sl (BX a0.B0)),.p (.int .i64 a0.cq),.p (.int .i64 a0.ca),.p (.int .i64 a0.cd),.p (.int .i64 a0.cp)]),(4,.box [.ref 504000 0 q.1.length q.1.length]),(504000,.arr 82 4 (EV q.1))],150⟩) ((Wk.forget (by simp[ZF,ZE,c3]))) ?_;rintro ⟨v36,v37⟩ m40 Oy Baw;rw[Gl.eq_1] at Oy;cases c43:decide (v37<((a0.B0.length:Nat):Int))
       . simp only[c43,Aj] at Oy;simp only[Aa,B2] at Oy;cases Oy;(try dsimp only at hr);obtain ⟨x44,g45,hr⟩:=bE hr;(try simp only[go_sem,c43]);refine Cq (Ds 6 [] [a0.cq,a0.ca,a0.cd,a0.cp] v36 _ g45) ?_;cases hr;(try simp only[go_sem]);all_goals ((try refine BY ?_);(try simp only[go_sem]);try first | rfl | exact ⟨rfl,rfl⟩ | (simp;done))
       simp only[c43,Ak] at Oy;obtain ⟨x46,g47,Oy⟩:=bK Oy;have f48:=B9 g47;have f49:(BX a0.B0).getD (Int.toNat v37) []=[(.int .i64 x46)]:=Ca _ g47;obtain ⟨⟨X9,x51⟩,g52,Oy⟩:=bK Oy;(try simp only[go_sem,c43,f48,f49]);refine Cq (L2 a0.spurs x46 _ g52) ?_;(try simp only[go_sem]);refine CH mixed (p:=[(0,0),(1,0),(2,0),(3,0),(4,0),(5,0),(6,0),(8,0),(9,0),(10,0),(11,0),(12,0),(13,0),(14,0),(15,0),(16,0),(7,1),(17,1),(18,3)]) (by kernel_rfl) (by simp[C8,get]) ?_;obtain ⟨x53,g54,Oy⟩:=bK Oy;have f55:=B9 g54;have f56:(C1 a0.spurs).getD (Int.toNat X9) []=[(.str x53.name),(.bool x53.CA),(.int .i64 x53.HW),(.int .i64 x53.out),(.int .i64 x53.Co),(.int .i64 x53.base)]:=Ca _ g54;obtain ⟨x57,g58,Oy⟩:=bK Oy;(try simp only[go_sem,f55,f56]);refine Gq (Ds 5 [x53.name] [(IntKind.i64.wrap ((IntKind.i64.wrap (x51 - x53.base))+1))] v36 _ g58) ?_;simp only[Aa,B4] at Oy;(try simp only[go_sem]);exact Baw (x57,(IntKind.i64.wrap (v37+1))) _ Oy ((Wk.forget (by simp[ZF,ZE,c3])))
     simp only[c33,Ak] at Dr;obtain ⟨MS,g64,Dr⟩:=bK Dr;have f65:=B9 g64;have f66:(C1 a0.spurs).getD (Int.toNat O4) []=[(.str MS.name),(.bool MS.CA),(.int .i64 MS.HW),(.int .i64 MS.out),(.int .i64 MS.Co),(.int .i64 MS.base)]:=Ca _ g64;cases c67:MS.CA
     . simp only[c67,Aj] at Dr;(try simp only[go_sem,c33,f65,f66,c67]);refine CH mixed (p:=[(0,0),(1,0),(2,0),(3,0),(4,0),(5,0),(6,0),(7,0),(8,0),(9,0),(10,0),(11,0),(12,0),(13,0),(14,0),(15,0),(16,0),(17,0),(19,0),(20,0),(18,1),(21,1),(22,3)]) (by kernel_rfl) (by simp[C8,get]) ?_;obtain ⟨x68,g69,Dr⟩:=bK Dr;have f70:=B9 g69;have f71:(C2 a0.blocks).getD (Int.toNat MS.HW) []=[(.str x68.name),(.int .i64 x68.x),(.int .i64 x68.y)]:=Ca _ g69;obtain ⟨x72,g73,Dr⟩:=bK Dr;have f74:=B9 g73;have f75:(C2 a0.blocks).getD (Int.toNat MS.out) []=[(.str x72.name),(.int .i64 x72.x),(.int .i64 x72.y)]:=Ca _ g73;obtain ⟨x76,g77,Dr⟩:=bK Dr;(try simp only[go_sem,f70,f71,f74,f75]);refine Gq (Ds 3 [MS.name,x68.name,x72.name] [MS.Co] v26 _ g77) ?_;simp only[Aa,B4] at Dr;(try simp only[go_sem]);exact Aqf (x76,(IntKind.i64.wrap (O4+1))) _ Dr ((Wk.forget (by simp[ZF,ZE,c3,c67])))
     simp only[c67,Ak] at Dr;(try simp only[go_sem,c33,f65,f66,c67]);refine CH mixed (p:=[(0,0),(1,0),(2,0),(3,0),(4,0),(5,0),(6,0),(7,0),(8,0),(9,0),(10,0),(11,0),(12,0),(13,0),(14,0),(15,0),(16,0),(17,0),(19,0),(20,0),(18,1),(21,1),(22,3)]) (by kernel_rfl) (by simp[C8,get]) ?_;obtain ⟨x78,g79,Dr⟩:=bK Dr;have f80:=B9 g79;have f81:(C2 a0.blocks).getD (Int.toNat MS.HW) []=[(.str x78.name),(.int .i64 x78.x),(.int .i64 x78.y)]:=Ca _ g79;obtain ⟨x82,g83,Dr⟩:=bK Dr;have f84:=B9 g83;have f85:(C2 a0.blocks).getD (Int.toNat MS.out) []=[(.str x82.name),(.int .i64 x82.x),(.int .i64 x82.y)]:=Ca _ g83;obtain ⟨x86,g87,Dr⟩:=bK Dr;(try simp only[go_sem,f80,f81,f84,f85]);refine Gq (Ds 4 [MS.name,x78.name,x82.name] [MS.Co] v26 _ g87) ?_;simp only[Aa,B4] at Dr;(try simp only[go_sem]);exact Aqf (x86,(IntKind.i64.wrap (O4+1))) _ Dr ((Wk.forget (by simp[ZF,ZE,c3,c67])))
   simp only[WG,Ak] at Gn;obtain ⟨UQ,Ayp,Gn⟩:=bK Gn;have f121:=B9 Ayp;have f122:(Cr a0.next).getD (Int.toNat v17) []=[(.sl (BX UQ))]:=Ca _ Ayp;obtain ⟨e130,Bch,Gn⟩:=bK Gn;(try simp only[go_sem,WG,f121,f122]);refine CQ Bch (λ q:(List Dc)×Int=>⟨[(1,.ptr 1 0),(4,.ptr 4 0),(5,.fn 88 [.ptr 4 0]),(8,.p (.int .i64 v17)),(42,.p (.sl (Cr a0.next))),(43,.p (.int .i64 ((a0.next.length:Nat):Int))),(44,.p (.int .i64 v17)),(49,.p (.sl (BX UQ))),(50,.p (.int .i64 ((UQ.length:Nat):Int))),(51,.p (.int .i64 q.2))],[(1,.box [.p (.sl (C2 a0.blocks)),.p (.sl (Cr a0.next)),.p (.sl (C1 a0.spurs)),.p (.sl (BX a0.B0)),.p (.int .i64 a0.cq),.p (.int .i64 a0.ca),.p (.int .i64 a0.cd),.p (.int .i64 a0.cp)]),(4,.box [.ref 504000 0 q.1.length q.1.length]),(504000,.arr 82 4 (EV q.1))],150⟩) ((Wk.forget (by simp[ZF,ZE,c3]))) ?_;rintro ⟨Ail,YB⟩ m129 Jr Ax7;rw[Gi.eq_1] at Jr;cases Arj:decide (YB<((UQ.length:Nat):Int))
   . simp only[Arj,Aj] at Jr;simp only[Aa,B2] at Jr;cases Jr;(try dsimp only at Gn);simp only[Aa,B4] at Gn;(try simp only[go_sem,Arj]);exact Aub (Ail,(IntKind.i64.wrap (v17+1))) _ Gn ((Wk.forget (by simp[ZF,ZE,c3])))
   simp only[Arj,Ak] at Jr;obtain ⟨Ap2,Aym,Jr⟩:=bK Jr;have f135:=B9 Aym;have f136:(BX UQ).getD (Int.toNat YB) []=[(.int .i64 Ap2)]:=Ca _ Aym;(try simp only[go_sem,Arj,f135,f136]);refine CH mixed (p:=[(0,0),(1,0),(2,0),(3,0),(4,0),(5,0),(6,0),(7,0),(8,0),(9,0),(10,0),(11,0),(12,0),(13,1),(14,3)]) (by kernel_rfl) (by simp[C8,get]) ?_;obtain ⟨Ad3,Ayl,Jr⟩:=bK Jr;have f139:=B9 Ayl;have f140:(C2 a0.blocks).getD (Int.toNat v17) []=[(.str Ad3.name),(.int .i64 Ad3.x),(.int .i64 Ad3.y)]:=Ca _ Ayl;obtain ⟨Ad2,Ar0,Jr⟩:=bK Jr;have f143:=B9 Ar0;have f144:(C2 a0.blocks).getD (Int.toNat Ap2) []=[(.str Ad2.name),(.int .i64 Ad2.x),(.int .i64 Ad2.y)]:=Ca _ Ar0;obtain ⟨At6,Bcg,Jr⟩:=bK Jr;(try simp only[go_sem,f139,f140,f143,f144]);refine Gq (Ds 2 [Ad3.name,Ad2.name] [] Ail _ Bcg) ?_;simp only[Aa,B4] at Jr;(try simp only[go_sem]);exact Ax7 (At6,(IntKind.i64.wrap (YB+1))) _ Jr ((Wk.forget (by simp[ZF,ZE,c3])))
 simp only[Sb,Ak] at GH;obtain ⟨UP,Ayf,GH⟩:=bK GH;have f248:=B9 Ayf;have f249:(C2 a0.blocks).getD (Int.toNat v7) []=[(.str UP.name),(.int .i64 UP.x),(.int .i64 UP.y)]:=Ca _ Ayf;obtain ⟨At2,Bcc,GH⟩:=bK GH;try simp only[go_sem,Sb,f248,f249]
 refine Cq (Ds 1 [UP.name] [UP.x,UP.y] v6 _ Bcc) ?_;simp only[Aa,B4] at GH;try simp only[go_sem]
 exact ih9 (At2,(IntKind.i64.wrap (v7+1))) _ GH ((Wk.forget (by simp[ZF,ZE,c3])))
def GJ(a0:Int):Option (Bool):=
 some (!decide (a0=a0))
theorem Ly(a0:Int)(r:Bool)(hr:GJ a0=some r):
   BZ prog 178 [.p (.int .i64 a0)] [] λ h d=>h=[]/\d= .p (.bool r):=by
 refine B1 func178 rfl Afp (by simp[Tryz.f178]) ?_;unfold GJ at hr;cases hr;try simp only[go_sem]
 all_goals ((try refine BY ?_);(try simp only[go_sem]);try first | rfl | exact ⟨rfl,rfl⟩ | (simp;done))
def Hi(a0:Int)(a1:Int):Option (Bool):=
 Option.bind (GJ a0) λ x1=>cond x1 (Option.bind (GJ a1) λ x4=>cond x4 (some (decide (a0<a1))) (some true)) (some (decide (a0<a1)))
theorem S7(a0:Int)(a1:Int)(r:Bool)(hr:Hi a0 a1=some r):
   BZ prog 150 [.p (.int .i64 a0),.p (.int .i64 a1)] [] λ h d=>h=[]/\d= .p (.bool r):=by
 refine B1 func150 rfl Ag0 (by simp[Tryz.f150]) ?_;unfold Hi at hr;obtain ⟨x1,g2,hr⟩:=bE hr;try simp only[go_sem]
 refine Cq (Ly a0 _ g2) ?_;cases c3:x1
 . simp only[c3,Aj] at hr;cases hr;(try simp only[go_sem,c3]);all_goals ((try refine BY ?_);(try simp only[go_sem,c3]);try first | rfl | exact ⟨rfl,rfl⟩ | (simp;done))
 simp only[c3,Ak] at hr;obtain ⟨x4,g5,hr⟩:=bE hr;try simp only[go_sem,c3]
 refine Cq (Ly a1 _ g5) ?_;cases c6:x4
 . simp only[c6,Aj] at hr;cases hr;(try simp only[go_sem,c3,c6]);all_goals ((try refine BY ?_);(try simp only[go_sem,c3,c6]);try first | rfl | exact ⟨rfl,rfl⟩ | (simp;done))
 simp only[c6,Ak] at hr;cases hr;try simp only[go_sem,c3,c6]
 all_goals ((try refine BY ?_);(try simp only[go_sem,c3,c6]);try first | rfl | exact ⟨rfl,rfl⟩ | (simp;done))
def Ml(a1:Int):(List Int)×Int->Option (((List Int)×Int)⊕(((List Int)×Int)))
 | (RB,SQ)=>cond (decide (a1<SQ)) (Option.bind (CE RB SQ) λ Vo=>Option.bind (CE RB (IntKind.i64.wrap (SQ - 1))) λ Qg=>Option.bind (Hi Vo Qg) λ x29=>cond x29 (Option.bind (CE (RB.set (Int.toNat SQ) Qg) (IntKind.i64.wrap (SQ - 1))) λ x32=>some (Sum.inl (((RB.set (Int.toNat SQ) Qg).set (Int.toNat (IntKind.i64.wrap (SQ - 1))) Vo),(IntKind.i64.wrap (SQ - 1))))) (some (Sum.inr (RB,SQ)))) (some (Sum.inr (RB,SQ)))
def Ku(a1:Int)(a2:Int):(List Int)×Int->Option (((List Int)×Int)⊕(((List Int)×Int)))
 | (v3,v4)=>cond (decide (v4<a2)) (Option.bind (Cv (Ml a1) (v3,v4)) (λ (v36,v37)=>some (Sum.inl (v36,(IntKind.i64.wrap (v4+1)))))) (some (Sum.inr (v3,v4)))
def SB(a0:List Int)(a1:Int)(a2:Int):Option ((List Int)):=
 Option.bind (Cv (Ku a1 a2) (a0,(IntKind.i64.wrap (a1+1)))) (λ (v38,v39)=>some v38)
theorem Aeo(a0:List Int)(a1:Int)(a2:Int)(r:(List Int))(hr:SB a0 a1 a2=some r):
   BZ prog 144 [.ref 1000000 0 a0.length a0.length,.p (.int .i64 a1),.p (.int .i64 a2)] [(1000000,.arr 3 1 (BX a0))] λ h d=>h=[(1000000,.arr 3 1 (BX r))]/\d= .Dg []:=by
 refine B1 func144 rfl Ag1 (by simp[Tryz.f144]) ?_;unfold SB at hr;obtain ⟨e8,g9,hr⟩:=bE hr;try simp only[go_sem]
 refine CQ g9 (λ q:(List Int)×Int=>⟨[(0,.ref 1000000 0 q.1.length q.1.length),(1,.p (.int .i64 a1)),(2,.p (.int .i64 a2)),(6,.p (.int .i64 q.2))],[(1000000,.arr 3 1 (BX q.1))],49⟩) ((Wk.forget (by simp[ZF,ZE]))) ?_;rintro ⟨v3,v4⟩ m7 Iz ih6;rw[Ku.eq_1] at Iz;cases Kf:decide (v4<a2)
 . simp only[Kf,Aj] at Iz;simp only[Aa,B2] at Iz;cases Iz;(try dsimp only at hr);cases hr;(try simp only[go_sem,Kf]);all_goals ((try refine C0 ?_);(try simp only[go_sem,Kf]);try first | rfl | exact ⟨rfl,rfl⟩ | (simp;done))
 simp only[Kf,Ak] at Iz;obtain ⟨e18,g19,Iz⟩:=bK Iz;try simp only[go_sem,Kf]
 refine CQ g19 (λ q:(List Int)×Int=>⟨[(0,.ref 1000000 0 q.1.length q.1.length),(1,.p (.int .i64 a1)),(2,.p (.int .i64 a2)),(6,.p (.int .i64 v4)),(7,.p (.int .i64 q.2))],[(1000000,.arr 3 1 (BX q.1))],49⟩) ((Wk.forget (by simp[ZF,ZE]))) ?_;rintro ⟨RB,SQ⟩ m17 Lc Baz;rw[Ml.eq_1] at Lc;try simp only[go_sem]
 refine CH mixed (p:=[(0,0),(1,0),(2,0),(3,0),(4,0),(5,0),(6,0),(7,0),(8,0),(9,0),(10,0),(11,0),(12,0),(13,2),(14,0)]) (by kernel_rfl) (by simp[C8,get]) ?_;cases WH:decide (a1<SQ)
 . simp only[WH,Aj] at Lc;simp only[Aa,B2] at Lc;cases Lc;(try dsimp only at Iz);simp only[Aa,B4] at Iz;(try simp only[go_sem,WH]);exact ih6 (RB,(IntKind.i64.wrap (v4+1))) _ Iz ((Wk.forget (by simp[ZF,ZE])))
 simp only[WH,Ak] at Lc;obtain ⟨Vo,g22,Lc⟩:=bK Lc;have f23:=B9 g22;have f24:(BX RB).getD (Int.toNat SQ) []=[(.int .i64 Vo)]:=Ca _ g22;obtain ⟨Qg,g26,Lc⟩:=bK Lc;have f27:=B9 g26;have f28:(BX RB).getD (Int.toNat (IntKind.i64.wrap (SQ - 1))) []=[(.int .i64 Qg)]:=Ca _ g26;obtain ⟨x29,g30,Lc⟩:=bK Lc;try simp only[go_sem,WH,f23,f24,f27,f28]
 refine Gq (S7 Vo Qg _ g30) ?_;cases UK:x29
 . simp only[UK,Aj] at Lc;simp only[Aa,B2] at Lc;cases Lc;(try dsimp only at Iz);simp only[Aa,B4] at Iz;(try simp only[go_sem,WH,UK]);exact ih6 (RB,(IntKind.i64.wrap (v4+1))) _ Iz ((Wk.forget (by simp[ZF,ZE,UK])))
 simp only[UK,Ak] at Lc;try simp only[go_sem,WH,UK]
 refine CH mixed (p:=[(0,0),(1,0),(2,0),(3,0),(4,0),(5,0),(6,0),(7,0),(8,0),(9,0),(10,0),(11,0),(12,0),(13,0),(14,0),(15,4),(16,4),(17,4)]) (by kernel_rfl) (by simp[C8,get]) ?_;obtain ⟨x32,g33,Lc⟩:=bK Lc;have f34:=B9 g33;have f35:(BX (RB.set (Int.toNat SQ) Qg)).getD (Int.toNat (IntKind.i64.wrap (SQ - 1))) []=[(.int .i64 x32)]:=Ca _ g33;simp only[Aa,B4] at Lc;try simp only[go_sem,f27,f28,f23,f24,f34,f35]
 exact Baz (((RB.set (Int.toNat SQ) Qg).set (Int.toNat (IntKind.i64.wrap (SQ - 1))) Vo),(IntKind.i64.wrap (SQ - 1))) _ Lc ((Wk.forget (by simp[ZF,ZE,UK])))
def Fk(a0:C3):Option (Bool):=
 some a0.CA
theorem L4(a0:C3)(r:Bool)(hr:Fk a0=some r):
   BZ prog 65 [.agg [.p (.str a0.name),.p (.bool a0.CA),.p (.int .i64 a0.HW),.p (.int .i64 a0.out),.p (.int .i64 a0.Co),.p (.int .i64 a0.base)]] [] λ h d=>h=[]/\d= .p (.bool r):=by
 refine B1 func65 rfl Am4 (by simp[Tryz.f65]) ?_;unfold Fk at hr;cases hr;try simp only[go_sem]
 all_goals ((try refine BY ?_);(try simp only[go_sem]);try first | rfl | exact ⟨rfl,rfl⟩ | (simp;done))
def DM(a0:List C3):Int->Option ((Int)⊕(Int⊕Int))
 | v2=>cond (decide (v2<((a0.length:Nat):Int))) (Option.bind (CE a0 v2) λ x9=>Option.bind (Fk (⟨x9.name,x9.CA,x9.HW,x9.out,x9.Co,x9.base⟩:C3)) λ Qn=>cond Qn (some (Sum.inr (.inr ((v2:Int))))) (some (Sum.inl (IntKind.i64.wrap (v2+1))))) (some (Sum.inr (.inl v2)))
def EK(a0:List C3):Option (Int):=
 Option.bind (Cv (DM a0) 0) (λ | .inl NR=>some (-1) | .inr (r17)=>some r17)
theorem KX(a0:List C3)(r:Int)(hr:EK a0=some r):
   BZ prog 89 [.p (.sl (C1 a0)),.fn 65 []] [] λ h d=>h=[]/\d= .p (.int .i64 r):=by
 refine B1 func89 rfl ZL (by simp[Tryz.f89]) ?_;unfold EK at hr;obtain ⟨e6,g7,hr⟩:=bE hr;try simp only[go_sem]
 refine CQ g7 (λ q:Int=>⟨[(0,.p (.sl (C1 a0))),(1,.fn 65 []),(7,.p (.int .i64 ((a0.length:Nat):Int))),(8,.p (.int .i64 q))],[],19⟩) ((Wk.forget (by simp[ZF,ZE]))) ?_;rintro v2 m5 PH VZ;rw[DM.eq_1] at PH;cases c8:decide (v2<((a0.length:Nat):Int))
 . simp only[c8,Aj] at PH;simp only[Aa,B2] at PH;cases PH;(try dsimp only at hr);cases hr;(try simp only[go_sem,c8]);all_goals ((try refine BY ?_);(try simp only[go_sem,c8]);try first | rfl | exact ⟨rfl,rfl⟩ | (simp;done))
 simp only[c8,Ak] at PH;obtain ⟨x9,g10,PH⟩:=bK PH;have f11:=B9 g10;have f12:(C1 a0).getD (Int.toNat v2) []=[(.str x9.name),(.bool x9.CA),(.int .i64 x9.HW),(.int .i64 x9.out),(.int .i64 x9.Co),(.int .i64 x9.base)]:=Ca _ g10;obtain ⟨Qn,g14,PH⟩:=bK PH;try simp only[go_sem,c8,f11,f12]
 refine Cq (L4 (⟨x9.name,x9.CA,x9.HW,x9.out,x9.Co,x9.base⟩:C3) _ g14) ?_;cases JS:Qn
 . simp only[JS,Aj] at PH;simp only[Aa,B4] at PH;(try simp only[go_sem,JS]);exact VZ (IntKind.i64.wrap (v2+1)) _ PH ((Wk.forget (by simp[ZF,ZE,JS])))
 simp only[JS,Ak] at PH;simp only[Aa,B2] at PH;cases PH;try dsimp only at hr
 cases hr;try simp only[go_sem,JS]
 all_goals ((try refine BY ?_);(try simp only[go_sem,JS]);try first | rfl | exact ⟨rfl,rfl⟩ | (simp;done))
def Ns(a0:List C3):Option (Bool):=
 Option.bind (EK a0) λ x1=>some (decide (0<=x1))
theorem j7(a0:List C3)(r:Bool)(hr:Ns a0=some r):
   BZ prog 64 [.p (.sl (C1 a0)),.fn 65 []] [] λ h d=>h=[]/\d= .p (.bool r):=by
 refine B1 func64 rfl Am5 (by simp[Tryz.f64]) ?_;unfold Ns at hr;obtain ⟨x1,g2,hr⟩:=bE hr;try simp only[go_sem]
 refine Cq (KX a0 _ g2) ?_;cases hr;try simp only[go_sem]
 all_goals ((try refine BY ?_);(try simp only[go_sem]);try first | rfl | exact ⟨rfl,rfl⟩ | (simp;done))
def FR:List Int->Int->List Int
 | [],x=>[x]
 | y::r,x=>if x<y then x::y::r else y::FR r x
def DW(l:List Int):List Int:=l.foldl FR []
theorem PA(l:List Int)(x:Int):(FR l x).length=l.length+1:=by
 induction l with
 | nil=>rfl
 | cons y r ih=>simp only[FR];split<;>simp[ih]
theorem T0(l p:List Int):(l.foldl FR p).length=p.length+l.length:=by
 induction l generalizing p with
 | nil=>simp
 | cons x r ih=>simp only[Bo,ih,PA,Ar];omega
theorem MX(l:List Int):(DW l).length=l.length:=by simp[DW,T0]
theorem Zh(l:List Int)(x y:Int):y∈FR l x↔y=x∨y∈l:=by
 induction l with
 | nil=>simp[FR]
 | cons z r ih=>
   simp only[FR];split
   . simp
   . simp only[AF,ih];constructor
     . rintro (h | h | h)<;>simp[h]
     . rintro (h | h | h)<;>simp[h]
theorem Zg(l:List Int)(x:Int)(h:l.Pairwise (· <= ·)):(FR l x).Pairwise (· <= ·):=by
 induction l with
 | nil=>simp[FR]
 | cons y r ih=>
   obtain ⟨h1,h2⟩:=BL.1 h;simp only[FR];split
   . refine BL.2 ⟨λ z hz=>?_,h⟩;rcases AF.1 hz with rfl | hz
     . omega
     . have:=h1 z hz;omega
   . refine BL.2 ⟨λ z hz=>?_,ih h2⟩;rcases (Zh r x z).1 hz with rfl | hz
     . omega
     . exact h1 z hz
theorem Xq(p:List Int)(y x:Int)(h:x<y):FR (p++[y]) x=FR p x++[y]:=by
 induction p with
 | nil=>simp[FR,h]
 | cons z r ih=>
   simp only[AT,FR];split
   . rfl
   . rw[ih];rfl
theorem Pz(p:List Int)(y x:Int)(hs:(p++[y]).Pairwise (· <= ·))(h:¬x<y):FR (p++[y]) x=p++[y,x]:=by
 induction p with
 | nil=>simp[FR,h]
 | cons z r ih=>
   simp only[AT,BL] at hs;have:=hs.1 y (by simp);simp only[AT,FR];rw[if_neg (by omega),ih hs.2]
theorem W1{α:Type}(p q:List α)(x y:α):(p++x::q).set p.length y=p++y::q:=by
 induction p with
 | nil=>rfl
 | cons z r ih=>simp[ih]
theorem Au5(a b:Int):Hi a b=some (decide (a<b)):=by
 unfold Hi GJ;simp
theorem Ze(l:List Int):∀(n:Nat) (p:List Int) (x:Int) (q:List Int),p.length=n->p.Pairwise (· <= ·)->n<10000000->∃j,Cv (Ml 0) (p++x::q,(n:Int))=some (FR p x++q,j)
 | 0,p,x,q,hp,_,_=>by
   obtain rfl:p=[]:=A1 hp;refine ⟨0,?_⟩;rw[CV,Ml.eq_1];simp[FR,HI]
 | n+1,p,x,q,hp,hs,hn=>by
   obtain ⟨r,y,rfl⟩:∃r y,p=r++[y]:=by
     rcases List.eq_nil_or_concat p with h | ⟨r,y,h⟩
     . subst h;simp at hp
     . exact ⟨r,y,by simpa using h⟩
   have hr:r.length=n:=by simpa using hp
   have hw:IntKind.i64.wrap (((n+1:Nat):Int) - 1)=(n:Int):=by rw[IntKind.wrap_i64];omega
   have i1:CE ((r++[y])++x::q) ((n+1:Nat):Int)=some x:=by
     rw[Hq];simp[<-hr,AN]
   have i2:CE ((r++[y])++x::q) (n:Int)=some y:=by
     rw[Hq];simp[<-hr,AN]
   have s1:((r++[y])++x::q).set (n+1) y=r++y::y::q:=by
     have:=W1 (r++[y]) q x y;rw[show (r++[y]).length=n+1 by simp[hr]] at this;rw[this];simp
   have i3:CE (((r++[y])++x::q).set (n+1) y) (n:Int)=some y:=by
     rw[s1,Hq];simp[<-hr,AN]
   have s2:(((r++[y])++x::q).set (n+1) y).set n x=r++x::(y::q):=by
     rw[s1,<-hr];exact W1 r (y::q) y x
   rw[CV,Ml.eq_1];have c1:decide ((0:Int)<((n+1:Nat):Int))=true:=Ag (by omega);rw[c1,Ak,i1,Aa,hw,i2,Aa,Au5,Aa];by_cases hxy:x<y
   . have c2:decide (x<y)=true:=by simpa using hxy
     rw[c2,Ak,show Int.toNat ((n+1:Nat):Int)=n+1 from rfl,i3,Aa,Aa,B4,show Int.toNat (n:Int)=n from rfl,s2];have Mp:r.Pairwise (· <= ·):=(Bv.1 hs).1;obtain ⟨j,hj⟩:=Ze l n r x (y::q) hr Mp (by omega);refine ⟨j,?_⟩;rw[hj,Xq _ _ _ hxy];simp
   . have c2:decide (x<y)=false:=by simpa using hxy
     rw[c2,Aj,Aa,B2];refine ⟨((n+1:Nat):Int),?_⟩;rw[Pz _ _ _ hs hxy];simp
theorem VY:∀(q p:List Int),p.Pairwise (· <= ·)->p.length+q.length<10000000->∃j,Cv (Ku 0 ((p.length+q.length:Nat):Int)) (p++q,(p.length:Int))=some (q.foldl FR p,j)
 | [],p,hs,hn=>by
   rw[CV,Ku.eq_1];simp[HI]
 | x::q,p,hs,hn=>by
   have hl:p.length+(x::q).length=(FR p x).length+q.length:=by rw[PA];simp;omega
   rw[CV,Ku.eq_1];have c1:decide ((p.length:Int)<((p.length+(x::q).length:Nat):Int))=true:=Ag (by simp only[Ar];omega);obtain ⟨j,hj⟩:=Ze [] p.length p x q rfl hs (by simp at hn;omega);have hw:IntKind.i64.wrap ((p.length:Int)+1)=((FR p x).length:Int):=by rw[IntKind.wrap_i64,PA];simp at hn;omega
   rw[c1,Ak,hj,Aa,Aa,B4,hw,hl];obtain ⟨j2,hj2⟩:=VY q (FR p x) (Zg p x hs) (by rw[PA];simp at hn;omega);exact ⟨j2,by rw[hj2];rfl⟩
theorem Zd(l:List Int)(hl:l.length<10000000):SB l 0 (l.length:Int)=some (DW l):=by
 unfold SB;cases l with
 | nil=>
   rw[CV,Ku.eq_1];simp[HI,DW,IntKind.wrap_i64]
 | cons x r=>
   have hw:IntKind.i64.wrap (0+1)=(([x]:List Int).length:Int):=by rw[IntKind.wrap_i64];simp
   obtain ⟨j,hj⟩:=VY r [x] (by simp) (by simp at hl ⊢;omega);rw[hw,show ((x::r).length:Int)=(([x]:List Int).length+r.length:Nat) by simp;omega,show x::r=[x]++r from rfl,hj];rfl
theorem Ak8(n:Nat)(hn:n<=12):BZ prog 154 [.p (.int .u64 n)] [] λ h r=>h=[]/\∃m:Int,r= .p (.int .i64 m):=by
 have c1:decide ((4294967296:Int)<=(n:Int))=false:=by simp;omega
 have c2:decide ((65536:Int)<=(n:Int))=false:=by simp;omega
 have c3:decide ((256:Int)<=(n:Int))=false:=by simp;omega
 have w1:IntKind.u8.wrap (n:Int)=(n:Int):=by simp only[IntKind.wrap,IntKind.signed,IntKind.bits];first | omega | (simp;omega)
 have r1:(0:Int)<=(n:Int)/\(n:Int)<256:=by omega
 refine B1 func154 rfl Afz (by simp[Tryz.f154]) ?_;simp only[go_sem,c1,c2,c3,w1];refine ⟨by simp;omega,?_⟩;exact ⟨_,rfl⟩
theorem Au6(n:Nat)(hn:n<=12):BZ prog 115 [.p (.int .u64 n)] [] λ h r=>h=[]/\∃m:Int,r= .p (.int .i64 m):=by
 refine B1 func115 rfl Agl (by simp[Tryz.f115]) ?_;simp only[go_sem];refine DF (Ak8 n hn) ?_;rintro h' r ⟨rfl,m,rfl⟩;simp only[go_sem];exact ⟨m,rfl⟩
theorem Ae3(l:List Int)(hl:l.length<=12)(m:Int):BZ prog 114 [.ref 1000000 0 l.length l.length,.p (.int .i64 0),.p (.int .i64 l.length),.p (.int .i64 m)] [(1000000,.arr 3 1 (BX l))]
   λ h r=>h=[(1000000,.arr 3 1 (BX (DW l)))]/\r= .Dg []:=by
 have w1:IntKind.i64.wrap ((l.length:Int) - 0)=(l.length:Int):=by rw[IntKind.wrap_i64];omega
 have c1:decide ((l.length:Int)<=12)=true:=by simp;omega
 refine B1 func114 rfl Agm (by simp[Tryz.f114]) ?_;simp only[go_sem];refine X5 1 ?_;rw[Avu];refine ⟨_,Wk.refl _,?_⟩;simp only[go_sem,w1,c1,BW];refine OQ rfl rfl ?_;simp only[go_sem,JB];refine Ux (Aeo l 0 l.length _ (Zd l (by omega))) ?_;rintro h' r ⟨rfl,rfl⟩;simp only[go_sem];all_goals (try refine C0 ?_)
 all_goals (try simp only[go_sem])
theorem Aiz(l:List Int)(hl:l.length<=12):BZ prog 66 [.ref 1000000 0 l.length l.length] [(1000000,.arr 3 1 (BX l))] λ h r=>h=[(1000000,.arr 3 1 (BX (DW l)))]/\r= .Dg []:=by
 have w1:IntKind.u64.wrap (l.length:Int)=(l.length:Int):=by simp only[IntKind.wrap,IntKind.signed,IntKind.bits];first | omega | (simp;omega)
 refine B1 func66 rfl Am3 (by simp[Tryz.f66]) ?_;simp only[go_sem,BW,w1];refine DF (Au6 l.length hl) ?_;rintro h' r ⟨rfl,m,rfl⟩;simp only[go_sem,BW];refine OQ rfl rfl ?_;simp only[go_sem,JB];refine Ux (Ae3 l hl m) ?_;rintro h' r ⟨rfl,rfl⟩;simp only[go_sem];all_goals (try refine C0 ?_)
 all_goals (try simp only[go_sem])
theorem Aiy(rows:List (List Int))(i k:Nat)(hi:i<rows.length)(hl:(rows.getD i []).length<=12):
   BZ prog 66 [.nr 1000000 i (rows.getD i []).length k] [(1000000,.Dj 22 3 1 k (encR rows) none)] λ h r=>h=[(1000000,.Dj 22 3 1 k (encR (rows.set i (DW (rows.getD i [])))) none)]/\r= .Dg []:=by
 have hg:(encR rows)[i]?=some (BX (rows.getD i [])):=by simp[encR,List.getD,hi]
 refine (UB (ps:=[]) hg (BW _).symm (Aiz (rows.getD i []) hl) (R':=λ es r=>es=BX (DW (rows.getD i []))/\r= .Dg []) ?_).mono ?_
 . rintro h' r ⟨rfl,rfl⟩;exact ⟨_,rfl,by rw[BW,MX],.inl rfl,rfl,rfl⟩
 . rintro h' r ⟨NM,rfl,_,rfl,rfl⟩;exact ⟨by rw[ZS],rfl⟩
def nt0:Nt:=⟨[],[],[],[],0,0,0,0⟩
def Cy.init:Cy:=⟨[],[],[],4,2,1,8,[],[],[],0,[],false⟩
def EE:Cy->List Dc->Option (Int×Int)×Cy
 | b,[]=>(none,b)
 | b,d::r=>if (b.DH d).1=0 then EE (b.DH d).2 r else (some (d.line,(b.DH d).1),b)
def MW(n:Int)(sp:List C3)(ba:List Int):List C3:=List.zipWith (λ s x=>{s with base:=n+x}) sp ba
def plB(sp:List C3)(p:Int×Int):Int:=(sp.getD p.1.toNat Cm).base+p.2 - 1
def Cy.net(b:Cy):Nt:=⟨b.bl,b.nx.map DW,MW b.bl.length b.sp b.ba,b.pl.map (plB (MW b.bl.length b.sp b.ba)),b.cq,b.ca,b.cd,b.cp⟩
def nbuildV(d:List Dc):Nt×Int×Int:=match EE Cy.init d with
 | (some (l,e),_)=>(nt0,l,e)
 | (none,b)=>if decide (b.bl.length=0)=true then (nt0,0,15) else if b.sp.any (·.CA)=false then (nt0,0,16) else (b.net,0,0)
def Cy.Bas(b:Cy):List D:=[.ref 901 0 b.bl.length b.bl.length,.Di 902 b.nx.length,.ref 903 0 b.sp.length b.sp.length,.cl [],.p (.int .i64 b.cq),.p (.int .i64 b.ca),.p (.int .i64 b.cd),.p (.int .i64 b.cp),
 .mv 14,.mv 15,.ref 906 0 b.ba.length b.ba.length,.p (.int .i64 b.sl),.ref 907 0 b.pl.length b.pl.length,.p (.bool b.cf)]
def Cy.lh(b:Cy)(k:Nat):Hp:=[(17,.box b.Bas),(901,.arr 76 3 (C2 b.bl)),(902,.Dj 22 3 1 k (encR b.nx) none),(903,.arr 68 6 (C1 b.sp)),
 (14,.mp (Kb b.mb)),(15,.mp (Kb b.ms)),(906,.arr 3 1 (BX b.ba)),(907,.arr 120 2 (IC b.pl))]
theorem Cy.Pt(b:Cy)(k:Nat):b.lh k=[(17,.box [.ref 901 0 b.bl.length b.bl.length,.Di 902 b.nx.length,.ref 903 0 b.sp.length b.sp.length,.cl [],.p (.int .i64 b.cq),.p (.int .i64 b.ca),.p (.int .i64 b.cd),.p (.int .i64 b.cp),
 .mv 14,.mv 15,.ref 906 0 b.ba.length b.ba.length,.p (.int .i64 b.sl),.ref 907 0 b.pl.length b.pl.length,.p (.bool b.cf)]),(901,.arr 76 3 (C2 b.bl)),(902,.Dj 22 3 1 k (encR b.nx) none),(903,.arr 68 6 (C1 b.sp)),
 (14,.mp (Kb b.mb)),(15,.mp (Kb b.ms)),(906,.arr 3 1 (BX b.ba)),(907,.arr 120 2 (IC b.pl))]:=rfl
theorem BI.init:BI Cy.init:=by
 refine ⟨by simp[Cy.init],rfl,λ x i h=>?_,λ x i h=>?_,λ i=>by simp[Cy.init],by simp[Cy.init],rfl,by simp[Cy.init],by simp[Cy.init],by simp[Cy.init],by simp[Cy.init],by simp[Cy.init]⟩<;>simp[Cy.init,DN] at h
theorem Aha(l:List Dc)(i:Nat)(h:i<l.length):(EV l).getD i []=[.int .i64 (l.getD i OM).word,.int .i64 (l.getD i OM).line,.sl (CJ (l.getD i OM).names),.sl (BX (l.getD i OM).B7)]:=by simp[EV,List.getD,h]
theorem Avh(l:List C3)(hl:l.length<10000000):Ns l=some (l.any (·.CA)):=by
 have h:=I2 (step:=DM l) l.length (λ i=>(i:Int)) (Sum.inl (l.length:Int)) (λ i=>if (l.getD i Cm).CA=true then some (Sum.inr (i:Int)) else none)
   (λ i hi _=>by
     have hx:CE l (i:Int)=some (l.getD i Cm):=by rw[Hq];simp[List.getD,hi]
     rw[DM.eq_1,Ag (by omega:(i:Int)<((l.length:Nat):Int)),Ak,hx,Aa];simp only[Fk,Aa];cases c:(l.getD i Cm).CA
     . simp[Cg i (by omega)]
     . simp)
   (λ _=>by rw[DM.eq_1,Ah (by omega:¬((l.length:Nat):Int)<((l.length:Nat):Int)),Aj])
 unfold Ns EK;rw[show ((0:Nat):Int)=0 from rfl] at h;rw[h];cases hf:(List.range l.length).findSome? (λ i=>if (l.getD i Cm).CA=true then some (Sum.inr (i:Int):Int⊕Int) else none) with
 | none=>
   rw[Bs] at hf;have:l.any (·.CA)=false:=by
     rw[List.any_eq_false];intro x hx;obtain ⟨i,hi,rfl⟩:=List.getElem_of_mem hx;have:=hf i (by simpa using hi);simp[List.getD,hi] at this
     simpa using this
   simp[this]
 | some e=>
   obtain ⟨i,hi,he⟩:=List.exists_of_findSome?_eq_some hf;simp only[List.mem_range] at hi;split at he
   . rename_i hd;cases he;have:l.any (·.CA)=true:=A4.2 ⟨l.getD i Cm,CK l i Cm hi,hd⟩;simp[this]
   . cases he
def sB(n:Int)(sp:List C3)(ba:List Int)(i:Nat):List C3:=MW n (sp.take i) (ba.take i)++sp.drop i
theorem O7(n:Int)(sp:List C3)(ba:List Int)(h:ba.length=sp.length):(MW n sp ba).length=sp.length:=by simp[MW,h]
theorem Atn(n:Int)(sp:List C3)(ba:List Int)(i:Nat)(h:ba.length=sp.length)(hi:i<=sp.length):(sB n sp ba i).length=sp.length:=by
 simp only[sB,Au,List.length_drop];rw[O7 _ _ _ (by simp[h]),Bi];omega
theorem Awt(n:Int)(sp:List C3)(ba:List Int)(i:Nat)(h:ba.length=sp.length)(hi:i<sp.length):(sB n sp ba i).getD i Cm=sp.getD i Cm:=by
 have hl:(MW n (sp.take i) (ba.take i)).length=i:=by rw[O7 _ _ _ (by simp[h]),Bi];omega
 simp only[sB,List.getD];rw[Bg (by omega),hl,AV];simp
theorem Atm(n:Int)(sp:List C3)(ba:List Int)(i:Nat)(h:ba.length=sp.length)(hi:i<sp.length):(sB n sp ba i).set i {sp.getD i Cm with base:=n+ba.getD i 0}=sB n sp ba (i+1):=by
 have hl:(MW n (sp.take i) (ba.take i)).length=i:=by rw[O7 _ _ _ (by simp[h]),Bi];omega
 have hd:sp.drop i=sp.getD i Cm::sp.drop (i+1):=by rw[AX hi];simp[List.getD,hi]
 have ht:sp.take (i+1)=sp.take i++[sp.getD i Cm]:=by rw[BQ];simp[List.getD,hi]
 have hb:ba.take (i+1)=ba.take i++[ba.getD i 0]:=by rw[BQ];simp[List.getD,h,hi]
 unfold sB;rw[List.set_append_right _ _ (by omega),hl,Nat.sub_self,hd,List.set_cons_zero,ht,hb];unfold MW;rw[List.zipWith_append (by simp[h])];simp
def smallD(d:List Dc):Prop:=d.length<10000000/\∀x∈d,x.names.length<=10000000/\x.B7.length<=10000000
set_option maxHeartbeats 4000000 in
theorem Aea (d:List Dc) (hd:smallD d):BZ prog 31 [.p (.sl (EV d))] [] λ h r=>h=[]/\r= .Dg [.agg (nbuildV d).1.cs,.p (.int .i64 (nbuildV d).2.1),.p (.int .i64 (nbuildV d).2.2)]:=by
  obtain ⟨V7,Jt⟩:=hd;refine B1 func31 rfl Ams (by simp[Tryz.f31]) ?_;simp only[go_sem,KK.fit];refine B5 (λ q:Nat×Cy×Nat=>⟨[(2,.ptr 2 0),(5,.ptr 17 0),(23,.p (.sl (EV d))),(24,.p (.int .i64 d.length)),(25,.p (.int .i64 (q.1:Nat)))],(2,.box [.cl [],.cl [],.cl [],.cl [],.p (.int .i64 0),.p (.int .i64 0),.p (.int .i64 0),.p (.int .i64 0)])::q.2.1.lh q.2.2,139⟩)
    (λ q=>q.1<=d.length/\BI q.2.1/\EE Cy.init d=EE q.2.1 (d.drop q.1)) (λ q=>d.length - q.1) (0,Cy.init,0) ⟨AE _,BI.init,by simp⟩
    ((Wk.Hl (id:=17) (j:=0) (q:=901) (sz:=3) 76 rfl rfl rfl (by decide)).trans ((Wk.Apy (id:=17) (j:=1) (q:=902) (sz:=1) 22 3 rfl rfl rfl (by decide)).trans
      ((Wk.Hl (id:=17) (j:=2) (q:=903) (sz:=6) 68 rfl rfl rfl (by decide)).trans ((Wk.Hl (id:=17) (j:=10) (q:=906) (sz:=1) 3 rfl rfl rfl (by decide)).trans
      ((Wk.Hl (id:=17) (j:=12) (q:=907) (sz:=2) 120 rfl rfl rfl (by decide)).trans (Wk.forget (by simp[ZF,Cy.Pt,Cy.init,C2,C1,BX,encR,IC,Kb,FD]))))))) ?_
  rintro ⟨i,b,k⟩ n ⟨hi,hB,he⟩ ih;dsimp only at hi hB he;simp only[go_sem,Cy.Pt];refine Cx (λ h2=>?_) (λ h2=>?_)
  . have Ct:i<d.length:=by simp at h2;omega
    have hw:=Cg i (by omega);have hg:=Aha d i Ct;have r1:(0:Int)<=(i:Int)/\(i:Int)<(d.length:Int):=by omega
    have TU:d.drop i=d.getD i OM::d.drop (i+1):=by
      rw[AX Ct];simp[List.getD,Ct]
    have hx:=Jt (d.getD i OM) (CK d i OM Ct);rw[TU] at he;generalize d.getD i OM=x at*;simp only[go_sem,Cy.Pt,FD,Ab,r1,hg];refine DF (Avl b k x hB hx) ?_;rintro h' r ⟨k2,rfl,rfl⟩;have hB2:=hB.add x;simp only[EE] at he;cases c1:decide ((b.DH x).1=0)
    . have c1':¬(b.DH x).1=0:=Ae c1;rw[if_neg c1'] at he;simp only[go_sem,Cy.FL (b.DH x).2 k2,c1];refine Dm [(7,.box [.p (.int .i64 x.word),.p (.int .i64 x.line),.p (.sl (CJ x.names)),.p (.sl (BX x.B7))])] mixed (p:=[(0,0),(1,0),(2,0),(3,0),(4,2),(5,0),(6,0)]) (by kernel_rfl) (by simp[C8,get]) ?_;simp only[go_sem];refine BY ?_;simp only[go_sem];unfold nbuildV;rw[he];rfl
    . have c1':(b.DH x).1=0:=Ad c1;rw[if_pos c1'] at he;simp only[go_sem,Cy.FL (b.DH x).2 k2,c1,hw];refine ih (i+1,(b.DH x).2,k2) _ ⟨Ct,hB2,he⟩ (by simp;omega) ?_
      (refine Wk.forget ?_;simp[ZF,Cy.Pt];done)
  . have:i=d.length:=by simp at h2;omega
    subst this;rw[BA] at he;simp only[EE] at he;have hv:nbuildV d=if decide (b.bl.length=0)=true then (nt0,0,15) else if b.sp.any (·.CA)=false then (nt0,0,16) else (b.net,0,0):=by
      unfold nbuildV;rw[he]
    rw[hv];have hc:decide ((b.bl.length:Int)=0)=decide (b.bl.length=0):=by
      by_cases h:b.bl.length=0<;>simp[h]
    cases c1:decide (b.bl.length=0);rotate_left
    . simp only[go_sem,Cf,hc,c1];refine BY ?_;simp only[go_sem];rfl
    simp only[go_sem,Cf,hc,c1];refine Rz rfl rfl (j7 b.sp _ (Avh b.sp (by have:=hB.ns;omega))) (by simp[KR,Sy,ev,get,AL,ZB]) ?_;rintro h' r ⟨rfl,rfl⟩;refine ⟨rfl,rfl,?_⟩;cases c2:b.sp.any (·.CA)
    . simp only[go_sem,c2];refine BY ?_;simp only[go_sem];rfl
    simp only[go_sem,c2];have hnb:=hB.nb;have hns:=hB.ns;have hba:=hB.nba;refine B5 (λ i:Nat=>⟨[(2,.ptr 2 0),(5,.ptr 17 0),(60,.p (.int .i64 b.sp.length)),(61,.p (.int .i64 (i:Nat)))],(2,.box [.cl [],.cl [],.cl [],.cl [],.p (.int .i64 0),.p (.int .i64 0),.p (.int .i64 0),.p (.int .i64 0)])::({b with sp:=sB b.bl.length b.sp b.ba i}:Cy).lh k,139⟩)
      (λ i=>i<=b.sp.length) (λ i=>b.sp.length - i) 0 (AE _) (Wk.forget (by simp[ZF,Cy.Pt,sB,MW,E9])) ?_
    rintro i m hi JP;have hl:=Atn b.bl.length b.sp b.ba i hba hi;simp only[go_sem,Cy.Pt,hl];refine Cx (λ h3=>?_) (λ h3=>?_)
    . have Ct:i<b.sp.length:=by simp at h3;omega
      have hw:=Cg i (by omega);have g1:=Fa (sB b.bl.length b.sp b.ba i) i (by omega);rw[Awt _ _ _ _ hba Ct] at g1;have g2:=Cj b.ba i (by omega);have hbb:=hB.bas (b.ba.getD i 0) (CK b.ba i 0 (by omega));have w1:IntKind.i64.wrap ((b.bl.length:Int)+b.ba.getD i 0)=(b.bl.length:Int)+b.ba.getD i 0:=by rw[IntKind.wrap_i64];omega
      have r1:(0:Int)<=(i:Int)/\(i:Int)<(b.sp.length:Int):=by omega
      have hs:=Atm b.bl.length b.sp b.ba i hba Ct;simp only[go_sem,Cy.Pt,hl];refine CH mixed (p:=[(0,0),(1,0),(2,0),(3,0),(4,0),(5,0),(6,0),(7,0),(8,0),(9,0),(10,0),(11,0),(12,0),(13,0),(14,0),(15,0),(16,0),(17,0),(18,0),(19,0),(20,0),(21,0),(22,3)]) (by kernel_rfl) (by simp[C8,get]) ?_;simp only[go_sem,hba,r1,BW,Cf,E9,Ab,g1,g2,w1,hl,hw];refine JP (i+1) _ Ct (by omega) ?_;rw[<-hs]
      (refine Wk.forget ?_;simp[ZF,Cy.Pt,Rk,E9,hl,hba];done)
    obtain rfl:i=b.sp.length:=by simp at h3;omega
    have hsB:sB b.bl.length b.sp b.ba b.sp.length=MW b.bl.length b.sp b.ba:=by
      unfold sB;rw[BA,List.append_nil,At,<-hba,At]
    rw[hsB] at hl ⊢;have LU:=hB.np;simp only[go_sem,Cy.Pt,EN];refine B5 (λ i:Nat=>⟨[(2,.ptr 2 0),(5,.ptr 17 0),(90,.ref 907 0 b.pl.length b.pl.length),(91,.p (.int .i64 b.pl.length)),(92,.p (.int .i64 (i:Nat)))],[(2,.box [.cl [],.cl [],.cl [],.cl [],.p (.int .i64 0),.p (.int .i64 0),.p (.int .i64 0),.p (.int .i64 0)]),
        (17,.box [.ref 901 0 b.bl.length b.bl.length,.Di 902 b.nx.length,.ref 903 0 b.sp.length b.sp.length,.ref 904 0 i i,.p (.int .i64 b.cq),.p (.int .i64 b.ca),.p (.int .i64 b.cd),.p (.int .i64 b.cp),
          .mv 14,.mv 15,.ref 906 0 b.ba.length b.ba.length,.p (.int .i64 b.sl),.ref 907 0 b.pl.length b.pl.length,.p (.bool b.cf)]),(901,.arr 76 3 (C2 b.bl)),(902,.Dj 22 3 1 k (encR b.nx) none),(903,.arr 68 6 (C1 (MW b.bl.length b.sp b.ba))),
        (14,.mp (Kb b.mb)),(15,.mp (Kb b.ms)),(906,.arr 3 1 (BX b.ba)),(904,.arr 3 1 (BX ((b.pl.take i).map (plB (MW b.bl.length b.sp b.ba))))),(907,.arr 120 2 (IC b.pl))],139⟩)
      (λ i=>i<=b.pl.length) (λ i=>b.pl.length - i) 0 (AE _) ((Wk.Hl (id:=17) (j:=3) (q:=904) (sz:=1) 3 rfl rfl rfl (by decide)).trans (Wk.forget (by simp[ZF,BX,EN,hl]))) ?_
    rintro i m hi ih3;simp only[go_sem];refine Cx (λ h3=>?_) (λ h3=>?_)
    . have Ct:i<b.pl.length:=by simp at h3;omega
      have hw:=Cg i (by omega);have g1:(IC b.pl).getD i []=[.int .i64 (b.pl.getD i (0,0)).1,.int .i64 (b.pl.getD i (0,0)).2]:=by simp[IC,List.getD,Ct]
      have r1:(0:Int)<=(i:Int)/\(i:Int)<(b.pl.length:Int):=by omega
      obtain ⟨⟨j,hj,hjl⟩,La⟩:=hB.pls (b.pl.getD i (0,0)) (CK b.pl i (0,0) Ct);have r2:(0:Int)<=(j:Int)/\(j:Int)<(b.sp.length:Int):=by omega
      have g2:=Fa (MW b.bl.length b.sp b.ba) j (by omega);have hbs:0<=((MW b.bl.length b.sp b.ba).getD j Cm).base/\((MW b.bl.length b.sp b.ba).getD j Cm).base<=48:=by
        have:=hB.bas (b.ba.getD j 0) (CK b.ba j 0 (by omega));have e:((MW b.bl.length b.sp b.ba).getD j Cm).base=b.bl.length+b.ba.getD j 0:=by
          simp[MW,List.getD,List.getElem?_zipWith,hjl,show j<b.ba.length by omega]
        omega
      have hpl:plB (MW b.bl.length b.sp b.ba) (b.pl.getD i (0,0))=((MW b.bl.length b.sp b.ba).getD j Cm).base+(b.pl.getD i (0,0)).2 - 1:=by
        unfold plB;rw[hj];rfl
      have htk:(b.pl.take (i+1)).map (plB (MW b.bl.length b.sp b.ba))=(b.pl.take i).map (plB (MW b.bl.length b.sp b.ba))++[plB (MW b.bl.length b.sp b.ba) (b.pl.getD i (0,0))]:=by
        rw[BQ,Be];congr 1;simp[List.getD,Ct]
      rw[hj] at g1;generalize (MW b.bl.length b.sp b.ba).getD j Cm=sj at*;generalize b.pl.getD i (0,0)=pi at*;have w1:IntKind.i64.wrap (IntKind.i64.wrap (sj.base+pi.2) - 1)=sj.base+pi.2 - 1:=by rw[IntKind.wrap_i64,IntKind.wrap_i64];omega
      simp only[go_sem,EN,r1,Ab,g1];refine Dm [(17,.box [.ref 901 0 b.bl.length b.bl.length,.Di 902 b.nx.length,.ref 903 0 b.sp.length b.sp.length,.ref 904 0 i i,.p (.int .i64 b.cq),.p (.int .i64 b.ca),.p (.int .i64 b.cd),.p (.int .i64 b.cp),
          .mv 14,.mv 15,.ref 906 0 b.ba.length b.ba.length,.p (.int .i64 b.sl),.ref 907 0 b.pl.length b.pl.length,.p (.bool b.cf)]),(11,.box [.p (.int .i64 j),.p (.int .i64 pi.2)]),(903,.arr 68 6 (C1 (MW b.bl.length b.sp b.ba)))] mixed (p:=[(0,0),(1,0),(2,0),(3,0),(4,0),(5,0),(6,0),(7,0),(8,0),(9,0),(10,0),(11,0),(12,0),(13,0),(14,0),(15,0),(16,0),(17,0),(18,0),(19,0),(20,1),(21,2),(22,0),(23,0),(24,0),(25,3)]) (by kernel_rfl) (by simp[C8,get]) ?_
      simp only[go_sem,hl,r2,Ab,E9,g2,w1,BW,A8,Bi,Nat.min_eq_left hi];refine ⟨⟨EB _ _ rfl,by omega⟩,?_⟩;simp only[go_sem,hw];refine ih3 (i+1) _ Ct (by omega) ?_;rw[htk,hpl]
      (refine Wk.forget ?_;simp[ZF,D5,Nat.min_eq_left hi];done)
    obtain rfl:i=b.pl.length:=by simp at h3;omega
    rw[At];have hnn:=hB.nn;simp only[go_sem,Ir];refine B5 (λ q:Nat×List (List Int)=>⟨[(2,.ptr 2 0),(5,.ptr 17 0),(126,.Di 902 b.nx.length),(127,.p (.int .i64 b.nx.length)),(128,.p (.int .i64 (q.1:Nat)))],[(2,.box [.cl [],.cl [],.cl [],.cl [],.p (.int .i64 0),.p (.int .i64 0),.p (.int .i64 0),.p (.int .i64 0)]),
        (17,.box [.ref 901 0 b.bl.length b.bl.length,.Di 902 b.nx.length,.ref 903 0 b.sp.length b.sp.length,.ref 904 0 b.pl.length b.pl.length,.p (.int .i64 b.cq),.p (.int .i64 b.ca),.p (.int .i64 b.cd),.p (.int .i64 b.cp),
          .mv 14,.mv 15,.ref 906 0 b.ba.length b.ba.length,.p (.int .i64 b.sl),.ref 907 0 b.pl.length b.pl.length,.p (.bool b.cf)]),(901,.arr 76 3 (C2 b.bl)),(902,.Dj 22 3 1 k (encR q.2) none),(903,.arr 68 6 (C1 (MW b.bl.length b.sp b.ba))),
        (14,.mp (Kb b.mb)),(15,.mp (Kb b.ms)),(906,.arr 3 1 (BX b.ba)),(904,.arr 3 1 (BX (b.pl.map (plB (MW b.bl.length b.sp b.ba))))),(907,.arr 120 2 (IC b.pl))],139⟩)
      (λ q=>q.1<=b.nx.length/\q.2=(b.nx.take q.1).map DW++b.nx.drop q.1) (λ q=>b.nx.length - q.1) (0,b.nx) ⟨AE _,by simp⟩ (Wk.forget (by simp[ZF])) ?_
    rintro ⟨i,rows⟩ m ⟨hi,hrw⟩ VZ;dsimp only at hi hrw;have Xx:rows.length=b.nx.length:=by rw[hrw];simp;omega
    simp only[go_sem];refine Cx (λ h3=>?_) (λ h3=>?_)
    . have Ct:i<b.nx.length:=by simp at h3;omega
      have hw:=Cg i (by omega);have r1:(0:Int)<=(i:Int)/\(i:Int)<(b.nx.length:Int):=by omega
      have II:rows.getD i []=b.nx.getD i []:=by
        rw[hrw];simp only[List.getD];rw[Bg (by simp;omega),AV];simp[Nat.min_eq_left hi]
      have EZ:rows.set i (DW (rows.getD i []))=(b.nx.take (i+1)).map DW++b.nx.drop (i+1):=by
        rw[II,hrw,List.set_append_right _ _ (by simp;omega)];have TU:b.nx.drop i=b.nx.getD i []::b.nx.drop (i+1):=by rw[AX Ct];simp[List.getD,Ct]
        rw[TU,show i - ((b.nx.take i).map DW).length=0 by simp;omega,List.set_cons_zero,BQ,Be];simp[List.getD,Ct]
      have CS:=hB.row i;simp only[go_sem,r1,Ab,Ir,MG,BW,Xx];refine OQ rfl rfl ?_;simp only[go_sem,JB];refine Ux (Aiy rows i k (by omega) (by rw[II];omega)) ?_;rintro h' r ⟨rfl,rfl⟩;simp only[go_sem,hw];refine VZ (i+1,_) _ ⟨Ct,EZ⟩ (by simp;omega) ?_
      (refine Wk.forget ?_;simp[ZF];done)
    obtain rfl:i=b.nx.length:=by simp at h3;omega
    rw[At,BA,List.append_nil] at hrw;subst hrw;simp only[go_sem];refine BY ?_;simp only[go_sem,Cf,E9,BW,hl,Ir,A8];have e1:List.take b.sp.length (C1 (MW b.bl.length b.sp b.ba))=C1 (MW b.bl.length b.sp b.ba):=AL (by rw[E9,hl];exact Ai _);have e2:List.take b.pl.length (BX (b.pl.map (plB (MW b.bl.length b.sp b.ba))))=BX (b.pl.map (plB (MW b.bl.length b.sp b.ba))):=AL (by simp[BX]);have e3:(encR (b.nx.map DW)).map (λ r=>[Pd.sl r])=Cr (b.nx.map DW):=by simp[encR,Cr]
    rw[e1,e2,e3];simp[c1];rfl
theorem O2(a lo hi:Int):CR a lo hi=some (decide (lo<=a)&&decide (a<=hi)):=by
 unfold CR;cases decide (lo<=a)<;>rfl
theorem Az3:∀b1 b2 b3 b4:Bool,cond b1 (cond b2 (cond b3 (some b4) (some false)) (some false)) (some false)=some (b1&&(b2&&(b3&&b4))):=by decide
theorem US(q a d p:Int):DX ⟨q,a,d,p⟩=some (decide (H4 q a d p)):=by
 unfold DX;simp only[O2,Aa];rw[Az3]
 congr 1
 rw[Bp];simp only[Ao,Aq];exact ⟨λ ⟨⟨a1,a2⟩,⟨b1,b2⟩,⟨c1,c2⟩,d1,d2⟩=>⟨a1,a2,b1,b2,c1,c2,d1,d2⟩,λ ⟨a1,a2,b1,b2,c1,c2,d1,d2⟩=>⟨⟨a1,a2⟩,⟨b1,b2⟩,⟨c1,c2⟩,d1,d2⟩⟩
def Pu(l:List Int)(i:Nat):Int:=if i=0 then -1 else l.getD (i - 1) 0
theorem Yx(l:List Int)(i nb:Nat)(hl:l.length<=10000000):Es l (i:Int) (nb:Int)=some (decide (HQ nb i l/\l.length<=4)):=by
 have h:=E5 (step:=D9 l (i:Int) (nb:Int)) l.length (λ k=>((k:Int),Pu l k)) (Sum.inl ((l.length:Int),Pu l l.length)) (Sum.inr false) (λ k=>decide (Ji nb i l k))
   (λ k hk hj=>by
     rw[D9.eq_1,Et hk,Ak,Ch l k 0 hk,Aa];have hw:=Cu (show k<10000000 by omega);have Axm:0<k->0<=l.getD (k - 1) 0:=λ h=>by have:=Ad (hj (k - 1) (by omega));exact this.1
     have V6:Pu l (k+1)=l.getD k 0:=by unfold Pu;rw[if_neg (by omega)];rfl
     by_cases c1:l.getD k 0<=Pu l k
     . rw[Ag c1,Ak,if_neg];intro h;have:=Ad h;unfold Pu at c1;split at c1
       . have:=this.1;omega
       . have:=this.2.2.2 (by omega);omega
     . rw[Ah c1,Aj];by_cases c2:(nb:Int)<=l.getD k 0
       . rw[Ag c2,Ak,if_neg];intro h;have:=(Ad h).2.1;omega
       . rw[Ah c2,Aj];by_cases c3:l.getD k 0=(i:Int)
         . rw[Ag c3,Ak,if_neg];intro h;exact (Ad h).2.2.1 c3
         . rw[Ah c3,Aj,if_pos,hw,V6];refine Ag ⟨?_,by omega,c3,λ h=>?_⟩
           . unfold Pu at c1;split at c1
             . omega
             . have:=Axm (by omega);omega
           . unfold Pu at c1;rw[if_neg (by omega)] at c1;omega)
   (λ _=>by rw[D9.eq_1,E4,Aj])
 unfold Es;rw[show ((0:Int),(-1:Int))=(((0:Nat):Int),Pu l 0) from rfl,h,Aa];by_cases g:∀j,j<l.length->decide (Ji nb i l j)=true
 . rw[if_pos g];simp only
   congr 1
   have hr:HQ nb i l:=λ k hk=>Ad (g k hk);by_cases h4:l.length<=4
   . rw[Ag (show (l.length:Int)<=4 by omega),Ag ⟨hr,h4⟩]
   . rw[Ah (show ¬(l.length:Int)<=4 by omega),Ah (λ h=>h4 h.2)]
 . rw[if_neg g];simp only
   congr 1
   symm
   exact Ah λ h=>g λ j hj=>Ag (h.1 j hj)
def GS:List (List UInt8×Int)->List (List UInt8)->List (List UInt8×Int)
 | m,[]=>m
 | m,x::r=>GS (HS m x (IntKind.i64.wrap ((DN m x).getD 0+1))) r
theorem Wz(m:List (List UInt8×Int))(l:List (List UInt8))(x:List UInt8):GS m (l++[x])=HS (GS m l) x (IntKind.i64.wrap ((DN (GS m l) x).getD 0+1)):=by
 induction l generalizing m with
 | nil=>rfl
 | cons y r ih=>simp only[AT,GS];exact ih _
theorem Ans(m:List (List UInt8×Int))(a b:List (List UInt8)):GS m (a++b)=GS (GS m a) b:=by
 induction a generalizing m with
 | nil=>rfl
 | cons y r ih=>simp only[AT,GS];exact ih _
theorem Adx(m:List (List UInt8×Int))(k:List UInt8)(v:Int):(HS m k v).map (·.1)=if k∈m.map (·.1) then m.map (·.1) else m.map (·.1)++[k]:=by
 induction m with
 | nil=>simp[HS]
 | cons p r ih=>
   simp only[HS];by_cases h:p.1=k
   . simp[h]
   . rw[if_neg h,AD,ih];by_cases h2:k∈r.map (·.1)
     . rw[if_pos h2,if_pos (by simp only[AD,AF];exact .inr h2)];rfl
     . rw[if_neg h2,if_neg (by simp only[AD,AF,not_or];exact ⟨Bm h,h2⟩)];rfl
theorem WA:∀(l:List (List UInt8)) (m:List (List UInt8×Int)),(m.map (·.1)).Nodup->((GS m l).map (·.1)).Nodup/\(GS m l).length<=m.length+l.length/\((GS m l).length=m.length+l.length↔(m.map (·.1)++l).Nodup)
 | [],m,h=>by simp[GS,h]
 | x::r,m,h=>by
   simp only[GS];have hk:=Adx m x (IntKind.i64.wrap ((DN m x).getD 0+1));have hlen:(HS m x (IntKind.i64.wrap ((DN m x).getD 0+1))).length=if x∈m.map (·.1) then m.length else m.length+1:=by
     have:=AR List.length hk;rw[A8] at this;rw[this];split<;>simp
   have hnd:((HS m x (IntKind.i64.wrap ((DN m x).getD 0+1))).map (·.1)).Nodup:=by
     rw[hk];split
     . exact h
     . rename_i hx;rw[Bt];exact ⟨h,by simp,λ a ha b hb=>by simp at hb;subst hb;intro e;subst e;exact hx ha⟩
   obtain ⟨h1,h2,h3⟩:=WA r _ hnd;refine ⟨h1,by rw[hlen] at h2;split at h2<;>simp<;>omega,?_⟩;by_cases hx:x∈m.map (·.1)
   . rw[hlen,if_pos hx] at h2;constructor
     . intro he;simp at he;omega
     . intro hn;rw[Bt] at hn;exact (hn.2.2 x hx x (by simp) rfl).elim
   . rw[hlen,if_neg hx,hk,if_neg hx] at h3;rw[show m.length+(x::r).length=m.length+1+r.length by simp;omega,h3,A0];rfl
theorem Gr(p:Int×Bool)(r:List (Int×Bool))(x:Int):IU (p::r) x=if p.1=x then some p.2 else IU r x:=by
 unfold IU;rw[List.find?_cons];by_cases h:p.1=x
 . simp[h]
 . rw[if_neg h,beq_eq_false_iff_ne.2 h]
theorem VE(p:Int×Bool)(r:List (Int×Bool))(k:Int)(v:Bool):QJ (p::r) k v=if p.1=k then (k,v)::r else p::QJ r k v:=rfl
theorem Ww(p:Int×Bool)(r:List (Int×Bool))(k:Int):LQ (p::r) k=if p.1=k then r else p::LQ r k:=rfl
theorem Afa(m:List (Int×Bool))(k:Int)(v:Bool)(x:Int):IU (QJ m k v) x=if x=k then some v else IU m x:=by
 induction m with
 | nil=>
   have:QJ [] k v=[(k,v)]:=rfl;rw[this,Gr];by_cases h:x=k
   . rw[if_pos h,if_pos h.symm]
   . rw[if_neg h,if_neg (Bm h)]
 | cons p r ih=>
   rw[VE,Gr];by_cases h:p.1=k
   . rw[if_pos h,Gr];by_cases h2:x=k
     . rw[if_pos h2,if_pos h2.symm]
     . rw[if_neg h2,if_neg (Bm h2),if_neg (λ e=>h2 (by rw[<-e,<-h]))]
   . rw[if_neg h,Gr,ih];by_cases h2:p.1=x
     . rw[if_pos h2,if_pos h2,if_neg (λ e=>h (by rw[h2,e]))]
     . rw[if_neg h2,if_neg h2]
theorem Adz(m:List (Int×Bool))(k:Int)(v:Bool):(QJ m k v).map (·.1)=if k∈m.map (·.1) then m.map (·.1) else m.map (·.1)++[k]:=by
 induction m with
 | nil=>simp[QJ]
 | cons p r ih=>
   rw[VE];by_cases h:p.1=k
   . simp[h]
   . rw[if_neg h,AD,ih];by_cases h2:k∈r.map (·.1)
     . rw[if_pos h2,if_pos (by simp only[AD,AF];exact .inr h2)];rfl
     . rw[if_neg h2,if_neg (by simp only[AD,AF,not_or];exact ⟨Bm h,h2⟩)];rfl
theorem Anl(m:List (Int×Bool))(k x:Int)(h:x∈(LQ m k).map (·.1)):x∈m.map (·.1):=by
 induction m with
 | nil=>exact h
 | cons p r ih=>
   rw[Ww] at h;split at h
   . simp only[AD,AF];exact .inr h
   . simp only[AD,AF] at h ⊢;exact h.imp id ih
theorem Afb(m:List (Int×Bool))(x:Int):IU m x=none↔x∉m.map (·.1):=by
 induction m with
 | nil=>simp[IU]
 | cons p r ih=>
   rw[Gr];by_cases h:p.1=x
   . simp[h]
   . rw[if_neg h,ih];simp[Bm h]
theorem Z4(m:List (Int×Bool))(k x:Int)(hn:(m.map (·.1)).Nodup):((LQ m k).map (·.1)).Nodup/\IU (LQ m k) x=if x=k then none else IU m x:=by
 induction m with
 | nil=>exact ⟨hn,by simp[LQ,IU]⟩
 | cons p r ih=>
   simp only[AD,List.nodup_cons] at hn;obtain ⟨h1,h2⟩:=ih hn.2;rw[Ww];by_cases h:p.1=k
   . rw[if_pos h];refine ⟨hn.2,?_⟩;by_cases hx:x=k
     . rw[if_pos hx,Afb,hx,<-h];exact hn.1
     . rw[if_neg hx,Gr,if_neg (λ e=>hx (by rw[<-e,h]))]
   . rw[if_neg h];refine ⟨by simp only[AD,List.nodup_cons];exact ⟨λ hm=>hn.1 (Anl r k _ hm),h1⟩,?_⟩;rw[Gr,Gr,h2];by_cases hp:p.1=x
     . rw[if_pos hp,if_pos hp,if_neg (λ e=>h (by rw[hp,e]))]
     . rw[if_neg hp,if_neg hp]
def MB(m:List (Int×Bool))(f:Int->Bool):Prop:=(m.map (·.1)).Nodup/\∀x,IU m x=if f x=true then some true else none
theorem MB.nil:MB [] (λ _=>false):=⟨by simp,λ x=>by simp[IU]⟩
theorem MB.put{m:List (Int×Bool)}{f:Int->Bool}(h:MB m f)(k:Int):MB (QJ m k true) (λ x=>f x||decide (x=k)):=by
 refine ⟨?_,λ x=>?_⟩
 . rw[Adz];split
   . exact h.1
   . rename_i hx;rw[Bt];exact ⟨h.1,by simp,λ a ha b hb=>by simp at hb;subst hb;intro e;subst e;exact hx ha⟩
 . rw[Afa,h.2];by_cases hx:x=k
   . simp[hx]
   . simp[hx]
theorem MB.del{m:List (Int×Bool)}{f:Int->Bool}(h:MB m f)(k:Int):MB (LQ m k) (λ x=>f x&&!decide (x=k)):=by
 refine ⟨(Z4 m k 0 h.1).1,λ x=>?_⟩;rw[(Z4 m k x h.1).2,h.2];by_cases hx:x=k
 . simp[hx]
 . simp[hx]
theorem MB.pos{m:List (Int×Bool)}{f:Int->Bool}(h:MB m f):0<m.length↔∃x,f x=true:=by
 constructor
 . intro hm;obtain ⟨p,r,rfl⟩:∃p r,m=p::r:=by cases m with | nil=>simp at hm | cons p r=>exact ⟨p,r,rfl⟩
   refine ⟨p.1,?_⟩;have:=h.2 p.1;rw[Gr,if_pos rfl] at this;by_cases hf:f p.1=true
   . exact hf
   . rw[if_neg hf] at this;cases this
 . rintro ⟨x,hx⟩;cases m with
   | nil=>have:=h.2 x;rw[if_pos hx] at this;simp[IU] at this
   | cons p r=>simp
theorem MB.congr{m:List (Int×Bool)}{f g:Int->Bool}(h:MB m f)(e:∀x,f x=g x):MB m g:=⟨h.1,λ x=>by rw[<-e];exact h.2 x⟩
def W9(m:List (Int×Bool))(b:Int):Nat->List (Int×Bool)
 | 0=>m
 | n+1=>QJ (W9 m b n) (b+n) true
theorem MB.W9{m:List (Int×Bool)}{f:Int->Bool}(h:MB m f)(b:Int):∀n:Nat,MB (W9 m b n) (λ x=>f x||(decide (b<=x)&&decide (x<b+n)))
 | 0=>h.congr λ x=>by
   have:(decide (b<=x)&&decide (x<b+((0:Nat):Int)))=false:=by
     rw[Bool.and_eq_false_iff];by_cases h:b<=x
     . exact .inr (Ah (by omega))
     . exact .inl (Ah h)
   rw[this,Bool.or_false]
 | n+1=>(MB.put (h.W9 b n) (b+n)).congr λ x=>by
   rw[Bool.or_assoc]
   congr 1
   rw[Bp];simp only[BT,Ao,Aq];omega
def Lj(m:List (Int×Bool))(s:C3):List (Int×Bool):=if s.CA=true then W9 m s.base s.Co.toNat else m
theorem MB.dep{m:List (Int×Bool)}{f:Int->Bool}(h:MB m f)(s:C3)(hs:0<=s.Co):MB (Lj m s) (λ x=>f x||NF x s):=by
 unfold Lj NF;cases s.CA
 . exact h.congr λ x=>by simp
 . refine (h.W9 s.base s.Co.toNat).congr λ x=>?_;rw[Int.toNat_of_nonneg hs];simp
theorem MB.Az0{m:List (Int×Bool)}{f:Int->Bool}:∀(l:List C3) (h:MB m f),(∀s∈l,0<=s.Co)->MB (l.foldl Lj m) (λ x=>f x||l.any (NF x))
 | [],h,_=>h.congr λ x=>by simp
 | s::r,h,hs=>by
   rw[Bo];exact (MB.Az0 r (h.dep s (hs s (by simp))) (λ t ht=>hs t (by simp[ht]))).congr λ x=>by simp[Bool.or_assoc]
theorem Apf(s:C3)(m:List (Int×Bool))(hs:1<=s.Co/\s.Co<=4)(hb:0<=s.base/\s.base<=100):Cv (EI s) (m,0,s.base)=some (Lj m s,s.Co,s.base+s.Co):=by
 have e:∃n:Nat,s.Co=(n:Int):=⟨s.Co.toNat,by omega⟩;obtain ⟨n,hn⟩:=e;have h:=C6 (step:=EI s) n (λ j=>(if s.CA=true then W9 m s.base j else m,(j:Int),s.base+(j:Int))) (Lj m s,s.Co,s.base+s.Co)
   (λ j hj=>by
     rw[EI.eq_1,hn,Et hj,Ak];have w1:=Cu (show j<10000000 by omega);have w2:IntKind.i64.wrap (s.base+(j:Int)+1)=s.base+((j+1:Nat):Int):=by rw[IntKind.wrap_i64];omega
     cases s.CA
     . rw[Aj,w1,w2];rfl
     . rw[Ak,w1,w2];rfl)
   (by
     rw[EI.eq_1,hn,E4,Aj];unfold Lj;rw[hn];rfl)
 have e0:(m,(0:Int),s.base)=(if s.CA=true then W9 m s.base 0 else m,((0:Nat):Int),s.base+((0:Nat):Int)):=by
   cases s.CA<;>simp[W9]
 rw[e0,h]
theorem Adk(sp:List C3)(i:Nat)(h:i<sp.length):Dk (sp.take (i+1))=Dk (sp.take i)+(sp.getD i Cm).Co:=by rw[CB sp i Cm h,D4]
def Wa(n:Nt)(i:Nat):Bool:=CL (n.blocks.getD i DG).name&&(decide (UN (n.blocks.getD i DG))&&decide (HQ n.blocks.length i (n.next.getD i [])/\(n.next.getD i []).length<=4))
def R2(n:Nt)(i:Nat):Bool:=CL (n.spurs.getD i Cm).name&&decide (Lx n.blocks.length (n.blocks.length+Dk (n.spurs.take i)) (n.spurs.getD i Cm))
theorem Ap5(n:Nt)(hl:n.blocks.length<=24)(hn:n.next.length=n.blocks.length)(hr:∀r∈n.next,r.length<=10000000):
   Cv (EG n) ([],0)=some (if (∀j,j<n.blocks.length->Wa n j=true) then Sum.inl (GS [] (n.blocks.map ER.name),(n.blocks.length:Int)) else Sum.inr false):=by
 have h:=E5 (step:=EG n) n.blocks.length (λ i=>(GS [] ((n.blocks.take i).map ER.name),(i:Int))) (Sum.inl (GS [] (n.blocks.map ER.name),(n.blocks.length:Int))) (Sum.inr false) (λ i=>Wa n i)
   (λ i hi hj=>by
     rw[EG.eq_1,Et hi,Ak,Ch n.blocks i DG hi,Aa];have w2:=Cu (show i<10000000 by omega);simp only[PO,O2,Aa];have V4:(GS [] ((n.blocks.take (i+1)).map ER.name),((i+1:Nat):Int))=
         (HS (GS [] ((n.blocks.take i).map ER.name)) (n.blocks.getD i DG).name (IntKind.i64.wrap ((DN (GS [] ((n.blocks.take i).map ER.name)) (n.blocks.getD i DG).name).getD 0+1)),((i+1:Nat):Int)):=by
       rw[CB n.blocks i DG hi,Be,AD,Bk,Wz]
     rw[V4,Ch n.next i [] (by omega),Aa,Yx _ i n.blocks.length (by have:=hr (n.next.getD i []) (CK n.next i [] (by omega));exact this),Aa];unfold Wa;generalize n.blocks.getD i DG=b;cases c0:CL b.name
     . simp
     rw[Ak,Bl];by_cases c1:(-9999)<=b.x/\b.x<=9999;rotate_left
     . have e1:(decide ((-9999)<=b.x)&&decide (b.x<=9999))=false:=by rw[<-BK];exact Ah c1
       rw[e1,Aj,if_neg (by rw[Ao,Aq];intro h;exact c1 ⟨h.1.1,h.1.2.1⟩)]
     rw[show (decide ((-9999)<=b.x)&&decide (b.x<=9999))=true by rw[<-BK];exact Ag c1,Ak];by_cases c2:(-9999)<=b.y/\b.y<=9999;rotate_left
     . have e1:(decide ((-9999)<=b.y)&&decide (b.y<=9999))=false:=by rw[<-BK];exact Ah c2
       rw[e1,Aj,if_neg (by rw[Ao,Aq];intro h;exact c2 ⟨h.1.2.2.1,h.1.2.2.2⟩)]
     rw[show (decide ((-9999)<=b.y)&&decide (b.y<=9999))=true by rw[<-BK];exact Ag c2,Ak];rw[show decide (UN b)=true from Ag ⟨c1.1,c1.2,c2.1,c2.2⟩,Bl];cases decide (HQ n.blocks.length i (n.next.getD i [])/\(n.next.getD i []).length<=4)
     . simp
     . rw[Ak,if_pos rfl,w2])
   (λ hj=>by rw[EG.eq_1,E4,Aj,At])
 exact h
theorem Atd(n:Nt)(m:List (List UInt8×Int))(hb:1<=n.blocks.length/\n.blocks.length<=24)(hl:n.spurs.length<=6):
   Cv (EH n) (m,[],(n.blocks.length:Int),0)=some (if (∀j,j<n.spurs.length->R2 n j=true) then Sum.inl (GS m (n.spurs.map C3.name),n.spurs.foldl Lj [],(n.blocks.length:Int)+Dk n.spurs,(n.spurs.length:Int)) else Sum.inr false):=by
 have LN:∀i,i<=n.spurs.length->(∀j,j<i->R2 n j=true)->0<=Dk (n.spurs.take i)/\Dk (n.spurs.take i)<=4*i:=by
   intro i hi hj;exact Ie n.blocks.length n.spurs i hi (λ j h=>by
     have:=hj j h;simp only[R2,Ao,Aq] at this;exact this.2)
 have h:=E5 (step:=EH n) n.spurs.length (λ i=>(GS m ((n.spurs.take i).map C3.name),(n.spurs.take i).foldl Lj [],(n.blocks.length:Int)+Dk (n.spurs.take i),(i:Int)))
   (Sum.inl (GS m (n.spurs.map C3.name),n.spurs.foldl Lj [],(n.blocks.length:Int)+Dk n.spurs,(n.spurs.length:Int))) (Sum.inr false) (λ i=>R2 n i)
   (λ i hi hj=>by
     have hs:=LN i (by omega) hj;rw[EH.eq_1,Et hi,Ak,Ch n.spurs i Cm hi,Aa];have w1:IntKind.i64.wrap ((n.blocks.length:Int) - 1)=(n.blocks.length:Int) - 1:=by rw[IntKind.wrap_i64];omega
     have w2:=Cu (show i<10000000 by omega);simp only[PO,O2,Aa,w1];have V4:(GS m ((n.spurs.take (i+1)).map C3.name),(n.spurs.take (i+1)).foldl Lj [],(n.blocks.length:Int)+Dk (n.spurs.take (i+1)),((i+1:Nat):Int))=
         (HS (GS m ((n.spurs.take i).map C3.name)) (n.spurs.getD i Cm).name (IntKind.i64.wrap ((DN (GS m ((n.spurs.take i).map C3.name)) (n.spurs.getD i Cm).name).getD 0+1)),Lj ((n.spurs.take i).foldl Lj []) (n.spurs.getD i Cm),(n.blocks.length:Int)+Dk (n.spurs.take i)+(n.spurs.getD i Cm).Co,((i+1:Nat):Int)):=by
       rw[Adk _ _ hi,CB n.spurs i Cm hi,Be,List.foldl_append,AD,Bk,Wz,Int.add_assoc];rfl
     rw[V4];unfold R2;generalize p7:n.spurs.getD i Cm=s;cases c0:CL s.name
     . simp
     rw[Ak,Bl];by_cases c1:0<=s.HW/\s.HW<=(n.blocks.length:Int) - 1;rotate_left
     . have e1:(decide (0<=s.HW)&&decide (s.HW<=(n.blocks.length:Int) - 1))=false:=by rw[<-BK];exact Ah c1
       rw[e1,Aj,if_neg (by rw[Aq];intro h;exact c1 ⟨h.1,by have:=h.2.1;omega⟩)]
     rw[show (decide (0<=s.HW)&&decide (s.HW<=(n.blocks.length:Int) - 1))=true by rw[<-BK];exact Ag c1,Ak];by_cases c2:0<=s.out/\s.out<=(n.blocks.length:Int) - 1;rotate_left
     . have e1:(decide (0<=s.out)&&decide (s.out<=(n.blocks.length:Int) - 1))=false:=by rw[<-BK];exact Ah c2
       rw[e1,Aj,if_neg (by rw[Aq];intro h;exact c2 ⟨h.2.2.1,by have:=h.2.2.2.1;omega⟩)]
     rw[show (decide (0<=s.out)&&decide (s.out<=(n.blocks.length:Int) - 1))=true by rw[<-BK];exact Ag c2,Ak];by_cases c3:1<=s.Co/\s.Co<=4;rotate_left
     . have e1:(decide (1<=s.Co)&&decide (s.Co<=4))=false:=by rw[<-BK];exact Ah c3
       rw[e1,Aj,if_neg (by rw[Aq];intro h;exact c3 ⟨h.2.2.2.2.1,h.2.2.2.2.2.1⟩)]
     rw[show (decide (1<=s.Co)&&decide (s.Co<=4))=true by rw[<-BK];exact Ag c3,Ak];by_cases c4:s.base=(n.blocks.length:Int)+Dk (n.spurs.take i);rotate_left
     . rw[Ah c4,Aj,if_neg (by rw[Aq];intro h;exact c4 h.2.2.2.2.2.2)]
     rw[Ag c4,Ak,if_pos (Ag ⟨c1.1,by omega,c2.1,by omega,c3.1,c3.2,c4⟩),<-c4,Apf s _ c3 (by omega),Aa,w2])
   (λ hj=>by rw[EH.eq_1,E4,Aj,At])
 have e0:(m,([]:List (Int×Bool)),(n.blocks.length:Int),(0:Int))=(GS m ((n.spurs.take 0).map C3.name),(n.spurs.take 0).foldl Lj [],(n.blocks.length:Int)+Dk (n.spurs.take 0),((0:Nat):Int)):=by
   simp[GS,Dk]
 rw[e0];exact h
theorem Ap4(n:Nt)(m:List (Int×Bool))(f:Int->Bool)(hm:MB m f)(ok:Bool)(hl:n.B0.length<=8):
   ∃m',Cv (D6 n) (m,ok,0)=some (m',ok&&decide (∀i,i<n.B0.length->f (n.B0.getD i 0)=true/\n.B0.getD i 0∉n.B0.take i),(n.B0.length:Int)):=by
 have key:∀k,k<=n.B0.length->∃m',MB m' (λ x=>f x&&decide (x∉n.B0.take k))/\
     ∀r,Cv (D6 n) (m',ok&&decide (∀i,i<k->f (n.B0.getD i 0)=true/\n.B0.getD i 0∉n.B0.take i),(k:Int))=some r->Cv (D6 n) (m,ok,0)=some r:=by
   intro k
   induction k with
   | zero=>
     intro _;refine ⟨m,hm.congr λ x=>by simp,λ r hr=>?_⟩;simp only[AZ,false_implies,implies_true,decide_true,Bool.and_true] at hr;exact hr
   | succ k ih=>
     intro hk;obtain ⟨m',h1,h2⟩:=ih (by omega);refine ⟨LQ m' (n.B0.getD k 0),(h1.del _).congr λ x=>?_,λ r hr=>h2 r ?_⟩
     . rw[CB n.B0 k 0 (by omega),Bool.and_assoc]
       congr 1
       rw[Bp];simp[not_or]
     . have w2:=Cu (show k<10000000 by omega);rw[CV,D6.eq_1,Et (by omega),Ak,Ch n.B0 k 0 (by omega),Aa,w2];have hg:(IU m' (n.B0.getD k 0)).getD false=(f (n.B0.getD k 0)&&decide (n.B0.getD k 0∉n.B0.take k)):=by
         rw[h1.2];split
         . rename_i e;simpa using e.symm
         . rename_i e;simpa using e
       have I5:decide (∀i,i<k+1->f (n.B0.getD i 0)=true/\n.B0.getD i 0∉n.B0.take i)=(decide (∀i,i<k->f (n.B0.getD i 0)=true/\n.B0.getD i 0∉n.B0.take i)&&(f (n.B0.getD k 0)&&decide (n.B0.getD k 0∉n.B0.take k))):=by
         rw[Bp];simp only[Ao,Aq];constructor
         . intro h;exact ⟨λ i hi=>h i (by omega),h k (by omega)⟩
         . rintro ⟨h3,h4⟩ i hi;by_cases e:i=k
           . subst e;exact h4
           . exact h3 i (by omega)
       rw[I5] at hr;cases c:(ok&&decide (∀i,i<k->f (n.B0.getD i 0)=true/\n.B0.getD i 0∉n.B0.take i))
       . rw[Aj,Aa,B4];rw[<-Bool.and_assoc,c,Bool.false_and] at hr;exact hr
       . rw[Ak,Aa,B4,hg];rw[<-Bool.and_assoc,c,Bl] at hr;exact hr
 obtain ⟨m',h1,h2⟩:=key n.B0.length (Ai _);exact ⟨m',h2 _ (by rw[CV,D6.eq_1,E4,Aj,Aa,B2])⟩
theorem Aii(n:Nt)(m:List (Int×Bool))(hl:n.B0.length<=8):∃r,Cv (EJ n) (m,0)=some r:=by
 have key:∀k (m:List (Int×Bool)) i,i+k=n.B0.length->∃r,Cv (EJ n) (m,(i:Int))=some r:=by
   intro k
   induction k with
   | zero=>
     intro m i hi;obtain rfl:i=n.B0.length:=by omega
     exact ⟨_,by rw[CV,EJ.eq_1,E4,Aj,Aa,B2]⟩
   | succ k ih=>
     intro m i hi;have w2:=Cu (show i<10000000 by omega);obtain ⟨r,hr⟩:=ih (LQ m (n.B0.getD i 0)) (i+1) (by omega);exact ⟨r,by rw[CV,EJ.eq_1,Et (by omega),Ak,Ch n.B0 i 0 (by omega),Aa,w2,Aa,B4];exact hr⟩
 exact key n.B0.length m 0 (by omega)
theorem Jk(l:List (List UInt8)):l.Nodup↔∀i,i<l.length->∀k,k<i->l.getD i []≠l.getD k []:=by
 unfold List.Nodup;rw[List.pairwise_iff_getElem];constructor
 . intro h i hi k hk;have:=h k i (by omega) hi hk;rw[getD_eq hi,getD_eq (show k<l.length by omega)];exact Bm this
 . intro h i j hi hj hij;have:=h j hj i hij;rw[getD_eq hi,getD_eq hj] at this;exact Bm this
theorem YY(n:Nt)(hs:Qw n):E3 n=some (decide (validN n)):=by
 obtain ⟨s1,⟨s2,s2'⟩,s3,s4⟩:=hs;have no:∀{r:Option Bool},¬validN n->r=some false->r=some (decide (validN n)):=λ h hr=>by rw[hr,Ah h]
 unfold E3;rw[O2,Aa];by_cases b1:1<=n.blocks.length/\n.blocks.length<=24;rotate_left
 . refine no (λ h=>b1 ⟨h.1.1,h.1.2.1⟩) ?_;rw[show (decide ((1:Int)<=((n.blocks.length:Nat):Int))&&decide (((n.blocks.length:Nat):Int)<=24))=false by rw[<-BK];exact Ah (by omega)];rfl
 rw[show (decide ((1:Int)<=((n.blocks.length:Nat):Int))&&decide (((n.blocks.length:Nat):Int)<=24))=true by rw[<-BK];exact Ag (by omega),Ak];by_cases b2:n.next.length=n.blocks.length
 rotate_left
 . refine no (λ h=>b2 h.1.2.2.1) ?_;rw[Ah (by omega),Aj]
 rw[Ag (by omega),Ak];by_cases b3:n.spurs.length<=6;rotate_left
 . refine no (λ h=>b3 h.2.1) ?_;rw[Ag (by omega),Ak]
 rw[Ah (by omega:¬(6:Int)<((n.spurs.length:Nat):Int)),Aj];by_cases b4:n.B0.length<=8;rotate_left
 . refine no (λ h=>b4 h.2.2.2.1) ?_;rw[Ag (by omega),Ak]
 rw[Ah (by omega:¬(8:Int)<((n.B0.length:Nat):Int)),Aj,US,Aa];by_cases b5:H4 n.cq n.ca n.cd n.cp;rotate_left
 . refine no (λ h=>b5 h.2.2.2.2.1) ?_;rw[Ah b5,Aj]
 rw[Ag b5,Ak,Ap5 n b1.2 b2 s2',Aa];by_cases b6:∀j,j<n.blocks.length->Wa n j=true;rotate_left
 . refine no (λ h=>b6 λ j hj=>?_) ?_
   . have h1:=h.1.2.2.2 j hj;have h2:=(h.2.2.1 j (by simp[Dd];omega)).1;have h3:(Dd n).getD j []=(n.blocks.getD j DG).name:=by
       unfold Dd;simp[List.getD,AN,hj]
     rw[h3] at h2;simp only[Wa,Ao,Aq];exact ⟨h2,h1.1,h1.2.2,h1.2.1⟩
   . rw[if_neg b6]
 rw[if_pos b6];simp only;rw[Atd n _ b1 b3,Aa];by_cases b7:∀j,j<n.spurs.length->R2 n j=true;rotate_left
 . refine no (λ h=>b7 λ j hj=>?_) ?_
   . have h1:=h.2.2.2.2.2.1 j hj;have h2:=(h.2.2.1 (n.blocks.length+j) (by simp[Dd];omega)).1;have h3:(Dd n).getD (n.blocks.length+j) []=(n.spurs.getD j Cm).name:=by
       unfold Dd;simp[List.getD,AN,hj]
     rw[h3] at h2;simp only[R2,Ao,Aq];exact ⟨h2,h1⟩
   . rw[if_neg b7]
 rw[if_pos b7];simp only;have g6:∀j,j<n.blocks.length->CL (n.blocks.getD j DG).name=true/\UN (n.blocks.getD j DG)/\(n.next.getD j []).length<=4/\HQ n.blocks.length j (n.next.getD j []):=λ j hj=>by
   have:=b6 j hj;simp only[Wa,Ao,Aq] at this;exact ⟨this.1,this.2.1,this.2.2.2,this.2.2.1⟩
 have g7:∀j,j<n.spurs.length->CL (n.spurs.getD j Cm).name=true/\Lx n.blocks.length (n.blocks.length+Dk (n.spurs.take j)) (n.spurs.getD j Cm):=λ j hj=>by
   have:=b7 j hj;simp only[R2,Ao,Aq] at this;exact this
 have Akl:∀s∈n.spurs,1<=s.Co:=by
   intro s hs;obtain ⟨i,hi,rfl⟩:=List.getElem_of_mem hs;have:=(g7 i hi).2.2.2.2.2.1;rwa[getD_eq hi] at this
 have hM:=(MB.Az0 n.spurs MB.nil (λ s hs=>by have:=Akl s hs;omega)).congr (g:=λ x=>n.spurs.any (NF x)) (λ x=>by simp);have Ay7:(0<(n.spurs.foldl Lj []).length)↔0<(n.spurs.filter C3.CA).length:=by
   rw[hM.pos,List.length_pos_iff_exists_mem];constructor
   . rintro ⟨x,hx⟩;obtain ⟨s,hs,h⟩:=A4.1 hx;refine ⟨s,List.mem_filter.2 ⟨hs,?_⟩⟩;unfold NF at h;simp only[Ao] at h;exact h.1
   . rintro ⟨s,hs⟩;obtain ⟨hs,hd⟩:=List.mem_filter.1 hs;refine ⟨s.base,A4.2 ⟨s,hs,?_⟩⟩;have:=Akl s hs;simp[NF,hd];omega
 have Zs:=WA (Dd n) [] (by simp);have Aya:GS (GS [] (n.blocks.map ER.name)) (n.spurs.map C3.name)=GS [] (Dd n):=by rw[<-Ans];rfl
 have Lb:(Dd n).length=n.blocks.length+n.spurs.length:=by simp[Dd]
 rw[Aya];have w1:IntKind.i64.wrap (((n.blocks.length:Nat):Int)+((n.spurs.length:Nat):Int))=((n.blocks.length+n.spurs.length:Nat):Int):=by rw[IntKind.wrap_i64];omega
 have hnn:Fp n↔(Dd n).Nodup:=by
   rw[Jk];constructor
   . intro h i hi k hk;exact (h i hi).2 k hk
   . intro h i hi;refine ⟨?_,λ k hk=>h i hi k hk⟩;by_cases hb:i<n.blocks.length
     . have h3:(Dd n).getD i []=(n.blocks.getD i DG).name:=by
         unfold Dd;simp[List.getD,AN,hb]
       rw[h3];exact (g6 i hb).1
     . have h3:(Dd n).getD i []=(n.spurs.getD (i - n.blocks.length) Cm).name:=by
         unfold Dd;simp[List.getD,AN,hb,show i - n.blocks.length<n.spurs.length by omega]
       rw[h3];exact (g7 _ (by omega)).1
 have RY:decide ((((GS [] (Dd n)).length:Nat):Int)=((n.blocks.length+n.spurs.length:Nat):Int))=decide (Fp n):=by
   rw[Bp,Aq,Aq,hnn];have:=Zs.2.2;simp only[Az,A2,Bk,Bh] at this;rw[<-this,Lb];omega
 by_cases b8:0<(n.spurs.foldl Lj []).length
 . rw[Ag (by omega:(0:Int)<(((n.spurs.foldl Lj []).length:Nat):Int)),Ak,w1,RY];obtain ⟨m',r4⟩:=Ap4 n (n.spurs.foldl Lj []) _ hM (decide (Fp n)) b4;rw[r4,Aa];simp only
   congr 1
   rw[Bp,Ao,Aq,Aq,Aq];constructor
   . rintro ⟨h1,h2⟩;exact ⟨⟨b1.1,b1.2,b2,λ i hi=>(g6 i hi).2⟩,b3,h1,b4,b5,λ i hi=>(g7 i hi).2,h2,Ay7.1 b8⟩
   . intro h;exact ⟨h.2.2.1,h.2.2.2.2.2.2.1⟩
 . rw[Ah (by omega:¬(0:Int)<(((n.spurs.foldl Lj []).length:Nat):Int)),Aj];obtain ⟨r,hr⟩:=Aii n (n.spurs.foldl Lj []) b4;rw[hr,Aa];exact no (λ h=>b8 (Ay7.2 h.2.2.2.2.2.2.2)) rfl
def M5(a0:List (List Int))(v3:Int)(OU:List Int):Int×Int->Option ((Int×Int)⊕((Int×Int)⊕Bool))
 | (NR,v17)=>cond (decide (NR<((OU.length:Nat):Int))) (Option.bind (CE OU NR) λ x24=>cond (decide (x24<=v17)) (some (Sum.inr (.inr ((false:Bool))))) (cond (decide (((a0.length:Nat):Int)<=x24)) (some (Sum.inr (.inr ((false:Bool))))) (cond (decide (x24=v3)) (some (Sum.inr (.inr ((false:Bool))))) (some (Sum.inl ((IntKind.i64.wrap (NR+1)),x24)))))) (some (Sum.inr (.inl (NR,v17))))
def Pg(a0:List (List Int)):Int->Option ((Int)⊕(Int⊕Bool))
 | v3=>cond (decide (v3<((a0.length:Nat):Int))) (Option.bind (CE a0 v3) λ OU=>Option.bind (Cv (M5 a0 v3 OU) (0,(-1))) (λ | .inl (v31,v32)=>some (Sum.inl (IntKind.i64.wrap (v3+1))) | .inr (r33)=>some (Sum.inr (.inr (r33))))) (some (Sum.inr (.inl v3)))
def QG(a0:List (List Int)):Option (Bool):=
 cond (decide (24<((a0.length:Nat):Int))) (some false) (Option.bind (Cv (Pg a0) 0) (λ | .inl v34=>some true | .inr (r35)=>some r35))
theorem Ajg(a0:List (List Int))(r:Bool)(hr:QG a0=some r):
   BZ prog 81 [.p (.sl (Cr a0))] [] λ h d=>h=[]/\d= .p (.bool r):=by
 refine B1 func81 rfl Am0 (by simp[Tryz.f81]) ?_;unfold QG at hr;cases c1:decide (24<((a0.length:Nat):Int))
 . simp only[c1,Aj] at hr;obtain ⟨e7,g8,hr⟩:=bE hr;(try simp only[go_sem,c1]);refine CQ g8 (λ q:Int=>⟨[(0,.p (.sl (Cr a0))),(11,.p (.sl (Cr a0))),(12,.p (.int .i64 ((a0.length:Nat):Int))),(13,.p (.int .i64 q))],[],41⟩) ((Wk.forget (by simp[ZF,ZE]))) ?_;rintro v3 m6 D7 U6;rw[Pg.eq_1] at D7;cases c9:decide (v3<((a0.length:Nat):Int))
   . simp only[c9,Aj] at D7;simp only[Aa,B2] at D7;cases D7;(try dsimp only at hr);cases hr;(try simp only[go_sem,c9]);all_goals ((try refine BY ?_);(try simp only[go_sem,c9]);try first | rfl | exact ⟨rfl,rfl⟩ | (simp;done))
   simp only[c9,Ak] at D7;obtain ⟨OU,g11,D7⟩:=bK D7;have f12:=B9 g11;have f13:(Cr a0).getD (Int.toNat v3) []=[(.sl (BX OU))]:=Ca _ g11;obtain ⟨e21,g22,D7⟩:=bK D7;(try simp only[go_sem,c9,f12,f13]);refine CQ g22 (λ q:Int×Int=>⟨[(0,.p (.sl (Cr a0))),(3,.p (.int .i64 v3)),(5,.p (.int .i64 q.2)),(11,.p (.sl (Cr a0))),(12,.p (.int .i64 ((a0.length:Nat):Int))),(13,.p (.int .i64 v3)),(18,.p (.sl (BX OU))),(19,.p (.int .i64 ((OU.length:Nat):Int))),(20,.p (.int .i64 q.1))],[],41⟩) ((Wk.forget (by simp[ZF,ZE]))) ?_;rintro ⟨NR,v17⟩ m20 Gn Aub;rw[M5.eq_1] at Gn;cases WG:decide (NR<((OU.length:Nat):Int))
   . simp only[WG,Aj] at Gn;simp only[Aa,B2] at Gn;cases Gn;(try dsimp only at D7);simp only[Aa,B4] at D7;(try simp only[go_sem,WG]);exact U6 (IntKind.i64.wrap (v3+1)) _ D7 ((Wk.forget (by simp[ZF,ZE])))
   simp only[WG,Ak] at Gn;obtain ⟨x24,g25,Gn⟩:=bK Gn;have f26:=B9 g25;have f27:(BX OU).getD (Int.toNat NR) []=[(.int .i64 x24)]:=Ca _ g25;cases WE:decide (x24<=v17)
   . simp only[WE,Aj] at Gn;cases Sa:decide (((a0.length:Nat):Int)<=x24)
     . simp only[Sa,Aj] at Gn;cases OO:decide (x24=v3)
       . simp only[OO,Aj] at Gn;simp only[Aa,B4] at Gn;(try simp only[go_sem,WG,f26,f27,WE,Sa,OO]);exact Aub ((IntKind.i64.wrap (NR+1)),x24) _ Gn ((Wk.forget (by simp[ZF,ZE])))
       simp only[OO,Ak] at Gn;simp only[Aa,B2] at Gn;cases Gn;(try dsimp only at D7);simp only[Aa,B2] at D7;cases D7;(try dsimp only at hr);cases hr;(try simp only[go_sem,WG,f26,f27,WE,Sa,OO]);all_goals ((try refine BY ?_);(try simp only[go_sem,WG,f26,f27,WE,Sa,OO]);try first | rfl | exact ⟨rfl,rfl⟩ | (simp;done))
     simp only[Sa,Ak] at Gn;simp only[Aa,B2] at Gn;cases Gn;(try dsimp only at D7);simp only[Aa,B2] at D7;cases D7;(try dsimp only at hr);cases hr;(try simp only[go_sem,WG,f26,f27,WE,Sa]);all_goals ((try refine BY ?_);(try simp only[go_sem,WG,f26,f27,WE,Sa]);try first | rfl | exact ⟨rfl,rfl⟩ | (simp;done))
   simp only[WE,Ak] at Gn;simp only[Aa,B2] at Gn;cases Gn;(try dsimp only at D7);simp only[Aa,B2] at D7;cases D7;(try dsimp only at hr);cases hr;(try simp only[go_sem,WG,f26,f27,WE]);all_goals ((try refine BY ?_);(try simp only[go_sem,WG,f26,f27,WE]);try first | rfl | exact ⟨rfl,rfl⟩ | (simp;done))
 simp only[c1,Ak] at hr;cases hr;try simp only[go_sem,c1]
 all_goals ((try refine BY ?_);(try simp only[go_sem,c1]);try first | rfl | exact ⟨rfl,rfl⟩ | (simp;done))
theorem Ak2(l:List Int)(at_ On:Nat)(II:at_<90000)(SC:1<=On)(Sl:On<=10):
   BZ prog 20 [.ptr 1000000 0,.p (.int .i64 (On:Nat))] [(1000000,.box (C9 l at_))]
     λ h r=>∃at2 n,at2<=at_+300/\(validN n/\n.blocks.length<=10)/\h=[(1000000,.box (C9 l at2))]/\r= .agg n.cs:=by
 refine B1 func20 rfl An2 (by simp[Tryz.f20]) ?_;simp only[go_sem,C9];refine DF (Aq1 l at_ On (by omega) SC Sl) ?_;rintro h' r ⟨a,n,ha,hP,rfl,rfl⟩;have Ip:=hP.valid;obtain ⟨⟨nb1,nb2⟩,_,Lb,V4,hns,_,hss,Xx,Qi,_⟩:=hP;obtain ⟨bl,nx,sp,rb,cq,ca,cd,cp⟩:=n;simp only at nb1 nb2 Lb V4 hns hss Xx Qi;obtain ⟨q1,UI,Bbg⟩:=CO l a 3 (by omega);have hV:∀(nx':List (List Int)) (rb':List Int),(nx'.length=bl.length/\∀i,i<bl.length->(nx'.getD i []).length<=4/\HQ bl.length i (nx'.getD i []))->Ee sp rb'->rb'.length<=8->validN ⟨bl,nx',sp,rb',cq,ca,cd,cp⟩/\(⟨bl,nx',sp,rb',cq,ca,cd,cp⟩:Nt).blocks.length<=10:=by
   intro nx' rb' hn GG Ht;obtain ⟨⟨v1,v2,v3,v4⟩,v5,v6,v7,v8,v9,v10,v11⟩:=Ip;exact ⟨⟨⟨v1,v2,hn.1,λ i hi=>⟨(v4 i hi).1,(hn.2 i hi).1,(hn.2 i hi).2⟩⟩,v5,v6,Ht,v8,v9,GG,v11⟩,nb2⟩
 have hN0:nx.length=bl.length/\∀i,i<bl.length->(nx.getD i []).length<=4/\HQ bl.length i (nx.getD i []):=by
   obtain ⟨⟨v1,v2,v3,v4⟩,_⟩:=Ip;exact ⟨v3,λ i hi=>(v4 i hi).2⟩
 have Bbb:=Ie bl.length sp sp.length (Ai _) hss;rw[At] at Bbb;have e1:=Wr bl bl.length (Ai _);have e3:=Wp sp sp.length (Ai _);have e4:=G8 rb rb.length (Ai _);simp only[go_sem,Nt.os,C9];refine Cq ((C4 l a 3 (by omega) (CD _ (by omega) (by omega)))) ?_;simp only[go_sem,C9,UI];cases c1:decide ((q1:Int)=0)
 . obtain ⟨q2,V3,Auo⟩:=CO l (a+1) 3 (by omega);have PE:nx.length=nx.length:=rfl;have e2:List.take bl.length (Cr nx)=Cr nx:=AL (by simp[Cr];omega);simp only[go_sem,c1];refine Cq ((C4 l (a+1) 3 (by omega) (CD _ (by omega) (by omega)))) ?_;simp only[go_sem,C9,V3];cases c3:decide ((q2:Int)=0)
   . simp only[go_sem,c3];refine BY ?_;simp only[go_sem,Cf,B8,Lb,PE,Cb,BW,e1,e2,e3,e4];refine ⟨(a+1)+1,⟨bl,nx,sp,rb,cq,ca,cd,cp⟩,by omega,hV nx rb hN0 Qi (by omega),?_⟩;first | exact ⟨rfl,rfl⟩ | rfl | (simp[Nt.cs];done)
   simp only[go_sem,c3];refine B5 (λ q:Nat×List Int=>⟨[(0,.ptr 1000000 0),(4,.ptr 4 0),(5,.ptr 5 0),(6,.p (.int .i64 (q.1:Nat)))],
       [(1000000,.box [.p (.sl (BX l)),.p (.int .i64 (((a+1)+1:Nat):Int))]),(4,.box [.cl [],.cl [],.cl [],.cl [],.p (.int .i64 0),.p (.int .i64 0),.p (.int .i64 0),.p (.int .i64 0)]),
        (5,.box [.ref 10011 0 bl.length bl.length,.ref 20011 0 nx.length nx.length,.ref 30011 0 sp.length sp.length,.ref 40011 0 q.2.length q.2.length,.p (.int .i64 cq),.p (.int .i64 ca),.p (.int .i64 cd),.p (.int .i64 cp)]),
        (10011,.arr 76 3 (C2 bl)),(20011,.arr 22 1 (Cr nx)),(30011,.arr 68 6 (C1 sp)),(40011,.arr 3 1 (BX q.2))],83⟩)
     (λ q=>q.1<=sp.length/\q.2.length<=8/\Ee sp q.2) (λ q=>sp.length - q.1) (0,rb) ⟨AE _,by simp only;omega,Qi⟩ (Wk.forget (by simp[ZF,PE])) ?_
   rintro ⟨i,r1⟩ m4 ⟨hi,Yg,GG⟩ VZ;simp only at hi Yg GG;have e4:=G8 r1 r1.length (Ai _);cases c5:decide ((i:Int)<(sp.length:Int))
   . simp only[go_sem,Cb,c5];refine BY ?_;simp only[go_sem,Cf,B8,Lb,PE,Cb,BW,e1,e2,e3,e4];refine ⟨(a+1)+1,⟨bl,nx,sp,r1,cq,ca,cd,cp⟩,by omega,hV nx r1 hN0 GG (by omega),?_⟩;first | exact ⟨rfl,rfl⟩ | rfl | (simp[Nt.cs];done)
   have hit:i<sp.length:=by have:=Ad c5;omega
   have V2:=Cg i (by omega);have Qj:=Fa sp i hit;have Dx:(0:Int)<=(i:Int)/\(i:Int)<(sp.length:Int):=by omega
   have ET:=CK sp i Cm hit;obtain ⟨_,_,_,_,g5,g6,g7⟩:=hss i hit;obtain ⟨g8,g9,_⟩:=L0 hss hit;generalize p7:sp.getD i Cm=s at*;simp only[go_sem,c5,Cb];refine B5 (λ q:Nat×List Int=>⟨[(0,.ptr 1000000 0),(4,.ptr 4 0),(5,.ptr 5 0),(6,.p (.int .i64 (i:Nat))),(7,.p (.int .i64 (q.1:Nat)))],
       [(1000000,.box [.p (.sl (BX l)),.p (.int .i64 (((a+1)+1:Nat):Int))]),(4,.box [.cl [],.cl [],.cl [],.cl [],.p (.int .i64 0),.p (.int .i64 0),.p (.int .i64 0),.p (.int .i64 0)]),
        (5,.box [.ref 10011 0 bl.length bl.length,.ref 20011 0 nx.length nx.length,.ref 30011 0 sp.length sp.length,.ref 40011 0 q.2.length q.2.length,.p (.int .i64 cq),.p (.int .i64 ca),.p (.int .i64 cd),.p (.int .i64 cp)]),
        (10011,.arr 76 3 (C2 bl)),(20011,.arr 22 1 (Cr nx)),(30011,.arr 68 6 (C1 sp)),(40011,.arr 3 1 (BX q.2))],83⟩)
     (λ q=>q.1<=4/\(q.1:Int)<=s.Co/\q.2.length<=8/\Ee sp q.2) (λ q=>4 - q.1) (0,r1) ⟨by simp,by simp only;omega,Yg,GG⟩ (Wk.forget (by simp[ZF,PE])) ?_
   rintro ⟨j,r2⟩ m5 ⟨hj4,hjs,Mr,Ht⟩ U6;simp only at hj4 hjs Mr Ht;cases c6:decide ((j:Int)<s.Co)
   . simp only[go_sem,Cb,Ab,Qj,Dx,c6,V2];refine VZ (i+1,r2) _ ⟨hit,Mr,Ht⟩ (by simp only;omega) ?_
     (refine Wk.forget ?_;simp[ZF];done)
   cases c7:s.CA
   . simp only[go_sem,Cb,Ab,Qj,Dx,c6,c7,V2];refine VZ (i+1,r2) _ ⟨hit,Mr,Ht⟩ (by simp only;omega) ?_
     (refine Wk.forget ?_;simp[ZF];done)
   cases c8:decide ((r2.length:Int)<8)
   . simp only[go_sem,Cb,BW,Ab,Qj,Dx,c6,c7,c8,V2];refine VZ (i+1,r2) _ ⟨hit,Mr,Ht⟩ (by simp only;omega) ?_
     (refine Wk.forget ?_;simp[ZF];done)
   have hj6:(j:Int)<s.Co:=Ad c6;have hr7:r2.length<8:=by have:=Ad c8;omega
   have p5:=Cg j (by omega);have hwx:IntKind.i64.wrap (s.base+(j:Int))=s.base+(j:Int):=by rw[B3]<;>omega
   simp only[go_sem,Cb,BW,Ab,Qj,Dx,c6,c7,c8,hwx];refine Rz rfl rfl (Mw r2 (s.base+(j:Int)) (by omega)) (by simp[KR,Sy,ev,get,AL,ZB]) ?_;rintro h' r ⟨rfl,rfl⟩;refine ⟨rfl,rfl,?_⟩;cases c9:decide (s.base+(j:Int)∈r2);rotate_left
   . simp only[go_sem,c9,p5];refine U6 (j+1,r2) _ ⟨by simp only;omega,by simp only;omega,Mr,Ht⟩ (by simp only;omega) ?_
     (refine Wk.forget ?_;simp[ZF];done)
   have Q4:=Ae c9;have LW:sp.any (NF (s.base+(j:Int)))=true:=by
       rw[A4];exact ⟨s,ET,by unfold NF;rw[c7];simp;omega⟩
   simp only[go_sem,c9,BW];refine ⟨⟨EB _ _ rfl,by omega⟩,?_⟩;simp only[go_sem,p5];refine U6 (j+1,r2++[s.base+(j:Int)]) _ ⟨by simp only;omega,by simp only;omega,by simp;omega,IP Ht LW Q4⟩ (by simp only;omega) ?_
   (refine Wk.forget ?_;simp[ZF,D5,BW];done)
 cases c2:decide (1<(bl.length:Int))
 . obtain ⟨q2,V3,Auo⟩:=CO l (a+1) 3 (by omega);have PE:nx.length=nx.length:=rfl;have e2:List.take bl.length (Cr nx)=Cr nx:=AL (by simp[Cr];omega);simp only[go_sem,c1,c2,Cf];refine Cq ((C4 l (a+1) 3 (by omega) (CD _ (by omega) (by omega)))) ?_;simp only[go_sem,C9,V3];cases c3:decide ((q2:Int)=0)
   . simp only[go_sem,c3];refine BY ?_;simp only[go_sem,Cf,B8,Lb,PE,Cb,BW,e1,e2,e3,e4];refine ⟨(a+1)+1,⟨bl,nx,sp,rb,cq,ca,cd,cp⟩,by omega,hV nx rb hN0 Qi (by omega),?_⟩;first | exact ⟨rfl,rfl⟩ | rfl | (simp[Nt.cs];done)
   simp only[go_sem,c3];refine B5 (λ q:Nat×List Int=>⟨[(0,.ptr 1000000 0),(4,.ptr 4 0),(5,.ptr 5 0),(6,.p (.int .i64 (q.1:Nat)))],
       [(1000000,.box [.p (.sl (BX l)),.p (.int .i64 (((a+1)+1:Nat):Int))]),(4,.box [.cl [],.cl [],.cl [],.cl [],.p (.int .i64 0),.p (.int .i64 0),.p (.int .i64 0),.p (.int .i64 0)]),
        (5,.box [.ref 10011 0 bl.length bl.length,.ref 20011 0 nx.length nx.length,.ref 30011 0 sp.length sp.length,.ref 40011 0 q.2.length q.2.length,.p (.int .i64 cq),.p (.int .i64 ca),.p (.int .i64 cd),.p (.int .i64 cp)]),
        (10011,.arr 76 3 (C2 bl)),(20011,.arr 22 1 (Cr nx)),(30011,.arr 68 6 (C1 sp)),(40011,.arr 3 1 (BX q.2))],83⟩)
     (λ q=>q.1<=sp.length/\q.2.length<=8/\Ee sp q.2) (λ q=>sp.length - q.1) (0,rb) ⟨AE _,by simp only;omega,Qi⟩ (Wk.forget (by simp[ZF,PE])) ?_
   rintro ⟨i,r1⟩ m4 ⟨hi,Yg,GG⟩ VZ;simp only at hi Yg GG;have e4:=G8 r1 r1.length (Ai _);cases c5:decide ((i:Int)<(sp.length:Int))
   . simp only[go_sem,Cb,c5];refine BY ?_;simp only[go_sem,Cf,B8,Lb,PE,Cb,BW,e1,e2,e3,e4];refine ⟨(a+1)+1,⟨bl,nx,sp,r1,cq,ca,cd,cp⟩,by omega,hV nx r1 hN0 GG (by omega),?_⟩;first | exact ⟨rfl,rfl⟩ | rfl | (simp[Nt.cs];done)
   have hit:i<sp.length:=by have:=Ad c5;omega
   have V2:=Cg i (by omega);have Qj:=Fa sp i hit;have Dx:(0:Int)<=(i:Int)/\(i:Int)<(sp.length:Int):=by omega
   have ET:=CK sp i Cm hit;obtain ⟨_,_,_,_,g5,g6,g7⟩:=hss i hit;obtain ⟨g8,g9,_⟩:=L0 hss hit;generalize p7:sp.getD i Cm=s at*;simp only[go_sem,c5,Cb];refine B5 (λ q:Nat×List Int=>⟨[(0,.ptr 1000000 0),(4,.ptr 4 0),(5,.ptr 5 0),(6,.p (.int .i64 (i:Nat))),(7,.p (.int .i64 (q.1:Nat)))],
       [(1000000,.box [.p (.sl (BX l)),.p (.int .i64 (((a+1)+1:Nat):Int))]),(4,.box [.cl [],.cl [],.cl [],.cl [],.p (.int .i64 0),.p (.int .i64 0),.p (.int .i64 0),.p (.int .i64 0)]),
        (5,.box [.ref 10011 0 bl.length bl.length,.ref 20011 0 nx.length nx.length,.ref 30011 0 sp.length sp.length,.ref 40011 0 q.2.length q.2.length,.p (.int .i64 cq),.p (.int .i64 ca),.p (.int .i64 cd),.p (.int .i64 cp)]),
        (10011,.arr 76 3 (C2 bl)),(20011,.arr 22 1 (Cr nx)),(30011,.arr 68 6 (C1 sp)),(40011,.arr 3 1 (BX q.2))],83⟩)
     (λ q=>q.1<=4/\(q.1:Int)<=s.Co/\q.2.length<=8/\Ee sp q.2) (λ q=>4 - q.1) (0,r1) ⟨by simp,by simp only;omega,Yg,GG⟩ (Wk.forget (by simp[ZF,PE])) ?_
   rintro ⟨j,r2⟩ m5 ⟨hj4,hjs,Mr,Ht⟩ U6;simp only at hj4 hjs Mr Ht;cases c6:decide ((j:Int)<s.Co)
   . simp only[go_sem,Cb,Ab,Qj,Dx,c6,V2];refine VZ (i+1,r2) _ ⟨hit,Mr,Ht⟩ (by simp only;omega) ?_
     (refine Wk.forget ?_;simp[ZF];done)
   cases c7:s.CA
   . simp only[go_sem,Cb,Ab,Qj,Dx,c6,c7,V2];refine VZ (i+1,r2) _ ⟨hit,Mr,Ht⟩ (by simp only;omega) ?_
     (refine Wk.forget ?_;simp[ZF];done)
   cases c8:decide ((r2.length:Int)<8)
   . simp only[go_sem,Cb,BW,Ab,Qj,Dx,c6,c7,c8,V2];refine VZ (i+1,r2) _ ⟨hit,Mr,Ht⟩ (by simp only;omega) ?_
     (refine Wk.forget ?_;simp[ZF];done)
   have hj6:(j:Int)<s.Co:=Ad c6;have hr7:r2.length<8:=by have:=Ad c8;omega
   have p5:=Cg j (by omega);have hwx:IntKind.i64.wrap (s.base+(j:Int))=s.base+(j:Int):=by rw[B3]<;>omega
   simp only[go_sem,Cb,BW,Ab,Qj,Dx,c6,c7,c8,hwx];refine Rz rfl rfl (Mw r2 (s.base+(j:Int)) (by omega)) (by simp[KR,Sy,ev,get,AL,ZB]) ?_;rintro h' r ⟨rfl,rfl⟩;refine ⟨rfl,rfl,?_⟩;cases c9:decide (s.base+(j:Int)∈r2);rotate_left
   . simp only[go_sem,c9,p5];refine U6 (j+1,r2) _ ⟨by simp only;omega,by simp only;omega,Mr,Ht⟩ (by simp only;omega) ?_
     (refine Wk.forget ?_;simp[ZF];done)
   have Q4:=Ae c9;have LW:sp.any (NF (s.base+(j:Int)))=true:=by
       rw[A4];exact ⟨s,ET,by unfold NF;rw[c7];simp;omega⟩
   simp only[go_sem,c9,BW];refine ⟨⟨EB _ _ rfl,by omega⟩,?_⟩;simp only[go_sem,p5];refine U6 (j+1,r2++[s.base+(j:Int)]) _ ⟨by simp only;omega,by simp only;omega,by simp;omega,IP Ht LW Q4⟩ (by simp only;omega) ?_
   (refine Wk.forget ?_;simp[ZF,D5,BW];done)
 . obtain ⟨u,hu,hub⟩:=CO l (a+1) bl.length (by omega);obtain ⟨q2,V3,Auo⟩:=CO l (a+2) 3 (by omega);have hu0:(0:Int)<=(u:Int)/\(u:Int)<(nx.length:Int):=by omega
   have hN1:(nx.set u []).length=bl.length/\∀i,i<bl.length->((nx.set u []).getD i []).length<=4/\HQ bl.length i ((nx.set u []).getD i []):=by
     refine ⟨by simp[hN0.1],λ i hi=>?_⟩;by_cases h:u=i
     . subst h;have:(nx.set u []).getD u []=[]:=by simp[List.getD,show u<nx.length by omega]
       rw[this];exact ⟨by simp,λ k hk=>by simp at hk⟩
     . have:(nx.set u []).getD i []=nx.getD i []:=by simp[List.getD,h]
       rw[this];exact hN0.2 i hi
   have PE:(nx.set u []).length=nx.length:=by simp
   have e2:List.take bl.length (Cr (nx.set u []))=Cr (nx.set u []):=AL (by simp[Cr];omega);have hsn:(Cr nx).set u [.sl []]=Cr (nx.set u []):=by simp[Cr,BX,BD]
   simp only[go_sem,c1,c2,Cf];refine Dm [(10011,.arr 76 3 (C2 bl)),(5,.box [.ref 10011 0 bl.length bl.length,.ref 20011 0 nx.length nx.length,.ref 30011 0 sp.length sp.length,.ref 40011 0 rb.length rb.length,.p (.int .i64 cq),.p (.int .i64 ca),.p (.int .i64 cd),.p (.int .i64 cp)]),(20011,.arr 22 1 (Cr nx))] mixed (p:=[(0,0),(1,0),(2,0),(3,0),(4,0),(5,0),(6,2),(7,0),(8,3)]) (by kernel_rfl) (by simp[C8,get]) ?_;simp only[go_sem,Cf];refine Gq ((C4 l (a+1) bl.length (by omega) (CD _ (by omega) (by omega)))) ?_;have hgu:(Cr nx).getD u []=[.sl (BX (nx.getD u []))]:=by simp[Cr,List.getD,show u<nx.length by omega]
   simp only[go_sem,C9,hu,B8,Ab,hu0,hgu,hsn];refine Cq ((C4 l (a+2) 3 (by omega) (CD _ (by omega) (by omega)))) ?_;simp only[go_sem,C9,V3];cases c3:decide ((q2:Int)=0)
   . simp only[go_sem,c3];refine BY ?_;simp only[go_sem,Cf,B8,Lb,PE,Cb,BW,e1,e2,e3,e4];refine ⟨(a+2)+1,⟨bl,(nx.set u []),sp,rb,cq,ca,cd,cp⟩,by omega,hV (nx.set u []) rb hN1 Qi (by omega),?_⟩;first | exact ⟨rfl,rfl⟩ | rfl | (simp[Nt.cs];done)
   simp only[go_sem,c3];refine B5 (λ q:Nat×List Int=>⟨[(0,.ptr 1000000 0),(4,.ptr 4 0),(5,.ptr 5 0),(6,.p (.int .i64 (q.1:Nat)))],
       [(1000000,.box [.p (.sl (BX l)),.p (.int .i64 (((a+2)+1:Nat):Int))]),(4,.box [.cl [],.cl [],.cl [],.cl [],.p (.int .i64 0),.p (.int .i64 0),.p (.int .i64 0),.p (.int .i64 0)]),
        (5,.box [.ref 10011 0 bl.length bl.length,.ref 20011 0 nx.length nx.length,.ref 30011 0 sp.length sp.length,.ref 40011 0 q.2.length q.2.length,.p (.int .i64 cq),.p (.int .i64 ca),.p (.int .i64 cd),.p (.int .i64 cp)]),
        (10011,.arr 76 3 (C2 bl)),(20011,.arr 22 1 (Cr (nx.set u []))),(30011,.arr 68 6 (C1 sp)),(40011,.arr 3 1 (BX q.2))],83⟩)
     (λ q=>q.1<=sp.length/\q.2.length<=8/\Ee sp q.2) (λ q=>sp.length - q.1) (0,rb) ⟨AE _,by simp only;omega,Qi⟩ (Wk.forget (by simp[ZF,PE])) ?_
   rintro ⟨i,r1⟩ m4 ⟨hi,Yg,GG⟩ VZ;simp only at hi Yg GG;have e4:=G8 r1 r1.length (Ai _);cases c5:decide ((i:Int)<(sp.length:Int))
   . simp only[go_sem,Cb,c5];refine BY ?_;simp only[go_sem,Cf,B8,Lb,PE,Cb,BW,e1,e2,e3,e4];refine ⟨(a+2)+1,⟨bl,(nx.set u []),sp,r1,cq,ca,cd,cp⟩,by omega,hV (nx.set u []) r1 hN1 GG (by omega),?_⟩;first | exact ⟨rfl,rfl⟩ | rfl | (simp[Nt.cs];done)
   have hit:i<sp.length:=by have:=Ad c5;omega
   have V2:=Cg i (by omega);have Qj:=Fa sp i hit;have Dx:(0:Int)<=(i:Int)/\(i:Int)<(sp.length:Int):=by omega
   have ET:=CK sp i Cm hit;obtain ⟨_,_,_,_,g5,g6,g7⟩:=hss i hit;obtain ⟨g8,g9,_⟩:=L0 hss hit;generalize p7:sp.getD i Cm=s at*;simp only[go_sem,c5,Cb];refine B5 (λ q:Nat×List Int=>⟨[(0,.ptr 1000000 0),(4,.ptr 4 0),(5,.ptr 5 0),(6,.p (.int .i64 (i:Nat))),(7,.p (.int .i64 (q.1:Nat)))],
       [(1000000,.box [.p (.sl (BX l)),.p (.int .i64 (((a+2)+1:Nat):Int))]),(4,.box [.cl [],.cl [],.cl [],.cl [],.p (.int .i64 0),.p (.int .i64 0),.p (.int .i64 0),.p (.int .i64 0)]),
        (5,.box [.ref 10011 0 bl.length bl.length,.ref 20011 0 nx.length nx.length,.ref 30011 0 sp.length sp.length,.ref 40011 0 q.2.length q.2.length,.p (.int .i64 cq),.p (.int .i64 ca),.p (.int .i64 cd),.p (.int .i64 cp)]),
        (10011,.arr 76 3 (C2 bl)),(20011,.arr 22 1 (Cr (nx.set u []))),(30011,.arr 68 6 (C1 sp)),(40011,.arr 3 1 (BX q.2))],83⟩)
     (λ q=>q.1<=4/\(q.1:Int)<=s.Co/\q.2.length<=8/\Ee sp q.2) (λ q=>4 - q.1) (0,r1) ⟨by simp,by simp only;omega,Yg,GG⟩ (Wk.forget (by simp[ZF,PE])) ?_
   rintro ⟨j,r2⟩ m5 ⟨hj4,hjs,Mr,Ht⟩ U6;simp only at hj4 hjs Mr Ht;cases c6:decide ((j:Int)<s.Co)
   . simp only[go_sem,Cb,Ab,Qj,Dx,c6,V2];refine VZ (i+1,r2) _ ⟨hit,Mr,Ht⟩ (by simp only;omega) ?_
     (refine Wk.forget ?_;simp[ZF];done)
   cases c7:s.CA
   . simp only[go_sem,Cb,Ab,Qj,Dx,c6,c7,V2];refine VZ (i+1,r2) _ ⟨hit,Mr,Ht⟩ (by simp only;omega) ?_
     (refine Wk.forget ?_;simp[ZF];done)
   cases c8:decide ((r2.length:Int)<8)
   . simp only[go_sem,Cb,BW,Ab,Qj,Dx,c6,c7,c8,V2];refine VZ (i+1,r2) _ ⟨hit,Mr,Ht⟩ (by simp only;omega) ?_
     (refine Wk.forget ?_;simp[ZF];done)
   have hj6:(j:Int)<s.Co:=Ad c6;have hr7:r2.length<8:=by have:=Ad c8;omega
   have p5:=Cg j (by omega);have hwx:IntKind.i64.wrap (s.base+(j:Int))=s.base+(j:Int):=by rw[B3]<;>omega
   simp only[go_sem,Cb,BW,Ab,Qj,Dx,c6,c7,c8,hwx];refine Rz rfl rfl (Mw r2 (s.base+(j:Int)) (by omega)) (by simp[KR,Sy,ev,get,AL,ZB]) ?_;rintro h' r ⟨rfl,rfl⟩;refine ⟨rfl,rfl,?_⟩;cases c9:decide (s.base+(j:Int)∈r2);rotate_left
   . simp only[go_sem,c9,p5];refine U6 (j+1,r2) _ ⟨by simp only;omega,by simp only;omega,Mr,Ht⟩ (by simp only;omega) ?_
     (refine Wk.forget ?_;simp[ZF];done)
   have Q4:=Ae c9;have LW:sp.any (NF (s.base+(j:Int)))=true:=by
       rw[A4];exact ⟨s,ET,by unfold NF;rw[c7];simp;omega⟩
   simp only[go_sem,c9,BW];refine ⟨⟨EB _ _ rfl,by omega⟩,?_⟩;simp only[go_sem,p5];refine U6 (j+1,r2++[s.base+(j:Int)]) _ ⟨by simp only;omega,by simp only;omega,by simp;omega,IP Ht LW Q4⟩ (by simp only;omega) ?_
   (refine Wk.forget ?_;simp[ZF,D5,BW];done)
def LS(l:List (List UInt8))(x:List UInt8):Option Nat:=l.findIdx? (λ y=>decide (y=x))
def ixI(o:Option Nat):Int:=match o with | some i=>(i:Int) | none=>-1
theorem K9(o:Option Nat):decide (0<=ixI o)=o.isSome:=by cases o<;>simp[ixI]
theorem Py(o:Option Nat):decide (ixI o<0)=o.isNone:=by
 cases o with
 | none=>rfl
 | some i=>exact Ah (by simp only[ixI];omega)
theorem Px{l:List (List UInt8)}{x:List UInt8}{i:Nat}(h:LS l x=some i):i<l.length/\l.getD i []=x:=by
 unfold LS at h;obtain ⟨h1,h2,_⟩:=List.findIdx?_eq_some_iff_getElem.1 h;exact ⟨h1,by rw[getD_eq h1];simpa using h2⟩
theorem Ho{l:List (List UInt8)}{x:List UInt8}:LS l x=none↔x∉l:=by
 unfold LS;rw[List.findIdx?_eq_none_iff];constructor
 . intro h hx;have:=h x hx;simp at this
 . intro h y hy;simp;rintro rfl;exact h hy
theorem Zc(l:List (List UInt8))(y x:List UInt8)(hy:y∉l):LS (l++[y]) x=if x=y then some l.length else LS l x:=by
 unfold LS;rw[List.findIdx?_append];by_cases h:x=y
 . subst h;have:l.findIdx? (λ z=>decide (z=x))=none:=Ho.2 hy;rw[this,if_pos rfl];simp
 . rw[if_neg h];cases hf:l.findIdx? (λ z=>decide (z=x)) with
   | some i=>rfl
   | none=>simp[Bm h]
theorem Acb{ns:List (List UInt8)}{x:List UInt8}(step:Int->Option (Int⊕(Int⊕Int)))(hl:ns.length<=10000000)
   (h1:∀i,i<ns.length->step (i:Int)=some (if ns.getD i []=x then .inr (.inr (i:Int)) else .inl ((i+1:Nat):Int))) (h2:step (ns.length:Int)=some (.inr (.inl (ns.length:Int)))):
   Cv step 0=some (match LS ns x with | some i=> .inr (i:Int) | none=> .inl (ns.length:Int)):=by
 have h:=I2 (step:=step) ns.length (λ i=>(i:Int)) (Sum.inl (ns.length:Int)) (λ i=>if ns.getD i []=x then some (Sum.inr (i:Int)) else none)
   (λ i hi _=>by rw[h1 i hi];split<;>simp_all) (λ _=>h2)
 rw[show ((0:Nat):Int)=0 from rfl] at h;rw[h]
 congr 1
 cases hx:LS ns x with
 | none=>
   have hn:=Ho.1 hx;have:(List.range ns.length).findSome? (λ i=>if ns.getD i []=x then some (Sum.inr (i:Int):Int⊕Int) else none)=none:=by
     rw[Bs];intro i hi;rw[if_neg];intro e;exact hn (by rw[<-e];exact CK ns i [] (by simpa using hi))
   rw[this];rfl
 | some i=>
   obtain ⟨g1,g2⟩:=Px hx;have Bc0:∀j,j<i->ns.getD j []≠x:=by
     intro j hj;have:=(List.findIdx?_eq_some_iff_getElem.1 hx).2.2 j hj;rw[getD_eq (by omega)]
     simpa using this
   have hr:List.range ns.length=List.range i++i::(List.range (ns.length - i - 1)).map (· +(i+1)):=by
     have:ns.length=i+1+(ns.length - i - 1):=by omega
     conv=>lhs;rw[this,List.range_add,List.range_succ]
     simp[Nat.add_comm]
   rw[hr,List.findSome?_append];have:(List.range i).findSome? (λ i=>if ns.getD i []=x then some (Sum.inr (i:Int):Int⊕Int) else none)=none:=by
     rw[Bs];intro j hj;rw[if_neg (Bc0 j (by simpa using hj))]
   rw[this,Option.none_or,List.findSome?_cons,if_pos g2];rfl
theorem IY(n:Nt)(x:List UInt8)(hl:n.blocks.length<=10000000):Ih n x=some (ixI (LS (n.blocks.map ER.name) x)):=by
 have h:=Acb (ns:=n.blocks.map ER.name) (x:=x) (M4 n x) (by simpa using hl)
   (λ i hi=>by
     have EP:i<n.blocks.length:=by simpa using hi
     rw[M4.eq_1,Et EP,Ak,Ch n.blocks i DG EP,Aa,Cu (by omega)];have e:(n.blocks.map ER.name).getD i []=(n.blocks.getD i DG).name:=by simp[List.getD,EP]
     rw[e];by_cases c:(n.blocks.getD i DG).name=x
     . rw[if_pos c,Ag c];rfl
     . rw[if_neg c,Ah c];rfl)
   (by rw[A8,M4.eq_1,E4,Aj])
 unfold Ih;rw[h];cases LS (n.blocks.map ER.name) x<;>rfl
theorem S9(n:Nt)(x:List UInt8)(hl:n.spurs.length<=10000000):Pa n x=some (ixI (LS (n.spurs.map C3.name) x)):=by
 have h:=Acb (ns:=n.spurs.map C3.name) (x:=x) (Pb n x) (by simpa using hl)
   (λ i hi=>by
     have EP:i<n.spurs.length:=by simpa using hi
     rw[Pb.eq_1,Et EP,Ak,Ch n.spurs i Cm EP,Aa,Cu (by omega)];have e:(n.spurs.map C3.name).getD i []=(n.spurs.getD i Cm).name:=by simp[List.getD,EP]
     rw[e];by_cases c:(n.spurs.getD i Cm).name=x
     . rw[if_pos c,Ag c];rfl
     . rw[if_neg c,Ah c];rfl)
   (by rw[A8,Pb.eq_1,E4,Aj])
 unfold Pa;rw[h];cases LS (n.spurs.map C3.name) x<;>rfl
theorem Ado(l p:List Int)(x:Int):x∈l.foldl FR p↔x∈p∨x∈l:=by
 induction l generalizing p with
 | nil=>simp
 | cons y r ih=>
   rw[Bo,ih,Zh];simp only[AF];constructor
   . rintro ((h | h) | h)<;>simp[h]
   . rintro (h | h | h)<;>simp[h]
theorem Al4(l:List Int)(x:Int)(hl:l.length<=10000000):Aco l x=some (decide (x∈l)):=by
 have h:=I2 (step:=XD l x) l.length (λ i=>(i:Int)) (Sum.inl (l.length:Int)) (λ i=>if l.getD i 0=x then some (Sum.inr true) else none)
   (λ i hi _=>by
     rw[XD.eq_1,Et hi,Ak,Ch l i 0 hi,Aa,Cu (by omega)];by_cases c:l.getD i 0=x
     . rw[if_pos c,Ag c];rfl
     . rw[if_neg c,Ah c];rfl)
   (λ _=>by rw[XD.eq_1,E4,Aj])
 unfold Aco;rw[show ((0:Nat):Int)=0 from rfl] at h;rw[h];by_cases c:x∈l
 . rw[Ag c];cases hf:(List.range l.length).findSome? (λ i=>if l.getD i 0=x then some (Sum.inr true:Int⊕Bool) else none) with
   | none=>
     exfalso;rw[Bs] at hf;obtain ⟨i,hi,e⟩:=List.getElem_of_mem c;have:=hf i (by simpa using hi);rw[getD_eq hi,if_pos e] at this;cases this
   | some e=>
     obtain ⟨i,hi,he⟩:=List.exists_of_findSome?_eq_some hf;split at he
     . cases he;rfl
     . cases he
 . rw[Ah c];have:(List.range l.length).findSome? (λ i=>if l.getD i 0=x then some (Sum.inr true:Int⊕Bool) else none)=none:=by
     rw[Bs];intro i hi;rw[if_neg];intro e;exact c (by rw[<-e];exact CK l i 0 (by simpa using hi))
   rw[this];rfl
theorem Aeq(l:List Int)(x:Int)(hl:l.length<=1000000):TC l x=some (FR l x):=by
 have key:∀(r p:List Int) (dn:Bool),p.length+2*r.length<=3000000->(∃q:List Int,q.length+r.length=l.length/\l=q++r)->
     ∃dn' i',Cv (Nb l x) (p,dn,((l.length - r.length:Nat):Int))=some (if dn=true then p++r else (if dn'=true then p++FR r x else p++r),dn',i')/\(dn=true->dn'=true)/\(dn=false->dn'=false->FR r x=r++[x]):=by
   intro r
   induction r with
   | nil=>
     intro p dn hp hq;refine ⟨dn,((l.length - 0:Nat):Int),?_,id,λ h _=>by simp[FR]⟩;rw[CV,Nb.eq_1,Az,Nat.sub_zero,E4,Aj,Aa,B2];cases dn<;>simp[FR]
   | cons y r ih=>
     intro p dn hp ⟨q,UI,V3⟩;have hql:q.length<l.length:=by simp at UI;omega
     have FU:l.length - (y::r).length=q.length:=by simp at UI ⊢;omega
     have II:CE l (q.length:Int)=some y:=by rw[Hq,V3];simp
     have V4:((l.length - r.length:Nat):Int)=((q.length+1:Nat):Int):=by simp at UI;omega
     rw[FU,CV,Nb.eq_1,Et hql,Ak];simp only[II,Aa,Cu (show q.length<10000000 by omega)];have hlp:p.length+2<10000000:=by simp only[Ar] at hp;omega
     cases dn with
     | true=>
       rw[Ak,Ag (by (try simp only[Ar,Az]);omega),Ak,Aa,B4,<-V4];obtain ⟨dn',i',h1,h2,h3⟩:=ih (p++[y]) true (by simp only[Au,Ar,Az] at hp ⊢;omega) ⟨q++[y],(by simp only[Au,Ar,Az] at UI ⊢;omega),(by simp[V3])⟩;exact ⟨dn',i',by rw[h1];simp,h2,λ h=>(by cases h)⟩
     | false=>
       rw[Aj];by_cases c:x<y
       . rw[Ag c,Ak,Ag (by (try simp only[Ar,Az]);omega),Ak,Ag (by (try simp only[Au,Ar,Az]);omega),Ak,Aa,B4,<-V4];obtain ⟨dn',i',h1,h2,h3⟩:=ih ((p++[x])++[y]) true (by simp only[Au,Ar,Az] at hp ⊢;omega) ⟨q++[y],(by simp only[Au,Ar,Az] at UI ⊢;omega),(by simp[V3])⟩;refine ⟨true,i',?_,λ h=>(by cases h),λ _ h=>(by cases h)⟩;rw[h1,h2 rfl];simp[FR,c]
       . rw[Ah c,Aj,Ag (by (try simp only[Ar,Az]);omega),Ak,Aa,B4,<-V4];obtain ⟨dn',i',h1,h2,h3⟩:=ih (p++[y]) false (by simp only[Au,Ar,Az] at hp ⊢;omega) ⟨q++[y],(by simp only[Au,Ar,Az] at UI ⊢;omega),(by simp[V3])⟩;refine ⟨dn',i',?_,λ h=>(by cases h),λ _ h=>(by simp[FR,c,h3 rfl h])⟩;rw[h1];simp[FR,c]
 obtain ⟨dn',i',h1,_,h3⟩:=key l [] false (by simp only[Az];omega) ⟨[],by simp,rfl⟩;rw[Nat.sub_self] at h1;unfold TC;rw[show ((0:Nat):Int)=0 from rfl] at h1;rw[h1,Aa];simp only[AJ,A9,Bh];cases dn'
 . simp only[AJ,A9,Aj];rw[Ag (by (try simp only[Ar,Az]);omega),Ak,h3 rfl rfl]
 . simp
def NN(p:Int×Int):Int:=p.1*8+p.2
def RU(o:Option Nat):Option Int:=match o with | some i=>some (i:Int) | none=>none
structure NI(b:Cy):Prop where
 mb:∀x,DN b.mb x=RU (LS (b.bl.map ER.name) x)
 ms:∀x,DN b.ms x=RU (LS (b.sp.map C3.name) x)
 ba:∀i,i<b.sp.length->b.ba.getD i 0=Dk (b.sp.take i)
 sl:b.sl=Dk b.sp
def rS(b:Cy):(List ER)×(List (List Int))×(List C3)×(List Int)×Int×Int×Int×Int×Bool:=(b.bl,b.nx.map DW,b.sp,b.pl.map NN,b.cq,b.ca,b.cd,b.cp,b.cf)
theorem Po{b:Cy}(n:NI b)(x:List UInt8):b.Iw x=((LS (b.bl.map ER.name) x).isSome||(LS (b.sp.map C3.name) x).isSome):=by
 unfold Cy.Iw;rw[n.mb,n.ms];cases LS (b.bl.map ER.name) x<;>cases LS (b.sp.map C3.name) x<;>rfl
theorem Ajf{b:Cy}(h:BI b)(n:NI b)(d:Dc)(h1:1<=d.names.length)(h2:2<=d.B7.length):
   ∃s',QF b.bl (b.nx.map DW) b.sp (b.pl.map NN) b.cq b.ca b.cd b.cp b.cf d=some ((b.Ez d).1,s')/\((b.Ez d).1=0->s'=rS (b.Ez d).2/\NI (b.Ez d).2):=by
 have hnb:=h.nb;have hns:=h.ns;unfold QF;rw[show CE d.names 0=some (d.names.getD 0 []) from Ch d.names 0 [] (by omega),Aa,IY _ _ (by simp;omega),Aa,K9];unfold Cy.Ez;rw[Po n];cases c1:LS (b.bl.map ER.name) (d.names.getD 0 []) with
 | some i=>exact ⟨rS b,by simp[rS],by simp⟩
 | none=>
   rw[Bd,Aj,S9 _ _ (by simp;omega),Aa,K9];cases c2:LS (b.sp.map C3.name) (d.names.getD 0 []) with
   | some i=>exact ⟨rS b,by simp[rS],by simp⟩
   | none=>
     rw[Bd,Aj,Bool.or_self,if_neg AI];by_cases c3:b.bl.length=24
     . rw[Ag (by omega),Ak,if_pos c3];exact ⟨rS b,rfl,by simp⟩
     . rw[Ah (by omega),Aj,if_neg c3,show CE d.B7 0=some (d.B7.getD 0 0) from Ch d.B7 0 0 (by omega),Aa,
         show CE d.B7 1=some (d.B7.getD 1 0) from Ch d.B7 1 0 (by omega),Aa,Ag (by omega),Ak,Ag (by rw[A8,h.nn];omega),Ak]
       refine ⟨_,rfl,λ _=>⟨by simp[rS,DW],⟨λ x=>?_,n.ms,n.ba,n.sl⟩⟩⟩;simp only[Ni,Be,AD,Bk];rw[Zc _ _ _ (Ho.1 c1)];split
       . simp[RU]
       . exact n.mb x
theorem Apn{b:Cy}(h:BI b)(n:NI b)(d:Dc)(h1:3<=d.names.length)(h2:1<=d.B7.length):
   ∃s',Pf b.bl (b.nx.map DW) b.sp (b.pl.map NN) b.cq b.ca b.cd b.cp b.cf d=some ((b.EC d).1,s')/\((b.EC d).1=0->s'=rS (b.EC d).2/\NI (b.EC d).2):=by
 have hnb:=h.nb;have hns:=h.ns;unfold Pf;rw[show CE d.names 1=some (d.names.getD 1 []) from Ch d.names 1 [] (by omega),Aa,show CE d.names 2=some (d.names.getD 2 []) from Ch d.names 2 [] (by omega),Aa,
   IY _ _ (by simp;omega),Aa,IY _ _ (by simp;omega),Aa,show CE d.names 0=some (d.names.getD 0 []) from Ch d.names 0 [] (by omega),Aa,
   IY _ _ (by simp;omega),Aa,K9]
 unfold Cy.EC;rw[Po n,n.mb,n.mb];cases c1:LS (b.bl.map ER.name) (d.names.getD 0 []) with
 | some i=>exact ⟨rS b,by simp[rS,RU],by simp[RU]⟩
 | none=>
   rw[Bd,Aj,S9 _ _ (by simp;omega),Aa,K9];cases c2:LS (b.sp.map C3.name) (d.names.getD 0 []) with
   | some i=>exact ⟨rS b,by simp[rS,RU],by simp[RU]⟩
   | none=>
     rw[Bd,Aj,Bool.or_self,if_neg AI,Py,Py];cases c3:LS (b.bl.map ER.name) (d.names.getD 1 []) with
     | none=>exact ⟨rS b,by simp[rS,RU],by simp[RU]⟩
     | some i=>
       rw[Option.isNone_some,Aj];cases c4:LS (b.bl.map ER.name) (d.names.getD 2 []) with
       | none=>exact ⟨rS b,by simp[rS,RU],by simp[RU]⟩
       | some j=>
         rw[Option.isNone_some,Aj,show CE d.B7 0=some (d.B7.getD 0 0) from Ch d.B7 0 0 (by omega),Aa];simp only[RU];cases c5:decide (d.B7.getD 0 0<1);rotate_left
         . exact ⟨rS b,by simp[rS,RU],by simp[RU]⟩
         rw[Aj,if_neg AI];cases c6:decide (4<d.B7.getD 0 0);rotate_left
         . exact ⟨rS b,by simp[rS,RU],by simp[RU]⟩
         rw[Aj,if_neg AI];by_cases c7:b.sp.length=6
         . rw[Ag (by omega),Ak,if_pos c7];exact ⟨rS b,rfl,by simp⟩
         . rw[Ah (by omega),Aj,if_neg c7,Ag (by omega),Ak];refine ⟨_,rfl,λ _=>⟨rfl,⟨n.mb,λ x=>?_,λ i hi=>?_,?_⟩⟩⟩
           . simp only[Ni,Be,AD,Bk];rw[Zc _ _ _ (Ho.1 c2)];split
             . simp[RU]
             . exact n.ms x
           . have hba:=h.nba;simp only[Au,Ar,Az] at hi;by_cases e:i<b.sp.length
             . rw[List.take_append_of_le_length (by omega)];have:=n.ba i e;rw[<-this];simp[List.getD,AN,show i<b.ba.length by omega]
             . have e2:i=b.sp.length:=by omega
               subst e2;rw[List.take_left' rfl,<-n.sl];simp[List.getD,AN,hba]
           . simp only[D4,n.sl]
theorem Ani{p q:Int×Int}(hp:1<=p.2/\p.2<=4)(hq:1<=q.2/\q.2<=4)(h:NN p=NN q):p=q:=by
 unfold NN at h;have h1:p.1=q.1:=by omega
 have h2:p.2=q.2:=by omega
 exact Prod.ext h1 h2
theorem Aje{b:Cy}(h:BI b)(n:NI b)(d:Dc)(h1:1<=d.names.length)(h2:1<=d.B7.length):
   ∃s',QE b.bl (b.nx.map DW) b.sp (b.pl.map NN) b.cq b.ca b.cd b.cp b.cf d=some ((b.Du d).1,s')/\((b.Du d).1=0->s'=rS (b.Du d).2/\NI (b.Du d).2):=by
 have hnb:=h.nb;have hns:=h.ns;have LU:=h.np;unfold QE;rw[show CE d.names 0=some (d.names.getD 0 []) from Ch d.names 0 [] (by omega),Aa,S9 _ _ (by simp;omega),Aa,Py];unfold Cy.Du;rw[n.ms];cases c1:LS (b.sp.map C3.name) (d.names.getD 0 []) with
 | none=>exact ⟨rS b,by simp[rS,RU],by simp[RU]⟩
 | some i=>
   have hi:i<b.sp.length:=by simpa using (Px c1).1
   rw[Option.isNone_some,Aj,show CE b.sp (ixI (some i))=some (b.sp.getD i Cm) from Ch b.sp i Cm hi,Aa];simp only[RU,Ab];have hs:=h.sps (b.sp.getD i Cm) (CK b.sp i Cm hi);cases c2:(b.sp.getD i Cm).CA
   . exact ⟨rS b,by simp[rS,RU],by simp[RU]⟩
   rw[Ak,if_neg (by simp),show CE d.B7 0=some (d.B7.getD 0 0) from Ch d.B7 0 0 (by omega),Aa];cases c3:decide (d.B7.getD 0 0<1);rotate_left
   . exact ⟨rS b,by simp[rS,RU],by simp[RU]⟩
   rw[Aj,if_neg AI];have c3':=Ae c3;by_cases r9:(b.sp.getD i Cm).Co<d.B7.getD 0 0
   . have c4:=Ag r9;simp only[c4,Ak,AM];exact ⟨rS b,rfl,by simp⟩
   have c4:=Ah r9;have hw:IntKind.i64.wrap (IntKind.i64.wrap (ixI (some i)*8)+d.B7.getD 0 0)=NN ((i:Int),d.B7.getD 0 0):=by
     unfold NN ixI;rw[IntKind.wrap_i64,IntKind.wrap_i64];simp only;omega
   simp only[c4,Aj,AJ,A9];rw[hw,Al4 _ _ (by simp;omega),Aa];have hm:decide (NN ((i:Int),d.B7.getD 0 0)∈b.pl.map NN)=decide (((i:Int),d.B7.getD 0 0)∈b.pl):=by
     rw[Bp,Aq,Aq,AP];constructor
     . rintro ⟨q,hq,e⟩;rw[<-Ani (h.pls q hq).2 (by simp only;omega) e];exact hq
     . intro hq;exact ⟨_,hq,rfl⟩
   rw[hm];by_cases c5:((i:Int),d.B7.getD 0 0)∈b.pl
   . rw[Ag c5,Ak,if_pos c5];exact ⟨rS b,rfl,by simp⟩
   rw[Ah c5,Aj,if_neg c5];by_cases c6:b.pl.length=8
   . rw[Ag (by rw[A8];omega),Ak,if_pos c6];exact ⟨rS b,rfl,by simp⟩
   . rw[Ah (by rw[A8];omega),Aj,if_neg c6,Ag (by rw[A8];omega),Ak];exact ⟨_,rfl,λ _=>⟨by simp[rS],⟨n.mb,n.ms,n.ba,n.sl⟩⟩⟩
theorem Ajd(q a d p:Int):J0 ⟨q,a,d,p⟩=some (decide (H4 q a d p)):=by
 unfold J0;have hc:∀b1 b2 b3 b4 b5 b6 b7 b8:Bool,cond b1 (cond b2 (cond b3 (cond b4 (cond b5 (cond b6 (cond b7 (some b8) (some false)) (some false)) (some false)) (some false)) (some false)) (some false)) (some false)=some (b1&&(b2&&(b3&&(b4&&(b5&&(b6&&(b7&&b8))))))):=by decide
 rw[hc]
 congr 1
 rw[Bp];simp only[Ao,Aq];exact Iff.rfl
theorem Aba(q a d p:Int):Vm q a d p=decide (H4 q a d p):=by
 unfold Vm inV;rw[Bp];simp only[Ao,Aq];exact ⟨λ ⟨⟨a1,a2⟩,⟨b1,b2⟩,⟨c1,c2⟩,d1,d2⟩=>⟨a1,a2,b1,b2,c1,c2,d1,d2⟩,λ ⟨a1,a2,b1,b2,c1,c2,d1,d2⟩=>⟨⟨a1,a2⟩,⟨b1,b2⟩,⟨c1,c2⟩,d1,d2⟩⟩
theorem Adw{b:Cy}(n:NI b)(d:Dc)(h2:4<=d.B7.length):
   ∃s',Oh b.bl (b.nx.map DW) b.sp (b.pl.map NN) b.cq b.ca b.cd b.cp b.cf d=some ((b.DE d).1,s')/\((b.DE d).1=0->s'=rS (b.DE d).2/\NI (b.DE d).2):=by
 unfold Oh Cy.DE;cases c1:b.cf;rotate_left
 . exact ⟨_,rfl,by simp⟩
 rw[Aj,if_neg AI,show CE d.B7 0=some (d.B7.getD 0 0) from Ch d.B7 0 0 (by omega),Aa,show CE d.B7 1=some (d.B7.getD 1 0) from Ch d.B7 1 0 (by omega),Aa,
   show CE d.B7 2=some (d.B7.getD 2 0) from Ch d.B7 2 0 (by omega),Aa,show CE d.B7 3=some (d.B7.getD 3 0) from Ch d.B7 3 0 (by omega),Aa,Ajd,Aa,Aba]
 cases decide (H4 (d.B7.getD 0 0) (d.B7.getD 1 0) (d.B7.getD 2 0) (d.B7.getD 3 0))
 . exact ⟨_,rfl,by simp⟩
 . exact ⟨_,rfl,λ _=>⟨rfl,⟨n.mb,n.ms,n.ba,n.sl⟩⟩⟩
theorem YS(d:Dc)(hd:d.names.length<=10000000):∀(r:List (List UInt8)) (i:Nat) (b:Cy),BI b->NI b->d.names.drop i=r->i<=d.names.length->
   ∃e s',Cv (Kk b.bl b.sp (b.pl.map NN) b.cq b.ca b.cd b.cp b.cf d) (b.nx.map DW,(i:Int))=some e/\
     (match e with | .inl x=>(0,b.bl,x.1,b.sp,b.pl.map NN,b.cq,b.ca,b.cd,b.cp,b.cf) | .inr y=>y)=((b.DZ r).1,s')/\((b.DZ r).1=0->s'=rS (b.DZ r).2/\NI (b.DZ r).2)
 | [],i,b,h,n,hr,hi=>by
   have Q7:i=d.names.length:=by have:=AR List.length hr;simp at this;omega
   refine ⟨_,rS b,by rw[CV,Kk.eq_1,Ah (by rw[IntKind.wrap_i64];omega),Aj,Aa,B2],rfl,λ _=>⟨rfl,n⟩⟩
 | [x],i,b,h,n,hr,hi=>by
   have Q7:i+1=d.names.length:=by have:=AR List.length hr;simp at this;omega
   refine ⟨_,rS b,by rw[CV,Kk.eq_1,Ah (by rw[IntKind.wrap_i64];omega),Aj,Aa,B2],rfl,λ _=>⟨rfl,n⟩⟩
 | x::y::r,i,b,h,n,hr,hi=>by
   have hnb:=h.nb;have hnn:=h.nn;have Q7:i+1<d.names.length:=by have:=AR List.length hr;simp at this;omega
   have hx:CE d.names (i:Int)=some x:=by
     rw[Hq];have:=AR (·[0]?) hr
     simpa [List.getElem?_drop] using this
   have hy:CE d.names ((i+1:Nat):Int)=some y:=by
     rw[Hq];have:=AR (·[1]?) hr
     simpa [List.getElem?_drop] using this
   have TU:d.names.drop (i+1)=y::r:=by
     rw[<-List.drop_drop,hr];rfl
   have hw:IntKind.i64.wrap ((i:Int)+1)=((i+1:Nat):Int):=by rw[IntKind.wrap_i64];omega
   rw[CV,Kk.eq_1,hw,Ag (by omega),Ak,hx,Aa,hy,Aa,IY _ _ (by simp;omega),Aa,IY _ _ (by simp;omega),Aa,Py,Py];have LV:∀c:Int,c≠0->b.EW x y=(c,b)->b.DZ (x::y::r)=(c,b):=λ c hc h=>by simp[Cy.DZ,h,hc]
   have hL:b.EW x y=(match RU (LS (b.bl.map ER.name) x),RU (LS (b.bl.map ER.name) y) with
     | some i,some j=>if i=j then (10,b) else if j∈b.nx.getD i.toNat [] then (11,b) else if (b.nx.getD i.toNat []).length=4 then (14,b) else (0,{b with nx:=b.nx.set i.toNat (b.nx.getD i.toNat []++[j])})
     | _,_=>(9,b)):=by
     unfold Cy.EW;rw[n.mb,n.mb];cases LS (b.bl.map ER.name) x<;>cases LS (b.bl.map ER.name) y<;>rfl
   cases c1:LS (b.bl.map ER.name) x with
   | none=>
     rw[LV 9 (by decide) (by rw[hL,c1];rfl)];exact ⟨_,rS b,rfl,rfl,by simp⟩
   | some u=>
     rw[Option.isNone_some,Aj];cases c2:LS (b.bl.map ER.name) y with
     | none=>
       rw[LV 9 (by decide) (by rw[hL,c1,c2];rfl)];exact ⟨_,rS b,rfl,rfl,by simp⟩
     | some v=>
       have hu:u<b.nx.length:=by have:=(Px c1).1;simp at this;omega
       rw[Option.isNone_some,Aj,show (decide (ixI (some u)=ixI (some v)))=decide ((u:Int)=(v:Int)) from rfl];rw[show ixI (some u)=(u:Int) from rfl,show ixI (some v)=(v:Int) from rfl];have hL2:b.EW x y=(if (u:Int)=(v:Int) then (10,b) else if (v:Int)∈b.nx.getD u [] then (11,b) else if (b.nx.getD u []).length=4 then (14,b) else (0,{b with nx:=b.nx.set u (b.nx.getD u []++[(v:Int)])})):=by rw[hL,c1,c2];rfl
       by_cases c3:(u:Int)=(v:Int)
       . rw[Ag c3,Ak,LV 10 (by decide) (by rw[hL2,if_pos c3])];exact ⟨_,rS b,rfl,rfl,by simp⟩
       rw[Ah c3,Aj];rw[if_neg c3] at hL2;have CS:CE (b.nx.map DW) (u:Int)=some (DW (b.nx.getD u [])):=by rw[Hq];simp[List.getD,hu]
       have h4:=h.row u;rw[CS,Aa,Al4 _ _ (by rw[MX];omega),Aa];have hm:decide ((v:Int)∈DW (b.nx.getD u []))=decide ((v:Int)∈b.nx.getD u []):=by
         rw[Bp,Aq,Aq];unfold DW;rw[Ado];simp
       rw[hm];by_cases c4:(v:Int)∈b.nx.getD u []
       . rw[Ag c4,Ak,LV 11 (by decide) (by rw[hL2,if_pos c4])];exact ⟨_,rS b,rfl,rfl,by simp⟩
       rw[if_neg c4] at hL2;rw[Ah c4,Aj,MX];by_cases c5:(b.nx.getD u []).length=4
       . rw[Ag (by omega),Ak,LV 14 (by decide) (by rw[hL2,if_pos c5])];exact ⟨_,rS b,rfl,rfl,by simp⟩
       rw[if_neg c5] at hL2;rw[Ah (by omega),Aj,Aeq _ _ (by rw[MX];omega),Aa,Aa,B4];have hB2:BI {b with nx:=b.nx.set u (b.nx.getD u []++[(v:Int)])}:=by
         have:=h.lane x y;rw[hL2] at this;exact this
       have EZ:(b.nx.map DW).set u (FR (DW (b.nx.getD u [])) (v:Int))=(b.nx.set u (b.nx.getD u []++[(v:Int)])).map DW:=by
         rw[BD]
         congr 1
         unfold DW;rw[List.foldl_append];rfl
       rw[Ab,EZ];have hlv:b.DZ (x::y::r)=Cy.DZ {b with nx:=b.nx.set u (b.nx.getD u []++[(v:Int)])} (y::r):=by
         simp[Cy.DZ,hL2]
       rw[hlv];exact YS d hd (y::r) (i+1) {b with nx:=b.nx.set u (b.nx.getD u []++[(v:Int)])} hB2 ⟨n.mb,n.ms,n.ba,n.sl⟩ TU (by omega)
theorem Apo{b:Cy}(h:BI b)(n:NI b)(d:Dc)(hd:d.names.length<=10000000):
   ∃s',Td b.bl (b.nx.map DW) b.sp (b.pl.map NN) b.cq b.ca b.cd b.cp b.cf d=some ((b.DZ d.names).1,s')/\((b.DZ d.names).1=0->s'=rS (b.DZ d.names).2/\NI (b.DZ d.names).2):=by
 obtain ⟨e,s',g1,g2,g3⟩:=YS d hd d.names 0 b h n (by simp) (AE _);refine ⟨s',?_,g3⟩;unfold Td;rw[show ((0:Nat):Int)=0 from rfl] at g1;rw[g1,Aa,<-g2];cases e<;>rfl
theorem Apj(l:List (List UInt8))(hl:l.length<=10000000)(d:Dc)(hd:d.names=l):Cv (F6 d) 0=some (if (∀j,j<l.length->CL (l.getD j [])=true) then .inl (l.length:Int) else .inr false):=by
 subst hd;have h:=E5 (step:=F6 d) d.names.length (λ i=>(i:Int)) (Sum.inl (d.names.length:Int)) (Sum.inr false) (λ i=>CL (d.names.getD i []))
   (λ i hi _=>by
     rw[F6.eq_1,Et hi,Ak,Ch d.names i [] hi,Aa,Cu (by omega)];simp only[Abz,Aa];cases CL (d.names.getD i [])<;>rfl)
   (λ _=>by rw[F6.eq_1,E4,Aj])
 exact h
theorem Aj9(d:Dc)(hl:d.B7.length<=10000000):Cv (F7 d) 0=some (if (∀j,j<d.B7.length->(!(decide (d.B7.getD j 0< -9999)||decide (9999<d.B7.getD j 0)))=true) then .inl (d.B7.length:Int) else .inr false):=by
 have h:=E5 (step:=F7 d) d.B7.length (λ i=>(i:Int)) (Sum.inl (d.B7.length:Int)) (Sum.inr false) (λ i=>!(decide (d.B7.getD i 0< -9999)||decide (9999<d.B7.getD i 0)))
   (λ i hi _=>by
     rw[F7.eq_1,Et hi,Ak,Ch d.B7 i 0 hi,Aa,Cu (by omega)];cases decide (d.B7.getD i 0< -9999)<;>cases decide (9999<d.B7.getD i 0)<;>rfl)
   (λ _=>by rw[F7.eq_1,E4,Aj])
 exact h
theorem Qb{α:Type}(l:List α)(p:α->Bool)(x:α):l.all p=true↔∀j,j<l.length->p (l.getD j x)=true:=by
 rw[AB];constructor
 . intro h j hj;exact h _ (CK l j x hj)
 . intro h y hy;obtain ⟨i,hi,rfl⟩:=List.getElem_of_mem hy;have:=h i hi;rwa[getD_eq hi] at this
theorem Aj1(w:Int):L6 w=some (CG w):=by
 unfold L6 CG;by_cases h1:w=1
 . simp[h1]
 by_cases h2:w=2
 . simp[h2]
 by_cases h3:w=3
 . simp[h3]
 by_cases h4:w=4
 . simp[h4]
 by_cases h5:w=5
 . simp[h5]
 . simp[h1,h2,h3,h4,h5]
theorem W8(w:Int)(nl ml:Nat)(x3 x4:Int)(t:Bool):
   cond (decide (w<1)) (some false) (cond (decide (6<w)) (some false) (cond (decide ((ml:Int)=x4)) (cond (decide ((nl:Int)<x3)) (some false) (cond (decide (x3<(nl:Int))) (cond (decide (w=2)) (some t) (some false)) (some t))) (some false)))=
     some (decide (1<=w/\w<=6)&&(decide ((ml:Int)=x4)&&((decide ((nl:Int)=x3)||(decide (x3<(nl:Int))&&decide (w=2)))&&t))):=by
 by_cases h1:w<1
 . rw[Ag h1,Ak,Ah (by omega:¬(1<=w/\w<=6)),Bool.false_and]
 rw[Ah h1,Aj];by_cases h2:6<w
 . rw[Ag h2,Ak,Ah (by omega:¬(1<=w/\w<=6)),Bool.false_and]
 rw[Ah h2,Aj,Ag (by omega:1<=w/\w<=6),Bl];by_cases h3:(ml:Int)=x4;rotate_left
 . rw[Ah h3,Aj,Bool.false_and]
 rw[Ag h3,Ak,Bl];by_cases h4:(nl:Int)<x3
 . rw[Ag h4,Ak,Ah (by omega:¬(nl:Int)=x3),Ah (by omega:¬x3<(nl:Int))];rfl
 rw[Ah h4,Aj];by_cases h5:x3<(nl:Int)
 . rw[Ag h5,Ak,Ah (by omega:¬(nl:Int)=x3),Bl,Bool.false_or];cases decide (w=2)<;>rfl
 . rw[Ah h5,Aj,Ag (by omega:(nl:Int)=x3),Bool.true_or,Bl]
theorem YT(d:Dc)(hd:d.names.length<=10000000/\d.B7.length<=10000000):L7 d=some (CX d):=by
 have hA:=Apj d.names hd.1 d rfl;have hB:=Aj9 d hd.2;unfold L7 CX;rw[Aj1,Aa];generalize CG d.word=sh;obtain ⟨x3,x4⟩:=sh;dsimp only;by_cases g1:∀j,j<d.names.length->CL (d.names.getD j [])=true
 . rw[(Qb d.names CL []).2 g1,Bl];by_cases g2:∀j,j<d.B7.length->(!(decide (d.B7.getD j 0< -9999)||decide (9999<d.B7.getD j 0)))=true
   . rw[(Qb d.B7 (λ n=>!(decide (n< -9999)||decide (9999<n))) 0).2 g2];simp only[hA,hB,if_pos g1,if_pos g2,Aa];exact W8 _ _ _ _ _ _
   . have e2:(d.B7.all λ n=>!(decide (n< -9999)||decide (9999<n)))=false:=by
       rw[Bool.eq_false_iff];intro h;exact g2 ((Qb d.B7 (λ n=>!(decide (n< -9999)||decide (9999<n))) 0).1 h)
     rw[e2];simp only[hA,hB,if_pos g1,if_neg g2,Aa];exact W8 _ _ _ _ _ _
 . have e1:d.names.all CL=false:=by
     rw[Bool.eq_false_iff];intro h;exact g1 ((Qb d.names CL []).1 h)
   rw[e1,Bool.false_and];simp only[hA,if_neg g1,Aa];exact W8 _ _ _ _ _ _
theorem Atu{b:Cy}(h:BI b)(n:NI b)(d:Dc)(hd:d.names.length<=10000000/\d.B7.length<=10000000):
   ∃s',JM b.bl (b.nx.map DW) b.sp (b.pl.map NN) b.cq b.ca b.cd b.cp b.cf d=some ((b.DH d).1,s')/\((b.DH d).1=0->s'=rS (b.DH d).2/\NI (b.DH d).2):=by
 unfold JM;have he:(⟨d.word,d.line,d.names,d.B7⟩:Dc)=d:=rfl;rw[he,YT d hd,Aa];cases c0:CX d
 . have hv:b.DH d=(20,b):=by unfold Cy.DH;rw[if_pos c0]
   rw[hv];exact ⟨rS b,rfl,by simp⟩
 rw[Ak];have hs:=LX c0;by_cases c1:d.word=1
 . rw[c1] at hs;simp[CG] at hs;have hv:b.DH d=b.Ez d:=by unfold Cy.DH;rw[if_neg (by rw[c0];simp),if_pos (Ag c1)]
   rw[hv,Ag c1,Ak];obtain ⟨s',g1,g2⟩:=Ajf h n d (by omega) (by omega);rw[g1];exact ⟨s',rfl,g2⟩
 rw[Ah c1,Aj];by_cases c2:d.word=2
 . have hv:b.DH d=b.DZ d.names:=by unfold Cy.DH;rw[if_neg (by rw[c0];simp),if_neg (by rw[Ah c1];simp),if_pos (Ag c2)]
   rw[hv,Ag c2,Ak];obtain ⟨s',g1,g2⟩:=Apo h n d hd.1;rw[g1];exact ⟨s',rfl,g2⟩
 rw[Ah c2,Aj];by_cases c3:d.word=3∨d.word=4
 . simp only[CG,c1,c2,c3,A9,AM] at hs;have hv:b.DH d=b.EC d:=by
     unfold Cy.DH;rw[if_neg (by rw[c0];simp),if_neg (by rw[Ah c1];simp),if_neg (by rw[Ah c2];simp),if_neg (by rw[Ah (by omega)];simp),if_neg (by rw[Ah (by omega)];simp)]
   rw[hv];obtain ⟨s',g1,g2⟩:=Apn h n d (by omega) (by omega);rw[g1];rcases c3 with c3 | c3
   . rw[Ag c3,Ak];exact ⟨s',rfl,g2⟩
   . rw[Ah (by omega:¬d.word=3),Aj,Ag c3,Ak];exact ⟨s',rfl,g2⟩
 rw[Ah (by omega:¬d.word=3),Aj,Ah (by omega:¬d.word=4),Aj];by_cases c5:d.word=5
 . rw[c5] at hs;simp[CG] at hs;have hv:b.DH d=b.Du d:=by
     unfold Cy.DH;rw[if_neg (by rw[c0];simp),if_neg (by rw[Ah c1];simp),if_neg (by rw[Ah c2];simp),if_pos (Ag c5)]
   rw[hv,Ag c5,Ak];obtain ⟨s',g1,g2⟩:=Aje h n d (by omega) (by omega);rw[g1];exact ⟨s',rfl,g2⟩
 rw[Ah c5,Aj];have c6:d.word=6:=by omega
 rw[c6] at hs;simp[CG] at hs;have hv:b.DH d=b.DE d:=by
   unfold Cy.DH;rw[if_neg (by rw[c0];simp),if_neg (by rw[Ah c1];simp),if_neg (by rw[Ah c2];simp),if_neg (by rw[Ah c5];simp),if_pos (Ag c6)]
 rw[hv];obtain ⟨s',g1,g2⟩:=Adw n d (by omega);rw[g1];exact ⟨s',rfl,g2⟩
theorem NI.init:NI Cy.init:=⟨λ x=>rfl,λ x=>rfl,λ i hi=>by simp[Cy.init] at hi,rfl⟩
def dT(l:List Bool):List D:=l.map λ b=> .p (.bool b)
def dI(l:List Int):List D:=l.map λ n=> .p (.int .i64 n)
theorem Ft(l:List Bool):(dT l).length=l.length:=by simp[dT]
theorem GC(l:List Int):(dI l).length=l.length:=by simp[dI]
theorem Ave(l:List Bool):(dT l).all D.one=true:=by simp[dT,D.one]
theorem GB(l:List Bool):Da (dT l)=[]:=by
 induction l with
 | nil=>rfl
 | cons b r ih=>simpa [dT,Da,D.ids] using ih
theorem GD(l:List Int):Da (dI l)=[]:=by
 induction l with
 | nil=>rfl
 | cons b r ih=>simpa [dI,Da,D.ids] using ih
theorem Avb(ρ:Nat->Option Nat)(l:List Bool):HD ρ (dT l)=dT l:=by
 induction l with
 | nil=>rfl
 | cons b r ih=>simpa [dT,HD,D.Ef] using ih
theorem Az1(l:List Bool):(dT l).any D.TA=false:=by simp[dT,D.TA]
theorem Avd(h:Hp)(l:List Bool):FO h (dT l)= .ret True (dT l,h):=by
 induction l with
 | nil=>rfl
 | cons b r ih=>
   have e:dT (b::r)= .p (.bool b)::dT r:=rfl;rw[e];simp[FO,CZ,Sw,Rs.bind,Rs.and,ih]
theorem Ara{l:List Bool}{n:Nat}(h:l.length=n):(dT l).take n=dT l:=by rw[AL];rw[Ft,h];exact Ai _
theorem Arb{l:List Bool}{n:Nat}(h:l.length=n):(dT l).drop n=[]:=by rw[List.drop_eq_nil_iff,Ft,h];exact Ai _
theorem Avc(l:List Bool)(i:Nat):(dT l)[i]?=(l[i]?).map λ b=> .p (.bool b):=by simp[dT]
theorem Atl{α:Type}(l:List α)(k:Nat)(x:α)(h:k<l.length):l.take k++[x]++l.drop (k+1)=l.set k x:=by
 rw[A0,List.singleton_append,List.set_eq_take_append_cons_drop,if_pos h]
theorem Ava{l:List Bool}{k:Nat}{b:Bool}(h:k<l.length):(dT l).take k++[D.p (.bool b)]++(dT l).drop (k+1)=dT (l.set k b):=by
 rw[Atl _ _ _ (by rw[Ft];exact h)];simp[dT,BD]
def Si{α:Type}(n:Nat)(l:List α)(i:Int):Option α:=if l.length=n then CE l i else none
theorem Nc{α:Type}{n:Nat}{l:List α}{i:Int}{x:α}(h:Si n l i=some x):l.length=n/\(0<=i/\i<(n:Int))/\l[i.toNat]?=some x/\i.toNat<n:=by
 unfold Si at h;split at h
 . rename_i e;obtain ⟨h1,h2⟩:=HY h;rw[e] at h1;exact ⟨e,h1,h2,by omega⟩
 . cases h
theorem Azi:[D.p (.bool false),.p (.bool false),.p (.bool false),.p (.bool false),.p (.bool false),.p (.bool false),.p (.bool false),.p (.bool false),.p (.bool false),.p (.bool false),.p (.bool false),.p (.bool false),
   .p (.bool false),.p (.bool false),.p (.bool false),.p (.bool false),.p (.bool false),.p (.bool false),.p (.bool false),.p (.bool false),.p (.bool false),.p (.bool false),.p (.bool false),.p (.bool false)]=dT (List.replicate 24 false):=rfl
def J9(l:List (List Int)):List (List (List Pd)):=l.map BX
theorem Ec(l:List (List Int)):(J9 l).length=l.length:=by simp[J9]
theorem Ah0(l:List (List Int))(i:Nat)(r:List Int):(J9 l).set i (BX r)=J9 (l.set i r):=by simp[J9,BD]
theorem Ah1(n:Nat):List.replicate n ([]:List (List Pd))=J9 (List.replicate n []):=by simp[J9,BX]
theorem Ar7(l:List (List Int)):(J9 l).map (λ r=>[Pd.sl r])=Cr l:=by simp[J9,Cr]
theorem Akk{rows:List (List Int)}{i:Int}{x:List Int}(h:CE rows i=some x):(J9 rows).getD i.toNat []=BX x:=by simp[J9,List.getD,(HY h).2]
theorem Af1{rows:List (List Int)}{i:Int}{x:List Int}(h:CE rows i=some x):(J9 rows)[i.toNat]?.getD []=BX x:=by simp[J9,(HY h).2]
theorem Af0{rows:List (List Int)}{i:Int}{x:List Int}(h:CE rows i=some x)(hx:i.toNat<(J9 rows).length):(J9 rows)[i.toNat]'hx=BX x:=by
 obtain ⟨h1,h2⟩:=An.1 (HY h).2;simp[J9,h2]
theorem Aql{α:Type}{l:List α}{i:Int}{x:α}(h:CE l i=some x):i.toNat<l.length:=(An.1 (HY h).2).1
theorem Az4(l:List Int)(a:Int):((BX l).take (((l.length:Nat):Int)).toNat).drop a.toNat=BX (l.drop a.toNat):=by
 rw[Ab,Lh];simp[BX]
theorem Dv(l:List Int)(n:Nat):(BX l).take n=BX (l.take n):=by simp[BX]
section
variable {P:Program} {st:St} {x:Code} {k:Kt}
theorem n8{n l:Nat}{rest:Code}(hf:findLabel x l=some rest)(h:X P rest (.user (scQ P x k n)) st):Jm P x k (n+1) l st:=⟨st,rest,Wk.refl _,hf,h⟩
theorem SJ{σ ε γ:Type}{step:σ->Option (σ⊕ε)}{s0:σ}{e:ε}(hr:Cv step s0=some e)(S:σ->γ->St)(c0:γ)(hw:Wk st (S s0 c0))
   (hs:∀s c n,(step s).bind (HI (G4 step n))=some e->(∀s' c' st',G4 step n s'=some e->Wk st' (S s' c')->L P x k n st')->X P x (.lp x n k) (S s c)):X P (.loop x) k st:=by
 obtain ⟨n,hn⟩:=Kr.1 hr;have key:∀n s c,G4 step n s=some e->L P x k n (S s c):=by
   intro n
   induction n with
   | zero=>intro s c h;simp[G4] at h
   | succ n ih=>intro s c h;exact ⟨S s c,Wk.refl _,hs s c n h λ s' c' st' h' hw'=>Ai3 hw' (ih s' c' h')⟩
 exact X5 _ (Ai3 hw (key n s0 c0 hn))
end
attribute [go_sem] Ft GC Ave GB GD Avb Az1 Avd Ara Arb Avc Ava Nat.mul_one List.length_replicate
attribute [go_sem] Ec Ah0 Ah1 Ar7 Azi
def KD(a0:List (List Int))(v3:Int)(DI:List Int):Int×Int->Option ((Int×Int)⊕((Int×Int)⊕Int))
 | (v17,v18)=>cond (decide (v17<((DI.length:Nat):Int))) (Option.bind (CE DI v17) λ Qg=>cond (decide (Qg<=v18)) (some (Sum.inr (.inr ((20:Int))))) (cond (decide (((a0.length:Nat):Int)<=Qg)) (some (Sum.inr (.inr ((20:Int))))) (cond (decide (Qg=v3)) (some (Sum.inr (.inr ((20:Int))))) (some (Sum.inl ((IntKind.i64.wrap (v17+1)),Qg)))))) (some (Sum.inr (.inl (v17,v18))))
def KC(a0:List (List Int)):Int->Option ((Int)⊕(Int⊕Int))
 | v3=>cond (decide (v3<((a0.length:Nat):Int))) (Option.bind (CE a0 v3) λ DI=>Option.bind (Cv (KD a0 v3 DI) (0,(-1))) (λ | .inl (v32,v33)=>some (Sum.inl (IntKind.i64.wrap (v3+1))) | .inr (r34)=>some (Sum.inr (.inr (r34))))) (some (Sum.inr (.inl v3)))
def MA(a0:List (List Int))(a1:List Bool):Option (Int):=
 cond (decide (24<((a0.length:Nat):Int))) (some 20) (Option.bind (Cv (KC a0) 0) (λ | .inl v35=>cond (decide (((a1.length:Nat):Int)=((a0.length:Nat):Int))) (some 0) (some 19) | .inr (r37)=>some r37))
theorem Ab0(a0:List (List Int))(a1:List Bool)(r:Int)(hr:MA a0 a1=some r):
   BZ prog 58 [.p (.sl (Cr a0)),.p (.sl (CT a1))] [] λ h d=>h=[]/\d= .p (.int .i64 r):=by
 refine B1 func58 rfl Amb (by simp[Tryz.f58]) ?_;unfold MA at hr;cases c1:decide (24<((a0.length:Nat):Int))
 . simp only[c1,Aj] at hr;obtain ⟨e7,g8,hr⟩:=bE hr;(try simp only[go_sem,c1]);refine CQ g8 (λ q:Int=>⟨[(0,.p (.sl (Cr a0))),(1,.p (.sl (CT a1))),(13,.p (.sl (Cr a0))),(14,.p (.int .i64 ((a0.length:Nat):Int))),(15,.p (.int .i64 q))],[],48⟩) ((Wk.forget (by simp[ZF,ZE]))) ?_;rintro v3 m6 D7 U6;rw[KC.eq_1] at D7;cases c9:decide (v3<((a0.length:Nat):Int))
   . simp only[c9,Aj] at D7;simp only[Aa,B2] at D7;cases D7;(try dsimp only at hr);cases Kf:decide (((a1.length:Nat):Int)=((a0.length:Nat):Int))
     . simp only[Kf,Aj] at hr;cases hr;(try simp only[go_sem,c9,Kf]);all_goals ((try refine BY ?_);(try simp only[go_sem,c9,Kf]);try first | rfl | exact ⟨rfl,rfl⟩ | (simp;done))
     simp only[Kf,Ak] at hr;cases hr;(try simp only[go_sem,c9,Kf]);all_goals ((try refine BY ?_);(try simp only[go_sem,c9,Kf]);try first | rfl | exact ⟨rfl,rfl⟩ | (simp;done))
   simp only[c9,Ak] at D7;obtain ⟨DI,g12,D7⟩:=bK D7;have f13:=B9 g12;have f14:(Cr a0).getD (Int.toNat v3) []=[(.sl (BX DI))]:=Ca _ g12;obtain ⟨e22,g23,D7⟩:=bK D7;(try simp only[go_sem,c9,f13,f14]);refine CQ g23 (λ q:Int×Int=>⟨[(0,.p (.sl (Cr a0))),(1,.p (.sl (CT a1))),(5,.p (.int .i64 v3)),(7,.p (.int .i64 q.2)),(13,.p (.sl (Cr a0))),(14,.p (.int .i64 ((a0.length:Nat):Int))),(15,.p (.int .i64 v3)),(20,.p (.sl (BX DI))),(21,.p (.int .i64 ((DI.length:Nat):Int))),(22,.p (.int .i64 q.1))],[],48⟩) ((Wk.forget (by simp[ZF,ZE]))) ?_;rintro ⟨v17,v18⟩ m21 J5 Bay;rw[KD.eq_1] at J5;cases k7:decide (v17<((DI.length:Nat):Int))
   . simp only[k7,Aj] at J5;simp only[Aa,B2] at J5;cases J5;(try dsimp only at D7);simp only[Aa,B4] at D7;(try simp only[go_sem,k7]);exact U6 (IntKind.i64.wrap (v3+1)) _ D7 ((Wk.forget (by simp[ZF,ZE])))
   simp only[k7,Ak] at J5;obtain ⟨Qg,g26,J5⟩:=bK J5;have f27:=B9 g26;have f28:(BX DI).getD (Int.toNat v17) []=[(.int .i64 Qg)]:=Ca _ g26;cases Sa:decide (Qg<=v18)
   . simp only[Sa,Aj] at J5;cases OO:decide (((a0.length:Nat):Int)<=Qg)
     . simp only[OO,Aj] at J5;cases UK:decide (Qg=v3)
       . simp only[UK,Aj] at J5;simp only[Aa,B4] at J5;(try simp only[go_sem,k7,f27,f28,Sa,OO,UK]);exact Bay ((IntKind.i64.wrap (v17+1)),Qg) _ J5 ((Wk.forget (by simp[ZF,ZE])))
       simp only[UK,Ak] at J5;simp only[Aa,B2] at J5;cases J5;(try dsimp only at D7);simp only[Aa,B2] at D7;cases D7;(try dsimp only at hr);cases hr;(try simp only[go_sem,k7,f27,f28,Sa,OO,UK]);all_goals ((try refine BY ?_);(try simp only[go_sem,k7,f27,f28,Sa,OO,UK]);try first | rfl | exact ⟨rfl,rfl⟩ | (simp;done))
     simp only[OO,Ak] at J5;simp only[Aa,B2] at J5;cases J5;(try dsimp only at D7);simp only[Aa,B2] at D7;cases D7;(try dsimp only at hr);cases hr;(try simp only[go_sem,k7,f27,f28,Sa,OO]);all_goals ((try refine BY ?_);(try simp only[go_sem,k7,f27,f28,Sa,OO]);try first | rfl | exact ⟨rfl,rfl⟩ | (simp;done))
   simp only[Sa,Ak] at J5;simp only[Aa,B2] at J5;cases J5;(try dsimp only at D7);simp only[Aa,B2] at D7;cases D7;(try dsimp only at hr);cases hr;(try simp only[go_sem,k7,f27,f28,Sa]);all_goals ((try refine BY ?_);(try simp only[go_sem,k7,f27,f28,Sa]);try first | rfl | exact ⟨rfl,rfl⟩ | (simp;done))
 simp only[c1,Ak] at hr;cases hr;try simp only[go_sem,c1]
 all_goals ((try refine BY ?_);(try simp only[go_sem,c1]);try first | rfl | exact ⟨rfl,rfl⟩ | (simp;done))
def GL(WQ:Int)(HN:Int)(x52:List Int):(List Int)×Int×(List Int)->Option (((List Int)×Int×(List Int))⊕(((List Int)×Int×(List Int))))
 | (p3,v75,v76)=>cond (decide (v75<((x52.length:Nat):Int))) (Option.bind (CE x52 v75) λ x84=>cond (decide (x84=WQ)) (Option.bind (CE p3 WQ) λ x89=>Option.bind (CE p3 HN) λ x93=>cond (decide (v76.length+1<10000000)) (some (Sum.inl ((p3.set (Int.toNat HN) (IntKind.i64.wrap (x89+1))),(IntKind.i64.wrap (v75+1)),(v76++[HN])))) none) (some (Sum.inl (p3,(IntKind.i64.wrap (v75+1)),v76)))) (some (Sum.inr (p3,v75,v76)))
def KB(a0:List (List Int))(a1:List Bool)(WQ:Int):(List Int)×Int×(List Int)->Option (((List Int)×Int×(List Int))⊕(((List Int)×Int×(List Int))))
 | (v41,HN,v44)=>cond (decide (HN<((a0.length:Nat):Int))) (Option.bind (CE a0 HN) λ x52=>Option.bind (CE v41 HN) λ x56=>cond (decide (0<=x56)) (some (Sum.inl (v41,(IntKind.i64.wrap (HN+1)),v44))) (Option.bind (CE a1 HN) λ x61=>cond x61 (some (Sum.inl (v41,(IntKind.i64.wrap (HN+1)),v44))) (Option.bind (Cv (GL WQ HN x52) (v41,0,v44)) (λ (Azw,v115,Azv)=>some (Sum.inl (Azw,(IntKind.i64.wrap (HN+1)),Azv)))))) (some (Sum.inr (v41,HN,v44)))
def Mz(a0:List (List Int))(a1:List Bool):(List Int)×(List Int)->Option (((List Int)×(List Int))⊕(((List Int)×(List Int))))
 | (Ya,v20)=>cond (decide (0<((v20.length:Nat):Int))) (Option.bind (CE v20 0) λ WQ=>cond (decide (0<=1/\1<=((v20.length:Nat):Int)/\((v20.length:Nat):Int)<=((v20.length:Nat):Int))) (Option.bind (Cv (KB a0 a1 WQ) (Ya,0,(v20.drop 1))) (λ (Azt,v163,v164)=>some (Sum.inl (Azt,v164)))) none) (some (Sum.inr (Ya,v20)))
def KA(a0:List (List Int)):(List Int)×Int->Option (((List Int)×Int)⊕(((List Int)×Int)))
 | (v4,v5)=>cond (decide (v5<((a0.length:Nat):Int))) (Option.bind (CE v4 v5) λ Awd=>some (Sum.inl ((v4.set (Int.toNat v5) (-1)),(IntKind.i64.wrap (v5+1))))) (some (Sum.inr (v4,v5)))
def PN(a0:List (List Int))(a1:List Bool)(a2:Int):Option ((List Int)):=
 cond (decide (a0.length<10000000)) (Option.bind (Cv (KA a0) ((List.replicate a0.length 0),0)) (λ (v171,v172)=>Option.bind (CE v171 a2) λ x173=>Option.bind (Cv (Mz a0 a1) ((v171.set (Int.toNat a2) 0),[a2])) (λ (Azq,v327)=>some Azq))) none
theorem Afd(a0:List (List Int))(a1:List Bool)(a2:Int)(r:(List Int))(hr:PN a0 a1 a2=some r):
   BZ prog 103 [.p (.sl (Cr a0)),.p (.sl (CT a1)),.p (.int .i64 a2)] [] λ h d=>h=[]/\d= .p (.sl (BX r)):=by
 refine B1 func103 rfl Agx (by simp[Tryz.f103]) ?_;unfold PN at hr;obtain ⟨c1,hr⟩:=gE hr;try simp only[go_sem]
 refine ⟨by have:=Ad c1;omega,?_⟩;obtain ⟨e9,g10,hr⟩:=bE hr;try simp only[go_sem]
 refine CQ g10 (λ q:(List Int)×Int=>⟨[(0,.p (.sl (Cr a0))),(1,.p (.sl (CT a1))),(2,.p (.int .i64 a2)),(7,.ref 17 0 q.1.length q.1.length),(19,.p (.int .i64 ((a0.length:Nat):Int))),(20,.p (.int .i64 q.2))],[(17,.arr 3 1 (BX q.1))],86⟩) ((Wk.forget (by simp[ZF,ZE]))) ?_;rintro ⟨v4,v5⟩ m8 hh6 ih7;rw[KA.eq_1] at hh6;cases c11:decide (v5<((a0.length:Nat):Int))
 . simp only[c11,Aj] at hh6;simp only[Aa,B2] at hh6;cases hh6;(try dsimp only at hr);obtain ⟨x12,g13,hr⟩:=bE hr;have f14:=B9 g13;have f15:(BX v4).getD (Int.toNat a2) []=[(.int .i64 x12)]:=Ca _ g13;obtain ⟨e24,g25,hr⟩:=bE hr;(try simp only[go_sem,c11,f14,f15]);refine CQ g25 (λ q:(List Int)×(List Int)=>⟨[(0,.p (.sl (Cr a0))),(1,.p (.sl (CT a1))),(7,.ref 17 0 q.1.length q.1.length),(9,.p (.sl (BX q.2)))],[(17,.arr 3 1 (BX q.1))],86⟩) ((Wk.pure (t:=9) (id:=31) (sz:=1) (e:=3) (es:=BX [a2]) (by simp[get,ZE]) (by simp[get,ZE])).trans ((Wk.forget (by simp[ZF,ZE])))) ?_;rintro ⟨Ya,v20⟩ m23 Mt Ax5;rw[Mz.eq_1] at Mt;cases c26:decide (0<((v20.length:Nat):Int))
   . simp only[c26,Aj] at Mt;simp only[Aa,B2] at Mt;cases Mt;(try dsimp only at hr);cases hr;(try simp only[go_sem,c26]);all_goals ((try refine BY ?_);(try simp only[go_sem,c26]);try first | rfl | exact ⟨rfl,rfl⟩ | (simp;done))
   simp only[c26,Ak] at Mt;obtain ⟨WQ,g28,Mt⟩:=bK Mt;have f29:=B9 g28;have f30:(BX v20).getD 0 []=[(.int .i64 WQ)]:=Ca _ g28;obtain ⟨UK,Mt⟩:=gK Mt;have f32:=Ad UK;have f33:=Az4 v20 1;obtain ⟨e48,g49,Mt⟩:=bK Mt;(try simp only[go_sem,c26,f29,f30,f32,f33,eq_self,Jy v20]);refine SJ g49 (λ (q:(List Int)×Int×(List Int)) (c:Bool)=>⟨[(0,.p (.sl (Cr a0))),(1,.p (.sl (CT a1))),(7,.ref 17 0 q.1.length q.1.length),(9,match c with | true=> .cz (BX q.2.2) | false=> .ref 82 0 q.2.2.length q.2.2.length),(10,.p (.int .i64 WQ)),(44,.p (.sl (Cr a0))),(45,.p (.int .i64 ((a0.length:Nat):Int))),(46,.p (.int .i64 q.2.1))],(match c with | true=>[] | false=>[(82,.arr 3 1 (BX q.2.2))])++[(17,.arr 3 1 (BX q.1))],86⟩) true ((Wk.forget (by simp[ZF,ZE]))) ?_;rintro ⟨v41,HN,v44⟩ Bcy m47 Eb Aar;rw[KB.eq_1] at Eb;rcases Bcy with _ | _
   . cases Ahq:decide (HN<((a0.length:Nat):Int))
     . simp only[Ahq,Aj] at Eb;simp only[Aa,B2] at Eb;cases Eb;(try dsimp only at Mt);simp only[Aa,B4] at Mt;(try simp only[go_sem,Ahq]);exact Ax5 (v41,v44) _ Mt ((Wk.pure (t:=9) (id:=82) (sz:=1) (e:=3) (es:=BX v44) (by simp[get,ZE]) (by simp[get,ZE])).trans ((Wk.forget (by simp[ZF,ZE]))))
     simp only[Ahq,Ak] at Eb;obtain ⟨Aif,Ayq,Eb⟩:=bK Eb;have f120:=B9 Ayq;have f121:(Cr a0).getD (Int.toNat HN) []=[(.sl (BX Aif))]:=Ca _ Ayq;obtain ⟨Awh,Ayo,Eb⟩:=bK Eb;have f124:=B9 Ayo;have f125:(BX v41).getD (Int.toNat HN) []=[(.int .i64 Awh)]:=Ca _ Ayo;cases Ao2:decide (0<=Awh)
     . simp only[Ao2,Aj] at Eb;obtain ⟨Awg,Ayn,Eb⟩:=bK Eb;have f129:=B9 Ayn;have f130:(CT a1).getD (Int.toNat HN) []=[(.bool Awg)]:=Ca _ Ayn;cases X0:Awg
       . simp only[X0,Aj] at Eb;obtain ⟨e141,Ar0,Eb⟩:=bK Eb;(try simp only[go_sem,Ahq,f120,f121,f124,f125,Ao2,f129,f130,X0]);refine CQ Ar0 (λ q:(List Int)×Int×(List Int)=>⟨[(0,.p (.sl (Cr a0))),(1,.p (.sl (CT a1))),(7,.ref 17 0 q.1.length q.1.length),(9,.ref 82 0 q.2.2.length q.2.2.length),(10,.p (.int .i64 WQ)),(11,.p (.int .i64 HN)),(44,.p (.sl (Cr a0))),(45,.p (.int .i64 ((a0.length:Nat):Int))),(46,.p (.int .i64 HN)),(62,.p (.sl (BX Aif))),(63,.p (.int .i64 ((Aif.length:Nat):Int))),(64,.p (.int .i64 q.2.1))],[(17,.arr 3 1 (BX q.1)),(82,.arr 3 1 (BX q.2.2))],86⟩) ((Wk.forget (by simp[ZF,ZE,X0]))) ?_;rintro ⟨Aik,Ap7,Atf⟩ m140 Hv Asn;rw[GL.eq_1] at Hv;cases Ao1:decide (Ap7<((Aif.length:Nat):Int))
         . simp only[Ao1,Aj] at Hv;simp only[Aa,B2] at Hv;cases Hv;(try dsimp only at Eb);simp only[Aa,B4] at Eb;(try simp only[go_sem,Ao1]);exact Aar (Aik,(IntKind.i64.wrap (HN+1)),Atf) false _ Eb ((Wk.forget (by simp[ZF,ZE,X0])))
         simp only[Ao1,Ak] at Hv;obtain ⟨Awf,Ayk,Hv⟩:=bK Hv;have f146:=B9 Ayk;have f147:(BX Aif).getD (Int.toNat Ap7) []=[(.int .i64 Awf)]:=Ca _ Ayk;cases Ari:decide (Awf=WQ)
         . simp only[Ari,Aj] at Hv;simp only[Aa,B4] at Hv;(try simp only[go_sem,Ao1,f146,f147,Ari]);exact Asn (Aik,(IntKind.i64.wrap (Ap7+1)),Atf) _ Hv ((Wk.forget (by simp[ZF,ZE,X0])))
         simp only[Ari,Ak] at Hv;obtain ⟨Awe,Ayi,Hv⟩:=bK Hv;have f151:=B9 Ayi;have f152:(BX Aik).getD (Int.toNat WQ) []=[(.int .i64 Awe)]:=Ca _ Ayi;obtain ⟨Aie,Aqz,Hv⟩:=bK Hv;have f155:=B9 Aqz;have f156:(BX Aik).getD (Int.toNat HN) []=[(.int .i64 Aie)]:=Ca _ Aqz;obtain ⟨Bcz,Hv⟩:=gK Hv;(try simp only[go_sem,Ao1,f146,f147,Ari,f151,f152,f155,f156]);refine ⟨by have:=Ad Bcz;(try simp only[Ar,Az,Au] at*);(repeat' refine And.intro ?_ ?_)<;>first | exact EB _ _ rfl | exact Jy _ | omega | (simp[LI];done),?_⟩;simp only[Aa,B4] at Hv;(try simp only[go_sem]);exact Asn ((Aik.set (Int.toNat HN) (IntKind.i64.wrap (Awe+1))),(IntKind.i64.wrap (Ap7+1)),(Atf++[HN])) _ Hv ((Wk.forget (by simp[ZF,ZE,X0])))
       simp only[X0,Ak] at Eb;simp only[Aa,B4] at Eb;(try simp only[go_sem,Ahq,f120,f121,f124,f125,Ao2,f129,f130,X0]);exact Aar (v41,(IntKind.i64.wrap (HN+1)),v44) false _ Eb ((Wk.forget (by simp[ZF,ZE,X0])))
     simp only[Ao2,Ak] at Eb;simp only[Aa,B4] at Eb;(try simp only[go_sem,Ahq,f120,f121,f124,f125,Ao2]);exact Aar (v41,(IntKind.i64.wrap (HN+1)),v44) false _ Eb ((Wk.forget (by simp[ZF,ZE])))
   . cases c51:decide (HN<((a0.length:Nat):Int))
     . simp only[c51,Aj] at Eb;simp only[Aa,B2] at Eb;cases Eb;(try dsimp only at Mt);simp only[Aa,B4] at Mt;(try simp only[go_sem,c51]);exact Ax5 (v41,v44) _ Mt ((Wk.Avg (t:=9) rfl).trans ((Wk.forget (by simp[ZF,ZE]))))
     simp only[c51,Ak] at Eb;obtain ⟨x52,g53,Eb⟩:=bK Eb;have f54:=B9 g53;have f55:(Cr a0).getD (Int.toNat HN) []=[(.sl (BX x52))]:=Ca _ g53;obtain ⟨x56,g57,Eb⟩:=bK Eb;have f58:=B9 g57;have f59:(BX v41).getD (Int.toNat HN) []=[(.int .i64 x56)]:=Ca _ g57;cases c60:decide (0<=x56)
     . simp only[c60,Aj] at Eb;obtain ⟨x61,g62,Eb⟩:=bK Eb;have f63:=B9 g62;have f64:(CT a1).getD (Int.toNat HN) []=[(.bool x61)]:=Ca _ g62;cases c65:x61
       . simp only[c65,Aj] at Eb;obtain ⟨e80,g81,Eb⟩:=bK Eb;(try simp only[go_sem,c51,f54,f55,f58,f59,c60,f63,f64,c65]);refine SJ g81 (λ (q:(List Int)×Int×(List Int)) (c:Bool)=>⟨[(0,.p (.sl (Cr a0))),(1,.p (.sl (CT a1))),(7,.ref 17 0 q.1.length q.1.length),(9,match c with | true=> .cz (BX q.2.2) | false=> .ref 82 0 q.2.2.length q.2.2.length),(10,.p (.int .i64 WQ)),(11,.p (.int .i64 HN)),(44,.p (.sl (Cr a0))),(45,.p (.int .i64 ((a0.length:Nat):Int))),(46,.p (.int .i64 HN)),(62,.p (.sl (BX x52))),(63,.p (.int .i64 ((x52.length:Nat):Int))),(64,.p (.int .i64 q.2.1))],(match c with | true=>[] | false=>[(82,.arr 3 1 (BX q.2.2))])++[(17,.arr 3 1 (BX q.1))],86⟩) true ((Wk.forget (by simp[ZF,ZE,c65]))) ?_;rintro ⟨p3,v75,v76⟩ Bcx m79 FJ Aqd;rw[GL.eq_1] at FJ;rcases Bcx with _ | _
         . cases c98:decide (v75<((x52.length:Nat):Int))
           . simp only[c98,Aj] at FJ;simp only[Aa,B2] at FJ;cases FJ;(try dsimp only at Eb);simp only[Aa,B4] at Eb;(try simp only[go_sem,c98]);exact Aar (p3,(IntKind.i64.wrap (HN+1)),v76) false _ Eb ((Wk.forget (by simp[ZF,ZE,c65])))
           simp only[c98,Ak] at FJ;obtain ⟨x99,Ayt,FJ⟩:=bK FJ;have f101:=B9 Ayt;have f102:(BX x52).getD (Int.toNat v75) []=[(.int .i64 x99)]:=Ca _ Ayt;cases Ark:decide (x99=WQ)
           . simp only[Ark,Aj] at FJ;simp only[Aa,B4] at FJ;(try simp only[go_sem,c98,f101,f102,Ark]);exact Aqd (p3,(IntKind.i64.wrap (v75+1)),v76) false _ FJ ((Wk.forget (by simp[ZF,ZE,c65])))
           simp only[Ark,Ak] at FJ;obtain ⟨Awi,Ays,FJ⟩:=bK FJ;have f106:=B9 Ays;have f107:(BX p3).getD (Int.toNat WQ) []=[(.int .i64 Awi)]:=Ca _ Ays;obtain ⟨Azk,Ayr,FJ⟩:=bK FJ;have f110:=B9 Ayr;have f111:(BX p3).getD (Int.toNat HN) []=[(.int .i64 Azk)]:=Ca _ Ayr;obtain ⟨Bd0,FJ⟩:=gK FJ;(try simp only[go_sem,c98,f101,f102,Ark,f106,f107,f110,f111]);refine ⟨by have:=Ad Bd0;(try simp only[Ar,Az,Au] at*);(repeat' refine And.intro ?_ ?_)<;>first | exact EB _ _ rfl | exact Jy _ | omega | (simp[LI];done),?_⟩;simp only[Aa,B4] at FJ;(try simp only[go_sem]);exact Aqd ((p3.set (Int.toNat HN) (IntKind.i64.wrap (Awi+1))),(IntKind.i64.wrap (v75+1)),(v76++[HN])) false _ FJ ((Wk.forget (by simp[ZF,ZE,c65])))
         . cases WD:decide (v75<((x52.length:Nat):Int))
           . simp only[WD,Aj] at FJ;simp only[Aa,B2] at FJ;cases FJ;(try dsimp only at Eb);simp only[Aa,B4] at Eb;(try simp only[go_sem,WD]);exact Aar (p3,(IntKind.i64.wrap (HN+1)),v76) true _ Eb ((Wk.forget (by simp[ZF,ZE,c65])))
           simp only[WD,Ak] at FJ;obtain ⟨x84,g85,FJ⟩:=bK FJ;have f86:=B9 g85;have f87:(BX x52).getD (Int.toNat v75) []=[(.int .i64 x84)]:=Ca _ g85;cases c88:decide (x84=WQ)
           . simp only[c88,Aj] at FJ;simp only[Aa,B4] at FJ;(try simp only[go_sem,WD,f86,f87,c88]);exact Aqd (p3,(IntKind.i64.wrap (v75+1)),v76) true _ FJ ((Wk.forget (by simp[ZF,ZE,c65])))
           simp only[c88,Ak] at FJ;obtain ⟨x89,g90,FJ⟩:=bK FJ;have f91:=B9 g90;have f92:(BX p3).getD (Int.toNat WQ) []=[(.int .i64 x89)]:=Ca _ g90;obtain ⟨x93,g94,FJ⟩:=bK FJ;have f95:=B9 g94;have f96:(BX p3).getD (Int.toNat HN) []=[(.int .i64 x93)]:=Ca _ g94;obtain ⟨c97,FJ⟩:=gK FJ;(try simp only[go_sem,WD,f86,f87,c88,f91,f92,f95,f96]);refine ⟨by have:=Ad c97;(try simp only[Ar,Az,Au] at*);(repeat' refine And.intro ?_ ?_)<;>first | exact EB _ _ rfl | exact Jy _ | omega | (simp[LI];done),?_⟩;simp only[Aa,B4] at FJ;(try simp only[go_sem]);exact Aqd ((p3.set (Int.toNat HN) (IntKind.i64.wrap (x89+1))),(IntKind.i64.wrap (v75+1)),(v76++[HN])) false _ FJ ((Wk.forget (by simp[ZF,ZE,c65])))
       simp only[c65,Ak] at Eb;simp only[Aa,B4] at Eb;(try simp only[go_sem,c51,f54,f55,f58,f59,c60,f63,f64,c65]);exact Aar (v41,(IntKind.i64.wrap (HN+1)),v44) true _ Eb ((Wk.forget (by simp[ZF,ZE,c65])))
     simp only[c60,Ak] at Eb;simp only[Aa,B4] at Eb;(try simp only[go_sem,c51,f54,f55,f58,f59,c60]);exact Aar (v41,(IntKind.i64.wrap (HN+1)),v44) true _ Eb ((Wk.forget (by simp[ZF,ZE])))
 simp only[c11,Ak] at hh6;obtain ⟨Awd,Ayg,hh6⟩:=bK hh6;have f169:=B9 Ayg;have f170:(BX v4).getD (Int.toNat v5) []=[(.int .i64 Awd)]:=Ca _ Ayg;simp only[Aa,B4] at hh6;try simp only[go_sem,c11,f169,f170]
 exact ih7 ((v4.set (Int.toNat v5) (-1)),(IntKind.i64.wrap (v5+1))) _ hh6 ((Wk.forget (by simp[ZF,ZE])))
def Kz(x6:List Int)(Ym:List Int):Int×Int->Option ((Int×Int)⊕((Int×Int)))
 | (v23,v24)=>cond (decide (v24<((Ym.length:Nat):Int))) (Option.bind (CE Ym v24) λ SL=>Option.bind (CE x6 SL) λ x38=>cond (decide (0<=x38)) (cond (decide (v23<0)) (some (Sum.inl (SL,(IntKind.i64.wrap (v24+1))))) (Option.bind (CE x6 v23) λ x44=>cond (decide (x38<x44)) (some (Sum.inl (SL,(IntKind.i64.wrap (v24+1))))) (some (Sum.inl (v23,(IntKind.i64.wrap (v24+1))))))) (some (Sum.inl (v23,(IntKind.i64.wrap (v24+1)))))) (some (Sum.inr (v23,v24)))
def Mx(a0:List (List Int))(a2:Int)(x6:List Int):(List Int)×Int->Option (((List Int)×Int)⊕((List Int)))
 | (v10,v11)=>Option.bind (CE a0 v11) λ Ym=>Option.bind (Cv (Kz x6 Ym) ((-1),0)) (λ (v49,v50)=>cond (decide (v49<0)) (some (Sum.inr ([]:(List Int)))) (cond (decide (v49=a2)) (some (Sum.inr (v10:(List Int)))) (cond (decide (v10.length+1<10000000)) (some (Sum.inl ((v10++[v49]),v49))) none)))
def PM(a0:List (List Int))(a1:List Bool)(a2:Int):Option ((List Int)):=
 Option.bind (CE a1 a2) λ x1=>cond x1 (some []) (Option.bind (PN a0 a1 a2) λ x6=>Option.bind (Cv (Mx a0 a2 x6) ([a2],a2)) (λ r54=>some r54))
theorem We(a0:List (List Int))(a1:List Bool)(a2:Int)(r:(List Int))(hr:PM a0 a1 a2=some r):
   BZ prog 59 [.p (.sl (Cr a0)),.p (.sl (CT a1)),.p (.int .i64 a2)] [] λ h d=>h=[]/\d= .p (.sl (BX r)):=by
 refine B1 func59 rfl Ama (by simp[Tryz.f59]) ?_;unfold PM at hr;obtain ⟨x1,g2,hr⟩:=bE hr;have f3:=B9 g2;have f4:(CT a1).getD (Int.toNat a2) []=[(.bool x1)]:=Ca _ g2;cases c5:x1
 . simp only[c5,Aj] at hr;obtain ⟨x6,g7,hr⟩:=bE hr;(try simp only[go_sem,f3,f4,c5]);refine Cq (Afd a0 a1 a2 _ g7) ?_;obtain ⟨e15,g16,hr⟩:=bE hr;(try simp only[go_sem]);refine CQ g16 (λ q:(List Int)×Int=>⟨[(0,.p (.sl (Cr a0))),(2,.p (.int .i64 a2)),(7,.p (.sl (BX x6))),(8,.ref 22 0 q.1.length q.1.length),(9,.p (.int .i64 q.2))],[(22,.arr 3 1 (BX q.1))],68⟩) ((Wk.forget (by simp[ZF,ZE,c5]))) ?_;rintro ⟨v10,v11⟩ m14 Ev Aki;rw[Mx.eq_1] at Ev;obtain ⟨Ym,g18,Ev⟩:=bK Ev;have f19:=B9 g18;have f20:(Cr a0).getD (Int.toNat v11) []=[(.sl (BX Ym))]:=Ca _ g18;obtain ⟨e28,g29,Ev⟩:=bK Ev;(try simp only[go_sem,f19,f20]);refine CQ g29 (λ q:Int×Int=>⟨[(0,.p (.sl (Cr a0))),(2,.p (.int .i64 a2)),(7,.p (.sl (BX x6))),(8,.ref 22 0 v10.length v10.length),(10,.p (.int .i64 q.1)),(27,.p (.sl (BX Ym))),(28,.p (.int .i64 ((Ym.length:Nat):Int))),(29,.p (.int .i64 q.2))],[(22,.arr 3 1 (BX v10))],68⟩) ((Wk.forget (by simp[ZF,ZE,c5]))) ?_;rintro ⟨v23,v24⟩ m27 IA Aqg;rw[Kz.eq_1] at IA;cases OO:decide (v24<((Ym.length:Nat):Int))
   . simp only[OO,Aj] at IA;simp only[Aa,B2] at IA;cases IA;(try dsimp only at Ev);cases UK:decide (v23<0)
     . simp only[UK,Aj] at Ev;cases c32:decide (v23=a2)
       . simp only[c32,Aj] at Ev;obtain ⟨c33,Ev⟩:=gK Ev;(try simp only[go_sem,OO,UK,c32]);refine ⟨by have:=Ad c33;(try simp only[Ar,Az,Au] at*);(repeat' refine And.intro ?_ ?_)<;>first | exact EB _ _ rfl | exact Jy _ | omega | (simp[LI];done),?_⟩;simp only[Aa,B4] at Ev;(try simp only[go_sem]);exact Aki ((v10++[v23]),v23) _ Ev ((Wk.forget (by simp[ZF,ZE,c5])))
       simp only[c32,Ak] at Ev;simp only[Aa,B2] at Ev;cases Ev;(try dsimp only at hr);cases hr;(try simp only[go_sem,OO,UK,c32]);all_goals ((try refine BY ?_);(try simp only[go_sem,OO,UK,c32]);try first | rfl | exact ⟨rfl,rfl⟩ | (simp;done))
     simp only[UK,Ak] at Ev;simp only[Aa,B2] at Ev;cases Ev;(try dsimp only at hr);cases hr;(try simp only[go_sem,OO,UK]);all_goals ((try refine BY ?_);(try simp only[go_sem,OO,UK]);try first | rfl | exact ⟨rfl,rfl⟩ | (simp;done))
   simp only[OO,Ak] at IA;obtain ⟨SL,g35,IA⟩:=bK IA;have f36:=B9 g35;have f37:(BX Ym).getD (Int.toNat v24) []=[(.int .i64 SL)]:=Ca _ g35;(try simp only[go_sem,OO,f36,f37]);refine CH mixed (p:=[(0,0),(1,0),(2,0),(3,0),(4,0),(5,0),(6,0),(7,0),(8,0),(9,0),(10,0),(11,0),(12,0),(13,0),(14,0),(15,0),(16,0),(17,0),(18,0),(19,0)]) (by kernel_rfl) (by simp[C8,get]) ?_;obtain ⟨x38,g39,IA⟩:=bK IA;have f40:=B9 g39;have f41:(BX x6).getD (Int.toNat SL) []=[(.int .i64 x38)]:=Ca _ g39;cases c42:decide (0<=x38)
   . simp only[c42,Aj] at IA;simp only[Aa,B4] at IA;(try simp only[go_sem,f40,f41,c42]);exact Aqg (v23,(IntKind.i64.wrap (v24+1))) _ IA ((Wk.forget (by simp[ZF,ZE,c5])))
   simp only[c42,Ak] at IA;cases c43:decide (v23<0)
   . simp only[c43,Aj] at IA;obtain ⟨x44,g45,IA⟩:=bK IA;have f46:=B9 g45;have f47:(BX x6).getD (Int.toNat v23) []=[(.int .i64 x44)]:=Ca _ g45;cases c48:decide (x38<x44)
     . simp only[c48,Aj] at IA;simp only[Aa,B4] at IA;(try simp only[go_sem,f40,f41,c42,c43,f46,f47,c48]);exact Aqg (v23,(IntKind.i64.wrap (v24+1))) _ IA ((Wk.forget (by simp[ZF,ZE,c5])))
     simp only[c48,Ak] at IA;simp only[Aa,B4] at IA;(try simp only[go_sem,f40,f41,c42,c43,f46,f47,c48]);exact Aqg (SL,(IntKind.i64.wrap (v24+1))) _ IA ((Wk.forget (by simp[ZF,ZE,c5])))
   simp only[c43,Ak] at IA;simp only[Aa,B4] at IA;(try simp only[go_sem,f40,f41,c42,c43]);exact Aqg (SL,(IntKind.i64.wrap (v24+1))) _ IA ((Wk.forget (by simp[ZF,ZE,c5])))
 simp only[c5,Ak] at hr;cases hr;try simp only[go_sem,f3,f4,c5]
 all_goals ((try refine BY ?_);(try simp only[go_sem,f3,f4,c5]);try first | rfl | exact ⟨rfl,rfl⟩ | (simp;done))
def nlD(l:List Int):D:=match l with
 | []=> .cl []
 | x::r=> .p (.sl (BX (x::r)))
theorem SA:nlD []= .cl []:=rfl
theorem Ko(x:Int)(r:List Int):nlD (x::r)= .p (.sl (BX (x::r))):=rfl
def I6(a0:List (List Int))(a1:List Bool):(List Int)×Int->Option (((List Int)×Int)⊕((List Int)×Int))
 | (b,v)=>cond (decide (v<((a0.length:Nat):Int))) (Option.bind (PM a0 a1 v) λ x=>cond (decide (0<((x.length:Nat):Int))) (cond b.isEmpty (some (.inl (x,IntKind.i64.wrap (v+1)))) (cond (decide (((x.length:Nat):Int)<((b.length:Nat):Int))) (some (.inl (x,IntKind.i64.wrap (v+1)))) (some (.inl (b,IntKind.i64.wrap (v+1)))))) (some (.inl (b,IntKind.i64.wrap (v+1))))) (some (.inr (b,v)))
def My(a0:List (List Int))(a1:List Bool):Option (Int×(List Int)×Int):=
 Option.bind (MA a0 a1) λ x1=>cond (decide (x1=0)) (Option.bind (Cv (I6 a0 a1) ([],0)) (λ (b,v)=>some (((b.length:Nat):Int),b,0))) (some (0,[],x1))
theorem Aaz(a0:List (List Int))(a1:List Bool)(r:Int×(List Int)×Int)(hr:My a0 a1=some r):
   BZ prog 25 [.p (.sl (Cr a0)),.p (.sl (CT a1))] [] λ h d=>h=[]/\d= .Dg [.p (.int .i64 r.1),.p (.sl (BX r.2.1)),.p (.int .i64 r.2.2)]:=by
 refine B1 func25 rfl Amy (by simp[Tryz.f25]) ?_;unfold My at hr;obtain ⟨x1,g2,hr⟩:=bE hr;try simp only[go_sem]
 refine Cq (Ab0 a0 a1 _ g2) ?_;cases c3:decide (x1=0)
 . simp only[c3,Aj] at hr;cases hr;(try simp only[go_sem,c3]);all_goals ((try refine BY ?_);(try simp only[go_sem,c3]);try first | rfl | exact ⟨rfl,rfl⟩ | (simp;done))
 simp only[c3,Ak] at hr;obtain ⟨e11,g12,hr⟩:=bE hr;try simp only[go_sem,c3]
 refine CQ g12 (λ q:(List Int)×Int=>⟨[(0,.p (.sl (Cr a0))),(1,.p (.sl (CT a1))),(8,nlD q.1),(18,.p (.int .i64 ((a0.length:Nat):Int))),(19,.p (.int .i64 q.2))],[],45⟩) ((Wk.forget (by simp[ZF,SA,ZE]))) ?_;rintro ⟨v6,v7⟩ m10 GH ih9;rw[I6.eq_1] at GH;cases Sb:decide (v7<((a0.length:Nat):Int))
 . simp only[Sb,Aj] at GH;simp only[Aa,B2] at GH;cases GH;(try dsimp only at hr);cases hr;rcases v6 with _ | ⟨b0,bs⟩
   . (try simp only[go_sem,Sb,SA]);all_goals ((try refine BY ?_);(try simp only[go_sem,Sb]);try first | rfl | exact ⟨rfl,rfl⟩ | (simp;done))
   . (try simp only[go_sem,Sb,Ko,BW]);all_goals ((try refine BY ?_);(try simp only[go_sem,Sb,BW]);try first | rfl | exact ⟨rfl,rfl⟩ | (simp;done))
 simp only[Sb,Ak] at GH;obtain ⟨O1,g15,GH⟩:=bK GH;rcases v6 with _ | ⟨b0,bs⟩
 . (try simp only[go_sem,Sb,SA]);refine Cq (We a0 a1 v7 _ g15) ?_;cases MM:decide (0<((O1.length:Nat):Int))
   . simp only[MM,Aj] at GH;simp only[Aa,B4] at GH;(try simp only[go_sem,MM,BW]);exact ih9 ([],(IntKind.i64.wrap (v7+1))) _ GH ((Wk.forget (by simp[ZF,SA,ZE])))
   simp only[MM,Ak,List.isEmpty_nil] at GH;simp only[Aa,B4] at GH;(try simp only[go_sem,MM,BW,List.isEmpty_nil]);have hx:0<O1.length:=by have:=Ad MM;omega
   rcases O1 with _ | ⟨y0,ys⟩
   . exact absurd hx (by simp)
   exact ih9 (y0::ys,(IntKind.i64.wrap (v7+1))) _ GH ((Wk.forget (by simp[ZF,Ko,ZE])))
 . have Dl:BX (b0::bs)≠[]:=by simp[BX]
   (try simp only[go_sem,Sb,Ko]);refine Cq (We a0 a1 v7 _ g15) ?_;cases MM:decide (0<((O1.length:Nat):Int))
   . simp only[MM,Aj] at GH;simp only[Aa,B4] at GH;(try simp only[go_sem,MM,BW]);exact ih9 (b0::bs,(IntKind.i64.wrap (v7+1))) _ GH ((Wk.forget (by simp[ZF,Ko,ZE])))
   simp only[MM,Ak,List.isEmpty_cons,Aj] at GH;cases JG:decide (((O1.length:Nat):Int)<(((b0::bs).length:Nat):Int))
   . have SG:decide (((O1.length:Nat):Int)<((bs.length+1:Nat):Int))=false:=JG;simp only[JG,Aj] at GH;simp only[Aa,B4] at GH;(try simp only[go_sem,MM,SG,BW,Dl,ne_eq]);exact ih9 (b0::bs,(IntKind.i64.wrap (v7+1))) _ GH ((Wk.forget (by simp[ZF,Ko,ZE])))
   have SG:decide (((O1.length:Nat):Int)<((bs.length+1:Nat):Int))=true:=JG;simp only[JG,Ak] at GH;simp only[Aa,B4] at GH;(try simp only[go_sem,MM,SG,BW,Dl,ne_eq]);have hx:0<O1.length:=by have:=Ad MM;omega
   rcases O1 with _ | ⟨y0,ys⟩
   . exact absurd hx (by simp)
   exact ih9 (y0::ys,(IntKind.i64.wrap (v7+1))) _ GH ((Wk.forget (by simp[ZF,Ko,ZE])))
theorem J2{l:List Int}{k:Nat}(h:k<l.length)(w:Int):w∈l.take (k+1)↔w∈l.take k∨l.getD k 0=w:=by
 rw[CB l k 0 h];simp[eq_comm]
theorem Aj6{g:List (List Int)}(hg:Eg g){u:Nat}(hu:u<g.length){k:Nat}(hk:k<(g.getD u []).length):(g.getD u []).getD k 0∉(g.getD u []).take k:=by
 intro hm;obtain ⟨i,hi,he⟩:=AA.1 hm;have EP:i<k:=by simp only[Bi] at hi;omega
 have:=Ads hg hu EP hk;rw[List.getElem_take] at he;have e1:(g.getD u []).getD i 0=(g.getD u [])[i]'(by omega):=getD_eq (by omega);rw[e1,he] at this;omega
theorem Aff{g:List (List Int)}(hg:Eg g){sh:List Bool}(Jp:sh.length=g.length):MA g sh=some 0:=by
 have CS:∀u,u<g.length->Cv (KD g (u:Int) (g.getD u [])) (0,-1)=some (.inl (((g.getD u []).length:Nat),if (g.getD u []).length=0 then -1 else (g.getD u []).getD ((g.getD u []).length - 1) 0)):=λ u hu=>by
   refine C6 (g.getD u []).length (λ k=>(((k:Nat):Int),if k=0 then -1 else (g.getD u []).getD (k - 1) 0)) _ (λ k hk=>?_) ?_
   . have h1:=hg.2 u hu k hk;unfold Ji at h1;have hl:=M3 hg hu;(try dsimp only);rw[KD.eq_1];simp only[Et hk,Ak,Ch _ _ 0 hk,Aa];have c1:decide ((g.getD u []).getD k 0<=if k=0 then -1 else (g.getD u []).getD (k - 1) 0)=false:=Ah (by split<;>omega);have c2:decide (((g.length:Nat):Int)<=(g.getD u []).getD k 0)=false:=Ah (by omega);have c3:decide ((g.getD u []).getD k 0=(u:Int))=false:=Ah (by omega);simp only[c1,c2,c3,Aj];rw[Cu (by omega)];simp
   . (try dsimp only);rw[KD.eq_1];simp only[E4,Aj]
 have DK:Cv (KC g) ((0:Nat):Int)=some (.inl ((g.length:Nat):Int)):=by
   refine C6 g.length (λ k=>((k:Nat):Int)) _ (λ u hu=>?_) ?_
   . rw[KC.eq_1];simp only[Et hu,Ak,Ch _ _ [] hu,Aa];rw[CS u hu];simp only[Aa];rw[Cu (by have:=hg.1;omega)]
   . rw[KC.eq_1];simp only[E4,Aj]
 unfold MA;have c1:decide (24<((g.length:Nat):Int))=false:=Ah (by have:=hg.1;omega);have c2:decide (((sh.length:Nat):Int)=((g.length:Nat):Int))=true:=Ag (by rw[Jp]);simp only[c1,Aj];rw[show (0:Int)=((0:Nat):Int) from rfl,DK];simp only[Aa,c2,Ak]
theorem Ald{g:List (List Int)}(hg:Eg g){sh:List Bool}{goal:Nat}{w:Int}{v:Nat}{d q:List Int}(h:BF g sh goal w v d q)(LA:0<=w)(hv:v<g.length)(hd:d.getD v 0<0):
   Cv (GL w (v:Int) (g.getD v [])) (d,0,q)=some (if w∈g.getD v [] then (d.set v (d.getD w.toNat 0+1),(((g.getD v []).length:Nat):Int),q++[(v:Int)]) else (d,(((g.getD v []).length:Nat):Int),q)):=by
 have hl:=M3 hg hv;obtain ⟨hc1,Vb,hc3,hc4⟩:=h.cur LA;have Yj:=h.len;have hb:=h.bnd w.toNat (by omega);have hq:=h.Ajk;have Ra:=hg.1;have key:=C6 (step:=GL w (v:Int) (g.getD v [])) (g.getD v []).length
   (λ k=>if w∈(g.getD v []).take k then (d.set v (d.getD w.toNat 0+1),((k:Nat):Int),q++[(v:Int)]) else (d,((k:Nat):Int),q))
   (if w∈g.getD v [] then (d.set v (d.getD w.toNat 0+1),(((g.getD v []).length:Nat):Int),q++[(v:Int)]) else (d,(((g.getD v []).length:Nat):Int),q)) (λ k hk=>?_) ?_
 . simpa using key
 . (try dsimp only);by_cases c:w∈(g.getD v []).take k
   . have Dl:(g.getD v []).getD k 0≠w:=λ e=>by
       have:=Aj6 hg hv hk;rw[e] at this;exact this c
     rw[if_pos c,if_pos ((J2 hk w).2 (.inl c)),GL.eq_1];simp only[Et hk,Ak,Ch _ _ 0 hk,Aa,Ah Dl,Aj];rw[Cu (by omega)]
   . rw[if_neg c];by_cases e:(g.getD v []).getD k 0=w
     . rw[if_pos ((J2 hk w).2 (.inr e)),GL.eq_1];have i1:CE d w=some (d.getD w.toNat 0):=by
         have:=Ch d w.toNat 0 (by omega);rw[show ((w.toNat:Nat):Int)=w by omega] at this;exact this
       have i2:=Ch d v 0 (by omega);have c5:decide (q.length+1<10000000)=true:=Ag (by omega);simp only[Et hk,Ak,Ch _ _ 0 hk,Aa,Ag e,i1,i2,c5];rw[Cu (by omega)];have:IntKind.i64.wrap (d.getD w.toNat 0+1)=d.getD w.toNat 0+1:=by
         have:=Cu (n:=(d.getD w.toNat 0).toNat) (by omega);rw[show (((d.getD w.toNat 0).toNat:Nat):Int)=d.getD w.toNat 0 by omega] at this;rw[this];omega
       rw[this];simp
     . rw[if_neg (λ hm=>by rcases (J2 hk w).1 hm with h1 | h1;exact c h1;exact e h1),GL.eq_1];simp only[Et hk,Ak,Ch _ _ 0 hk,Aa,Ah e,Aj];rw[Cu (by omega)]
 . (try dsimp only);rw[At];split
   . rw[GL.eq_1];simp only[E4,Aj]
   . rw[GL.eq_1];simp only[E4,Aj]
theorem Afe{g:List (List Int)}(hg:Eg g){sh:List Bool}(Jp:sh.length=g.length){goal:Nat}{w:Int}{d q:List Int}(h:BF g sh goal w 0 d q)(LA:0<=w):
   ∃d' q',Cv (KB g sh w) (d,0,q)=some (d',((g.length:Nat):Int),q')/\BF g sh goal w g.length d' q'/\q'.length+J1 d'=q.length+J1 d:=by
 have Ra:=hg.1;obtain ⟨e,h1,h2⟩:∃e,Cv (KB g sh w) (d,0,q)=some e/\e.2.1=((g.length:Nat):Int)/\BF g sh goal w g.length e.1 e.2.2/\e.2.2.length+J1 e.1=q.length+J1 d:=by
   refine QT (step:=KB g sh w) (λ s=>∃v:Nat,s.2.1=(v:Int)/\v<=g.length/\BF g sh goal w v s.1 s.2.2/\s.2.2.length+J1 s.1=q.length+J1 d)
     (λ s=>g.length - s.2.1.toNat) (λ e=>e.2.1=((g.length:Nat):Int)/\BF g sh goal w g.length e.1 e.2.2/\e.2.2.length+J1 e.1=q.length+J1 d) (λ s hs=>?_) (d,0,q) ⟨0,rfl,by omega,h,rfl⟩
   obtain ⟨d1,i,q1⟩:=s;obtain ⟨v,h3,h4,h5,h6⟩:=hs;dsimp only at h3 h4 h5 h6;subst h3;rw[KB.eq_1];by_cases hv:v<g.length
   . have Yj:=h5.len;have i1:=Ch g v [] hv;have i2:=Ch d1 v 0 (by omega);have i3:=Ch sh v false (by omega);simp only[Et hv,Ak,i1,i2,Aa];by_cases c1:0<=d1.getD v 0
     . simp only[Ag c1,Ak];rw[Cu (by omega)];exact ⟨_,rfl,⟨v+1,rfl,hv,h5.skip LA (.inl c1),h6⟩,by dsimp only;omega⟩
     . simp only[Ah c1,Aj,i3,Aa];cases c2:sh.getD v false
       . simp only[Aj];rw[Ald hg h5 LA hv (by omega)];simp only[Aa];rw[Cu (by omega)];by_cases c3:w∈g.getD v []
         . rw[if_pos c3];have hn:=Tp (d:=d1) (v:=v) (x:=d1.getD w.toNat 0+1) (by omega) (by omega) (by have:=(h5.cur LA).2.1;omega);exact ⟨_,rfl,⟨v+1,rfl,hv,h5.push LA hv (by omega) c2 c3,by simp only[List.length_append,List.length_singleton];omega⟩,by dsimp only;omega⟩
         . rw[if_neg c3];exact ⟨_,rfl,⟨v+1,rfl,hv,h5.skip LA (.inr (.inr c3)),h6⟩,by dsimp only;omega⟩
       . simp only[Ak];rw[Cu (by omega)];exact ⟨_,rfl,⟨v+1,rfl,hv,h5.skip LA (.inr (.inl c2)),h6⟩,by dsimp only;omega⟩
   . have e1:v=g.length:=by omega
     subst e1;simp only[E4,Aj];exact ⟨_,rfl,rfl,h5,h6⟩
 obtain ⟨d',i,q'⟩:=e;obtain ⟨h3,h4,h5⟩:=h2;dsimp only at h3 h4 h5;subst h3;exact ⟨d',q',h1,h4,h5⟩
theorem BF.fin{g:List (List Int)}{sh:List Bool}{goal:Nat}{d q:List Int}{w:Int}(h:BF g sh goal w g.length d q):BF g sh goal (-1) 0 d q:=
 ⟨h.len,h.lo,h.zero,h.prev,h.shut,h.qin,h.sorted,h.top,λ y hy Ye hy3 hy4 u hu _ hs hm=>h.done y hy Ye hy3 hy4 u hu (λ _=>hu) hs hm,h.bnd,h.Ajk,λ h=>by omega⟩
theorem Alc{g:List (List Int)}(hg:Eg g){sh:List Bool}(Jp:sh.length=g.length){goal:Nat}(EX:goal<g.length)(ho:sh.getD goal false=false):PN g sh (goal:Int)=some (DC g sh goal):=by
 have Ra:=hg.1;have h4:Cv (KA g) (List.replicate g.length 0,((0:Nat):Int))=some (List.replicate g.length (-1),((g.length:Nat):Int)):=by
   have:=C6 (step:=KA g) g.length (λ k=>(List.replicate k (-1)++List.replicate (g.length - k) 0,((k:Nat):Int))) (List.replicate g.length (-1),((g.length:Nat):Int)) (λ k hk=>?_) ?_
   . simpa using this
   . (try dsimp only);rw[KA.eq_1];have i1:=Ch (List.replicate k (-1)++List.replicate (g.length - k) (0:Int)) k 0 (by simp;omega);simp only[Et hk,Ak,i1,Aa];rw[Cu (by omega),show ((k:Nat):Int).toNat=k by omega];have:(List.replicate k (-1)++List.replicate (g.length - k) (0:Int)).set k (-1)=List.replicate (k+1) (-1)++List.replicate (g.length - (k+1)) 0:=by
       rw[List.set_append_right _ _ (by simp),show g.length - k=(g.length - (k+1))+1 by omega,List.replicate_succ];simp[List.replicate_succ']
     rw[this]
   . (try dsimp only);rw[KA.eq_1];simp only[E4,Aj];simp
 obtain ⟨e,h1,h2⟩:∃e,Cv (Mz g sh) ((List.replicate g.length (-1)).set goal 0,[(goal:Int)])=some e/\DS g sh goal e.1:=by
   refine QT (step:=Mz g sh) (λ s=>BF g sh goal (-1) 0 s.1 s.2) (λ s=>s.2.length+J1 s.1) (λ e=>DS g sh goal e.1) (λ s hs=>?_) ((List.replicate g.length (-1)).set goal 0,[(goal:Int)]) (BF.init EX ho);obtain ⟨d,q⟩:=s;dsimp only at hs;rw[Mz.eq_1];cases q with
   | nil=>
     have c0:decide ((0:Int)<((([]:List Int).length:Nat):Int))=false:=rfl;simp only[c0,Aj];exact ⟨_,rfl,hs.end hg (.inl (by omega))⟩
   | cons w q=>
     have c0:decide ((0:Int)<(((w::q).length:Nat):Int))=true:=Ag (by simp only[Ar];omega);have c1:decide ((0:Nat)<=1/\(1:Int)<=(((w::q).length:Nat):Int)/\(((w::q).length:Nat):Int)<=(((w::q).length:Nat):Int))=true:=Ag (by simp only[Ar];omega);have i0:CE (w::q) 0=some w:=rfl;have hp:=hs.pop (.inl (by omega));have hw:=hs.qin w (by simp);obtain ⟨d',q',h5,h6,h7⟩:=Afe hg Jp hp hw.1;simp only[c0,c1,Ak,i0,Aa,List.drop_succ_cons,List.drop_zero];rw[h5];simp only[Aa];exact ⟨_,rfl,h6.fin,by dsimp only;simp only[List.length_cons];omega⟩
 unfold PN;have c1:decide (g.length<10000000)=true:=Ag (by omega);have i1:=Ch (List.replicate g.length (-1:Int)) goal 0 (by simpa using EX);simp only[c1,Ak];rw[show ((List.replicate g.length 0,(0:Int)):List Int×Int)=(List.replicate g.length 0,((0:Nat):Int)) from rfl,h4];simp only[Aa,i1];rw[show ((goal:Nat):Int).toNat=goal by omega,h1];simp only[Aa];rw[DS.uniq hg h2 (ZX hg EX ho)]
theorem Zl{l:List Int}{w:Int}(h0:0<=w)(h1:w<(l.length:Int)):CE l w=some (l.getD w.toNat 0):=by
 have:=Ch l w.toNat 0 (by omega);rw[show ((w.toNat:Nat):Int)=w by omega] at this;exact this
theorem Zv{g:List (List Int)}(hg:Eg g){o:List Int}(ho:o.length=g.length){u:Nat}(hu:u<g.length):
   Cv (Kz o (g.getD u [])) (-1,0)=some (MQ o (g.getD u []),(((g.getD u []).length:Nat):Int)):=by
 have hl:=M3 hg hu;have key:=C6 (step:=Kz o (g.getD u [])) (g.getD u []).length (λ k=>(((g.getD u []).take k).foldl (HB o) (-1),((k:Nat):Int))) (MQ o (g.getD u []),(((g.getD u []).length:Nat):Int)) (λ k hk=>?_) ?_
 . simpa using key
 . (try dsimp only);have hm:(g.getD u []).getD k 0∈g.getD u []:=by
     have e1:(g.getD u []).getD k 0=(g.getD u [])[k]:=getD_eq hk;rw[e1];exact AS hk
   have hr:=Je hg hu hm;rw[Kz.eq_1];have i2:=Zl (l:=o) hr.1 (by omega);simp only[Et hk,Ak,Ch _ _ 0 hk,Aa,i2];rw[CB _ k 0 hk,List.foldl_append,Bo,List.foldl_nil];have hb:=Nw o ((g.getD u []).take k) (-1);generalize ((g.getD u []).take k).foldl (HB o) (-1)=b at hb;generalize hx:(g.getD u []).getD k 0=x at*;unfold HB;by_cases c1:0<=o.getD x.toNat 0
   . simp only[Ag c1,Ak];by_cases c2:b<0
     . simp only[Ag c2,Ak];rw[Cu (by omega),if_pos ⟨c1,.inl c2⟩]
     . have Yk:b∈g.getD u []:=by
         rcases hb with h | h
         . omega
         . exact BN h.1
       have hbr:=Je hg hu Yk;have i3:=Zl (l:=o) hbr.1 (by omega);simp only[Ah c2,Aj,i3,Aa];by_cases c3:o.getD x.toNat 0<o.getD b.toNat 0
       . simp only[Ag c3,Ak];rw[Cu (by omega),if_pos ⟨c1,.inr c3⟩]
       . simp only[Ah c3,Aj];rw[Cu (by omega),if_neg (by rintro ⟨_,h | h⟩;exact c2 h;exact c3 h)]
   . simp only[Ah c1,Aj];rw[Cu (by omega),if_neg (λ h=>c1 h.1)]
 . (try dsimp only);rw[Kz.eq_1,At];simp only[E4,Aj];rfl
theorem DS.KS{g:List (List Int)}(hg:Eg g){sh:List Bool}{goal:Nat}{o:List Int}(ho:DS g sh goal o){v:Nat}(hv:v<g.length)(h1:1<=o.getD v 0):
   0<=PD o (g.getD v []) (o.getD v 0 - 1)/\PD o (g.getD v []) (o.getD v 0 - 1)<(g.length:Int)/\o.getD (PD o (g.getD v []) (o.getD v 0 - 1)).toNat 0=o.getD v 0 - 1:=by
 obtain ⟨h2,h3⟩:=Aku (ho.prev v hv h1);have:=Je hg hv h2;exact ⟨this.1,this.2.1,h3⟩
theorem Zw{g:List (List Int)}(hg:Eg g){sh:List Bool}{goal:Nat}{o:List Int}(ho:DS g sh goal o)(EX:goal<g.length):∀(f b:Nat) (W:List Int),b<g.length->o.getD b 0=((f+1:Nat):Int)->W.length+f+1<=1000->
   Cv (Mx g (goal:Int) o) (W++[(b:Int)],(b:Int))=some (W++Yq g o (f+1) (b:Int))
 | f,b,W,hb,hd,hW=>by
   have Ayc:=DS.Ao8 hg ho hb (by omega);obtain ⟨h1,h2,h3⟩:=ho.KS hg hb (by omega);have hz:=ho.zero (PD o (g.getD b []) (o.getD b 0 - 1)).toNat (by omega);rw[CV,Mx.eq_1];simp only[Ch _ _ [] hb,Aa];rw[Zv hg ho.len hb];simp only[Aa];rw[Ayc];have Bb5:Yq g o (f+1) (b:Int)=(b:Int)::Yq g o f (PD o (g.getD b []) (o.getD b 0 - 1)):=by
     rw[Yq,show ((b:Nat):Int).toNat=b by omega]
   rw[Bb5];generalize PD o (g.getD b []) (o.getD b 0 - 1)=x at*;have c1:decide (x<0)=false:=Ah (by omega);simp only[c1,Aj];cases f with
   | zero=>
     have c2:decide (x=(goal:Int))=true:=Ag (by have:=hz.1 (by omega);omega);simp only[c2,Ak,Aa,B2];rfl
   | succ f=>
     have c2:decide (x=(goal:Int))=false:=Ah (λ e=>by have:=hz.2 (by omega);omega);have c3:decide ((W++[(b:Int)]).length+1<10000000)=true:=Ag (by simp only[Au,List.length_singleton];omega);simp only[c2,c3,Aj,Ak,Aa,B4];have ih:=Zw hg ho EX f x.toNat (W++[(b:Int)]) (by omega) (by rw[h3];omega) (by simp only[Au,List.length_singleton];omega);rw[show ((x.toNat:Nat):Int)=x by omega] at ih;rw[ih];simp
theorem Alb{g:List (List Int)}(hg:Eg g){sh:List Bool}(Jp:sh.length=g.length){v:Nat}(hv:v<g.length):PM g sh (v:Int)=some (Kh g sh v):=by
 unfold PM Kh;have i1:=Ch sh v false (by omega);simp only[i1,Aa];cases hs:sh.getD v false
 . simp only[Aj];rw[Alc hg Jp hv hs];have ho:=ZX hg hv hs;have Aqp:=λ {u:Nat} (hu:u<g.length)=>No hg sh hv hu;generalize DC g sh v=o at ho Aqp;simp only[Aa];rw[CV,Mx.eq_1];simp only[Ch _ _ [] hv,Aa];rw[Zv hg ho.len hv];simp only[Aa];rw[if_neg (by simp)];have hb:=Nw o (g.getD v []) (-1)
   change MQ o (g.getD v [])=-1∨(MQ o (g.getD v [])∈g.getD v []/\0<=o.getD (MQ o (g.getD v [])).toNat 0) at hb
   generalize MQ o (g.getD v [])=b at*;by_cases c1:b<0
   . simp only[Ag c1,Ak,Aa,B2];rw[if_pos c1]
   . have Yk:b∈g.getD v []/\0<=o.getD b.toNat 0:=by
       rcases hb with h | h
       . omega
       . exact h
     have hr:=Je hg hv Yk.1;have hz:=ho.zero b.toNat (by omega);have c2:decide (b=(v:Int))=false:=Ah hr.2.2;have c3:decide ([(v:Int)].length+1<10000000)=true:=rfl;have Dl:o.getD b.toNat 0≠0:=λ e=>by have:=hz.1 e;omega
     have hle:=Aqp (u:=b.toNat) (by omega);simp only[Ah c1,c2,c3,Aj,Ak,Aa,B4];rw[if_neg c1];have:=Zw hg ho hv (o.getD b.toNat 0 - 1).toNat b.toNat [(v:Int)] (by omega) (by omega) (by simp only[List.length_singleton];omega);rw[show ((b.toNat:Nat):Int)=b by omega,show (o.getD b.toNat 0 - 1).toNat+1=(o.getD b.toNat 0).toNat by omega] at this;rw[this];rfl
 . simp only[Ak,AM]
theorem Adj{g:List (List Int)}(hg:Eg g)(sh:List Bool){v:Nat}(hv:v<g.length):(Kh g sh v).length<=25:=by
 unfold Kh;split
 . simp
 . (try dsimp only);split
   . simp
   . rename_i h1 h2;have hb:=Nw (DC g sh v) (g.getD v []) (-1)
     change MQ (DC g sh v) (g.getD v [])=-1∨(MQ (DC g sh v) (g.getD v [])∈g.getD v []/\_) at hb
     rw[Ar,Yp];rcases hb with h | h
     . omega
     . have hr:=Je hg hv h.1;have:=No hg sh hv (v:=(MQ (DC g sh v) (g.getD v [])).toNat) (by omega);omega
theorem LD{g:List (List Int)}(hg:Eg g)(sh:List Bool):∀k,k<=g.length->((((List.range g.length).map (Kh g sh)).take k).foldl Rf []).length<=25
 | 0,_=>by simp
 | k+1,hk=>by
   have h1:=LD hg sh k (by omega);rw[CB _ k [] (by simp;omega),List.foldl_append,Bo,List.foldl_nil];unfold Rf;split
   . rw[getD_map' (Kh g sh) _ k 0 [] (by simp;omega)];have:=Adj hg sh (v:=k) (by omega)
     simpa [List.getD,List.getElem?_range (show k<g.length by omega)] using this
   . exact h1
theorem Afc{g:List (List Int)}(hg:Eg g){sh:List Bool}(Jp:sh.length=g.length):My g sh=some ((((J8 g sh).length:Nat):Int),J8 g sh,0):=by
 have hl:Cv (I6 g sh) ([],((0:Nat):Int))=some (J8 g sh,((g.length:Nat):Int)):=by
   refine C6 (step:=I6 g sh) g.length (λ k=>((((List.range g.length).map (Kh g sh)).take k).foldl Rf [],((k:Nat):Int))) _ (λ k hk=>?_) ?_
   . (try dsimp only);rw[I6.eq_1];simp only[Et hk,Ak];rw[Alb hg Jp hk];simp only[Aa];have e1:((List.range g.length).map (Kh g sh)).getD k []=Kh g sh k:=by
       rw[getD_map' (Kh g sh) _ k 0 [] (by simpa using hk)];simp[List.getD,List.getElem?_range hk]
     rw[CB _ k [] (by simpa using hk),List.foldl_append,List.foldl_cons,List.foldl_nil,e1];generalize (((List.range g.length).map (Kh g sh)).take k).foldl Rf []=b;generalize Kh g sh k=x;have hw:=Cu (n:=k) (by have:=hg.1;omega);rw[hw];unfold Rf;by_cases c1:0<x.length
     . simp only[Ag (show (0:Int)<((x.length:Nat):Int) by omega),Ak];cases b with
       | nil=>simp only[List.isEmpty_nil,Ak];rw[if_pos ⟨c1,.inl rfl⟩]
       | cons b0 bs=>
         simp only[List.isEmpty_cons,Aj];by_cases c2:x.length<(b0::bs).length
         . simp only[Ag (show ((x.length:Nat):Int)<(((b0::bs).length:Nat):Int) by omega),Ak];rw[if_pos ⟨c1,.inr c2⟩]
         . simp only[Ah (show ¬((x.length:Nat):Int)<(((b0::bs).length:Nat):Int) by omega),Aj];rw[if_neg (by rintro ⟨_,h | h⟩;simp at h;exact c2 h)]
     . simp only[Ah (show ¬(0:Int)<((x.length:Nat):Int) by omega),Aj];rw[if_neg (λ h=>c1 h.1)]
   . (try dsimp only);rw[I6.eq_1];simp only[E4,Aj];rw[AL (by simp)];rfl
 unfold My;rw[Aff hg Jp];simp only[Aa];rw[show (([]:List Int),(0:Int))=([],((0:Nat):Int)) from rfl,hl];rfl
def M7(v10:Int)(UE:List Int):(List (List Int))×Int->Option (((List (List Int))×Int)⊕(((List (List Int))×Int)))
 | (v26,O4)=>cond (decide (O4<((UE.length:Nat):Int))) (Option.bind (CE UE O4) λ p0=>Option.bind (CE v26 p0) λ x39=>cond (decide (x39.length+1<10000000)) (some (Sum.inl ((v26.set (Int.toNat p0) (x39++[v10])),(IntKind.i64.wrap (O4+1))))) none) (some (Sum.inr (v26,O4)))
def M6(a0:List (List Int)):(List (List Int))×Int->Option (((List (List Int))×Int)⊕(((List (List Int))×Int)))
 | (v9,v10)=>cond (decide (v10<((a0.length:Nat):Int))) (Option.bind (CE a0 v10) λ UE=>Option.bind (Cv (M7 v10 UE) (v9,0)) (λ (v47,v48)=>some (Sum.inl (v47,(IntKind.i64.wrap (v10+1)))))) (some (Sum.inr (v9,v10)))
def QH(a0:List (List Int)):Option ((List (List Int))×Int):=
 Option.bind (QG a0) λ x1=>cond x1 (cond (decide (a0.length<10000000)) (Option.bind (Cv (M6 a0) ((List.replicate a0.length []),0)) (λ (v50,v51)=>some (v50,0))) none) (some ([],20))
end Go.Am
end
