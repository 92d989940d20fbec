/- Texts of this proof, what it rests on, merged: part I. -/
import Derived.Lib.MapLaws
import Derived.Test.YtjbklifaekjilaaGreatDoorCqH
noncomputable section
namespace Go.Am
open Go Go.Proofs Go.RowKit
open Tryz
set_option maxRecDepth 100000
set_option linter.unusedVariables false
set_option linter.unusedSimpArgs false
set_option maxHeartbeats 2000000
theorem Aai{P:Program}{f:FuncId}{args:List D}{b:Bool}{vs:Array Value}{w:World}(He:Enters P f)(hc:BV P f args [] λ h r=>h=[]/\r= .p (.bool b))(hd:∀F M,IB F w M (sg []) args vs.toList):
   Calls P f vs w λ e w'=>e= .returned (.bool b)/\Below w.heap.size w w':=by
 have Yx:=hc vs w (λ _=>False) (λ _=>⟨0,0,[]⟩) ⟨λ id o h=>by simp[get] at h,λ id o N1 o' b h=>by simp[get] at h⟩ (λ _ h=>h.elim) (λ id h=>(h rfl).elim) (hd _ _);have K1:=Yx.resolve_right (λ ⟨v,w',h1,_⟩=>by rw[He] at h1;cases h1);refine K1.2.mono ?_;rintro e w' ⟨v,h',r,F',M',rfl,⟨rfl,rfl⟩,_,hd,hk⟩;obtain rfl:v= .bool b:=by cases hd with | p hd=>cases hd;rfl
 exact ⟨rfl,hk.os,hk.tape,hk.output,hk.size,λ k h=>hk.Lz k h (by rintro ⟨id,o,h1,_⟩;simp[get] at h1)⟩
theorem repeatL_one(c:UInt8)(n:Nat):Lib.repeatL [c] n=List.replicate n c:=by
 induction n with
 | zero=>rfl
 | succ n ih=>simp[Lib.repeatL,ih,List.replicate_succ]
theorem UP(c:UInt8)(n:Nat)(hn:n<=100000000):BV prog 96 [.p (.str [c]),.p (.int .i64 (n:Nat))] [] λ h r=>h=[]/\r= .p (.str (List.replicate n c)):=by
 refine Lc Akg λ vs w F M _ _ hd=>?_;obtain ⟨a,b,rfl,ha,hb⟩:=W3 hd;rw[Aa0 ha,Atf hb];refine (Tryz.strings_Repeat ⟨#[c]⟩ n w (by omega) (by show 1*n<=_;omega)).mono ?_;rintro e w' ⟨rfl,hb⟩;have e1:=repeatL_one c n;refine ⟨_,rfl,?_,hb⟩;have:=PR.str (F:=λ _=>False) (w:=w') (List.replicate n c);rw[<-e1] at this;exact e1 ▸ this
def Agw(c:Int):Bool:=if 126<c then true else !Hq (IntKind.u8.wrap c)
theorem Apy(c:Int):BV prog 131 [.p (.int .i32 c)] [] λ h r=>h=[]/\r= .p (.bool (Agw c)):=by
 refine BX func131 rfl QD (by simp[Tryz.f131]) ?_;by_cases h1:126<c
 . simp only[go_sem,h1];simp[Agw,h1]
 . simp only[go_sem,h1];refine Cq (Jz _) ?_;simp only[go_sem];simp[Agw,h1]
def Aab(x:Nat):Bool:=Agw (x:Int)
theorem Agx(b:UInt8)(h:b.toNat<128):Aab b.toNat=!Hq b.toNat:=by
 unfold Aab Agw;have hw:IntKind.u8.wrap (b.toNat:Int)=(b.toNat:Int):=by rw[IntKind.wrap_u8];omega
 rw[hw];split
 . have:¬((b.toNat:Int)<=126):=by omega
   simp[Hq,this]
 . rfl
theorem Amu(x:Nat)(h:128<=x):Aab x=true:=by
 unfold Aab Agw;rw[if_pos (by omega)]
theorem Ak6(l:List UInt8)(i:Nat):(⟨l.toArray⟩:ByteArray).get! i=l.getD i 0:=by
 show l.toArray[i]! =l.getD i 0
 simp[List.getD];rfl
theorem Va(l:List UInt8):∀(f pos:Nat),l.length<=pos+f->(Lib.idxFuncFrom Aab true ⟨l.toArray⟩ f pos<0↔(l.drop pos).all (λ b=>Hq b.toNat)=true)
 | 0,pos,h=>by
   rw[BC (by omega)];simp[Lib.idxFuncFrom]
 | f+1,pos,h=>by
   have Ew:(⟨l.toArray⟩:ByteArray).size=l.length:=by simp[ByteArray.size]
   unfold Lib.idxFuncFrom;rw[Ew];by_cases hp:pos<l.length
   . rw[if_pos hp,D1 l pos 0 hp];have hd:=Lib.decode_at ⟨l.toArray⟩ pos;rw[Ak6] at hd;generalize hb:l.getD pos 0=b at*;simp only[List.all_cons];by_cases h8:b.toNat<128
     . have I8:Utf8.decode ⟨l.toArray⟩ pos=(b.toNat,1):=by
         rw[hd];unfold Lib.decodeN;rw[if_pos h8]
       rw[I8];simp only[Agx b h8];cases ha:Hq b.toNat
       . simp
       . have:=Va l f (pos+1) (by omega)
         simpa using this
     . have I8:128<=(Utf8.decode ⟨l.toArray⟩ pos).1:=by
         rw[hd];rcases Lib.decodeN_shape ((⟨l.toArray⟩:ByteArray).size - pos) b.toNat ((⟨l.toArray⟩:ByteArray).get! (pos+1)).toNat ((⟨l.toArray⟩:ByteArray).get! (pos+2)).toNat ((⟨l.toArray⟩:ByteArray).get! (pos+3)).toNat with h1 | h1 | h1 | h1 | h1
         . omega
         . rw[h1.2.2.2.2];exact h1.2.2.2.1
         . rw[h1.2.2.2.2.2.2];have:=h1.2.2.2.2.1;simp only;omega
         . rw[h1.2.2.2.2.2.2.2];have:=h1.2.2.2.2.2.1;simp only;omega
         . rw[h1];decide
       rw[Amu _ I8,if_pos rfl];have ha:Hq b.toNat=false:=by
         have:¬((b.toNat:Int)<=126):=by omega
         simp[Hq,this]
       rw[ha];simp
   . rw[if_neg hp,BC (by omega)];simp
def Abb(l:List UInt8):Int:=Lib.idxFunc Aab true ⟨l.toArray⟩
theorem Ajh(l:List UInt8):Abb l<0↔l.all (λ b=>Hq b.toNat)=true:=by
 have:=Va l l.length 0 (by omega);have Ew:(⟨l.toArray⟩:ByteArray).size=l.length:=by simp[ByteArray.size]
 unfold Abb Lib.idxFunc;rw[Ew]
 simpa using this
theorem Adt(l:List UInt8):BV prog 130 [.p (.str l),.fn 131 []] [] λ h r=>h=[]/\r= .p (.int .i64 (Abb l)):=by
 refine Lc Afb λ vs w F M _ _ hd=>?_;obtain ⟨a,b,rfl,ha,hb⟩:=W3 hd;rw[Aa0 ha];obtain rfl:b= .func (.func 131) #[] #[]:=by
   cases hb with
   | fn f cap vs hl h=>
     obtain rfl:vs=#[]:=Array.eq_empty_of_size_eq_zero (by simpa using hl);rfl
 refine (Tryz.strings_IndexFunc_grows 131 #[] QD Aab ⟨l.toArray⟩ w λ W x hx hb=>?_).mono ?_
 . refine Aai (args:=[.p (.int .i32 (x:Int))]) QD (Apy (x:Int)) λ F M=>⟨rfl,λ i d hd=>?_⟩;cases i with
   | zero=>simp only[AK,Al] at hd;subst hd;exact .p (.int _ _)
   | succ i=>simp at hd
 . rintro e w' ⟨rfl,hb⟩;exact ⟨_,rfl,.int _ _,hb⟩
theorem Ad0(s:List UInt8):BV prog 94 [.p (.str s)] [] λ h r=>h=[]/\r= .p (.bool (GM s)):=by
 refine BX func94 rfl Akh (by simp[Tryz.f94]) ?_;by_cases h1:s=[]
 . subst h1;simp only[go_sem];simp[GM]
 . by_cases h2:(s.length:Int)<=12
   . simp only[go_sem,h1,h2];refine Cq (Adt s) ?_;simp only[go_sem];have GZ:s.length<=12:=by omega
     have:=Ajh s;simp only[GM,h1,GZ,ne_eq,not_false_eq_true,decide_true,Bz];by_cases h3:Abb s<0
     . simp[h3,this.1 h3]
     . have h4:(s.all λ b=>Hq b.toNat)=false:=by
         cases h5:s.all λ b=>Hq b.toNat
         . rfl
         . exact (h3 (this.2 h5)).elim
       simp[h3,h4]
   . have GZ:¬s.length<=12:=by omega
     simp only[go_sem,h1,h2];simp[GM,GZ]
end Go.Am
end
noncomputable section
namespace Go.Am
open Go Go.Proofs
open Tryz
set_option maxRecDepth 100000
set_option linter.unusedVariables false
set_option linter.unusedSimpArgs false
set_option maxHeartbeats 2000000
def Aqw(r:List UInt8×Int):D:= .De [.p (.str r.1),.p (.int .i64 r.2)]
theorem R3(a b:D):List.take 2 [a,b]=[a,b]:=rfl
def Q5(l:List Ln)(i:Nat)(at_:Nat)(txt:List UInt8):St:=
 ⟨[(10,.ptr 10 0),(11,.p (.int .i64 (at_:Nat))),(57,.p (.sl (Gb l))),(58,.p (.int .i64 (l.length:Nat))),(59,.p (.int .i64 (i:Nat)))],
   match i with
   | 0=>[(10,.box [.np,.cl []] 142)]
   | _+1=>[(10,.box [.ptr 10 0,.ref 10073 0 txt.length txt.length] 142),(10073,.arr 5 1 (DX txt))],79⟩
theorem Ajc(l:List Ln)(hl:l.length<=4000000/\∀x∈l,x.fs.length<=4000000/\x.num<=9223372036854775807):BV prog 52 [.p (.sl (Gb l))] [] λ h r=>h=[]/\r=Aqw (OZ l):=by
 obtain ⟨hl,hz⟩:=hl;refine BX func52 rfl Al6 (by simp[Tryz.f52]) ?_;simp only[go_sem,Dx];refine B3 (λ q:Nat×Int×Nat=>⟨[(0,.p (.sl (Gb l))),(4,.p (.int .i64 q.2.1)),(5,.p (.int .i64 (q.2.2:Nat))),(14,.p (.sl (Gb l))),(15,.p (.int .i64 (l.length:Nat))),(16,.p (.int .i64 (q.1:Nat)))],[],79⟩)
   (λ q=>q.1<=l.length/\0<=q.2.1/\q.2.2<=60000000*q.1/\Ff q.2.1 (l.drop q.1)=Ff 0 l/\G7 q.2.1 (l.drop q.1)=G7 0 l/\(Ff 0 l=true->q.2.2+Xr (l.drop q.1)=Xr l)) (λ q=>l.length - q.1) (0,0,0)
   ⟨AG _,by simp,by simp,by simp,by simp,by simp⟩ (Wk.forget (by simp[ZF])) ?_
 rintro ⟨i,last,sz⟩ n ⟨hi,Aju,Ew,hf,hla,Ae6⟩ ih;simp only at hi Aju Ew hf hla Ae6;simp only[go_sem];refine Cv (λ h1=>?_) (λ h1=>?_)
 . have Cj:i<l.length:=by simp at h1;omega
   have DH:(0:Int)<=(i:Int)/\(i:Int)<(l.length:Int):=by omega
   have hw:=Cf i (by omega);have hg:=Ts l i Cj;have hzx:=hz _ (CJ l i ln0 Cj);rw[D1 l i ln0 Cj] at hf hla Ae6;generalize l.getD i ln0=x at*;obtain ⟨num,fs⟩:=x;simp only at hg hzx;simp only[go_sem,Dx,Ab,hg,DH,R3,B1];have bad:Ff last (⟨num,fs⟩::l.drop (i+1))=false->OZ l=([],20):=by
     intro h;rw[hf] at h;simp[OZ,h]
   cases c1:decide (num<=last);rotate_left
   . simp only[go_sem,c1];rw[bad (by have:=Ad c1;simp[Ff];omega)];refine BU ?_;simp only[go_sem];rfl
   have O8:=Ae c1;cases c2:decide ((fs.length:Int)=0);rotate_left
   . simp only[go_sem,c1,c2,B1];rw[bad (by have:=Ad c2;have:fs=[]:=AZ (by omega);simp[Ff,this])];refine BU ?_;simp only[go_sem];rfl
   have Ov:=Ae c2;have Aw9:fs≠[]:=by rintro rfl;simp at Ov
   simp only[go_sem,c1,c2,B1];refine B3 (λ q:Nat×Nat=>⟨[(0,.p (.sl (Gb l))),(4,.p (.int .i64 num)),(5,.p (.int .i64 (q.2:Nat))),(14,.p (.sl (Gb l))),(15,.p (.int .i64 (l.length:Nat))),(16,.p (.int .i64 (i:Nat))),(33,.p (.sl (CD fs))),(34,.p (.int .i64 (fs.length:Nat))),(35,.p (.int .i64 (q.1:Nat)))],[],79⟩)
     (λ q=>q.1<=fs.length/\q.2<=sz+13*q.1/\q.2+PW (fs.drop q.1)=sz+PW fs/\(fs.drop q.1).all GM=fs.all GM) (λ q=>fs.length - q.1) (0,sz) ⟨AG _,by simp,by simp,by simp⟩ (Wk.forget (by simp[ZF])) ?_
   rintro ⟨j,Ot⟩ n2 ⟨hj,Md,hse,JU⟩ JL;simp only at hj Md hse JU;simp only[go_sem];refine Cv (λ h2=>?_) (λ h2=>?_)
   . have hjt:j<fs.length:=by simp at h2;omega
     have hj0:(0:Int)<=(j:Int)/\(j:Int)<(fs.length:Int):=by omega
     have hwj:=Cf j (by omega);have hgj:=DW fs j hjt;rw[D1 fs j [] hjt] at hse JU;generalize fs.getD j []=s at*;simp only[go_sem,B1,Ab,hgj,hj0];refine Cq (Ad0 s) ?_;cases hp:GM s
     . simp only[go_sem,hp];have:fs.all GM=false:=by rw[<-JU];simp[hp]
       rw[bad (by simp[Ff,this])];refine BU ?_;simp only[go_sem];rfl
     . have hs12:=(IF.1 hp).2.1;simp only[PW] at hse;simp only[List.all_cons,hp,Bz] at JU;have Qk:IntKind.i64.wrap ((s.length:Int)+1)=((s.length+1:Nat):Int):=Cf _ (by omega);have Xv:IntKind.i64.wrap ((Ot:Int)+((s.length+1:Nat):Int))=((Ot+(s.length+1):Nat):Int):=by rw[BY]<;>omega
       simp only[go_sem,hp,Qk,Xv,hwj];refine JL (j+1,Ot+(s.length+1)) _ ⟨hjt,by simp only;omega,by simp only;omega,JU⟩ (by simp only;omega) (Wk.forget (by simp[ZF]))
   . have hjl:j=fs.length:=by simp at h2;omega
     subst hjl;simp only[Bv,PW,List.all_nil,Bh] at hse JU;simp only[go_sem,hw];have hfb:Ff last (⟨num,fs⟩::l.drop (i+1))=Ff num (l.drop (i+1)):=by
       have:last<num:=by omega
       simp[Ff,this,Aw9,<-JU]
     refine ih (i+1,num,Ot) _ ⟨Cj,by simp only;omega,by have:=hzx.1;simp only;omega,by simp only;rw[<-hf,hfb],by simp only;rw[<-hla];rfl,λ h=>?_⟩ (by simp only;omega) (Wk.forget (by simp[ZF]));have:=Ae6 h;simp only[Xr] at this;simp only;omega
 . have s7:i=l.length:=by simp at h1;omega
   subst s7;simp only[Bv,Ff,G7,Xr,Bh] at hf hla Ae6;have Mh:=hf.symm;have Asm:=Ae6 Mh;clear hf Ae6 ih;have hjt:=Ado l Mh;rw[<-hla,<-Asm] at hjt;have Qk:IntKind.i64.wrap ((sz:Int) - (l.length:Int))=(sz:Int) - l.length:=by rw[BY]<;>omega
   have Rz:(if (6001:Int)<last then 6001 else last)=min last 6001:=by split<;>omega
   have Xv:IntKind.i64.wrap (6000 - (if (6001:Int)<last then 6001 else last))=6000 - min last 6001:=by rw[Rz,BY]<;>omega
   simp only[go_sem,Dx,Qk,Xv];by_cases Ap6:(6000:Int) - min last 6001<(sz:Int) - (l.length:Int)
   . simp only[go_sem,Ap6];have:=hjt.2 Ap6;rw[show OZ l=([],1) by simp[OZ,Mh,this]];refine BU ?_;simp only[go_sem];rfl
   . have Aso:¬6000<(Fy 1 l).length:=λ h=>Ap6 (hjt.1 h);have hjv:OZ l=(Fy 1 l,0):=by simp[OZ,Mh,Aso]
     rw[hjv];simp only[go_sem,Ap6,Dx];refine B3 (λ q:Nat×Nat×List UInt8=>Q5 l q.1 q.2.1 q.2.2)
       (λ q=>q.1<=l.length/\(1<=q.2.1/\q.2.1<=q.2.2.length+1)/\Ff ((q.2.1 - 1:Nat):Int) (l.drop q.1)=true/\q.2.2++Fy q.2.1 (l.drop q.1)=Fy 1 l/\(q.1=0->q.2.2=[])/\(q.1≠0->q.2.2≠[])) (λ q=>l.length - q.1) (0,1,[])
       ⟨Nat.zero_le _,by simp,by simpa using Mh,by simp,by simp,by simp⟩ (Wk.forget (by simp[ZF,Q5])) ?_
     rintro ⟨k,at_,txt⟩ n ⟨hk,Ij,hfk,htx,Ho,Qq⟩ ih;simp only at hk Ij hfk htx Ho Qq;by_cases Cj:k<l.length
     . have hki:(k:Int)<(l.length:Int):=by omega
       have Azr:(0:Int)<=(k:Int):=by omega
       have hw:=Cf k (by omega);have hg:=Ts l k Cj;have hzx:=hz _ (CJ l k ln0 Cj);rw[D1 l k ln0 Cj] at hfk htx;generalize l.getD k ln0=x at*;obtain ⟨num,fs⟩:=x;obtain ⟨f1,f2,f3,f4⟩:=I9.1 hfk;simp only at hg hzx f1 f2 f3 f4;obtain ⟨m,rfl⟩:∃m:Nat,num=(m:Int):=⟨num.toNat,by omega⟩;simp only[Fy,Ab] at htx;have hlen:=AQ List.length htx;simp only[At,List.length_replicate,Aq] at hlen;have hwl:=Nz fs f2;have hle:at_<=m:=by clear Qk Xv hjt;omega
       have hws:IntKind.i64.wrap ((m:Int) - (at_:Int))=((m - at_:Nat):Int):=by
         have:=hzx.2;clear Qk Xv hjt Rz;rw[BY]<;>omega
       have hm6:m<=10000:=by clear Qk Xv hjt Rz;omega
       have hwm:IntKind.i64.wrap ((m:Int)+1)=((m+1:Nat):Int):=by rw[BY]<;>omega
       have RR:((m+1 - 1:Nat):Int)=(m:Int):=by omega
       have II:List.replicate (m - at_) (10:UInt8)++Fp fs++[10]=List.replicate (m - at_) 10++(Fp fs++[10]):=by simp
       generalize hs:List.replicate (m - at_) (10:UInt8)++Fp fs++[10]=s at*;have Avj:s≠[]:=by rw[<-hs];simp
       have r7:s.length<=6000:=by rw[<-hs];simp;omega
       have Avk:m+1<=(txt++s).length+1:=by rw[<-hs];simp;omega
       have Ajs:(txt++s)++Fy (m+1) (l.drop (k+1))=Fy 1 l:=by rw[<-htx,<-hs];simp
       cases k with
       | zero=>
         have Asl:=Ho rfl;subst Asl;simp only[Q5];have hkz:(0:Int)<(l.length:Int):=by omega
         have Azq:(0:Int)<=(0:Int):=by omega
         simp only[go_sem,Dx,Ab,hkz,Azq,hg,R3,Int.reduceToNat];refine CE mixed (p:=[(0,0),(1,0),(2,0),(3,0),(5,0),(6,0),(4,2),(7,2),(8,0),(9,0),(10,3)]) (by kernel_rfl) (by simp[C5,get]) ?_;simp only[go_sem,hws];refine Gq ((UP 10 (m - at_) (by omega))) ?_;simp only[go_sem];refine Gq ((Yl fs f2 (by omega) (by omega))) ?_;simp only[go_sem,hs];refine ⟨by unfold maxLen;first | omega | (simp;omega),by unfold maxLen;first | omega | (simp;omega),?_⟩;refine Gq ((Xh s Avj (by omega))) ?_;have Avg:IntKind.i64.wrap 1=1:=rfl;simp only[go_sem,hwm,hw,Avg];refine ih (0+1,m+1,s) _ ⟨Cj,⟨by simp only;omega,by simpa using Avk⟩,by first | (simp only[RR];exact f4) | (rw[RR];exact f4),by simpa using Ajs,by simp,λ _=>Avj⟩ (by first | omega | (simp only;omega)) (Wk.forget (by simp[ZF,Q5,Avg]))
       | succ k=>
         have Az9:=Qq (by omega);simp only[Q5];simp only[go_sem,Dx,Ab,hki,Azr,hg,R3];refine CE mixed (p:=[(0,0),(1,0),(2,0),(3,0),(5,0),(6,0),(4,2),(7,2),(8,0),(9,0),(10,3)]) (by kernel_rfl) (by simp[C5,get]) ?_;simp only[go_sem,hws];refine Gq ((UP 10 (m - at_) (by omega))) ?_;simp only[go_sem];refine Gq ((Yl fs f2 (by omega) (by omega))) ?_;simp only[go_sem,hs];refine ⟨by unfold maxLen;first | omega | (simp;omega),by unfold maxLen;first | omega | (simp;omega),?_⟩;refine Gq ((Zo txt s (by have:=AQ List.length Ajs;simp at this;omega))) ?_;simp only[go_sem,hwm,hw];refine ih (k+1+1,m+1,txt++s) _ ⟨Cj,⟨by simp only;omega,Avk⟩,by simp only[RR];exact f4,Ajs,by simp,λ _=>by simp[Az9]⟩ (by simp only;omega) (Wk.forget (by simp[ZF,Q5]))
     . have S3:k=l.length:=by omega
       have hki:¬(k:Int)<(l.length:Int):=by omega
       rw[BC (by omega)] at htx;simp only[Fy,List.append_nil] at htx;rw[<-htx];cases k with
       | zero=>
         have Asl:=Ho rfl;subst Asl;simp only[Q5];have hkz:¬(0:Int)<(l.length:Int):=by omega
         simp only[go_sem,hkz];refine Cq ((Zr (T:=142) (by decide))) ?_;simp only[go_sem];refine BU ?_;simp only[go_sem];rfl
       | succ k=>
         simp only[Q5];simp only[go_sem,hki];refine Cq ((Aa8 (Qq (by omega)))) ?_;simp only[go_sem];refine BU ?_;simp only[go_sem];rfl
def Hu{σ ε:Type}(f:σ->Option ε):σ⊕ε->Option ε
 | .inl s=>f s
 | .inr e=>some e
theorem B0{σ ε:Type}(f:σ->Option ε)(s:σ):Hu f (.inl s)=f s:=rfl
theorem BZ{σ ε:Type}(f:σ->Option ε)(e:ε):Hu f (.inr e)=some e:=rfl
def GO{σ ε:Type}(step:σ->Option (σ⊕ε)):Nat->σ->Option ε
 | 0,_=>none
 | n+1,s=>(step s).bind (Hu (GO step n))
def Ct{σ ε:Type}(step:σ->Option (σ⊕ε))(s:σ):Option ε:=
 open Classical in if h:∃n e,GO step n s=some e then some (Classical.choose (Classical.choose_spec h)) else none
theorem NZ{σ ε:Type}{step:σ->Option (σ⊕ε)}:∀{n m:Nat} {s:σ} {e:ε},GO step n s=some e->n<=m->GO step m s=some e
 | 0,_,_,_,h,_=>by simp[GO] at h
 | n+1,0,_,_,_,h=>by omega
 | n+1,m+1,s,e,h,hm=>by
   simp only[GO] at h ⊢;cases hs:step s with
   | none=>rw[hs] at h;simp at h
   | some y=>
     rw[hs] at h;cases y with
     | inl s'=>exact NZ (n:=n) (m:=m) (by simpa [Hu] using h) (by omega)
     | inr e'=>simpa [Hu] using h
theorem Kb{σ ε:Type}{step:σ->Option (σ⊕ε)}{s:σ}{e:ε}:Ct step s=some e↔∃n,GO step n s=some e:=by
 constructor
 . intro h;unfold Ct at h;split at h
   . rename_i hh;have h1:=Classical.choose_spec (Classical.choose_spec hh);rw[Ac h] at h1;exact ⟨_,h1⟩
   . cases h
 . rintro ⟨n,hn⟩;unfold Ct;have hh:∃n e,GO step n s=some e:=⟨n,e,hn⟩;rw[dif_pos hh];have h1:=Classical.choose_spec (Classical.choose_spec hh);have a:=NZ h1 (Nat.le_max_left _ n);have b:=NZ hn (Nat.le_max_right (Classical.choose hh) n);rw[a] at b;exact b
theorem CL{σ ε:Type}(step:σ->Option (σ⊕ε))(s:σ):Ct step s=(step s).bind (Hu (Ct step)):=by
 apply Option.ext;intro e;rw[Kb];constructor
 . rintro ⟨n,hn⟩;cases n with
   | zero=>simp[GO] at hn
   | succ n=>
     simp only[GO] at hn;cases hs:step s with
     | none=>rw[hs] at hn;simp at hn
     | some y=>
       rw[hs] at hn;cases y with
       | inl s'=>exact Kb.2 ⟨n,by simpa [Hu] using hn⟩
       | inr e'=>simpa [Hu] using hn
 . intro h;cases hs:step s with
   | none=>rw[hs] at h;simp at h
   | some y=>
     rw[hs] at h;cases y with
     | inl s'=>
       obtain ⟨n,hn⟩:=Kb.1 (show Ct step s'=some e by simpa [Hu] using h);exact ⟨n+1,by simpa [GO,hs,Hu] using hn⟩
     | inr e'=>exact ⟨1,by simpa [GO,hs,Hu] using h⟩
theorem Qe{σ ε:Type}{step:σ->Option (σ⊕ε)}(I:σ->Prop)(μ:σ->Nat)(Q:ε->Prop)
   (h:∀s,I s->∃y,step s=some y/\match y with | .inl s'=>I s'/\μ s'<μ s | .inr e=>Q e) (s:σ) (h0:I s):∃e,Ct step s=some e/\Q e:=by
 have key:∀n s,I s->μ s<n->∃e,Ct step s=some e/\Q e:=by
   intro n
   induction n with
   | zero=>intro s _ h;omega
   | succ n ih=>
     intro s hs hm;obtain ⟨y,h1,h2⟩:=h s hs;rw[CL,h1];cases y with
     | inl s'=>exact ih s' h2.1 (by have:=h2.2;omega)
     | inr e=>exact ⟨e,rfl,h2⟩
 exact key _ s h0 (Nat.lt_succ_self _)
theorem Kd{σ ε:Type}{step:σ->Option (σ⊕ε)}(n:Nat)(S:Nat->σ)(out:ε)(early:Nat->Option ε)
   (h1:∀i,i<n->(∀j,j<i->early j=none)->step (S i)=some (match early i with | some e=> .inr e | none=> .inl (S (i+1)))) (h2:(∀j,j<n->early j=none)->step (S n)=some (.inr out)):
   Ct step (S 0)=some (((List.range n).findSome? early).getD out):=by
 have key:∀m i,i+m=n->(∀j,j<i->early j=none)->Ct step (S i)=some ((((List.range n).drop i).findSome? early).getD out):=by
   intro m
   induction m with
   | zero=>
     intro i hi hj;obtain rfl:i=n:=by omega
     rw[CL,h2 hj,BC (by simp)];rfl
   | succ m ih=>
     intro i hi hj;rw[CL,h1 i (by omega) hj];have hd:(List.range n).drop i=i::(List.range n).drop (i+1):=by
       rw[AT (by simp;omega)];simp
     rw[hd,List.findSome?_cons];cases he:early i with
     | some e=>simp[Hu]
     | none=>
       simp only[Aa,Hu];exact ih (i+1) (by omega) (λ j hj2=>by
         by_cases e:j=i
         . rw[e];exact he
         . exact hj j (by omega))
 have:=key n 0 (by omega) (λ j hj=>by omega)
 simpa using this
section
variable {P:Program} {st:St} {x:Code} {k:Kt}
theorem CV{σ ε:Type}{step:σ->Option (σ⊕ε)}{s0:σ}{e:ε}(hr:Ct step s0=some e)(S:σ->St)(hw:Wk st (S s0))
   (hs:∀s n,(step s).bind (Hu (GO step n))=some e->(∀s' st',GO step n s'=some e->Wk st' (S s')->L P x k n st')->X P x (.lp x n k) (S s)):X P (.loop x) k st:=by
 obtain ⟨n,hn⟩:=Kb.1 hr;have key:∀n s,GO step n s=some e->L P x k n (S s):=by
   intro n
   induction n with
   | zero=>intro s h;simp[GO] at h
   | succ n ih=>intro s h;exact ⟨S s,Wk.refl _,hs s n h λ s' st' h' hw'=>Ah2 hw' (ih s' h')⟩
 exact Xl _ (Ah2 hw (key n s0 hn))
end
def CB{α:Type}(l:List α)(i:Int):Option α:=if 0<=i then l[i.toNat]? else none
theorem Vc{α:Type}{l:List α}{i:Int}{x:α}(h:CB l i=some x):(0<=i/\i<(l.length:Int))/\l[i.toNat]?=some x:=by
 unfold CB at h;split at h
 . have:=(An.1 h).1;exact ⟨by omega,h⟩
 . cases h
theorem B5{α:Type}{l:List α}{i:Int}{x:α}(h:CB l i=some x):0<=i/\i<(l.length:Int):=(Vc h).1
theorem B6{α:Type}{l:List α}{i:Int}{x:α}(f:α->List Pd)(h:CB l i=some x):(l.map f).getD i.toNat []=f x:=by
 simp[List.getD,(Vc h).2]
theorem G9{α:Type}(l:List α)(i:Nat):CB l (i:Int)=l[i]?:=by
 unfold CB;rw[if_pos (by omega)];rfl
structure Ah8 where
 cq:Int
 ca:Int
 cd:Int
 cp:Int
theorem Pu:BT []=[]:=rfl
theorem Pq:CD []=[]:=rfl
theorem Po:CW []=[]:=rfl
theorem Pv:Cw []=[]:=rfl
theorem Pw:EK []=[]:=rfl
theorem Ps:Gb []=[]:=rfl
theorem Pt:C0 []=[]:=rfl
theorem Pr:CY []=[]:=rfl
theorem Ks(l:List Bool):(CW l).length=l.length:=by simp[CW]
theorem Kx(l:List (List Int)):(Cw l).length=l.length:=by simp[Cw]
theorem Kv(l:List EH):(C0 l).length=l.length:=by simp[C0]
theorem EW(l:List CX):(CY l).length=l.length:=by simp[CY]
theorem z7(l:List Int)(x:Int):BT l++[[.int .i64 x]]=BT (l++[x]):=by simp[BT]
theorem z8(l:List Dc)(a b:Int)(c:List (List UInt8))(d:List Int):EK l++[[.int .i64 a,.int .i64 b,.sl (CD c),.sl (BT d)]]=EK (l++[⟨a,b,c,d⟩]):=by simp[EK]
theorem To(l:List Bool)(x:Bool):CW (l++[x])=CW l++[[.bool x]]:=by simp[CW]
theorem Tv(l:List (List Int))(x:List Int):Cw (l++[x])=Cw l++[[.sl (BT x)]]:=by simp[Cw]
theorem Tt(l:List EH)(x:EH):C0 (l++[x])=C0 l++[[.str x.name,.int .i64 x.x,.int .i64 x.y]]:=by simp[C0]
theorem Tr(l:List CX)(x:CX):CY (l++[x])=CY l++[[.str x.name,.bool x.Cy,.int .i64 x.Ip,.int .i64 x.out,.int .i64 x.Ch,.int .i64 x.base]]:=by simp[CY]
theorem Ag7(l:List Int)(i:Nat)(x:Int):(BT l).set i [.int .i64 x]=BT (l.set i x):=by simp[BT,BR]
theorem Ag5(l:List CX)(i:Nat)(a:List UInt8)(b:Bool)(c d e f:Int):(CY l).set i [.str a,.bool b,.int .i64 c,.int .i64 d,.int .i64 e,.int .i64 f]=CY (l.set i ⟨a,b,c,d,e,f⟩):=by simp[CY,BR]
theorem K3(l:List Int):(BT l).take l.length=BT l:=by simp[BT,<-List.map_take]
theorem N9(l:List (List UInt8)):(CD l).take l.length=CD l:=by simp[CD,<-List.map_take]
theorem N8(l:List Bool):(CW l).take l.length=CW l:=by simp[CW,<-List.map_take]
theorem Oe(l:List (List Int)):(Cw l).take l.length=Cw l:=by simp[Cw,<-List.map_take]
theorem Of(l:List Dc):(EK l).take l.length=EK l:=by simp[EK,<-List.map_take]
theorem Ob(l:List Ln):(Gb l).take l.length=Gb l:=by simp[Gb,<-List.map_take]
theorem Oc(l:List EH):(C0 l).take l.length=C0 l:=by simp[C0,<-List.map_take]
theorem Oa(l:List CX):(CY l).take l.length=CY l:=by simp[CY,<-List.map_take]
theorem Apk(l:List Int)(a b:Nat):((BT l).take b).drop a=BT ((l.take b).drop a):=by simp[BT]
theorem Aly(n:Nat):List.replicate n [Pd.int .i64 0]=BT (List.replicate n 0):=by simp[BT]
theorem Ag2(n:Nat):List.replicate n [Pd.bool false]=CW (List.replicate n false):=by simp[CW]
theorem H7(l:List Int):Ly 1 (BT l):=by simp[Ly,BT]
theorem Am0(l:List Dc):Ly 4 (EK l):=by simp[Ly,EK]
theorem Vx(l:List Bool)(i:Nat)(x:Bool):CW (l.set i x)=(CW l).set i [.bool x]:=by simp[CW,BR]
theorem VE(l:List (List Int))(i:Nat)(x:List Int):Cw (l.set i x)=(Cw l).set i [.sl (BT x)]:=by simp[Cw,BR]
theorem VF(l:List Dc)(i:Nat)(x:Dc):EK (l.set i x)=(EK l).set i [.int .i64 x.word,.int .i64 x.line,.sl (CD x.names),.sl (BT x.B2)]:=by simp[EK,BR]
theorem VC(l:List EH)(i:Nat)(x:EH):C0 (l.set i x)=(C0 l).set i [.str x.name,.int .i64 x.x,.int .i64 x.y]:=by simp[C0,BR]
theorem QE(l:List CX)(i:Nat)(x:CX):CY (l.set i x)=(CY l).set i [.str x.name,.bool x.Cy,.int .i64 x.Ip,.int .i64 x.out,.int .i64 x.Ch,.int .i64 x.base]:=by simp[CY,BR]
theorem YZ(x:Int):BT [x]=[[.int .i64 x]]:=rfl
theorem YW(x:List UInt8):CD [x]=[[.str x]]:=rfl
theorem YV(x:Bool):CW [x]=[[.bool x]]:=rfl
theorem Tu(x:Int)(l:List Int):BT (x::l)=[.int .i64 x]::BT l:=rfl
theorem Tq(x:List UInt8)(l:List (List UInt8)):CD (x::l)=[.str x]::CD l:=rfl
theorem Tp(x:Bool)(l:List Bool):CW (x::l)=[.bool x]::CW l:=rfl
theorem Tw(x:List Int)(l:List (List Int)):Cw (x::l)=[.sl (BT x)]::Cw l:=rfl
attribute [go_sem] BS B1 Ks Kx Fh Dx Kv EW
attribute [go_sem] List.length_set z7 z8
attribute [go_sem] Ag7 Ag5
attribute [go_sem] K3 N9 N8 Oe Of Ob Oc Oa Aly Ag2 Int.toNat_natCast
attribute [go_sem] KK.fit DE DQ l9 SE Wq Pd.flat SG Aiy Aj1 l0 l6 Wr Ab4 Ab5
attribute [go_sem] Apk
theorem bE{α β:Type}{a:Option α}{f:α->Option β}{r:β}(h:a.bind f=some r):∃x,a=some x/\f x=some r:=by
 cases a with
 | none=>cases h
 | some x=>exact ⟨x,rfl,h⟩
theorem bK{α β γ:Type}{a:Option α}{f:α->Option β}{k:β->Option γ}{r:γ}(h:(a.bind f).bind k=some r):∃x,a=some x/\(f x).bind k=some r:=by
 cases a with
 | none=>cases h
 | some x=>exact ⟨x,rfl,h⟩
theorem gE{α:Type}{c:Bool}{x:Option α}{r:α}(h:cond c x none=some r):c=true/\x=some r:=by
 cases c with
 | false=>cases h
 | true=>exact ⟨rfl,h⟩
theorem gK{α γ:Type}{c:Bool}{x:Option α}{k:α->Option γ}{r:γ}(h:(cond c x none).bind k=some r):c=true/\x.bind k=some r:=by
 cases c with
 | false=>cases h
 | true=>exact ⟨rfl,h⟩
theorem ZE:(type_of% @Pu)/\(type_of% @Pq)/\(type_of% @Po)/\(type_of% @Pv)/\(type_of% @Pw)/\(type_of% @Ps)/\(type_of% @Pt)/\(type_of% @Pr)/\(type_of% @Wq)/\(type_of% @Wr)/\(type_of% @Tu)/\(type_of% @Tq)/\(type_of% @Tp)/\(type_of% @Tw)/\(type_of% @YZ)/\(type_of% @YW)/\(type_of% @YV)/\(type_of% @Fo)/\(type_of% @EV)/\(type_of% @To)/\(type_of% @Tv)/\(type_of% @QG)/\(type_of% @MR)/\(type_of% @Tt)/\(type_of% @Tr)/\(type_of% @C9)/\(type_of% @Pp)/\(type_of% @Vx)/\(type_of% @VE)/\(type_of% @VF)/\(type_of% @VC)/\(type_of% @QE)/\(type_of% @BS)/\(type_of% @B1)/\(type_of% @Ks)/\(type_of% @Kx)/\(type_of% @Fh)/\(type_of% @Dx)/\(type_of% @Kv)/\(type_of% @EW):=⟨@Pu,@Pq,@Po,@Pv,@Pw,@Ps,@Pt,@Pr,@Wq,@Wr,@Tu,@Tq,@Tp,@Tw,@YZ,@YW,@YV,@Fo,@EV,@To,@Tv,@QG,@MR,@Tt,@Tr,@C9,@Pp,@Vx,@VE,@VF,@VC,@QE,@BS,@B1,@Ks,@Kx,@Fh,@Dx,@Kv,@EW⟩
theorem ZB:(type_of% @K3)/\(type_of% @N9)/\(type_of% @N8)/\(type_of% @Oe)/\(type_of% @Of)/\(type_of% @Ob)/\(type_of% @Oc)/\(type_of% @Oa)/\(type_of% @BS)/\(type_of% @B1)/\(type_of% @Ks)/\(type_of% @Kx)/\(type_of% @Fh)/\(type_of% @Dx)/\(type_of% @Kv)/\(type_of% @EW)/\(type_of% @Pu)/\(type_of% @Pq)/\(type_of% @Po)/\(type_of% @Pv)/\(type_of% @Pw)/\(type_of% @Ps)/\(type_of% @Pt)/\(type_of% @Pr):=⟨@K3,@N9,@N8,@Oe,@Of,@Ob,@Oc,@Oa,@BS,@B1,@Ks,@Kx,@Fh,@Dx,@Kv,@EW,@Pu,@Pq,@Po,@Pv,@Pw,@Ps,@Pt,@Pr⟩
theorem C3{σ ε:Type}{step:σ->Option (σ⊕ε)}(n:Nat)(S:Nat->σ)(out:ε)(h1:∀i,i<n->step (S i)=some (.inl (S (i+1))))(h2:step (S n)=some (.inr out)):Ct step (S 0)=some out:=by
 have:=Kd n S out (λ _=>none) (λ i hi _=>h1 i hi) (λ _=>h2);rw[this];have:(List.range n).findSome? (λ _=>(none:Option ε))=none:=by rw[Bx];simp
 rw[this];rfl
theorem GN{σ ε:Type}{step:σ->Option (σ⊕ε)}(n:Nat)(S:Nat->σ)(out bad:ε)(Qy:Nat->Bool)
   (h1:∀i,i<n->(∀j,j<i->Qy j=true)->step (S i)=some (if Qy i=true then .inl (S (i+1)) else .inr bad)) (h2:(∀j,j<n->Qy j=true)->step (S n)=some (.inr out)):
   Ct step (S 0)=some (if (∀j,j<n->Qy j=true) then out else bad):=by
 have h:=Kd n S out (λ i=>if Qy i=true then none else some bad)
   (λ i hi hj=>by
     rw[h1 i hi (λ j hj2=>by have:=hj j hj2;by_cases g:Qy j=true;exact g;simp[g] at this)];by_cases g:Qy i=true<;>simp[g])
   (λ hj=>h2 (λ j hj2=>by have:=hj j hj2;by_cases g:Qy j=true;exact g;simp[g] at this))
 rw[h];by_cases g:∀j,j<n->Qy j=true
 . rw[if_pos g];have:(List.range n).findSome? (λ i=>if Qy i=true then none else some bad)=none:=by
     rw[Bx];intro x hx;simp[g x (by simpa using hx)]
   rw[this];rfl
 . rw[if_neg g];cases hf:(List.range n).findSome? (λ i=>if Qy i=true then none else some bad) with
   | none=>
     exfalso;rw[Bx] at hf;refine g λ j hj=>?_;have:=hf j (by simpa using hj);by_cases g2:Qy j=true
     . exact g2
     . simp[g2] at this
   | some e=>
     obtain ⟨i,hi,he⟩:=List.exists_of_findSome?_eq_some hf;by_cases g2:Qy i=true
     . simp[g2] at he
     . simp[g2] at he;simp[he]
theorem Cd{α:Type}(l:List α)(i:Nat)(x:α)(h:i<l.length):CB l (i:Int)=some (l.getD i x):=by rw[G9];simp[List.getD,h]
theorem E8{i n:Nat}(h:i<n):decide ((i:Int)<((n:Nat):Int))=true:=Ag (by omega)
theorem FX{n:Nat}:decide ((n:Int)<((n:Nat):Int))=false:=Ah (by omega)
def Kz(a0:List (List Int))(v3:Int)(DD:List Int):Int->Option ((Int)⊕(Int⊕Int))
 | V0=>cond (decide (V0<((DD.length:Nat):Int))) (Option.bind (CB DD V0) λ x23=>cond (decide (x23<0)) (some (Sum.inr (.inr ((20:Int))))) (cond (decide (((a0.length:Nat):Int)<=x23)) (some (Sum.inr (.inr ((20:Int))))) (cond (decide (x23=v3)) (some (Sum.inr (.inr ((20:Int))))) (cond (decide (0<V0)) (Option.bind (CB DD (IntKind.i64.wrap (V0 - 1))) λ x31=>cond (decide (x23<=x31)) (some (Sum.inr (.inr ((20:Int))))) (some (Sum.inl (IntKind.i64.wrap (V0+1))))) (some (Sum.inl (IntKind.i64.wrap (V0+1)))))))) (some (Sum.inr (.inl V0)))
def Ky(a0:List (List Int)):Int->Option ((Int)⊕(Int⊕Int))
 | v3=>cond (decide (v3<((a0.length:Nat):Int))) (Option.bind (CB a0 v3) λ DD=>Option.bind (Ct (Kz a0 v3 DD) 0) (λ | .inl v36=>some (Sum.inl (IntKind.i64.wrap (v3+1))) | .inr (r37)=>some (Sum.inr (.inr (r37))))) (some (Sum.inr (.inl v3)))
def EY(a0:List (List Int))(a1:List Bool):Option (Int):=
 cond (decide (24<((a0.length:Nat):Int))) (some 20) (Option.bind (Ct (Ky a0) 0) (λ | .inl v38=>cond (decide (((a1.length:Nat):Int)=((a0.length:Nat):Int))) (some 0) (some 19) | .inr (r40)=>some r40))
theorem TC(a0:List (List Int))(a1:List Bool)(r:Int)(hr:EY a0 a1=some r):
   BV prog 116 [.p (.sl (Cw a0)),.p (.sl (CW a1))] [] λ h d=>h=[]/\d= .p (.int .i64 r):=by
 refine BX func116 rfl Afm (by simp[Tryz.f116]) ?_;unfold EY at hr;cases c1:decide (24<((a0.length:Nat):Int))
 . simp only[c1,Aj] at hr;obtain ⟨e7,g8,hr⟩:=bE hr;(try simp only[go_sem,c1]);refine CV g8 (λ q:Int=>⟨[(0,.p (.sl (Cw a0))),(1,.p (.sl (CW a1))),(12,.p (.sl (Cw a0))),(13,.p (.int .i64 ((a0.length:Nat):Int))),(14,.p (.int .i64 q))],[],59⟩) ((Wk.forget (by simp[ZF,ZE]))) ?_;rintro v3 m6 GP ih5;rw[Ky.eq_1] at GP;cases c9:decide (v3<((a0.length:Nat):Int))
   . simp only[c9,Aj] at GP;simp only[Aa,BZ] at GP;cases GP;(try dsimp only at hr);cases JX:decide (((a1.length:Nat):Int)=((a0.length:Nat):Int))
     . simp only[JX,Aj] at hr;cases hr;(try simp only[go_sem,c9,JX]);all_goals ((try refine BU ?_);(try simp only[go_sem,c9,JX]);try first | rfl | exact ⟨rfl,rfl⟩ | (simp;done))
     simp only[JX,Ak] at hr;cases hr;(try simp only[go_sem,c9,JX]);all_goals ((try refine BU ?_);(try simp only[go_sem,c9,JX]);try first | rfl | exact ⟨rfl,rfl⟩ | (simp;done))
   simp only[c9,Ak] at GP;obtain ⟨DD,g12,GP⟩:=bK GP;have f13:=B5 g12;have f14:(Cw a0).getD (Int.toNat v3) []=[(.sl (BT DD))]:=B6 _ g12;obtain ⟨e20,g21,GP⟩:=bK GP;(try simp only[go_sem,c9,f13,f14]);refine CV g21 (λ q:Int=>⟨[(0,.p (.sl (Cw a0))),(1,.p (.sl (CW a1))),(5,.p (.int .i64 v3)),(6,.p (.sl (BT DD))),(12,.p (.sl (Cw a0))),(13,.p (.int .i64 ((a0.length:Nat):Int))),(14,.p (.int .i64 v3)),(19,.p (.sl (BT DD))),(20,.p (.int .i64 ((DD.length:Nat):Int))),(21,.p (.int .i64 q))],[],59⟩) ((Wk.forget (by simp[ZF,ZE]))) ?_;rintro V0 m19 GF Ava;rw[Kz.eq_1] at GF;cases RV:decide (V0<((DD.length:Nat):Int))
   . simp only[RV,Aj] at GF;simp only[Aa,BZ] at GF;cases GF;(try dsimp only at GP);simp only[Aa,B0] at GP;(try simp only[go_sem,RV]);exact ih5 (IntKind.i64.wrap (v3+1)) _ GP ((Wk.forget (by simp[ZF,ZE])))
   simp only[RV,Ak] at GF;obtain ⟨x23,g24,GF⟩:=bK GF;have f25:=B5 g24;have f26:(BT DD).getD (Int.toNat V0) []=[(.int .i64 x23)]:=B6 _ g24;cases c27:decide (x23<0)
   . simp only[c27,Aj] at GF;cases c28:decide (((a0.length:Nat):Int)<=x23)
     . simp only[c28,Aj] at GF;cases XA:decide (x23=v3)
       . simp only[XA,Aj] at GF;cases TD:decide (0<V0)
         . simp only[TD,Aj] at GF;simp only[Aa,B0] at GF;(try simp only[go_sem,RV,f25,f26,c27,c28,XA,TD]);exact Ava (IntKind.i64.wrap (V0+1)) _ GF ((Wk.forget (by simp[ZF,ZE])))
         simp only[TD,Ak] at GF;obtain ⟨x31,g32,GF⟩:=bK GF;have f33:=B5 g32;have f34:(BT DD).getD (Int.toNat (IntKind.i64.wrap (V0 - 1))) []=[(.int .i64 x31)]:=B6 _ g32;cases c35:decide (x23<=x31)
         . simp only[c35,Aj] at GF;simp only[Aa,B0] at GF;(try simp only[go_sem,RV,f25,f26,c27,c28,XA,TD,f33,f34,c35]);exact Ava (IntKind.i64.wrap (V0+1)) _ GF ((Wk.forget (by simp[ZF,ZE])))
         simp only[c35,Ak] at GF;simp only[Aa,BZ] at GF;cases GF;(try dsimp only at GP);simp only[Aa,BZ] at GP;cases GP;(try dsimp only at hr);cases hr;(try simp only[go_sem,RV,f25,f26,c27,c28,XA,TD,f33,f34,c35]);all_goals ((try refine BU ?_);(try simp only[go_sem,RV,f25,f26,c27,c28,XA,TD,f33,f34,c35]);try first | rfl | exact ⟨rfl,rfl⟩ | (simp;done))
       simp only[XA,Ak] at GF;simp only[Aa,BZ] at GF;cases GF;(try dsimp only at GP);simp only[Aa,BZ] at GP;cases GP;(try dsimp only at hr);cases hr;(try simp only[go_sem,RV,f25,f26,c27,c28,XA]);all_goals ((try refine BU ?_);(try simp only[go_sem,RV,f25,f26,c27,c28,XA]);try first | rfl | exact ⟨rfl,rfl⟩ | (simp;done))
     simp only[c28,Ak] at GF;simp only[Aa,BZ] at GF;cases GF;(try dsimp only at GP);simp only[Aa,BZ] at GP;cases GP;(try dsimp only at hr);cases hr;(try simp only[go_sem,RV,f25,f26,c27,c28]);all_goals ((try refine BU ?_);(try simp only[go_sem,RV,f25,f26,c27,c28]);try first | rfl | exact ⟨rfl,rfl⟩ | (simp;done))
   simp only[c27,Ak] at GF;simp only[Aa,BZ] at GF;cases GF;(try dsimp only at GP);simp only[Aa,BZ] at GP;cases GP;(try dsimp only at hr);cases hr;(try simp only[go_sem,RV,f25,f26,c27]);all_goals ((try refine BU ?_);(try simp only[go_sem,RV,f25,f26,c27]);try first | rfl | exact ⟨rfl,rfl⟩ | (simp;done))
 simp only[c1,Ak] at hr;cases hr;try simp only[go_sem,c1]
 all_goals ((try refine BU ?_);(try simp only[go_sem,c1]);try first | rfl | exact ⟨rfl,rfl⟩ | (simp;done))
def J0(a0:List Int)(a1:Int):Int->Option ((Int)⊕(Int⊕Int))
 | v2=>cond (decide (v2<((a0.length:Nat):Int))) (Option.bind (CB a0 v2) λ x9=>cond (decide (a1=x9)) (some (Sum.inr (.inr ((v2:Int))))) (some (Sum.inl (IntKind.i64.wrap (v2+1))))) (some (Sum.inr (.inl v2)))
def OH(a0:List Int)(a1:Int):Option (Int):=
 Option.bind (Ct (J0 a0 a1) 0) (λ | .inl R2=>some (-1) | .inr (r15)=>some r15)
theorem Z8(a0:List Int)(a1:Int)(r:Int)(hr:OH a0 a1=some r):
   BV prog 171 [.p (.sl (BT a0)),.p (.int .i64 a1)] [] λ h d=>h=[]/\d= .p (.int .i64 r):=by
 refine BX func171 rfl Vv (by simp[Tryz.f171]) ?_;unfold OH at hr;obtain ⟨e6,g7,hr⟩:=bE hr;try simp only[go_sem]
 refine CV g7 (λ q:Int=>⟨[(0,.p (.sl (BT a0))),(1,.p (.int .i64 a1)),(7,.p (.int .i64 ((a0.length:Nat):Int))),(8,.p (.int .i64 q))],[],19⟩) ((Wk.forget (by simp[ZF,ZE]))) ?_;rintro v2 m5 Ns ih4;rw[J0.eq_1] at Ns;cases c8:decide (v2<((a0.length:Nat):Int))
 . simp only[c8,Aj] at Ns;simp only[Aa,BZ] at Ns;cases Ns;(try dsimp only at hr);cases hr;(try simp only[go_sem,c8]);all_goals ((try refine BU ?_);(try simp only[go_sem,c8]);try first | rfl | exact ⟨rfl,rfl⟩ | (simp;done))
 simp only[c8,Ak] at Ns;obtain ⟨x9,g10,Ns⟩:=bK Ns;have f11:=B5 g10;have f12:(BT a0).getD (Int.toNat v2) []=[(.int .i64 x9)]:=B6 _ g10;cases Ok:decide (a1=x9)
 . simp only[Ok,Aj] at Ns;simp only[Aa,B0] at Ns;(try simp only[go_sem,c8,f11,f12,Ok]);exact ih4 (IntKind.i64.wrap (v2+1)) _ Ns ((Wk.forget (by simp[ZF,ZE])))
 simp only[Ok,Ak] at Ns;simp only[Aa,BZ] at Ns;cases Ns;try dsimp only at hr
 cases hr;try simp only[go_sem,c8,f11,f12,Ok]
 all_goals ((try refine BU ?_);(try simp only[go_sem,c8,f11,f12,Ok]);try first | rfl | exact ⟨rfl,rfl⟩ | (simp;done))
def OG(a0:List Int):Int×Int->Option ((Int×Int)⊕((Int×Int)))
 | (v8,v9)=>cond (decide (v9<((a0.length:Nat):Int))) (Option.bind (CB a0 v9) λ PM=>some (Sum.inl ((if PM<v8 then PM else v8),(IntKind.i64.wrap (v9+1))))) (some (Sum.inr (v8,v9)))
def Wb(a0:List Int):Option (Int):=
 cond (decide (((a0.length:Nat):Int)<1)) none (Option.bind (CB a0 0) λ x2=>Option.bind (Ct (OG a0) (x2,1)) (λ (v20,v21)=>some v20))
theorem Ai2(a0:List Int)(r:Int)(hr:Wb a0=some r):
   BV prog 179 [.p (.sl (BT a0))] [] λ h d=>h=[]/\d= .p (.int .i64 r):=by
 refine BX func179 rfl Aeq (by simp[Tryz.f179]) ?_;unfold Wb at hr;cases c1:decide (((a0.length:Nat):Int)<1)
 . simp only[c1,Aj] at hr;obtain ⟨x2,g3,hr⟩:=bE hr;have f4:=B5 g3;have f5:(BT a0).getD 0 []=[(.int .i64 x2)]:=B6 _ g3;obtain ⟨e13,g14,hr⟩:=bE hr;(try simp only[go_sem,c1,f4,f5]);refine CV g14 (λ q:Int×Int=>⟨[(0,.p (.sl (BT a0))),(3,.p (.int .i64 q.1)),(4,.p (.int .i64 q.2))],[],25⟩) ((Wk.forget (by simp[ZF,ZE]))) ?_;rintro ⟨v8,v9⟩ m12 WN Az1;rw[OG.eq_1] at WN;cases Jx:decide (v9<((a0.length:Nat):Int))
   . simp only[Jx,Aj] at WN;simp only[Aa,BZ] at WN;cases WN;(try dsimp only at hr);cases hr;(try simp only[go_sem,Jx]);all_goals ((try refine BU ?_);(try simp only[go_sem,Jx]);try first | rfl | exact ⟨rfl,rfl⟩ | (simp;done))
   simp only[Jx,Ak] at WN;obtain ⟨PM,g17,WN⟩:=bK WN;have f18:=B5 g17;have f19:(BT a0).getD (Int.toNat v9) []=[(.int .i64 PM)]:=B6 _ g17;simp only[Aa,B0] at WN;(try simp only[go_sem,Jx,f18,f19]);exact Az1 ((if PM<v8 then PM else v8),(IntKind.i64.wrap (v9+1))) _ WN ((Wk.forget (by simp[ZF,ZE])))
 simp only[c1,Ak] at hr;simp at hr
def okE(n v:Nat)(r:List Int)(i:Nat):Bool:=!decide (r.getD i 0<0)&&!decide ((n:Int)<=r.getD i 0)&&!decide (r.getD i 0=(v:Int))&&(decide (i=0)||!decide (r.getD i 0<=r.getD (i - 1) 0))
def k7(n v:Nat)(r:List Int):Prop:=∀i,i<r.length->okE n v r i=true
instance (n v:Nat) (r:List Int):Decidable (k7 n v r):=by unfold k7;infer_instance
theorem cL1(g:List (List Int))(v:Nat)(r:List Int)(hr:r.length<=2000000):
   Ct (Kz g (v:Nat) r) 0=some (if k7 g.length v r then .inl ((r.length:Nat):Int) else .inr 20):=by
 refine GN r.length (λ i=>((i:Nat):Int)) _ _ (okE g.length v r) ?_ ?_
 . intro i hi _;rw[Kz.eq_1,E8 hi,Ak,Cd r i 0 hi,Aa];unfold okE;cases c1:decide (r.getD i 0<0)
   . cases c2:decide ((g.length:Int)<=r.getD i 0)
     . cases c3:decide (r.getD i 0=(v:Int))
       . rcases i with _ | i
         . have c4:decide (0<(((0:Nat):Int)))=false:=by decide
           simp only[Aj,c4];rw[Cs (by omega)];simp
         . have c4:decide (0<(((i+1:Nat):Int)))=true:=Ag (by omega);have e1:IntKind.i64.wrap (((i+1:Nat):Int) - 1)=((i:Nat):Int):=by
             simp[IntKind.wrap,IntKind.bits,IntKind.signed];omega
           simp only[Aj,Ak,c4,e1];rw[Cd r i 0 (by omega),Aa,Cs (by omega)];have e2:i+1 - 1=i:=rfl;rw[e2];cases c5:decide (r.getD (i+1) 0<=r.getD i 0)<;>simp
       . simp
     . simp
   . simp
 . intro _;rw[Kz.eq_1,FX,Aj]
theorem cL2(g:List (List Int))(hn:g.length<=2000000)(hr:∀v,v<g.length->(g.getD v []).length<=2000000):
   Ct (Ky g) 0=some (if ∀v,v<g.length->decide (k7 g.length v (g.getD v []))=true then .inl ((g.length:Nat):Int) else .inr 20):=by
 refine GN g.length (λ i=>((i:Nat):Int)) _ _ (λ v=>decide (k7 g.length v (g.getD v []))) ?_ ?_
 . intro v hv _;rw[Ky.eq_1,E8 hv,Ak,Cd g v [] hv,Aa,cL1 g v _ (hr v hv),Aa];by_cases h:k7 g.length v (g.getD v [])
   . rw[if_pos h,if_pos (Ag h)];simp only;rw[Cs (by omega)]
   . rw[if_neg h,if_neg (λ h9=>h (Ad h9))]
 . intro _;rw[Ky.eq_1,FX,Aj]
theorem QM(g:List (List Int))(sh:List Bool)(hr:∀v,v<g.length->(g.getD v []).length<=2000000):
   EY g sh=some (if 24<g.length then 20 else if ∀v,v<g.length->decide (k7 g.length v (g.getD v []))=true then (if sh.length=g.length then 0 else 19) else 20):=by
 unfold EY;by_cases h1:24<g.length
 . rw[if_pos h1,Ag (by omega),Ak]
 . rw[if_neg h1,Ah (by omega),Aj,cL2 g (by omega) hr,Aa];by_cases h2:∀v,v<g.length->decide (k7 g.length v (g.getD v []))=true
   . rw[if_pos h2,if_pos h2];simp only;by_cases h3:sh.length=g.length
     . rw[if_pos h3,Ag (by omega),Ak]
     . rw[if_neg h3,Ah (by omega),Aj]
   . rw[if_neg h2,if_neg h2]
theorem Aoe{n v:Nat}{r:List Int}(h:k7 n v r)(k:Nat)(hk:k<r.length):∃w:Nat,r.getD k 0=(w:Int)/\w<n:=by
 have:=h k hk;unfold okE at this;simp only[Ar,Bool.not_eq_true',decide_eq_false_iff_not] at this;obtain ⟨⟨⟨h1,h2⟩,_⟩,_⟩:=this;exact ⟨(r.getD k 0).toNat,by omega,by omega⟩
theorem Agk{g:List (List Int)}{sh:List Bool}(hr:∀v,v<g.length->(g.getD v []).length<=2000000)(h:EY g sh=some 0):
   g.length<=24/\sh.length=g.length/\∀v k,k<(g.getD v []).length->∃w:Nat,(g.getD v []).getD k 0=(w:Int)/\w<g.length:=by
 rw[QM g sh hr] at h;have h:=Ac h;split at h
 . cases h
 rename_i h1;split at h
 case isFalse=>cases h
 rename_i h2;split at h
 case isFalse=>cases h
 rename_i h3;refine ⟨by omega,h3,λ v k hk=>?_⟩;by_cases hv:v<g.length
 . exact Aoe (Ad (h2 v hv)) k hk
 . rw[List.getD,List.getElem?_eq_none (by omega)] at hk;exact absurd hk (A3 _)
def Ed(g:List (List Int))(sh:List Bool)(v w:Nat):Prop:=(w:Int)∈g.getD v []/\sh.getD w false=false
inductive JB (g:List (List Int)) (sh:List Bool):Nat->Nat->Prop
 | refl (v:Nat):JB g sh v v
 | tail {u v w:Nat} (h:JB g sh u v) (e:Ed g sh v w):JB g sh u w
theorem JB.trans{g:List (List Int)}{sh:List Bool}{u v w:Nat}(h:JB g sh u v)(k:JB g sh v w):JB g sh u w:=by
 induction k with
 | refl=>exact h
 | tail _ e ih=>exact ih.tail e
def QO(g:List (List Int))(sh:List Bool)(v:Nat)(x:Int):Prop:=∃y:Nat,x=(y:Int)/\JB g sh v y/\JB g sh y v/\∀z,JB g sh v z->JB g sh z v->y<=z
structure Sr where
 seen:List Nat
 low:List Nat
 at_:List Nat
 path:List Nat
 held:List Nat
 count:Nat
 names:List Int
def Sr.sn(s:Sr)(v:Nat):Nat:=s.seen.getD v 0
def Sr.lw(s:Sr)(v:Nat):Nat:=s.low.getD v 0
def Sr.ad(s:Sr)(v:Nat):Nat:=s.at_.getD v 0
def Sr.nm(s:Sr)(v:Nat):Int:=s.names.getD v (-1)
structure TJ(g:List (List Int))(sh:List Bool)(Ud:Nat->Prop)(s:Sr):Prop where
 l1:s.seen.length=g.length
 l2:s.low.length=g.length
 l3:s.at_.length=g.length
 l4:s.names.length=g.length
 rng:∀v k,k<(g.getD v []).length->∃w:Nat,(g.getD v []).getD k 0=(w:Int)/\w<g.length
 cnt:∀v,s.sn v<=s.count
 inj:∀v w,s.sn v=s.sn w->s.sn v≠0->v=w
 Xs:∀v,s.sn v≠0->v<g.length/\sh.getD v false=false
 at0:∀v,s.sn v=0->s.ad v=0
 atl:∀v,s.ad v<=(g.getD v []).length
 MN:∀v,v∈s.held↔s.sn v≠0/\s.nm v<0
 hso:s.held.Pairwise λ a b=>s.sn a<s.sn b
 TX:∀p∈s.path,p∈s.held
 pso:s.path.Pairwise λ a b=>s.sn a<s.sn b
 TY:∀v,0<=s.nm v->s.sn v≠0/\QO g sh v (s.nm v)
 nmc:∀v w,0<=s.nm v->Ed g sh v w->0<=s.nm w
 fin:∀x∈s.held,x∉s.path->s.ad x=(g.getD x []).length/\s.lw x<s.sn x
 edg:∀x∈s.held,∀k,k<s.ad x->∀w:Nat,(g.getD x []).getD k 0=(w:Int)->sh.getD w false=false->(s.sn w=0->Ud w)/\(w∈s.held->s.lw x<=s.sn w)
 low:∀x∈s.held,s.lw x<=s.sn x/\∃u∈s.held,s.sn u=s.lw x/\JB g sh x u
 rch:∀p∈s.path,∀x∈s.held,s.sn p<=s.sn x->JB g sh p x
 own:∀p∈s.path,∀x∈s.held,x∉s.path->s.sn p<s.sn x->(∀q∈s.path,s.sn q<=s.sn x->s.sn q<=s.sn p)->s.lw p<=s.lw x
 anc:∀x∈s.held,∃p∈s.path,s.sn p<=s.sn x
 nmx:∀v,s.nm v<0->s.nm v=-1
def Sr.enter(s:Sr)(v:Nat):Sr:={s with count:=s.count+1,seen:=s.seen.set v (s.count+1),low:=s.low.set v (s.count+1),path:=s.path++[v],held:=s.held++[v]}
def OQ:Nat->Prop:=λ _=>False
theorem TJ.enter{g:List (List Int)}{sh:List Bool}{s:Sr}{v:Nat}(h:TJ g sh (λ w=>w=v) s)(hv:v<g.length)(ho:sh.getD v false=false)(h0:s.sn v=0)(hp:∀p∈s.path,JB g sh p v):TJ g sh OQ (s.enter v):=by
 have Eb:∀w,(s.enter v).sn w=if w=v then s.count+1 else s.sn w:=λ w=>ET _ _ _ _ _ (by rw[h.l1];exact hv)
 have lw':∀w,(s.enter v).lw w=if w=v then s.count+1 else s.lw w:=λ w=>ET _ _ _ _ _ (by rw[h.l2];exact hv)
 have PI:v∉s.held:=λ hm=>((h.MN v).1 hm).1 h0;have Dn:∀x∈s.held,x≠v:=λ x hx e=>PI (e ▸ hx);have mh:∀x,x∈(s.enter v).held↔x∈s.held∨x=v:=λ x=>by simp[Sr.enter]
 have mp:∀x,x∈(s.enter v).path↔x∈s.path∨x=v:=λ x=>by simp[Sr.enter]
 have UI:∀x∈s.held,(s.enter v).sn x=s.sn x:=λ x hx=>by rw[Eb,if_neg (Dn x hx)]
 have lwh:∀x∈s.held,(s.enter v).lw x=s.lw x:=λ x hx=>by rw[lw',if_neg (Dn x hx)]
 have snv:(s.enter v).sn v=s.count+1:=by rw[Eb,if_pos rfl]
 have lwv:(s.enter v).lw v=s.count+1:=by rw[lw',if_pos rfl]
 have nmv:s.nm v<0:=by
   rcases Int.lt_or_le (s.nm v) 0 with h1 | h1
   . exact h1
   . exact absurd h0 (h.TY v h1).1
 refine ⟨by simp[Sr.enter,h.l1],by simp[Sr.enter,h.l2],h.l3,h.l4,h.rng,?_,?_,?_,?_,h.atl,?_,?_,?_,?_,?_,h.nmc,?_,?_,?_,?_,?_,?_,h.nmx⟩
 . intro w;rw[Eb];have:=h.cnt w;show _<=s.count+1;split<;>omega
 . intro a b;rw[Eb,Eb];have ha:=h.cnt a;have hb:=h.cnt b
   by_cases e1:a=v
   . by_cases e2:b=v
     . intros;omega
     . rw[if_pos e1,if_neg e2];intros;omega
   . by_cases e2:b=v
     . rw[if_neg e1,if_pos e2];intros;omega
     . rw[if_neg e1,if_neg e2];exact h.inj a b
 . intro w;rw[Eb];split
   . rename_i e;subst e;exact λ _=>⟨hv,ho⟩
   . exact h.Xs w
 . intro w;rw[Eb];split
   . intro;omega
   . exact h.at0 w
 . intro w;rw[mh,Eb];by_cases e:w=v
   . subst e;simp only[or_true,AL,true_iff];exact ⟨by omega,nmv⟩
   . rw[if_neg e];simp only[e,or_false];rw[h.MN];exact Iff.rfl
 . show (s.held++[v]).Pairwise _
   rw[Bp];refine ⟨?_,by simp,λ a ha b hb=>?_⟩
   . exact List.Pairwise.imp_of_mem (λ ha hb WW=>by rw[UI _ ha,UI _ hb];exact WW) h.hso
   . rw[Av.1 hb,UI a ha,snv];have:=h.cnt a;omega
 . intro p hp';rw[mh];rcases (mp p).1 hp' with h1 | h1
   . exact .inl (h.TX p h1)
   . exact .inr h1
 . show (s.path++[v]).Pairwise _
   rw[Bp];refine ⟨?_,by simp,λ a ha b hb=>?_⟩
   . exact List.Pairwise.imp_of_mem (λ ha hb WW=>by rw[UI _ (h.TX _ ha),UI _ (h.TX _ hb)];exact WW) h.pso
   . rw[Av.1 hb,UI a (h.TX a ha),snv];have:=h.cnt a;omega
 . intro w hw;have:=h.TY w hw;refine ⟨?_,this.2⟩;rw[Eb];split
   . omega
   . exact this.1
 . intro x SX hp';rcases (mh x).1 SX with h1 | h1
   . have LC:x∉s.path:=λ hm=>hp' ((mp x).2 (.inl hm));rw[lwh x h1,UI x h1];exact h.fin x h1 LC
   . exact absurd ((mp x).2 (.inr h1)) hp'
 . intro x SX k hk w hw how;have hk':k<s.ad x:=hk;rcases (mh x).1 SX with h1 | h1
   . obtain ⟨a,b⟩:=h.edg x h1 k hk' w hw how;by_cases hwv:w=v
     . rw[Eb,if_pos hwv,lwh x h1];have h3:=(h.low x h1).1;have h4:=h.cnt x;exact ⟨λ h=>by omega,λ _=>by omega⟩
     . rw[Eb,if_neg hwv,lwh x h1];refine ⟨λ h5=>absurd (a h5) hwv,λ hm=>?_⟩;rcases (mh w).1 hm with h2 | h2
       . exact b h2
       . exact absurd h2 hwv
   . subst h1;have:=h.at0 x h0;omega
 . intro x SX;rcases (mh x).1 SX with h1 | h1
   . obtain ⟨a,u,b,c,d⟩:=h.low x h1;rw[lwh x h1,UI x h1];exact ⟨a,u,(mh u).2 (.inl b),by rw[UI u b];exact c,d⟩
   . subst h1;rw[lwv,snv];exact ⟨Ai _,x,(mh x).2 (.inr rfl),snv,.refl x⟩
 . intro p hp' x SX;rcases (mp p).1 hp' with h1 | h1
   . rcases (mh x).1 SX with h2 | h2
     . rw[UI p (h.TX p h1),UI x h2];exact h.rch p h1 x h2
     . subst h2;intro _;exact hp p h1
   . subst h1;rcases (mh x).1 SX with h2 | h2
     . rw[snv,UI x h2];have:=h.cnt x;intro;omega
     . subst h2;intro _;exact .refl x
 . intro p hp' x SX LC Cj hq;rcases (mh x).1 SX with h2 | h2
   . have Azj:x∉s.path:=λ hm=>LC ((mp x).2 (.inl hm));rcases (mp p).1 hp' with h1 | h1
     . rw[lwh p (h.TX p h1),lwh x h2];rw[UI p (h.TX p h1),UI x h2] at Cj;refine h.own p h1 x h2 Azj Cj λ q Ve hq2=>?_;have:=hq q ((mp q).2 (.inl Ve));rw[UI q (h.TX q Ve),UI x h2,UI p (h.TX p h1)] at this;exact this hq2
     . subst h1;rw[snv,UI x h2] at Cj;have:=h.cnt x;omega
   . exact absurd ((mp x).2 (.inr h2)) LC
 . intro x SX;rcases (mh x).1 SX with h2 | h2
   . obtain ⟨p,h3,h4⟩:=h.anc x h2;exact ⟨p,(mp p).2 (.inl h3),by rw[UI p (h.TX p h3),UI x h2];exact h4⟩
   . exact ⟨v,(mp v).2 (.inr rfl),by rw[h2];exact Ai _⟩
theorem TJ.last{g:List (List Int)}{sh:List Bool}{Ud:Nat->Prop}{s:Sr}(h:TJ g sh Ud s){ps:List Nat}{v:Nat}(hp:s.path=ps++[v]):v∈s.path/\v∈s.held/\v<g.length/\sh.getD v false=false/\(∀q∈s.path,s.sn q<=s.sn v)/\(∀q∈ps,s.sn q<s.sn v)/\v∉ps:=by
 have hv:v∈s.path:=by rw[hp];simp
 have hh:=h.TX v hv;have ho:=h.Xs v ((h.MN v).1 hh).1;have Cj:∀q∈ps,s.sn q<s.sn v:=by
   have:=h.pso;rw[hp,Bp] at this;exact λ q hq=>this.2.2 q hq v (by simp)
 refine ⟨hv,hh,ho.1,ho.2,λ q hq=>?_,Cj,λ hm=>?_⟩
 . rw[hp] at hq;rcases Au.1 hq with h1 | h1
   . exact Nat.le_of_lt (Cj q h1)
   . rw[Av.1 h1];exact Ai _
 . have:=Cj v hm;omega
theorem TJ.step{g:List (List Int)}{sh:List Bool}{s s':Sr}{Ud:Nat->Prop}(h:TJ g sh OQ s){ps:List Nat}{v w L:Nat}(hp:s.path=ps++[v])(hk:s.ad v<(g.getD v []).length)(hw:(g.getD v []).getD (s.ad v) 0=(w:Int))
   (e1:s'.seen=s.seen) (e2:∀x,s'.lw x=if x=v then L else s.lw x) (e2':s'.low.length=s.low.length) (e3:∀x,s'.ad x=if x=v then s.ad v+1 else s.ad x) (e3':s'.at_.length=s.at_.length)
   (e4:s'.path=s.path) (e5:s'.held=s.held) (e6:s'.count=s.count) (e7:s'.names=s.names)
   (hL:L<=s.lw v) (hu:∃u∈s.held,s.sn u=L/\JB g sh v u) (hq:sh.getD w false=false->(s.sn w=0->Ud w)/\(w∈s.held->L<=s.sn w)):TJ g sh Ud s':=by
 obtain ⟨r6,PI,Na,hvo,S1,_,_⟩:=h.last hp;have Eb:∀x,s'.sn x=s.sn x:=λ x=>by unfold Sr.sn;rw[e1]
 have nm':∀x,s'.nm x=s.nm x:=λ x=>by unfold Sr.nm;rw[e7]
 refine ⟨by rw[e1];exact h.l1,by rw[e2'];exact h.l2,by rw[e3'];exact h.l3,by rw[e7];exact h.l4,h.rng,?_,?_,?_,?_,?_,?_,?_,?_,?_,?_,?_,?_,?_,?_,?_,?_,?_,λ x=>by rw[nm'];exact h.nmx x⟩
 . intro x;rw[Eb,e6];exact h.cnt x
 . intro a b;rw[Eb,Eb];exact h.inj a b
 . intro x;rw[Eb];exact h.Xs x
 . intro x;rw[Eb,e3];split
   . rename_i e;subst e;intro h0;exact absurd h0 ((h.MN x).1 PI).1
   . exact h.at0 x
 . intro x;rw[e3];split
   . rename_i e;subst e;omega
   . exact h.atl x
 . intro x;rw[e5,Eb,nm'];exact h.MN x
 . rw[e5];exact h.hso.imp λ WW=>by rw[Eb,Eb];exact WW
 . rw[e4,e5];exact h.TX
 . rw[e4];exact h.pso.imp λ WW=>by rw[Eb,Eb];exact WW
 . intro x;rw[nm',Eb];exact h.TY x
 . intro x y;rw[nm',nm'];exact h.nmc x y
 . intro x hx LC;rw[e5] at hx;rw[e4] at LC;have Dn:x≠v:=λ e=>LC (e ▸ r6);rw[e3,e2,Eb,if_neg Dn,if_neg Dn];exact h.fin x hx LC
 . intro x hx k hk' y hy hyo;rw[e5] at hx;rw[e3] at hk';rw[Eb,e5,e2];by_cases ZJ:x=v
   . subst ZJ;rw[if_pos rfl] at hk' ⊢;by_cases Jj:k=s.ad x
     . subst Jj;rw[hw] at hy;obtain rfl:w=y:=by omega
       exact hq hyo
     . obtain ⟨a,b⟩:=h.edg x hx k (by omega) y hy hyo;exact ⟨λ h0=>(a h0).elim,λ hm=>Bs hL (b hm)⟩
   . rw[if_neg ZJ] at hk' ⊢;obtain ⟨a,b⟩:=h.edg x hx k hk' y hy hyo;exact ⟨λ h0=>(a h0).elim,b⟩
 . intro x hx;rw[e5] at hx;obtain ⟨a,u,b,c,d⟩:=h.low x hx;rw[e2,Eb];by_cases ZJ:x=v
   . subst ZJ;rw[if_pos rfl];obtain ⟨u2,b2,c2,d2⟩:=hu;exact ⟨by omega,u2,by rw[e5];exact b2,by rw[Eb];exact c2,d2⟩
   . rw[if_neg ZJ];exact ⟨a,u,by rw[e5];exact b,by rw[Eb];exact c,d⟩
 . intro p hp' x hx;rw[e4] at hp';rw[e5] at hx;rw[Eb,Eb];exact h.rch p hp' x hx
 . intro p hp' x hx LC Cj ZM;rw[e4] at hp' LC ZM;rw[e5] at hx;rw[Eb,Eb] at Cj;have Dn:x≠v:=λ e=>LC (e ▸ r6);have:=h.own p hp' x hx LC Cj λ q h1 h2=>by have:=ZM q h1;rw[Eb,Eb,Eb] at this;exact this h2
   rw[e2,e2,if_neg Dn];split
   . rename_i e;subst e;omega
   . exact this
 . intro x hx;rw[e5] at hx;obtain ⟨p,h1,h2⟩:=h.anc x hx;exact ⟨p,by rw[e4];exact h1,by rw[Eb,Eb];exact h2⟩
theorem Aiz{g:List (List Int)}{sh:List Bool}{x w:Nat}(h:Ed g sh x w):∃k,k<(g.getD x []).length/\(g.getD x []).getD k 0=(w:Int):=by
 obtain ⟨k,hk,he⟩:=AA.1 h.1;refine ⟨k,hk,?_⟩;generalize g.getD x []=l at*;rw[<-he];simp[List.getD,hk]
theorem TJ.named{g:List (List Int)}{sh:List Bool}{Ud:Nat->Prop}{s:Sr}(h:TJ g sh Ud s){v w:Nat}(hv:0<=s.nm v)(hr:JB g sh v w):0<=s.nm w:=by
 induction hr with
 | refl=>exact hv
 | tail _ e ih=>exact h.nmc _ _ ih e
theorem TJ.comp{g:List (List Int)}{sh:List Bool}{s:Sr}(h:TJ g sh OQ s){ps:List Nat}{v:Nat}(hp:s.path=ps++[v])(ha:s.ad v=(g.getD v []).length)(hl:s.lw v=s.sn v):
   (∀x∈s.held,s.sn v<=s.sn x->s.lw v<=s.lw x/\JB g sh v x/\JB g sh x v/\∀y,Ed g sh x y->0<=s.nm y∨(y∈s.held/\s.sn v<=s.sn y))/\∀y,JB g sh v y->JB g sh y v->y∈s.held/\s.sn v<=s.sn y:=by
 obtain ⟨r6,PI,Na,hvo,S1,_,_⟩:=h.last hp;have At1:∀x∈s.held,s.sn v<=s.sn x->s.lw v<=s.lw x/\(x=v∨x∉s.path):=by
   intro x hx hsx;by_cases ZJ:x=v
   . exact ⟨by rw[ZJ];exact Ai _,.inl ZJ⟩
   . have Dn:s.sn v≠s.sn x:=λ e=>ZJ (h.inj x v e.symm ((h.MN x).1 hx).1);have LC:x∉s.path:=λ hm=>by have:=S1 x hm;omega
     exact ⟨h.own v r6 x hx LC (by omega) λ q hq _=>S1 q hq,.inr LC⟩
 have GQ:∀n,∀x∈s.held,s.sn v<=s.sn x->s.sn x<=n->JB g sh x v:=by
   intro n
   induction n with
   | zero=>intro x hx _ h0;exact absurd (Nat.le_zero.1 h0) ((h.MN x).1 hx).1
   | succ n ih=>
     intro x hx hsx hn;obtain ⟨ZO,hor⟩:=At1 x hx hsx;rcases hor with rfl | LC
     . exact .refl _
     . obtain ⟨_,hf⟩:=h.fin x hx LC;obtain ⟨_,u,hu,hul,hru⟩:=h.low x hx;exact hru.trans (ih u hu (by omega) (by omega))
 have PJ:∀x∈s.held,s.sn v<=s.sn x->∀y,Ed g sh x y->0<=s.nm y∨(y∈s.held/\s.sn v<=s.sn y):=by
   intro x hx hsx y hy;obtain ⟨ZO,hor⟩:=At1 x hx hsx;have DZ:s.ad x=(g.getD x []).length:=by
     rcases hor with rfl | LC
     . exact ha
     . exact (h.fin x hx LC).1
   obtain ⟨k,hk,hky⟩:=Aiz hy;obtain ⟨a,b⟩:=h.edg x hx k (by omega) y hky hy.2;have hsy:s.sn y≠0:=λ e=>(a e).elim;rcases Int.lt_or_le (s.nm y) 0 with h1 | h1
   . have hyh:=(h.MN y).2 ⟨hsy,h1⟩;have:=b hyh;exact .inr ⟨hyh,by omega⟩
   . exact .inl h1
 refine ⟨λ x hx hsx=>⟨(At1 x hx hsx).1,h.rch v r6 x hx hsx,GQ _ x hx hsx (Ai _),PJ x hx hsx⟩,λ y h1 h2=>?_⟩;have key:∀y,JB g sh v y->0<=s.nm y∨(y∈s.held/\s.sn v<=s.sn y):=by
   intro y hy
   induction hy with
   | refl=>exact .inr ⟨PI,Ai _⟩
   | tail _ e ih=>
     rcases ih with h3 | h3
     . exact .inl (h.nmc _ _ h3 e)
     . exact PJ _ h3.1 h3.2 _ e
 rcases key y h1 with h3 | h3
 . have:=h.named h3 h2;have:=((h.MN v).1 PI).2;omega
 . exact h3
theorem TJ.complete{g:List (List Int)}{sh:List Bool}{s s':Sr}(h:TJ g sh OQ s){ps:List Nat}{v:Nat}(hp:s.path=ps++[v])(ha:s.ad v=(g.getD v []).length)(hl:s.lw v=s.sn v){y0:Nat}
   (hy:y0∈s.held/\s.sn v<=s.sn y0) (Rz:∀z∈s.held,s.sn v<=s.sn z->y0<=z)
   (e1:s'.seen=s.seen) (e2:s'.low=s.low) (e3:s'.at_=s.at_) (e4:s'.path=ps) (e5:∀x,x∈s'.held↔x∈s.held/\s.sn x<s.sn v) (e5':s'.held.Pairwise λ a b=>s.sn a<s.sn b) (e6:s'.count=s.count)
   (e7:∀x,s'.nm x=if x∈s.held/\s.sn v<=s.sn x then (y0:Int) else s.nm x) (e7':s'.names.length=s.names.length):TJ g sh OQ s':=by
 obtain ⟨r6,PI,Na,hvo,S1,hps,Ap1⟩:=h.last hp;obtain ⟨hK,hC⟩:=h.comp hp ha hl;have Eb:∀x,s'.sn x=s.sn x:=λ x=>by unfold Sr.sn;rw[e1]
 have lw':∀x,s'.lw x=s.lw x:=λ x=>by unfold Sr.lw;rw[e2]
 have ad':∀x,s'.ad x=s.ad x:=λ x=>by unfold Sr.ad;rw[e3]
 have Ie:∀p∈ps,p∈s.path:=λ p JT=>by rw[hp];simp[JT]
 have Avq:∀x∈s.held,s.sn x<s.sn v->x∉ps->x∉s.path:=λ x hx Cj hn hm=>by
   rw[hp] at hm;rcases Au.1 hm with h1 | h1
   . exact hn h1
   . rw[Av.1 h1] at Cj;omega
 refine ⟨by rw[e1];exact h.l1,by rw[e2];exact h.l2,by rw[e3];exact h.l3,by rw[e7'];exact h.l4,h.rng,?_,?_,?_,?_,?_,?_,?_,?_,?_,?_,?_,?_,?_,?_,?_,?_,?_,λ x hx=>by rw[e7] at hx ⊢;(by_cases hn:x∈s.held/\s.sn v<=s.sn x);(rw[if_pos hn] at hx;omega);(rw[if_neg hn] at hx ⊢;exact h.nmx x hx)⟩
 . intro x;rw[Eb,e6];exact h.cnt x
 . intro a b;rw[Eb,Eb];exact h.inj a b
 . intro x;rw[Eb];exact h.Xs x
 . intro x;rw[Eb,ad'];exact h.at0 x
 . intro x;rw[ad'];exact h.atl x
 . intro x;rw[e5,Eb,e7];constructor
   . rintro ⟨hxh,c⟩;obtain ⟨a,b⟩:=(h.MN x).1 hxh;rw[if_neg (λ hh=>by omega)];exact ⟨a,b⟩
   . rintro ⟨a,b⟩;split at b
     . omega
     . rename_i hn;refine ⟨(h.MN x).2 ⟨a,b⟩,?_⟩;rcases Nat.lt_or_ge (s.sn x) (s.sn v) with h1 | h1
       . exact h1
       . exact absurd ⟨(h.MN x).2 ⟨a,b⟩,h1⟩ hn
 . exact e5'.imp λ WW=>by rw[Eb,Eb];exact WW
 . intro p JT;rw[e4] at JT;exact (e5 p).2 ⟨h.TX p (Ie p JT),hps p JT⟩
 . rw[e4];have:=h.pso;rw[hp,Bp] at this;exact this.1.imp λ WW=>by rw[Eb,Eb];exact WW
 . intro x hx;rw[e7] at hx ⊢;rw[Eb];split at hx
   . rename_i Q9;rw[if_pos Q9];obtain ⟨_,k2,k3,_⟩:=hK x Q9.1 Q9.2;obtain ⟨_,k5,k6,_⟩:=hK y0 hy.1 hy.2;refine ⟨((h.MN x).1 Q9.1).1,y0,rfl,k3.trans k5,k6.trans k2,λ z hz1 hz2=>?_⟩;obtain ⟨m1,m2⟩:=hC z (k2.trans hz1) (hz2.trans k3);exact Rz z m1 m2
   . rename_i hn;rw[if_neg hn];exact h.TY x hx
 . intro x y hx hxy;rw[e7] at hx ⊢;split
   . omega
   . rename_i hny;split at hx
     . rename_i Q9;rcases (hK x Q9.1 Q9.2).2.2.2 y hxy with h1 | h1
       . exact h1
       . exact absurd h1 hny
     . exact h.nmc x y hx hxy
 . intro x hx LC;rw[e4] at LC;obtain ⟨h1,h2⟩:=(e5 x).1 hx;rw[ad',lw',Eb];exact h.fin x h1 (Avq x h1 h2 LC)
 . intro x hx k hk y hy hyo;obtain ⟨h1,h2⟩:=(e5 x).1 hx;rw[ad'] at hk;rw[Eb,lw'];obtain ⟨a,b⟩:=h.edg x h1 k hk y hy hyo;exact ⟨a,λ hm=>b ((e5 y).1 hm).1⟩
 . intro x hx;obtain ⟨h1,h2⟩:=(e5 x).1 hx;obtain ⟨a,u,b,c,d⟩:=h.low x h1;rw[lw',Eb];exact ⟨a,u,(e5 u).2 ⟨b,by omega⟩,by rw[Eb];exact c,d⟩
 . intro p JT x hx;rw[e4] at JT;rw[Eb,Eb];exact h.rch p (Ie p JT) x ((e5 x).1 hx).1
 . intro p JT x hx LC Cj hq;rw[e4] at JT LC hq;obtain ⟨h1,h2⟩:=(e5 x).1 hx;rw[Eb,Eb] at Cj;rw[lw',lw'];refine h.own p (Ie p JT) x h1 (Avq x h1 h2 LC) Cj λ q Ve hq2=>?_;rw[hp] at Ve;rcases Au.1 Ve with h3 | h3
   . have:=hq q h3;rw[Eb,Eb,Eb] at this;exact this hq2
   . rw[Av.1 h3] at hq2;omega
 . intro x hx;obtain ⟨h1,h2⟩:=(e5 x).1 hx;obtain ⟨p,h3,h4⟩:=h.anc x h1;rw[hp] at h3;rcases Au.1 h3 with h5 | h5
   . exact ⟨p,by rw[e4];exact h5,by rw[Eb,Eb];exact h4⟩
   . rw[Av.1 h5] at h4;omega
theorem TJ.back{g:List (List Int)}{sh:List Bool}{s s':Sr}(h:TJ g sh OQ s){ps:List Nat}{v t:Nat}(hp:s.path=ps++[t]++[v])(ha:s.ad v=(g.getD v []).length)(hl:s.lw v≠s.sn v)
   (e1:s'.seen=s.seen) (e2:∀x,s'.lw x=if x=t then min (s.lw t) (s.lw v) else s.lw x) (e2':s'.low.length=s.low.length) (e3:s'.at_=s.at_) (e4:s'.path=ps++[t]) (e5:s'.held=s.held) (e6:s'.count=s.count) (e7:s'.names=s.names):TJ g sh OQ s':=by
 obtain ⟨r6,PI,Na,hvo,S1,hps,Ap1⟩:=h.last hp;have Eb:∀x,s'.sn x=s.sn x:=λ x=>by unfold Sr.sn;rw[e1]
 have nm':∀x,s'.nm x=s.nm x:=λ x=>by unfold Sr.nm;rw[e7]
 have ad':∀x,s'.ad x=s.ad x:=λ x=>by unfold Sr.ad;rw[e3]
 have hlv:=h.low v PI;have Ie:∀p∈ps++[t],p∈s.path:=λ p JT=>by rw[hp,Au];exact .inl JT
 have htp:t∈s.path:=Ie t (by simp);have hth:=h.TX t htp;have htv:s.sn t<s.sn v:=hps t (by simp);have hmt:∀q∈ps++[t],s.sn q<=s.sn t:=by
   have:=h.pso;rw[hp,Bp,Bp] at this;intro q hq;rcases Au.1 hq with h1 | h1
   . exact Nat.le_of_lt (this.1.2.2 q h1 t (by simp))
   . rw[Av.1 h1];exact Ai _
 have Cj:s.lw v<s.sn v:=by omega
 have SY:∀q,q∈s.path↔q∈ps++[t]∨q=v:=λ q=>by rw[hp,Au,Av]
 refine ⟨by rw[e1];exact h.l1,by rw[e2'];exact h.l2,by rw[e3];exact h.l3,by rw[e7];exact h.l4,h.rng,?_,?_,?_,?_,?_,?_,?_,?_,?_,?_,?_,?_,?_,?_,?_,?_,?_,λ x=>by rw[nm'];exact h.nmx x⟩
 . intro x;rw[Eb,e6];exact h.cnt x
 . intro a b;rw[Eb,Eb];exact h.inj a b
 . intro x;rw[Eb];exact h.Xs x
 . intro x;rw[Eb,ad'];exact h.at0 x
 . intro x;rw[ad'];exact h.atl x
 . intro x;rw[e5,Eb,nm'];exact h.MN x
 . rw[e5];exact h.hso.imp λ WW=>by rw[Eb,Eb];exact WW
 . intro p JT;rw[e4] at JT;rw[e5];exact h.TX p (Ie p JT)
 . rw[e4];have:=h.pso;rw[hp,Bp] at this;exact this.1.imp λ WW=>by rw[Eb,Eb];exact WW
 . intro x;rw[nm',Eb];exact h.TY x
 . intro x y;rw[nm',nm'];exact h.nmc x y
 . intro x hx LC;rw[e5] at hx;rw[e4] at LC;have hxt:x≠t:=λ e=>LC (by rw[e];simp);rw[ad',e2,if_neg hxt,Eb];by_cases ZJ:x=v
   . subst ZJ;exact ⟨ha,Cj⟩
   . exact h.fin x hx λ hm=>by exact ((SY x).1 hm).elim LC ZJ
 . intro x hx k hk y hy hyo;rw[e5] at hx;rw[ad'] at hk;rw[Eb,e5,e2];obtain ⟨a,b⟩:=h.edg x hx k hk y hy hyo;refine ⟨a,λ hm=>?_⟩;have:=b hm;split
   . rename_i e;subst e;omega
   . exact this
 . intro x hx;rw[e5] at hx;obtain ⟨a,u,b,c,d⟩:=h.low x hx;rw[e2,Eb];by_cases hxt:x=t
   . subst hxt;rw[if_pos rfl];refine ⟨by omega,?_⟩;rcases Nat.le_total (s.lw x) (s.lw v) with h1 | h1
     . exact ⟨u,by rw[e5];exact b,by rw[Eb,Nat.min_eq_left h1];exact c,d⟩
     . obtain ⟨_,u2,b2,c2,d2⟩:=hlv;exact ⟨u2,by rw[e5];exact b2,by rw[Eb,Nat.min_eq_right h1];exact c2,(h.rch x htp v PI (by omega)).trans d2⟩
   . rw[if_neg hxt];exact ⟨a,u,by rw[e5];exact b,by rw[Eb];exact c,d⟩
 . intro p JT x hx;rw[e4] at JT;rw[e5] at hx;rw[Eb,Eb];exact h.rch p (Ie p JT) x hx
 . intro p JT x hx LC RB hq;rw[e4] at JT LC hq;rw[e5] at hx;rw[Eb,Eb] at RB;have hxt:x≠t:=λ e=>LC (by rw[e];simp);have hq2:∀q∈ps++[t],s.sn q<=s.sn x->s.sn q<=s.sn p:=λ q h1 h2=>by have:=hq q h1;rw[Eb,Eb,Eb] at this;exact this h2
   rw[e2,e2,if_neg hxt];have base:s.sn v<=s.sn x->p=t/\s.lw v<=s.lw x:=by
     intro ML;have h1:=hq2 t (by simp) (by omega);have h2:=hmt p JT;have hpt:p=t:=h.inj p t (by omega) ((h.MN p).1 (h.TX p (Ie p JT))).1;refine ⟨hpt,?_⟩;by_cases ZJ:x=v
     . rw[ZJ];exact Ai _
     . have Dn:s.sn v≠s.sn x:=λ e=>ZJ (h.inj x v e.symm ((h.MN x).1 hx).1);exact h.own v r6 x hx (λ hm=>by exact ((SY x).1 hm).elim LC ZJ) (by omega) λ q Ve _=>S1 q Ve
   rcases Nat.lt_or_ge (s.sn x) (s.sn v) with ML | ML
   . have:=h.own p (Ie p JT) x hx (λ hm=>by
       rcases (SY x).1 hm with h3 | h3
       . exact LC h3
       . rw[h3] at ML;omega) RB λ q Ve hq3=>by
         rcases (SY q).1 Ve with h3 | h3
         . exact hq2 q h3 hq3
         . rw[h3] at hq3;omega
     split
     . rename_i e;subst e;omega
     . exact this
   . obtain ⟨h1,h2⟩:=base ML;rw[if_pos h1];omega
 . intro x hx;rw[e5] at hx;obtain ⟨p,h3,h4⟩:=h.anc x hx;rcases (SY p).1 h3 with h5 | h5
   . exact ⟨p,by rw[e4];exact h5,by rw[Eb,Eb];exact h4⟩
   . rw[h5] at h4;exact ⟨t,by rw[e4];simp,by rw[Eb,Eb];omega⟩
theorem TJ.root{g:List (List Int)}{sh:List Bool}{s:Sr}(h:TJ g sh OQ s){v:Nat}(hp:s.path=[v]):s.lw v=s.sn v:=by
 obtain ⟨r6,PI,_⟩:=h.last (ps:=[]) (v:=v) hp;obtain ⟨a,u,b,c,_⟩:=h.low v PI;obtain ⟨p,h1,h2⟩:=h.anc u b;rw[hp] at h1;rw[Av.1 h1] at h2;omega
def T8(n:Nat)(f:Nat->Nat):Nat:=((List.range n).map f).sum
theorem IC(n:Nat)(f:Nat->Nat):T8 (n+1) f=T8 n f+f n:=by simp[T8,List.range_succ]
theorem ZX(n:Nat){f f':Nat->Nat}(h:∀x,x<n->f' x=f x):T8 n f'=T8 n f:=by
 induction n with
 | zero=>rfl
 | succ n ih=>rw[IC,IC,ih (λ x hx=>h x (by omega)),h n (by omega)]
theorem XP{n v d:Nat}{f f':Nat->Nat}(hv:v<n)(h:∀x,x≠v->f' x=f x)(h1:f' v+d=f v):T8 n f'+d=T8 n f:=by
 induction n with
 | zero=>omega
 | succ n ih=>
   rw[IC,IC];by_cases e:v=n
   . subst e;rw[ZX v (f:=f) (f':=f') (λ x hx=>h x (by omega))];omega
   . have:=ih (by omega);rw[h n (Bj e)];omega
def P1(g:List (List Int))(s:Sr):Nat:=T8 g.length λ v=>(g.getD v []).length - s.ad v
def Lg(g:List (List Int))(s:Sr):Nat:=T8 g.length λ v=>if s.sn v=0 then 1 else 0
def FM(g:List (List Int))(s:Sr):Nat:=P1 g s+2*Lg g s+s.path.length
theorem PZ{g:List (List Int)}{s s':Sr}{v:Nat}(hv:v<g.length)(hk:s.ad v<(g.getD v []).length)(h:∀x,s'.ad x=if x=v then s.ad v+1 else s.ad x):P1 g s'+1=P1 g s:=by
 unfold P1;refine XP hv (λ x hx=>by rw[h,if_neg hx]) ?_;rw[h,if_pos rfl];omega
theorem P0{g:List (List Int)}{s s':Sr}(h:s'.at_=s.at_):P1 g s'=P1 g s:=by unfold P1 Sr.ad;rw[h]
theorem HU{g:List (List Int)}{s s':Sr}(h:s'.seen=s.seen):Lg g s'=Lg g s:=by unfold Lg Sr.sn;rw[h]
theorem Aca{g:List (List Int)}{s:Sr}{v:Nat}(hv:v<g.length)(hl:s.seen.length=g.length)(h0:s.sn v=0):Lg g (s.enter v)+1=Lg g s:=by
 have Eb:∀w,(s.enter v).sn w=if w=v then s.count+1 else s.sn w:=λ w=>ET _ _ _ _ _ (by rw[hl];exact hv)
 unfold Lg;refine XP hv (λ x hx=>by rw[Eb,if_neg hx]) ?_;rw[Eb,if_pos rfl,h0];simp
theorem Ahl(g:List (List Int))(s:Sr):Lg g s<=g.length:=by
 unfold Lg;generalize g.length=n
 induction n with
 | zero=>exact Ai _
 | succ n ih=>rw[IC];split<;>omega
theorem Ark(n:Int)(h0:0<=n)(h1:n<=24):IntKind.u64.wrap n=n:=Uz n h0 (by omega)
theorem Arl(n:Int)(h0:0<=n)(h1:n<=24):IntKind.i64.wrap n=n:=by
 simp[IntKind.wrap,IntKind.bits,IntKind.signed];omega
def IT(n k:Nat):List Int:=List.replicate k (-1)++List.replicate (n - k) 0
theorem X1(n k:Nat)(h:k<=n):(IT n k).length=n:=by simp[IT];omega
theorem Acp(n:Nat):IT n n=List.replicate n (-1):=by simp[IT]
theorem Aco(n k:Nat)(h:k<=n):(IT n k).take k++((IT n k).take k).take (n - k)++(IT n k).drop (k+min (n - k) k)=IT n (k+min (n - k) k):=by
 have t1:(IT n k).take k=List.replicate k (-1):=by simp[IT]
 have t2:(List.replicate k (-1:Int)).take (n - k)=List.replicate (min (n - k) k) (-1):=by simp
 have t3:(IT n k).drop (k+min (n - k) k)=List.replicate (n - (k+min (n - k) k)) 0:=by
   simp only[IT,List.drop_append,List.length_replicate];rw[List.drop_eq_nil_of_le (by simp),Be,List.drop_replicate]
   congr 1;omega
 rw[t1,t2,t3,List.replicate_append_replicate];rfl
theorem Axq(l:List Int):Ly 1 (BT l):=by simp[Ly,BT]
theorem Ao7(n:Nat)(hn:n<=24):
   BV prog 117 [.p (.sl (BT [-1])),.p (.int .i64 (n:Nat))] [] λ h d=>h=[(0,.arr 3 1 (BT (List.replicate n (-1))))]/\d= .ref 0 0 n n:=by
 have h0:(0:Int)<=(n:Nat):=by omega
 have h1:((n:Nat):Int)<=24:=by omega
 have w1:=Ark n h0 h1;have w2:=Arl n h0 h1;have c1:decide (((n:Nat):Int)<0)=false:=by simp
 have w3:IntKind.u64.wrap 1=1:=Uz 1 (by omega) (by omega);refine BX func117 rfl Afl (by simp[Tryz.f117]) ?_;simp only[go_sem,c1,w1,w3];refine Cq ((Asb n h0 (by omega))) ?_;have c2:decide (9223372036854775807<((n:Nat):Int))=false:=by simp;omega
 simp only[go_sem,c2,w2,Ab];refine ⟨by omega,⟨⟨by simp[Ly,BT],by simp⟩,?_⟩⟩;refine B3 (λ k:Nat=>⟨[(7,.ref 30 0 n n),(8,.p (.int .i64 (k:Nat)))],[(30,.arr 3 1 (BT (IT n k)))],48⟩) (λ k=>k<=n/\(k=0->n=0)) (λ k=>n - k) (min n 1) ⟨by omega,by omega⟩
   ?_ ?_
 . rcases n with _ | n
   . exact (Wk.forget (by simp[ZF,IT]))
   . have e1:min (n+1) 1=1:=by omega
     rw[e1];exact (Wk.forget (by simp[ZF,BT,IT]))
 rintro k m ⟨Qq,Jj⟩ ih;cases c3:decide ((k:Int)<(n:Nat))
 . obtain rfl:k=n:=by have:=Ae c3;omega
   have hl:=X1 k k (Ai _);simp only[go_sem,c3,hl];refine CR ?_;simp only[go_sem,c3,hl,Acp]
 . have hk3:k<n:=by simpa using Ad c3
   have hl:=X1 n k (by omega);have h4:(0:Int)<=(k:Int)/\(k:Int)<=((n:Nat):Int):=by omega
   simp only[go_sem,c3,h4,hl];refine Di [(30,.arr 3 1 (BT (IT n k)))] mixed (p:=[(0,0),(1,0),(2,0),(3,0),(4,0),(5,0),(6,0),(7,4),(8,4),(9,4)]) (by kernel_rfl) (by simp[C5,get]) ?_;have S2:(BT (IT n k)).length=n:=by rw[BS];exact hl
   have e1:(((n:Nat):Int) - (k:Int)).toNat=n - k:=by omega
   have e2:((k:Int) - 0).toNat=k:=by omega
   have e3:((BT (IT n k)).take k).length=k:=by rw[Bm,S2];omega
   have e4:IntKind.i64.wrap ((k:Int)+((min (n - k) k:Nat):Int))=((k+min (n - k) k:Nat):Int):=by
     simp[IntKind.wrap,IntKind.bits,IntKind.signed];omega
   have e5:(BT (IT n k)).take k++((BT (IT n k)).take k).take (n - k)++(BT (IT n k)).drop (k+min (n - k) k)=BT (IT n (k+min (n - k) k)):=by
     rw[<-Aco n k Qq];simp[BT,Bu,List.map_drop]
   have e6:Ly 1 ((BT (IT n k)).take k):=by
     rw[Od];exact Axq _
   simp only[go_sem,c3,h4,hl];simp only[e1,e2,e3,e4,e5];refine ⟨Int.le_refl _,⟨e6,by omega⟩,ih (k+min (n - k) k) _ ⟨by omega,by omega⟩ (by omega) (Wk.forget (by simp[ZF]))⟩
def WT(a0:List Int)(a1:Int):Int->Option ((Int)⊕(Int⊕Bool))
 | v2=>cond (decide (v2<((a0.length:Nat):Int))) (Option.bind (CB a0 v2) λ x9=>cond (decide (x9=a1)) (some (Sum.inr (.inr ((true:Bool))))) (some (Sum.inl (IntKind.i64.wrap (v2+1))))) (some (Sum.inr (.inl v2)))
def Abj(a0:List Int)(a1:Int):Option (Bool):=
 Option.bind (Ct (WT a0 a1) 0) (λ | .inl R2=>some false | .inr (r15)=>some r15)
def MK(a0:List Int)(a1:Int):(List Int)×Bool×Int->Option (((List Int)×Bool×Int)⊕(((List Int)×Bool×Int)))
 | (v6,v7,v8)=>cond (decide (v8<((a0.length:Nat):Int))) (cond v7 (Option.bind (CB a0 v8) λ x26=>cond (decide (v6.length+1<10000000)) (some (Sum.inl ((v6++[x26]),true,(IntKind.i64.wrap (v8+1))))) none) (Option.bind (CB a0 v8) λ ZT=>cond (decide (a1<ZT)) (cond (decide (v6.length+1<10000000)) (cond (decide ((v6++[a1]).length+1<10000000)) (some (Sum.inl (((v6++[a1])++[ZT]),true,(IntKind.i64.wrap (v8+1))))) none) none) (cond (decide (v6.length+1<10000000)) (some (Sum.inl ((v6++[ZT]),false,(IntKind.i64.wrap (v8+1))))) none))) (some (Sum.inr (v6,v7,v8)))
def SP(a0:List Int)(a1:Int):Option ((List Int)):=
 Option.bind (Ct (MK a0 a1) ([],false,0)) (λ (v32,v33,v34)=>cond v33 (some v32) (cond (decide (v32.length+1<10000000)) (some (v32++[a1])) none))
def MH(a0:Nt)(a1:List UInt8):Int->Option ((Int)⊕(Int⊕Int))
 | v2=>cond (decide (v2<((a0.blocks.length:Nat):Int))) (Option.bind (CB a0.blocks v2) λ x9=>cond (decide (x9.name=a1)) (some (Sum.inr (.inr ((v2:Int))))) (some (Sum.inl (IntKind.i64.wrap (v2+1))))) (some (Sum.inr (.inl v2)))
def HY(a0:Nt)(a1:List UInt8):Option (Int):=
 Option.bind (Ct (MH a0 a1) 0) (λ | .inl R2=>some (-1) | .inr (r15)=>some r15)
def OJ(a0:Nt)(a1:List UInt8):Int->Option ((Int)⊕(Int⊕Int))
 | v2=>cond (decide (v2<((a0.spurs.length:Nat):Int))) (Option.bind (CB a0.spurs v2) λ x9=>cond (decide (x9.name=a1)) (some (Sum.inr (.inr ((v2:Int))))) (some (Sum.inl (IntKind.i64.wrap (v2+1))))) (some (Sum.inr (.inl v2)))
def OI(a0:Nt)(a1:List UInt8):Option (Int):=
 Option.bind (Ct (OJ a0 a1) 0) (λ | .inl R2=>some (-1) | .inr (r15)=>some r15)
def JG(a0:Ah8):Option (Bool):=
 cond (decide (1<=a0.cq)) (cond (decide (a0.cq<=8)) (cond (decide (0<=a0.ca)) (cond (decide (a0.ca<=4)) (cond (decide (0<=a0.cd)) (cond (decide (a0.cd<=3)) (cond (decide (1<=a0.cp)) (some (decide (a0.cp<=16))) (some false)) (some false)) (some false)) (some false)) (some false)) (some false)) (some false)
def P3(a0:List EH)(a1:List (List Int))(a2:List CX)(a3:List Int)(a4:Int)(a5:Int)(a6:Int)(a7:Int)(a8:Bool)(a9:Dc):Option (Int×(List EH)×(List (List Int))×(List CX)×(List Int)×Int×Int×Int×Int×Bool):=
 Option.bind (CB a9.names 0) λ x1=>Option.bind (HY (⟨a0,a1,a2,a3,a4,a5,a6,a7⟩:Nt) x1) λ x5=>cond (decide (0<=x5)) (some (8,a0,a1,a2,a3,a4,a5,a6,a7,a8)) (Option.bind (OI (⟨a0,a1,a2,a3,a4,a5,a6,a7⟩:Nt) x1) λ x8=>cond (decide (0<=x8)) (some (8,a0,a1,a2,a3,a4,a5,a6,a7,a8)) (cond (decide (((a0.length:Nat):Int)=24)) (some (14,a0,a1,a2,a3,a4,a5,a6,a7,a8)) (Option.bind (CB a9.B2 0) λ VY=>Option.bind (CB a9.B2 1) λ PM=>cond (decide (a0.length+1<10000000)) (cond (decide (a1.length+1<10000000)) (some (0,(a0++[(⟨x1,VY,PM⟩:EH)]),(a1++[[]]),a2,a3,a4,a5,a6,a7,a8)) none) none)))
def J2(a0:List EH)(a2:List CX)(a3:List Int)(a4:Int)(a5:Int)(a6:Int)(a7:Int)(a8:Bool)(a9:Dc):(List (List Int))×Int->Option (((List (List Int))×Int)⊕(((List (List Int))×Int)⊕(Int×(List EH)×(List (List Int))×(List CX)×(List Int)×Int×Int×Int×Int×Bool)))
 | (v3,v4)=>cond (decide ((IntKind.i64.wrap (v4+1))<((a9.names.length:Nat):Int))) (Option.bind (CB a9.names v4) λ DD=>Option.bind (CB a9.names (IntKind.i64.wrap (v4+1))) λ x15=>Option.bind (HY (⟨a0,v3,a2,a3,a4,a5,a6,a7⟩:Nt) DD) λ x19=>Option.bind (HY (⟨a0,v3,a2,a3,a4,a5,a6,a7⟩:Nt) x15) λ x21=>cond (decide (x19<0)) (some (Sum.inr (.inr (((9,a0,v3,a2,a3,a4,a5,a6,a7,a8):Int×(List EH)×(List (List Int))×(List CX)×(List Int)×Int×Int×Int×Int×Bool))))) (cond (decide (x21<0)) (some (Sum.inr (.inr (((9,a0,v3,a2,a3,a4,a5,a6,a7,a8):Int×(List EH)×(List (List Int))×(List CX)×(List Int)×Int×Int×Int×Int×Bool))))) (cond (decide (x19=x21)) (some (Sum.inr (.inr (((10,a0,v3,a2,a3,a4,a5,a6,a7,a8):Int×(List EH)×(List (List Int))×(List CX)×(List Int)×Int×Int×Int×Int×Bool))))) (Option.bind (CB v3 x19) λ x26=>Option.bind (Abj x26 x21) λ x30=>cond x30 (some (Sum.inr (.inr (((11,a0,v3,a2,a3,a4,a5,a6,a7,a8):Int×(List EH)×(List (List Int))×(List CX)×(List Int)×Int×Int×Int×Int×Bool))))) (cond (decide (((x26.length:Nat):Int)=4)) (some (Sum.inr (.inr (((14,a0,v3,a2,a3,a4,a5,a6,a7,a8):Int×(List EH)×(List (List Int))×(List CX)×(List Int)×Int×Int×Int×Int×Bool))))) (Option.bind (SP x26 x21) λ x34=>some (Sum.inl ((v3.set (Int.toNat x19) x34),(IntKind.i64.wrap (v4+1)))))))))) (some (Sum.inr (.inl (v3,v4))))
def Sq(a0:List EH)(a1:List (List Int))(a2:List CX)(a3:List Int)(a4:Int)(a5:Int)(a6:Int)(a7:Int)(a8:Bool)(a9:Dc):Option (Int×(List EH)×(List (List Int))×(List CX)×(List Int)×Int×Int×Int×Int×Bool):=
 Option.bind (Ct (J2 a0 a2 a3 a4 a5 a6 a7 a8 a9) (a1,0)) (λ | .inl (v36,v37)=>some (0,a0,v36,a2,a3,a4,a5,a6,a7,a8) | .inr (r38)=>some r38)
def OL(a0:List EH)(a1:List (List Int))(a2:List CX)(a3:List Int)(a4:Int)(a5:Int)(a6:Int)(a7:Int)(a8:Bool)(a9:Dc):Option (Int×(List EH)×(List (List Int))×(List CX)×(List Int)×Int×Int×Int×Int×Bool):=
 Option.bind (CB a9.names 1) λ x1=>Option.bind (CB a9.names 2) λ x5=>Option.bind (HY (⟨a0,a1,a2,a3,a4,a5,a6,a7⟩:Nt) x1) λ x9=>Option.bind (HY (⟨a0,a1,a2,a3,a4,a5,a6,a7⟩:Nt) x5) λ DD=>Option.bind (CB a9.names 0) λ PN=>Option.bind (HY (⟨a0,a1,a2,a3,a4,a5,a6,a7⟩:Nt) PN) λ RI=>cond (decide (0<=RI)) (some (8,a0,a1,a2,a3,a4,a5,a6,a7,a8)) (Option.bind (OI (⟨a0,a1,a2,a3,a4,a5,a6,a7⟩:Nt) PN) λ TW=>cond (decide (0<=TW)) (some (8,a0,a1,a2,a3,a4,a5,a6,a7,a8)) (cond (decide (x9<0)) (some (9,a0,a1,a2,a3,a4,a5,a6,a7,a8)) (cond (decide (DD<0)) (some (9,a0,a1,a2,a3,a4,a5,a6,a7,a8)) (Option.bind (CB a9.B2 0) λ PH=>cond (decide (PH<1)) (some (12,a0,a1,a2,a3,a4,a5,a6,a7,a8)) (cond (decide (4<PH)) (some (12,a0,a1,a2,a3,a4,a5,a6,a7,a8)) (cond (decide (((a2.length:Nat):Int)=6)) (some (14,a0,a1,a2,a3,a4,a5,a6,a7,a8)) (cond (decide (a2.length+1<10000000)) (some (0,a0,a1,(a2++[(⟨PN,decide (a9.word=4),x9,DD,PH,0⟩:CX)]),a3,a4,a5,a6,a7,a8)) none)))))))
def P2(a0:List EH)(a1:List (List Int))(a2:List CX)(a3:List Int)(a4:Int)(a5:Int)(a6:Int)(a7:Int)(a8:Bool)(a9:Dc):Option (Int×(List EH)×(List (List Int))×(List CX)×(List Int)×Int×Int×Int×Int×Bool):=
 Option.bind (CB a9.names 0) λ x1=>Option.bind (OI (⟨a0,a1,a2,a3,a4,a5,a6,a7⟩:Nt) x1) λ x5=>cond (decide (x5<0)) (some (9,a0,a1,a2,a3,a4,a5,a6,a7,a8)) (Option.bind (CB a2 x5) λ x8=>cond x8.Cy (Option.bind (CB a9.B2 0) λ PN=>cond (decide (PN<1)) (some (12,a0,a1,a2,a3,a4,a5,a6,a7,a8)) (cond (decide (x8.Ch<PN)) (some (12,a0,a1,a2,a3,a4,a5,a6,a7,a8)) (Option.bind (Abj a3 (IntKind.i64.wrap ((IntKind.i64.wrap (x5*8))+PN))) λ x19=>cond x19 (some (13,a0,a1,a2,a3,a4,a5,a6,a7,a8)) (cond (decide (((a3.length:Nat):Int)=8)) (some (14,a0,a1,a2,a3,a4,a5,a6,a7,a8)) (cond (decide (a3.length+1<10000000)) (some (0,a0,a1,a2,(a3++[(IntKind.i64.wrap ((IntKind.i64.wrap (x5*8))+PN))]),a4,a5,a6,a7,a8)) none))))) (some (9,a0,a1,a2,a3,a4,a5,a6,a7,a8)))
def NP(a0:List EH)(a1:List (List Int))(a2:List CX)(a3:List Int)(a4:Int)(a5:Int)(a6:Int)(a7:Int)(a8:Bool)(a9:Dc):Option (Int×(List EH)×(List (List Int))×(List CX)×(List Int)×Int×Int×Int×Int×Bool):=
 cond a8 (some (11,a0,a1,a2,a3,a4,a5,a6,a7,true)) (Option.bind (CB a9.B2 0) λ x2=>Option.bind (CB a9.B2 1) λ x6=>Option.bind (CB a9.B2 2) λ x10=>Option.bind (CB a9.B2 3) λ Nj=>Option.bind (JG (⟨x2,x6,x10,Nj⟩:Ah8)) λ ZT=>cond ZT (some (0,a0,a1,a2,a3,x2,x6,x10,Nj,true)) (some (19,a0,a1,a2,a3,a4,a5,a6,a7,false)))
def Pg(l:List UInt8):Option Bool:=some (CG l)
theorem Vq(l:List UInt8)(r:Bool)(h:Pg l=some r):BV prog 42 [.p (.str l)] [] λ h d=>h=[]/\d= .p (.bool r):=by cases h;exact OT l
def Aav(l:List UInt8):Option Bool:=some (CG l)
def LP(a0:Int):Option (Int×Int):=
 cond (decide (a0=1)) (some (1,2)) (cond (decide (a0=2)) (some (2,0)) (cond (decide (a0=3)) (some (3,1)) (cond (decide (a0=4)) (some (3,1)) (cond (decide (a0=5)) (some (1,1)) (some (0,4))))))
def FO(a0:Dc):Int->Option ((Int)⊕(Int⊕Bool))
 | v18=>cond (decide (v18<((a0.B2.length:Nat):Int))) (Option.bind (CB a0.B2 v18) λ PH=>cond (decide (PH<(-9999))) (some (Sum.inr (.inr ((false:Bool))))) (cond (decide (9999<PH)) (some (Sum.inr (.inr ((false:Bool))))) (some (Sum.inl (IntKind.i64.wrap (v18+1)))))) (some (Sum.inr (.inl v18)))
def FN(a0:Dc):Int->Option ((Int)⊕(Int⊕Bool))
 | v10=>cond (decide (v10<((a0.names.length:Nat):Int))) (Option.bind (CB a0.names v10) λ x33=>Option.bind (Aav x33) λ x37=>cond x37 (some (Sum.inl (IntKind.i64.wrap (v10+1)))) (some (Sum.inr (.inr ((false:Bool)))))) (some (Sum.inr (.inl v10)))
def LQ(a0:Dc):Option (Bool):=
 cond (decide (a0.word<1)) (some false) (cond (decide (6<a0.word)) (some false) (Option.bind (LP a0.word) λ (x3,x4)=>cond (decide (((a0.B2.length:Nat):Int)=x4)) (cond (decide (((a0.names.length:Nat):Int)<x3)) (some false) (cond (decide (x3<((a0.names.length:Nat):Int))) (cond (decide (a0.word=2)) (Option.bind (Ct (FN a0) 0) (λ | .inl v90=>Option.bind (Ct (FO a0) 0) (λ | .inl v105=>some true | .inr (Ayr)=>some Ayr) | .inr (Ayq)=>some Ayq)) (some false)) (Option.bind (Ct (FN a0) 0) (λ | .inl v40=>Option.bind (Ct (FO a0) 0) (λ | .inl v55=>some true | .inr (r56)=>some r56) | .inr (r57)=>some r57)))) (some false)))
def Jt(a0:List EH)(a1:List (List Int))(a2:List CX)(a3:List Int)(a4:Int)(a5:Int)(a6:Int)(a7:Int)(a8:Bool)(a9:Dc):Option (Int×(List EH)×(List (List Int))×(List CX)×(List Int)×Int×Int×Int×Int×Bool):=
 Option.bind (LQ (⟨a9.word,a9.line,a9.names,a9.B2⟩:Dc)) λ x1=>cond x1 (cond (decide (a9.word=1)) (Option.bind (P3 a0 a1 a2 a3 a4 a5 a6 a7 a8 (⟨a9.word,a9.line,a9.names,a9.B2⟩:Dc)) λ (x64,x65,x66,x67,x68,x69,x70,Ld,x72,x73)=>some (x64,x65,x66,x67,x68,x69,x70,Ld,x72,x73)) (cond (decide (a9.word=2)) (Option.bind (Sq a0 a1 a2 a3 a4 a5 a6 a7 a8 (⟨a9.word,a9.line,a9.names,a9.B2⟩:Dc)) λ (x53,x54,x55,x56,x57,x58,x59,x60,x61,x62)=>some (x53,x54,x55,x56,x57,x58,x59,x60,x61,x62)) (cond (decide (a9.word=3)) (Option.bind (OL a0 a1 a2 a3 a4 a5 a6 a7 a8 (⟨a9.word,a9.line,a9.names,a9.B2⟩:Dc)) λ (x42,x43,x44,x45,XB,x47,x48,x49,x50,x51)=>some (x42,x43,x44,x45,XB,x47,x48,x49,x50,x51)) (cond (decide (a9.word=4)) (Option.bind (OL a0 a1 a2 a3 a4 a5 a6 a7 a8 (⟨a9.word,a9.line,a9.names,a9.B2⟩:Dc)) λ (x31,Xq,x33,x34,x35,x36,x37,x38,x39,x40)=>some (x31,Xq,x33,x34,x35,x36,x37,x38,x39,x40)) (cond (decide (a9.word=5)) (Option.bind (P2 a0 a1 a2 a3 a4 a5 a6 a7 a8 (⟨a9.word,a9.line,a9.names,a9.B2⟩:Dc)) λ (TW,x21,x22,x23,x24,PH,x26,VX,x28,x29)=>some (TW,x21,x22,x23,x24,PH,x26,VX,x28,x29)) (Option.bind (NP a0 a1 a2 a3 a4 a5 a6 a7 a8 (⟨a9.word,a9.line,a9.names,a9.B2⟩:Dc)) λ (x9,x10,DD,VY,PN,Nj,x15,PM,RI,ZT)=>some (x9,x10,DD,VY,PN,Nj,x15,PM,RI,ZT))))))) (some (20,a0,a1,a2,a3,a4,a5,a6,a7,a8))
def FG(a0:List Int)(a1:List Int):Int->Option ((Int)⊕(Int⊕Bool))
 | v3=>cond (decide (v3<((a0.length:Nat):Int))) (Option.bind (CB a0 v3) λ x10=>Option.bind (CB a1 v3) λ Nj=>cond (decide (x10=Nj)) (some (Sum.inl (IntKind.i64.wrap (v3+1)))) (some (Sum.inr (.inr ((false:Bool)))))) (some (Sum.inr (.inl v3)))
def HP(a0:List Int)(a1:List Int):Option (Bool):=
 cond (decide (((a0.length:Nat):Int)=((a1.length:Nat):Int))) (Option.bind (Ct (FG a0 a1) 0) (λ | .inl v19=>some true | .inr (r20)=>some r20)) (some false)
theorem Rq(a0:List Int)(a1:List Int)(r:Bool)(hr:HP a0 a1=some r):
   BV prog 26 [.p (.sl (BT a0)),.p (.sl (BT a1))] [] λ h d=>h=[]/\d= .p (.bool r):=by
 refine BX func26 rfl Alm (by simp[Tryz.f26]) ?_;unfold HP at hr;cases c1:decide (((a0.length:Nat):Int)=((a1.length:Nat):Int))
 . simp only[c1,Aj] at hr;cases hr;(try simp only[go_sem,c1]);all_goals ((try refine BU ?_);(try simp only[go_sem,c1]);try first | rfl | exact ⟨rfl,rfl⟩ | (simp;done))
 simp only[c1,Ak] at hr;obtain ⟨e7,g8,hr⟩:=bE hr;try simp only[go_sem,c1]
 refine CV g8 (λ q:Int=>⟨[(0,.p (.sl (BT a0))),(1,.p (.sl (BT a1))),(5,.p (.int .i64 q))],[],26⟩) ((Wk.forget (by simp[ZF,ZE]))) ?_;rintro v3 m6 GP ih5;rw[FG.eq_1] at GP;cases c9:decide (v3<((a0.length:Nat):Int))
 . simp only[c9,Aj] at GP;simp only[Aa,BZ] at GP;cases GP;(try dsimp only at hr);cases hr;(try simp only[go_sem,c9]);all_goals ((try refine BU ?_);(try simp only[go_sem,c9]);try first | rfl | exact ⟨rfl,rfl⟩ | (simp;done))
 simp only[c9,Ak] at GP;try simp only[go_sem,c9]
 refine CE mixed (p:=[(0,0),(1,0),(2,0),(3,0),(4,0),(5,0),(6,0),(7,0),(8,0)]) (by kernel_rfl) (by simp[C5,get]) ?_;obtain ⟨x10,g11,GP⟩:=bK GP;have f12:=B5 g11;have f13:(BT a0).getD (Int.toNat v3) []=[(.int .i64 x10)]:=B6 _ g11;obtain ⟨Nj,g15,GP⟩:=bK GP;have f16:=B5 g15;have f17:(BT a1).getD (Int.toNat v3) []=[(.int .i64 Nj)]:=B6 _ g15;cases JV:decide (x10=Nj)
 . simp only[JV,Aj] at GP;simp only[Aa,BZ] at GP;cases GP;(try dsimp only at hr);cases hr;(try simp only[go_sem,f12,f13,f16,f17,JV]);all_goals ((try refine BU ?_);(try simp only[go_sem,f12,f13,f16,f17,JV]);try first | rfl | exact ⟨rfl,rfl⟩ | (simp;done))
 simp only[JV,Ak] at GP;simp only[Aa,B0] at GP;try simp only[go_sem,f12,f13,f16,f17,JV]
 exact ih5 (IntKind.i64.wrap (v3+1)) _ GP ((Wk.forget (by simp[ZF,ZE])))
def CM(a0:Int)(a1:Int)(a2:Int):Option (Bool):=
 cond (decide (a1<=a0)) (some (decide (a0<=a2))) (some false)
theorem CZ(a0:Int)(a1:Int)(a2:Int)(r:Bool)(hr:CM a0 a1 a2=some r):
   BV prog 40 [.p (.int .i64 a0),.p (.int .i64 a1),.p (.int .i64 a2)] [] λ h d=>h=[]/\d= .p (.bool r):=by
 refine BX func40 rfl YU (by simp[Tryz.f40]) ?_;unfold CM at hr;cases c1:decide (a1<=a0)
 . simp only[c1,Aj] at hr;cases hr;(try simp only[go_sem,c1]);all_goals ((try refine BU ?_);(try simp only[go_sem,c1]);try first | rfl | exact ⟨rfl,rfl⟩ | (simp;done))
 simp only[c1,Ak] at hr;cases hr;try simp only[go_sem,c1]
 all_goals ((try refine BU ?_);(try simp only[go_sem,c1]);try first | rfl | exact ⟨rfl,rfl⟩ | (simp;done))
def DO(a0:Ah8):Option (Bool):=
 Option.bind (CM a0.cq 1 8) λ x1=>cond x1 (Option.bind (CM a0.ca 0 4) λ x4=>cond x4 (Option.bind (CM a0.cd 0 3) λ x7=>cond x7 (Option.bind (CM a0.cp 1 16) λ x10=>some x10) (some false)) (some false)) (some false)
theorem KR(a0:Ah8)(r:Bool)(hr:DO a0=some r):
   BV prog 41 [.agg [.p (.int .i64 a0.cq),.p (.int .i64 a0.ca),.p (.int .i64 a0.cd),.p (.int .i64 a0.cp)]] [] λ h d=>h=[]/\d= .p (.bool r):=by
 refine BX func41 rfl YT (by simp[Tryz.f41]) ?_;unfold DO at hr;obtain ⟨x1,g2,hr⟩:=bE hr;try simp only[go_sem]
 refine Cq (CZ a0.cq 1 8 _ g2) ?_;cases c3:x1
 . simp only[c3,Aj] at hr;cases hr;(try simp only[go_sem,c3]);all_goals ((try refine BU ?_);(try simp only[go_sem,c3]);try first | rfl | exact ⟨rfl,rfl⟩ | (simp;done))
 simp only[c3,Ak] at hr;obtain ⟨x4,g5,hr⟩:=bE hr;try simp only[go_sem,c3]
 refine Cq (CZ a0.ca 0 4 _ g5) ?_;cases c6:x4
 . simp only[c6,Aj] at hr;cases hr;(try simp only[go_sem,c3,c6]);all_goals ((try refine BU ?_);(try simp only[go_sem,c3,c6]);try first | rfl | exact ⟨rfl,rfl⟩ | (simp;done))
 simp only[c6,Ak] at hr;obtain ⟨x7,g8,hr⟩:=bE hr;try simp only[go_sem,c3,c6]
 refine Cq (CZ a0.cd 0 3 _ g8) ?_;cases c9:x7
 . simp only[c9,Aj] at hr;cases hr;(try simp only[go_sem,c6,c9]);all_goals ((try refine BU ?_);(try simp only[go_sem,c6,c9]);try first | rfl | exact ⟨rfl,rfl⟩ | (simp;done))
 simp only[c9,Ak] at hr;obtain ⟨x10,g11,hr⟩:=bE hr;try simp only[go_sem,c6,c9]
 refine Cq (CZ a0.cp 1 16 _ g11) ?_;cases hr;try simp only[go_sem,c9]
 all_goals ((try refine BU ?_);(try simp only[go_sem,c9]);try first | rfl | exact ⟨rfl,rfl⟩ | (simp;done))
def D4(a0:List Int)(a1:Int)(a2:Int):Int×Int->Option ((Int×Int)⊕((Int×Int)⊕Bool))
 | (v3,v4)=>cond (decide (v3<((a0.length:Nat):Int))) (Option.bind (CB a0 v3) λ DD=>cond (decide (DD<=v4)) (some (Sum.inr (.inr ((false:Bool))))) (cond (decide (a2<=DD)) (some (Sum.inr (.inr ((false:Bool))))) (cond (decide (DD=a1)) (some (Sum.inr (.inr ((false:Bool))))) (some (Sum.inl ((IntKind.i64.wrap (v3+1)),DD)))))) (some (Sum.inr (.inl (v3,v4))))
def Eg(a0:List Int)(a1:Int)(a2:Int):Option (Bool):=
 Option.bind (Ct (D4 a0 a1 a2) (0,(-1))) (λ | .inl (v18,v19)=>some (decide (((a0.length:Nat):Int)<=4)) | .inr (r20)=>some r20)
theorem L3(a0:List Int)(a1:Int)(a2:Int)(r:Bool)(hr:Eg a0 a1 a2=some r):
   BV prog 43 [.p (.sl (BT a0)),.p (.int .i64 a1),.p (.int .i64 a2)] [] λ h d=>h=[]/\d= .p (.bool r):=by
 refine BX func43 rfl Ale (by simp[Tryz.f43]) ?_;unfold Eg at hr;obtain ⟨e8,g9,hr⟩:=bE hr;try simp only[go_sem]
 refine CV g9 (λ q:Int×Int=>⟨[(0,.p (.sl (BT a0))),(1,.p (.int .i64 a1)),(2,.p (.int .i64 a2)),(7,.p (.int .i64 q.2)),(10,.p (.sl (BT a0))),(11,.p (.int .i64 ((a0.length:Nat):Int))),(12,.p (.int .i64 q.1))],[],34⟩) ((Wk.forget (by simp[ZF,ZE]))) ?_;rintro ⟨v3,v4⟩ m7 Ig ih6;rw[D4.eq_1] at Ig;cases JX:decide (v3<((a0.length:Nat):Int))
 . simp only[JX,Aj] at Ig;simp only[Aa,BZ] at Ig;cases Ig;(try dsimp only at hr);cases hr;(try simp only[go_sem,JX]);all_goals ((try refine BU ?_);(try simp only[go_sem,JX]);try first | rfl | exact ⟨rfl,rfl⟩ | (simp;done))
 simp only[JX,Ak] at Ig;obtain ⟨DD,g12,Ig⟩:=bK Ig;have f13:=B5 g12;have f14:(BT a0).getD (Int.toNat v3) []=[(.int .i64 DD)]:=B6 _ g12;cases Jx:decide (DD<=v4)
 . simp only[Jx,Aj] at Ig;cases JW:decide (a2<=DD)
   . simp only[JW,Aj] at Ig;cases Oz:decide (DD=a1)
     . simp only[Oz,Aj] at Ig;simp only[Aa,B0] at Ig;(try simp only[go_sem,JX,f13,f14,Jx,JW,Oz]);exact ih6 ((IntKind.i64.wrap (v3+1)),DD) _ Ig ((Wk.forget (by simp[ZF,ZE])))
     simp only[Oz,Ak] at Ig;simp only[Aa,BZ] at Ig;cases Ig;(try dsimp only at hr);cases hr;(try simp only[go_sem,JX,f13,f14,Jx,JW,Oz]);all_goals ((try refine BU ?_);(try simp only[go_sem,JX,f13,f14,Jx,JW,Oz]);try first | rfl | exact ⟨rfl,rfl⟩ | (simp;done))
   simp only[JW,Ak] at Ig;simp only[Aa,BZ] at Ig;cases Ig;(try dsimp only at hr);cases hr;(try simp only[go_sem,JX,f13,f14,Jx,JW]);all_goals ((try refine BU ?_);(try simp only[go_sem,JX,f13,f14,Jx,JW]);try first | rfl | exact ⟨rfl,rfl⟩ | (simp;done))
 simp only[Jx,Ak] at Ig;simp only[Aa,BZ] at Ig;cases Ig;try dsimp only at hr
 cases hr;try simp only[go_sem,JX,f13,f14,Jx]
 all_goals ((try refine BU ?_);(try simp only[go_sem,JX,f13,f14,Jx]);try first | rfl | exact ⟨rfl,rfl⟩ | (simp;done))
def EA(a0:Nt):(List (Int×Bool))×Int->Option (((List (Int×Bool))×Int)⊕(((List (Int×Bool))×Int)))
 | (v37,v38)=>cond (decide (v38<((a0.BW.length:Nat):Int))) (Option.bind (CB a0.BW v38) λ x45=>some (Sum.inl ((Lx v37 x45),(IntKind.i64.wrap (v38+1))))) (some (Sum.inr (v37,v38)))
def D2(a0:Nt):(List (Int×Bool))×Bool×Int->Option (((List (Int×Bool))×Bool×Int)⊕(((List (Int×Bool))×Bool×Int)))
 | (v54,v55,v56)=>cond (decide (v56<((a0.BW.length:Nat):Int))) (Option.bind (CB a0.BW v56) λ Mz=>cond v55 (some (Sum.inl ((Lx v54 Mz),((Iz v54 Mz).getD false),(IntKind.i64.wrap (v56+1))))) (some (Sum.inl ((Lx v54 Mz),false,(IntKind.i64.wrap (v56+1)))))) (some (Sum.inr (v54,v55,v56)))
def Ez(Ld:CX):(List (Int×Bool))×Int×Int->Option (((List (Int×Bool))×Int×Int)⊕(((List (Int×Bool))×Int×Int)))
 | (v91,v92,v93)=>cond (decide (v92<Ld.Ch)) (cond Ld.Cy (some (Sum.inl ((P5 v91 v93 true),(IntKind.i64.wrap (v92+1)),(IntKind.i64.wrap (v93+1))))) (some (Sum.inl (v91,(IntKind.i64.wrap (v92+1)),(IntKind.i64.wrap (v93+1)))))) (some (Sum.inr (v91,v92,v93)))
def Ey(a0:Nt):(List (List UInt8×Int))×(List (Int×Bool))×Int×Int->Option (((List (List UInt8×Int))×(List (Int×Bool))×Int×Int)⊕(((List (List UInt8×Int))×(List (Int×Bool))×Int×Int)⊕Bool))
 | (v24,RJ,v26,UC)=>cond (decide (UC<((a0.spurs.length:Nat):Int))) (Option.bind (CB a0.spurs UC) λ Ld=>Option.bind (Pg Ld.name) λ x75=>cond x75 (Option.bind (CM Ld.Ip 0 (IntKind.i64.wrap (((a0.blocks.length:Nat):Int) - 1))) λ x78=>cond x78 (Option.bind (CM Ld.out 0 (IntKind.i64.wrap (((a0.blocks.length:Nat):Int) - 1))) λ x81=>cond x81 (Option.bind (CM Ld.Ch 1 4) λ x84=>cond x84 (cond (decide (Ld.base=v26)) (Option.bind (Ct (Ez Ld) (RJ,0,v26)) (λ (Ay3,v102,Ay2)=>some (Sum.inl ((HC v24 Ld.name (IntKind.i64.wrap (((DJ v24 Ld.name).getD 0)+1))),Ay3,Ay2,(IntKind.i64.wrap (UC+1)))))) (some (Sum.inr (.inr ((false:Bool)))))) (some (Sum.inr (.inr ((false:Bool)))))) (some (Sum.inr (.inr ((false:Bool)))))) (some (Sum.inr (.inr ((false:Bool)))))) (some (Sum.inr (.inr ((false:Bool)))))) (some (Sum.inr (.inl (v24,RJ,v26,UC))))
def Ex(a0:Nt):(List (List UInt8×Int))×Int->Option (((List (List UInt8×Int))×Int)⊕(((List (List UInt8×Int))×Int)⊕Bool))
 | (v12,M6)=>cond (decide (M6<((a0.blocks.length:Nat):Int))) (Option.bind (CB a0.blocks M6) λ OA=>Option.bind (Pg OA.name) λ Arh=>cond Arh (Option.bind (CM OA.x (-9999) 9999) λ Ahd=>cond Ahd (Option.bind (CM OA.y (-9999) 9999) λ Arf=>cond Arf (Option.bind (CB a0.next M6) λ Ank=>Option.bind (Eg Ank M6 ((a0.blocks.length:Nat):Int)) λ Are=>cond Are (some (Sum.inl ((HC v12 OA.name (IntKind.i64.wrap (((DJ v12 OA.name).getD 0)+1))),(IntKind.i64.wrap (M6+1))))) (some (Sum.inr (.inr ((false:Bool)))))) (some (Sum.inr (.inr ((false:Bool)))))) (some (Sum.inr (.inr ((false:Bool)))))) (some (Sum.inr (.inr ((false:Bool)))))) (some (Sum.inr (.inl (v12,M6))))
def ES(a0:Nt):Option (Bool):=
 Option.bind (CM ((a0.blocks.length:Nat):Int) 1 24) λ x1=>cond x1 (cond (decide (((a0.next.length:Nat):Int)=((a0.blocks.length:Nat):Int))) (cond (decide (6<((a0.spurs.length:Nat):Int))) (some false) (cond (decide (8<((a0.BW.length:Nat):Int))) (some false) (Option.bind (DO (⟨a0.cq,a0.ca,a0.cd,a0.cp⟩:Ah8)) λ x7=>cond x7 (Option.bind (Ct (Ex a0) ([],0)) (λ | .inl (Axx,v167)=>Option.bind (Ct (Ey a0) (Axx,[],((a0.blocks.length:Nat):Int),0)) (λ | .inl (Arq,Anp,v254,v255)=>cond (decide (0<((Anp.length:Nat):Int))) (Option.bind (Ct (D2 a0) (Anp,decide (((Arq.length:Nat):Int)=(IntKind.i64.wrap (((a0.blocks.length:Nat):Int)+((a0.spurs.length:Nat):Int)))),0)) (λ (v290,Axw,v292)=>some Axw)) (Option.bind (Ct (EA a0) (Anp,0)) (λ (v271,v272)=>some false)) | .inr (Ayp)=>some Ayp) | .inr (Ayo)=>some Ayo)) (some false)))) (some false)) (some false)
theorem J9(a0:Nt)(r:Bool)(hr:ES a0=some r):
   BV prog 19 [.agg [.p (.sl (C0 a0.blocks)),.p (.sl (Cw a0.next)),.p (.sl (CY a0.spurs)),.p (.sl (BT a0.BW)),.p (.int .i64 a0.cq),.p (.int .i64 a0.ca),.p (.int .i64 a0.cd),.p (.int .i64 a0.cp)]] [] λ h d=>h=[]/\d= .p (.bool r):=by
 refine BX func19 rfl Alr (by simp[Tryz.f19]) ?_;unfold ES at hr;obtain ⟨x1,g2,hr⟩:=bE hr;try simp only[go_sem]
 refine Cq (CZ ((a0.blocks.length:Nat):Int) 1 24 _ g2) ?_;cases c3:x1
 . simp only[c3,Aj] at hr;cases hr;(try simp only[go_sem,c3]);all_goals ((try refine BU ?_);(try simp only[go_sem,c3]);try first | rfl | exact ⟨rfl,rfl⟩ | (simp;done))
 simp only[c3,Ak] at hr;cases c4:decide (((a0.next.length:Nat):Int)=((a0.blocks.length:Nat):Int))
 . simp only[c4,Aj] at hr;cases hr;(try simp only[go_sem,c3,c4]);all_goals ((try refine BU ?_);(try simp only[go_sem,c3,c4]);try first | rfl | exact ⟨rfl,rfl⟩ | (simp;done))
 simp only[c4,Ak] at hr;cases c5:decide (6<((a0.spurs.length:Nat):Int))
 . simp only[c5,Aj] at hr;cases c6:decide (8<((a0.BW.length:Nat):Int))
   . simp only[c6,Aj] at hr;obtain ⟨x7,g8,hr⟩:=bE hr;(try simp only[go_sem,c3,c4,c5,c6]);refine Cq (KR (⟨a0.cq,a0.ca,a0.cd,a0.cp⟩:Ah8) _ g8) ?_;cases c9:x7
     . simp only[c9,Aj] at hr;cases hr;(try simp only[go_sem,c6,c9]);all_goals ((try refine BU ?_);(try simp only[go_sem,c6,c9]);try first | rfl | exact ⟨rfl,rfl⟩ | (simp;done))
     simp only[c9,Ak] at hr;obtain ⟨e17,g18,hr⟩:=bE hr;(try simp only[go_sem,c6,c9]);refine CV g18 (λ q:(List (List UInt8×Int))×Int=>⟨[(1,.ptr 1 0),(3,.mv 45),(47,.p (.sl (C0 a0.blocks))),(48,.p (.int .i64 ((a0.blocks.length:Nat):Int))),(49,.p (.int .i64 q.2))],[(1,.box [.p (.sl (C0 a0.blocks)),.p (.sl (Cw a0.next)),.p (.sl (CY a0.spurs)),.p (.sl (BT a0.BW)),.p (.int .i64 a0.cq),.p (.int .i64 a0.ca),.p (.int .i64 a0.cd),.p (.int .i64 a0.cp)]),(45,.mp (JS q.1))],185⟩) ((Wk.forget (by simp[ZF,ZE,c3,c9]))) ?_;rintro ⟨v12,M6⟩ m16 Ei Asi;rw[Ex.eq_1] at Ei;cases Oy:decide (M6<((a0.blocks.length:Nat):Int))
     . simp only[Oy,Aj] at Ei;simp only[Aa,BZ] at Ei;cases Ei;(try dsimp only at hr);obtain ⟨e31,g32,hr⟩:=bE hr;(try simp only[go_sem,Oy]);refine CV g32 (λ q:(List (List UInt8×Int))×(List (Int×Bool))×Int×Int=>⟨[(1,.ptr 1 0),(3,.mv 45),(6,.p (.int .i64 q.2.2.1)),(7,.mv 92),(94,.p (.sl (CY a0.spurs))),(95,.p (.int .i64 ((a0.spurs.length:Nat):Int))),(96,.p (.int .i64 q.2.2.2))],[(1,.box [.p (.sl (C0 a0.blocks)),.p (.sl (Cw a0.next)),.p (.sl (CY a0.spurs)),.p (.sl (BT a0.BW)),.p (.int .i64 a0.cq),.p (.int .i64 a0.ca),.p (.int .i64 a0.cd),.p (.int .i64 a0.cp)]),(45,.mp (JS q.1)),(92,.mp (Ws q.2.1))],185⟩) ((Wk.forget (by simp[ZF,ZE,c3,c9]))) ?_;rintro ⟨v24,RJ,v26,UC⟩ m30 Dl Aow;rw[Ey.eq_1] at Dl;cases c33:decide (UC<((a0.spurs.length:Nat):Int))
       . simp only[c33,Aj] at Dl;simp only[Aa,BZ] at Dl;cases Dl;(try dsimp only at hr);(try simp only[go_sem,c33]);refine VW rfl rfl rfl rfl Aiw rfl rfl ?_;cases c34:decide (0<((RJ.length:Nat):Int))
         . simp only[c34,Aj] at hr;obtain ⟨e42,g43,hr⟩:=bE hr;(try simp only[go_sem,c34]);refine CV g43 (λ q:(List (Int×Bool))×Int=>⟨[(7,.mv 92),(10,.p (.bool false)),(169,.p (.sl (BT a0.BW))),(170,.p (.int .i64 ((a0.BW.length:Nat):Int))),(171,.p (.int .i64 q.2))],[(92,.mp (Ws q.1))],185⟩) ((Wk.forget (by simp[ZF,ZE,c3,c9]))) ?_;rintro ⟨v37,v38⟩ m41 WM Ayw;rw[EA.eq_1] at WM;cases c44:decide (v38<((a0.BW.length:Nat):Int))
           . simp only[c44,Aj] at WM;simp only[Aa,BZ] at WM;cases WM;(try dsimp only at hr);cases hr;(try simp only[go_sem,c44]);all_goals ((try refine BU ?_);(try simp only[go_sem,c44]);try first | rfl | exact ⟨rfl,rfl⟩ | (simp;done))
           simp only[c44,Ak] at WM;obtain ⟨x45,g46,WM⟩:=bK WM;have f47:=B5 g46;have f48:(BT a0.BW).getD (Int.toNat v38) []=[(.int .i64 x45)]:=B6 _ g46;(try simp only[go_sem,c44,f47,f48]);refine QP rfl rfl rfl rfl Aiw rfl rfl rfl rfl (SG _ _) ?_;simp only[Aa,B0] at WM;(try simp only[go_sem]);exact Ayw ((Lx v37 x45),(IntKind.i64.wrap (v38+1))) _ WM ((Wk.forget (by simp[ZF,ZE,c3,c9])))
         simp only[c34,Ak] at hr;(try simp only[go_sem,c34]);refine VW rfl rfl rfl rfl Av4 rfl rfl ?_;obtain ⟨e60,g61,hr⟩:=bE hr;(try simp only[go_sem,c34]);refine CV g61 (λ q:(List (Int×Bool))×Bool×Int=>⟨[(7,.mv 92),(10,.p (.bool q.2.1)),(169,.p (.sl (BT a0.BW))),(170,.p (.int .i64 ((a0.BW.length:Nat):Int))),(171,.p (.int .i64 q.2.2))],[(92,.mp (Ws q.1))],185⟩) ((Wk.forget (by simp[ZF,ZE,c3,c9]))) ?_;rintro ⟨v54,v55,v56⟩ m59 Qs Av7;rw[D2.eq_1] at Qs;cases c62:decide (v56<((a0.BW.length:Nat):Int))
         . simp only[c62,Aj] at Qs;simp only[Aa,BZ] at Qs;cases Qs;(try dsimp only at hr);cases hr;(try simp only[go_sem,c62]);all_goals ((try refine BU ?_);(try simp only[go_sem,c62]);try first | rfl | exact ⟨rfl,rfl⟩ | (simp;done))
         simp only[c62,Ak] at Qs;obtain ⟨Mz,g64,Qs⟩:=bK Qs;have f65:=B5 g64;have f66:(BT a0.BW).getD (Int.toNat v56) []=[(.int .i64 Mz)]:=B6 _ g64;cases c67:v55
         . simp only[c67,Aj] at Qs;(try simp only[go_sem,c62,f65,f66,c67]);refine QP rfl rfl rfl rfl Aiw rfl rfl rfl rfl (SG _ _) ?_;simp only[Aa,B0] at Qs;(try simp only[go_sem]);exact Av7 ((Lx v54 Mz),false,(IntKind.i64.wrap (v56+1))) _ Qs ((Wk.forget (by simp[ZF,ZE,c3,c9,c67])))
         simp only[c67,Ak] at Qs;(try simp only[go_sem,c62,f65,f66,c67]);refine QP rfl rfl rfl rfl Aiw rfl rfl rfl rfl (SG _ _) ?_;simp only[Aa,B0] at Qs;(try simp only[go_sem]);exact Av7 ((Lx v54 Mz),((Iz v54 Mz).getD false),(IntKind.i64.wrap (v56+1))) _ Qs ((Wk.forget (by simp[ZF,ZE,c3,c9,c67])))
       simp only[c33,Ak] at Dl;obtain ⟨Ld,g72,Dl⟩:=bK Dl;have f73:=B5 g72;have f74:(CY a0.spurs).getD (Int.toNat UC) []=[(.str Ld.name),(.bool Ld.Cy),(.int .i64 Ld.Ip),(.int .i64 Ld.out),(.int .i64 Ld.Ch),(.int .i64 Ld.base)]:=B6 _ g72;obtain ⟨x75,g76,Dl⟩:=bK Dl;(try simp only[go_sem,c33,f73,f74]);refine Cq (Vq Ld.name _ g76) ?_;cases c77:x75
       . simp only[c77,Aj] at Dl;simp only[Aa,BZ] at Dl;cases Dl;(try dsimp only at hr);cases hr;(try simp only[go_sem,c77]);all_goals ((try refine BU ?_);(try simp only[go_sem,c77]);try first | rfl | exact ⟨rfl,rfl⟩ | (simp;done))
       simp only[c77,Ak] at Dl;obtain ⟨x78,g79,Dl⟩:=bK Dl;(try simp only[go_sem,c77]);refine Cq (CZ Ld.Ip 0 (IntKind.i64.wrap (((a0.blocks.length:Nat):Int) - 1)) _ g79) ?_;cases c80:x78
       . simp only[c80,Aj] at Dl;simp only[Aa,BZ] at Dl;cases Dl;(try dsimp only at hr);cases hr;(try simp only[go_sem,c77,c80]);all_goals ((try refine BU ?_);(try simp only[go_sem,c77,c80]);try first | rfl | exact ⟨rfl,rfl⟩ | (simp;done))
       simp only[c80,Ak] at Dl;obtain ⟨x81,g82,Dl⟩:=bK Dl;(try simp only[go_sem,c77,c80]);refine Cq (CZ Ld.out 0 (IntKind.i64.wrap (((a0.blocks.length:Nat):Int) - 1)) _ g82) ?_;cases VP:x81
       . simp only[VP,Aj] at Dl;simp only[Aa,BZ] at Dl;cases Dl;(try dsimp only at hr);cases hr;(try simp only[go_sem,c80,VP]);all_goals ((try refine BU ?_);(try simp only[go_sem,c80,VP]);try first | rfl | exact ⟨rfl,rfl⟩ | (simp;done))
       simp only[VP,Ak] at Dl;obtain ⟨x84,g85,Dl⟩:=bK Dl;(try simp only[go_sem,c80,VP]);refine Cq (CZ Ld.Ch 1 4 _ g85) ?_;cases c86:x84
       . simp only[c86,Aj] at Dl;simp only[Aa,BZ] at Dl;cases Dl;(try dsimp only at hr);cases hr;(try simp only[go_sem,VP,c86]);all_goals ((try refine BU ?_);(try simp only[go_sem,VP,c86]);try first | rfl | exact ⟨rfl,rfl⟩ | (simp;done))
       simp only[c86,Ak] at Dl;cases c87:decide (Ld.base=v26)
       . simp only[c87,Aj] at Dl;simp only[Aa,BZ] at Dl;cases Dl;(try dsimp only at hr);cases hr;(try simp only[go_sem,VP,c86,c87]);all_goals ((try refine BU ?_);(try simp only[go_sem,VP,c86,c87]);try first | rfl | exact ⟨rfl,rfl⟩ | (simp;done))
       simp only[c87,Ak] at Dl;obtain ⟨e97,g98,Dl⟩:=bK Dl;(try simp only[go_sem,VP,c86,c87]);refine CV g98 (λ q:(List (Int×Bool))×Int×Int=>⟨[(1,.ptr 1 0),(3,.mv 45),(6,.p (.int .i64 q.2.2)),(7,.mv 92),(9,.ptr 9 0),(94,.p (.sl (CY a0.spurs))),(95,.p (.int .i64 ((a0.spurs.length:Nat):Int))),(96,.p (.int .i64 UC)),(142,.p (.int .i64 Ld.Ch)),(143,.p (.int .i64 q.2.1))],[(1,.box [.p (.sl (C0 a0.blocks)),.p (.sl (Cw a0.next)),.p (.sl (CY a0.spurs)),.p (.sl (BT a0.BW)),.p (.int .i64 a0.cq),.p (.int .i64 a0.ca),.p (.int .i64 a0.cd),.p (.int .i64 a0.cp)]),(9,.box [.p (.str Ld.name),.p (.bool Ld.Cy),.p (.int .i64 Ld.Ip),.p (.int .i64 Ld.out),.p (.int .i64 Ld.Ch),.p (.int .i64 Ld.base)]),(45,.mp (JS (HC v24 Ld.name (IntKind.i64.wrap (((DJ v24 Ld.name).getD 0)+1))))),(92,.mp (Ws q.1))],185⟩) ((Wk.forget (by simp[ZF,ZE,c3,c9,c77,c80,VP,c86]))) ?_;rintro ⟨v91,v92,v93⟩ m96 S5 Av6;rw[Ez.eq_1] at S5;cases c99:decide (v92<Ld.Ch)
       . simp only[c99,Aj] at S5;simp only[Aa,BZ] at S5;cases S5;(try dsimp only at Dl);simp only[Aa,B0] at Dl;(try simp only[go_sem,c99]);exact Aow ((HC v24 Ld.name (IntKind.i64.wrap (((DJ v24 Ld.name).getD 0)+1))),v91,v93,(IntKind.i64.wrap (UC+1))) _ Dl ((Wk.forget (by simp[ZF,ZE,c3,c9,c77,c80,VP,c86])))
       simp only[c99,Ak] at S5;cases Agr:Ld.Cy
       . simp only[Agr,Aj] at S5;simp only[Aa,B0] at S5;(try simp only[go_sem,c99,Agr]);exact Av6 (v91,(IntKind.i64.wrap (v92+1)),(IntKind.i64.wrap (v93+1))) _ S5 ((Wk.forget (by simp[ZF,ZE,c3,c9,c77,c80,VP,c86,Agr])))
       simp only[Agr,Ak] at S5;simp only[Aa,B0] at S5;(try simp only[go_sem,c99,Agr]);exact Av6 ((P5 v91 v93 true),(IntKind.i64.wrap (v92+1)),(IntKind.i64.wrap (v93+1))) _ S5 ((Wk.forget (by simp[ZF,ZE,c3,c9,c77,c80,VP,c86,Agr])))
     simp only[Oy,Ak] at Ei;obtain ⟨OA,Awo,Ei⟩:=bK Ei;have f148:=B5 Awo;have f149:(C0 a0.blocks).getD (Int.toNat M6) []=[(.str OA.name),(.int .i64 OA.x),(.int .i64 OA.y)]:=B6 _ Awo;(try simp only[go_sem,Oy,f148,f149]);refine CE mixed (p:=[(0,0),(1,0),(2,2),(3,0),(4,0),(5,0),(6,0),(7,2),(8,0),(9,0),(10,0),(11,0),(12,0),(13,2),(14,0),(15,0),(16,0),(17,0),(18,0),(19,0),(20,0),(21,0),(22,0),(23,0),(24,0),(25,0),(26,2),(27,0),(28,0)]) (by kernel_rfl) (by simp[C5,get]) ?_;obtain ⟨Arh,Bad,Ei⟩:=bK Ei;(try simp only[go_sem]);refine Gq (Vq OA.name _ Bad) ?_;cases Xf:Arh
     . simp only[Xf,Aj] at Ei;simp only[Aa,BZ] at Ei;cases Ei;(try dsimp only at hr);cases hr;(try simp only[go_sem,Xf]);all_goals ((try refine BU ?_);(try simp only[go_sem,Xf]);try first | rfl | exact ⟨rfl,rfl⟩ | (simp;done))
     simp only[Xf,Ak] at Ei;obtain ⟨Ahd,Apc,Ei⟩:=bK Ei;(try simp only[go_sem,Xf]);refine Gq (CZ OA.x (-9999) 9999 _ Apc) ?_;cases Xe:Ahd
     . simp only[Xe,Aj] at Ei;simp only[Aa,BZ] at Ei;cases Ei;(try dsimp only at hr);cases hr;(try simp only[go_sem,Xf,Xe]);all_goals ((try refine BU ?_);(try simp only[go_sem,Xf,Xe]);try first | rfl | exact ⟨rfl,rfl⟩ | (simp;done))
     simp only[Xe,Ak] at Ei;obtain ⟨Arf,Bac,Ei⟩:=bK Ei;(try simp only[go_sem,Xf,Xe]);refine Gq (CZ OA.y (-9999) 9999 _ Bac) ?_;cases Xd:Arf
     . simp only[Xd,Aj] at Ei;simp only[Aa,BZ] at Ei;cases Ei;(try dsimp only at hr);cases hr;(try simp only[go_sem,Xe,Xd]);all_goals ((try refine BU ?_);(try simp only[go_sem,Xe,Xd]);try first | rfl | exact ⟨rfl,rfl⟩ | (simp;done))
     simp only[Xd,Ak] at Ei;obtain ⟨Ank,Awm,Ei⟩:=bK Ei;have f161:=B5 Awm;have f162:(Cw a0.next).getD (Int.toNat M6) []=[(.sl (BT Ank))]:=B6 _ Awm;obtain ⟨Are,Bab,Ei⟩:=bK Ei;(try simp only[go_sem,Xe,Xd,f161,f162]);refine Gq (L3 Ank M6 ((a0.blocks.length:Nat):Int) _ Bab) ?_;cases Agp:Are
     . simp only[Agp,Aj] at Ei;simp only[Aa,BZ] at Ei;cases Ei;(try dsimp only at hr);cases hr;(try simp only[go_sem,Xd,Agp]);all_goals ((try refine BU ?_);(try simp only[go_sem,Xd,Agp]);try first | rfl | exact ⟨rfl,rfl⟩ | (simp;done))
     simp only[Agp,Ak] at Ei;simp only[Aa,B0] at Ei;(try simp only[go_sem,Xd,Agp]);exact Asi ((HC v12 OA.name (IntKind.i64.wrap (((DJ v12 OA.name).getD 0)+1))),(IntKind.i64.wrap (M6+1))) _ Ei ((Wk.forget (by simp[ZF,ZE,c3,c9,Xf,Xe,Xd,Agp])))
   simp only[c6,Ak] at hr;cases hr;(try simp only[go_sem,c3,c4,c5,c6]);all_goals ((try refine BU ?_);(try simp only[go_sem,c3,c4,c5,c6]);try first | rfl | exact ⟨rfl,rfl⟩ | (simp;done))
 simp only[c5,Ak] at hr;cases hr;try simp only[go_sem,c3,c4,c5]
 all_goals ((try refine BU ?_);(try simp only[go_sem,c3,c4,c5]);try first | rfl | exact ⟨rfl,rfl⟩ | (simp;done))
def CQ(a0:Int)(a1:List (List UInt8))(a2:List Int)(a3:List Dc):Option ((List Dc)):=
 cond (decide (a3.length+1<10000000)) (some (a3++[(⟨a0,(IntKind.i64.wrap (((a3.length:Nat):Int)+1)),a1,a2⟩:Dc)])) none
theorem Dm(a0:Int)(a1:List (List UInt8))(a2:List Int)(a3:List Dc)(r:(List Dc))(hr:CQ a0 a1 a2 a3=some r):
   BV prog 88 [.p (.int .i64 a0),.p (.sl (CD a1)),.p (.sl (BT a2)),.ptr 1000000 0] [(1000000,.box [.ref 1000001 0 a3.length a3.length]),(1000001,.arr 82 4 (EK a3))] λ h d=>h=[(1000000,.box [.ref 1000001 0 r.length r.length]),(1000001,.arr 82 4 (EK r))]/\d= .De []:=by
 refine BX func88 rfl Akm (by simp[Tryz.f88]) ?_;unfold CQ at hr;obtain ⟨c1,hr⟩:=gE hr;try simp only[go_sem]
 refine ⟨by have:=Ad c1;(try simp only[Aq,Az,At] at*);(repeat' refine And.intro ?_ ?_)<;>first | exact EN _ _ rfl | exact Am0 _ | omega | (simp[Ly];done),?_⟩;cases hr;try simp only[go_sem]
 all_goals ((try refine CR ?_);(try simp only[go_sem]);try first | rfl | exact ⟨rfl,rfl⟩ | (simp;done))
def D5(a0:CX)(a1:Int):Option (Bool×Int):=
 cond (decide (a0.base<=a1)) (some (decide (a1<(IntKind.i64.wrap (a0.base+a0.Ch))),a1)) (some (false,a1))
theorem Lr(a0:CX)(a1:Int)(r:Bool×Int)(hr:D5 a0 a1=some r):
   BV prog 90 [.agg [.p (.str a0.name),.p (.bool a0.Cy),.p (.int .i64 a0.Ip),.p (.int .i64 a0.out),.p (.int .i64 a0.Ch),.p (.int .i64 a0.base)],.ptr 1000000 0] [(1000000,.box [.p (.int .i64 a1)])] λ h d=>h=[(1000000,.box [.p (.int .i64 r.2)])]/\d= .p (.bool r.1):=by
 refine BX func90 rfl Akl (by simp[Tryz.f90]) ?_;unfold D5 at hr;cases c1:decide (a0.base<=a1)
 . simp only[c1,Aj] at hr;cases hr;(try simp only[go_sem,c1]);all_goals ((try refine CR ?_);(try simp only[go_sem,c1]);try first | rfl | exact ⟨rfl,rfl⟩ | (simp;done))
 simp only[c1,Ak] at hr;cases hr;try simp only[go_sem,c1]
 all_goals ((try refine CR ?_);(try simp only[go_sem,c1]);try first | rfl | exact ⟨rfl,rfl⟩ | (simp;done))
def D3(a0:List CX):Int×Int->Option ((Int×Int)⊕((Int×Int)⊕(Int×Int)))
 | (v3,v4)=>cond (decide (v4<((a0.length:Nat):Int))) (Option.bind (CB a0 v4) λ DD=>Option.bind (D5 (⟨DD.name,DD.Cy,DD.Ip,DD.out,DD.Ch,DD.base⟩:CX) v3) λ (x15,PM)=>cond x15 (some (Sum.inr (.inr (((v4,PM):Int×Int))))) (some (Sum.inl (PM,(IntKind.i64.wrap (v4+1)))))) (some (Sum.inr (.inl (v3,v4))))
def Ef(a0:List CX)(a1:Int):Option (Int×Int):=
 Option.bind (Ct (D3 a0) (a1,0)) (λ | .inl (v19,v20)=>some ((-1),v19) | .inr (r21)=>some r21)
theorem LK(a0:List CX)(a1:Int)(r:Int×Int)(hr:Ef a0 a1=some r):
   BV prog 89 [.p (.sl (CY a0)),.fn 90 [.ptr 1000000 0]] [(1000000,.box [.p (.int .i64 a1)])] λ h d=>h=[(1000000,.box [.p (.int .i64 r.2)])]/\d= .p (.int .i64 r.1):=by
 refine BX func89 rfl YQ (by simp[Tryz.f89]) ?_;unfold Ef at hr;obtain ⟨e8,g9,hr⟩:=bE hr;try simp only[go_sem]
 refine CV g9 (λ q:Int×Int=>⟨[(0,.p (.sl (CY a0))),(1,.fn 90 [.ptr 1000000 0]),(7,.p (.int .i64 ((a0.length:Nat):Int))),(8,.p (.int .i64 q.2))],[(1000000,.box [.p (.int .i64 q.1)])],19⟩) ((Wk.forget (by simp[ZF,ZE]))) ?_;rintro ⟨v3,v4⟩ m7 Ig ih6;rw[D3.eq_1] at Ig;cases JX:decide (v4<((a0.length:Nat):Int))
 . simp only[JX,Aj] at Ig;simp only[Aa,BZ] at Ig;cases Ig;(try dsimp only at hr);cases hr;(try simp only[go_sem,JX]);all_goals ((try refine CR ?_);(try simp only[go_sem,JX]);try first | rfl | exact ⟨rfl,rfl⟩ | (simp;done))
 simp only[JX,Ak] at Ig;obtain ⟨DD,g12,Ig⟩:=bK Ig;have f13:=B5 g12;have f14:(CY a0).getD (Int.toNat v4) []=[(.str DD.name),(.bool DD.Cy),(.int .i64 DD.Ip),(.int .i64 DD.out),(.int .i64 DD.Ch),(.int .i64 DD.base)]:=B6 _ g12;obtain ⟨⟨x15,PM⟩,g17,Ig⟩:=bK Ig;try simp only[go_sem,JX,f13,f14]
 refine Cq (Lr (⟨DD.name,DD.Cy,DD.Ip,DD.out,DD.Ch,DD.base⟩:CX) v3 _ g17) ?_;cases JV:x15
 . simp only[JV,Aj] at Ig;simp only[Aa,B0] at Ig;(try simp only[go_sem,JV]);exact ih6 (PM,(IntKind.i64.wrap (v4+1))) _ Ig ((Wk.forget (by simp[ZF,ZE,JV])))
 simp only[JV,Ak] at Ig;simp only[Aa,BZ] at Ig;cases Ig;try dsimp only at hr
 cases hr;try simp only[go_sem,JV]
 all_goals ((try refine CR ?_);(try simp only[go_sem,JV]);try first | rfl | exact ⟨rfl,rfl⟩ | (simp;done))
def FV(a0:Nt):(List Dc)×Int->Option (((List Dc)×Int)⊕(((List Dc)×Int)))
 | (v36,v37)=>cond (decide (v37<((a0.BW.length:Nat):Int))) (Option.bind (CB a0.BW v37) λ XB=>Option.bind (Ef a0.spurs XB) λ (x50,x51)=>Option.bind (CB a0.spurs x50) λ x53=>Option.bind (CQ 5 [x53.name] [(IntKind.i64.wrap ((IntKind.i64.wrap (x51 - x53.base))+1))] v36) λ x57=>some (Sum.inl (x57,(IntKind.i64.wrap (v37+1))))) (some (Sum.inr (v36,v37)))
def FU(a0:Nt):(List Dc)×Int->Option (((List Dc)×Int)⊕(((List Dc)×Int)))
 | (v26,UC)=>cond (decide (UC<((a0.spurs.length:Nat):Int))) (Option.bind (CB a0.spurs UC) λ Mz=>cond Mz.Cy (Option.bind (CB a0.blocks Mz.Ip) λ x78=>Option.bind (CB a0.blocks Mz.out) λ x82=>Option.bind (CQ 4 [Mz.name,x78.name,x82.name] [Mz.Ch] v26) λ x86=>some (Sum.inl (x86,(IntKind.i64.wrap (UC+1))))) (Option.bind (CB a0.blocks Mz.Ip) λ x68=>Option.bind (CB a0.blocks Mz.out) λ x72=>Option.bind (CQ 3 [Mz.name,x68.name,x72.name] [Mz.Ch] v26) λ x76=>some (Sum.inl (x76,(IntKind.i64.wrap (UC+1)))))) (some (Sum.inr (v26,UC)))
def FT(a0:Nt)(v17:Int)(T4:List Int):(List Dc)×Int->Option (((List Dc)×Int)⊕(((List Dc)×Int)))
 | (Ahk,XN)=>cond (decide (XN<((T4.length:Nat):Int))) (Option.bind (CB T4 XN) λ Anl=>Option.bind (CB a0.blocks v17) λ Aby=>Option.bind (CB a0.blocks Anl) λ Abx=>Option.bind (CQ 2 [Aby.name,Abx.name] [] Ahk) λ Ari=>some (Sum.inl (Ari,(IntKind.i64.wrap (XN+1))))) (some (Sum.inr (Ahk,XN)))
def FR(a0:Nt):(List Dc)×Int->Option (((List Dc)×Int)⊕(((List Dc)×Int)))
 | (V0,v17)=>cond (decide (v17<((a0.next.length:Nat):Int))) (Option.bind (CB a0.next v17) λ T4=>Option.bind (Ct (FT a0 v17 T4) (V0,0)) (λ (Axz,v148)=>some (Sum.inl (Axz,(IntKind.i64.wrap (v17+1)))))) (some (Sum.inr (V0,v17)))
def FQ(a0:Nt):(List Dc)×Int->Option (((List Dc)×Int)⊕(((List Dc)×Int)))
 | (v6,v7)=>cond (decide (v7<((a0.blocks.length:Nat):Int))) (Option.bind (CB a0.blocks v7) λ T3=>Option.bind (CQ 1 [T3.name] [T3.x,T3.y] v6) λ Ard=>some (Sum.inl (Ard,(IntKind.i64.wrap (v7+1))))) (some (Sum.inr (v6,v7)))
def Jv(a0:Nt):Option ((List Dc)×Int):=
 Option.bind (ES (⟨a0.blocks,a0.next,a0.spurs,a0.BW,a0.cq,a0.ca,a0.cd,a0.cp⟩:Nt)) λ x1=>cond x1 (Option.bind (Ct (FQ a0) ([],0)) (λ (Arq,Anp)=>Option.bind (Ct (FR a0) (Arq,0)) (λ (Axu,v390)=>Option.bind (Ct (FU a0) (Axu,0)) (λ (Axt,v456)=>Option.bind (Ct (FV a0) (Axt,0)) (λ (Axs,v483)=>Option.bind (CQ 6 [] [a0.cq,a0.ca,a0.cd,a0.cp] Axs) λ Axo=>some (Axo,0)))))) (some ([],20))
theorem Uf(a0:Nt)(r:(List Dc)×Int)(hr:Jv a0=some r):
   BV prog 50 [.agg [.p (.sl (C0 a0.blocks)),.p (.sl (Cw a0.next)),.p (.sl (CY a0.spurs)),.p (.sl (BT a0.BW)),.p (.int .i64 a0.cq),.p (.int .i64 a0.ca),.p (.int .i64 a0.cd),.p (.int .i64 a0.cp)]] [] λ h d=>h=[]/\d= .De [.p (.sl (EK r.1)),.p (.int .i64 r.2)]:=by
 refine BX func50 rfl Al8 (by simp[Tryz.f50]) ?_;unfold Jv at hr;obtain ⟨x1,g2,hr⟩:=bE hr;try simp only[go_sem]
 refine Cq (J9 (⟨a0.blocks,a0.next,a0.spurs,a0.BW,a0.cq,a0.ca,a0.cd,a0.cp⟩:Nt) _ g2) ?_;cases c3:x1
 . simp only[c3,Aj] at hr;cases hr;(try simp only[go_sem,c3]);all_goals ((try refine BU ?_);(try simp only[go_sem,c3]);try first | rfl | exact ⟨rfl,rfl⟩ | (simp;done))
 simp only[c3,Ak] at hr;obtain ⟨e11,g12,hr⟩:=bE hr;try simp only[go_sem,c3]
 refine CV g12 (λ q:(List Dc)×Int=>⟨[(1,.ptr 1 0),(4,.ptr 4 0),(5,.fn 88 [.ptr 4 0]),(24,.p (.sl (C0 a0.blocks))),(25,.p (.int .i64 ((a0.blocks.length:Nat):Int))),(26,.p (.int .i64 q.2))],[(1,.box [.p (.sl (C0 a0.blocks)),.p (.sl (Cw a0.next)),.p (.sl (CY a0.spurs)),.p (.sl (BT a0.BW)),.p (.int .i64 a0.cq),.p (.int .i64 a0.ca),.p (.int .i64 a0.cd),.p (.int .i64 a0.cp)]),(4,.box [.ref 504000 0 q.1.length q.1.length]),(504000,.arr 82 4 (EK q.1))],150⟩) ((Wk.G6 (id:=4) (j:=0) (q:=504000) (sz:=4) 82 rfl rfl rfl (by decide)).trans ((Wk.forget (by simp[ZF,ZE,c3])))) ?_;rintro ⟨v6,v7⟩ m10 Fu q0;rw[FQ.eq_1] at Fu;cases Ok:decide (v7<((a0.blocks.length:Nat):Int))
 . simp only[Ok,Aj] at Fu;simp only[Aa,BZ] at Fu;cases Fu;(try dsimp only at hr);obtain ⟨e21,g22,hr⟩:=bE hr;(try simp only[go_sem,Ok]);refine CV g22 (λ q:(List Dc)×Int=>⟨[(1,.ptr 1 0),(4,.ptr 4 0),(5,.fn 88 [.ptr 4 0]),(42,.p (.sl (Cw a0.next))),(43,.p (.int .i64 ((a0.next.length:Nat):Int))),(44,.p (.int .i64 q.2))],[(1,.box [.p (.sl (C0 a0.blocks)),.p (.sl (Cw a0.next)),.p (.sl (CY a0.spurs)),.p (.sl (BT a0.BW)),.p (.int .i64 a0.cq),.p (.int .i64 a0.ca),.p (.int .i64 a0.cd),.p (.int .i64 a0.cp)]),(4,.box [.ref 504000 0 q.1.length q.1.length]),(504000,.arr 82 4 (EK q.1))],150⟩) ((Wk.forget (by simp[ZF,ZE,c3]))) ?_;rintro ⟨V0,v17⟩ m20 RC Ayz;rw[FR.eq_1] at RC;cases c23:decide (v17<((a0.next.length:Nat):Int))
   . simp only[c23,Aj] at RC;simp only[Aa,BZ] at RC;cases RC;(try dsimp only at hr);obtain ⟨e31,g32,hr⟩:=bE hr;(try simp only[go_sem,c23]);refine CV g32 (λ q:(List Dc)×Int=>⟨[(1,.ptr 1 0),(4,.ptr 4 0),(5,.fn 88 [.ptr 4 0]),(73,.p (.sl (CY a0.spurs))),(74,.p (.int .i64 ((a0.spurs.length:Nat):Int))),(75,.p (.int .i64 q.2))],[(1,.box [.p (.sl (C0 a0.blocks)),.p (.sl (Cw a0.next)),.p (.sl (CY a0.spurs)),.p (.sl (BT a0.BW)),.p (.int .i64 a0.cq),.p (.int .i64 a0.ca),.p (.int .i64 a0.cd),.p (.int .i64 a0.cp)]),(4,.box [.ref 504000 0 q.1.length q.1.length]),(504000,.arr 82 4 (EK q.1))],150⟩) ((Wk.forget (by simp[ZF,ZE,c3]))) ?_;rintro ⟨v26,UC⟩ m30 Dl Aow;rw[FU.eq_1] at Dl;cases c33:decide (UC<((a0.spurs.length:Nat):Int))
     . simp only[c33,Aj] at Dl;simp only[Aa,BZ] at Dl;cases Dl;(try dsimp only at hr);obtain ⟨e41,g42,hr⟩:=bE hr;(try simp only[go_sem,c33]);refine CV g42 (λ q:(List Dc)×Int=>⟨[(1,.ptr 1 0),(4,.ptr 4 0),(5,.fn 88 [.ptr 4 0]),(106,.p (.sl (BT a0.BW))),(107,.p (.int .i64 ((a0.BW.length:Nat):Int))),(108,.p (.int .i64 q.2))],[(1,.box [.p (.sl (C0 a0.blocks)),.p (.sl (Cw a0.next)),.p (.sl (CY a0.spurs)),.p (.sl (BT a0.BW)),.p (.int .i64 a0.cq),.p (.int .i64 a0.ca),.p (.int .i64 a0.cd),.p (.int .i64 a0.cp)]),(4,.box [.ref 504000 0 q.1.length q.1.length]),(504000,.arr 82 4 (EK q.1))],150⟩) ((Wk.forget (by simp[ZF,ZE,c3]))) ?_;rintro ⟨v36,v37⟩ m40 N3 Ayx;rw[FV.eq_1] at N3;cases c43:decide (v37<((a0.BW.length:Nat):Int))
       . simp only[c43,Aj] at N3;simp only[Aa,BZ] at N3;cases N3;(try dsimp only at hr);obtain ⟨x44,g45,hr⟩:=bE hr;(try simp only[go_sem,c43]);refine Cq (Dm 6 [] [a0.cq,a0.ca,a0.cd,a0.cp] v36 _ g45) ?_;cases hr;(try simp only[go_sem]);all_goals ((try refine BU ?_);(try simp only[go_sem]);try first | rfl | exact ⟨rfl,rfl⟩ | (simp;done))
       simp only[c43,Ak] at N3;obtain ⟨XB,g47,N3⟩:=bK N3;have f48:=B5 g47;have f49:(BT a0.BW).getD (Int.toNat v37) []=[(.int .i64 XB)]:=B6 _ g47;obtain ⟨⟨x50,x51⟩,g52,N3⟩:=bK N3;(try simp only[go_sem,c43,f48,f49]);refine Cq (LK a0.spurs XB _ g52) ?_;(try simp only[go_sem]);refine CE mixed (p:=[(0,0),(1,0),(2,0),(3,0),(4,0),(5,0),(6,0),(8,0),(9,0),(10,0),(11,0),(12,0),(13,0),(14,0),(15,0),(16,0),(7,1),(17,1),(18,3)]) (by kernel_rfl) (by simp[C5,get]) ?_;obtain ⟨x53,g54,N3⟩:=bK N3;have f55:=B5 g54;have f56:(CY a0.spurs).getD (Int.toNat x50) []=[(.str x53.name),(.bool x53.Cy),(.int .i64 x53.Ip),(.int .i64 x53.out),(.int .i64 x53.Ch),(.int .i64 x53.base)]:=B6 _ g54;obtain ⟨x57,g58,N3⟩:=bK N3;(try simp only[go_sem,f55,f56]);refine Gq (Dm 5 [x53.name] [(IntKind.i64.wrap ((IntKind.i64.wrap (x51 - x53.base))+1))] v36 _ g58) ?_;simp only[Aa,B0] at N3;(try simp only[go_sem]);exact Ayx (x57,(IntKind.i64.wrap (v37+1))) _ N3 ((Wk.forget (by simp[ZF,ZE,c3])))
     simp only[c33,Ak] at Dl;obtain ⟨Mz,g64,Dl⟩:=bK Dl;have f65:=B5 g64;have f66:(CY a0.spurs).getD (Int.toNat UC) []=[(.str Mz.name),(.bool Mz.Cy),(.int .i64 Mz.Ip),(.int .i64 Mz.out),(.int .i64 Mz.Ch),(.int .i64 Mz.base)]:=B6 _ g64;cases c67:Mz.Cy
     . simp only[c67,Aj] at Dl;(try simp only[go_sem,c33,f65,f66,c67]);refine CE mixed (p:=[(0,0),(1,0),(2,0),(3,0),(4,0),(5,0),(6,0),(7,0),(8,0),(9,0),(10,0),(11,0),(12,0),(13,0),(14,0),(15,0),(16,0),(17,0),(19,0),(20,0),(18,1),(21,1),(22,3)]) (by kernel_rfl) (by simp[C5,get]) ?_;obtain ⟨x68,g69,Dl⟩:=bK Dl;have f70:=B5 g69;have f71:(C0 a0.blocks).getD (Int.toNat Mz.Ip) []=[(.str x68.name),(.int .i64 x68.x),(.int .i64 x68.y)]:=B6 _ g69;obtain ⟨x72,g73,Dl⟩:=bK Dl;have f74:=B5 g73;have f75:(C0 a0.blocks).getD (Int.toNat Mz.out) []=[(.str x72.name),(.int .i64 x72.x),(.int .i64 x72.y)]:=B6 _ g73;obtain ⟨x76,g77,Dl⟩:=bK Dl;(try simp only[go_sem,f70,f71,f74,f75]);refine Gq (Dm 3 [Mz.name,x68.name,x72.name] [Mz.Ch] v26 _ g77) ?_;simp only[Aa,B0] at Dl;(try simp only[go_sem]);exact Aow (x76,(IntKind.i64.wrap (UC+1))) _ Dl ((Wk.forget (by simp[ZF,ZE,c3,c67])))
     simp only[c67,Ak] at Dl;(try simp only[go_sem,c33,f65,f66,c67]);refine CE mixed (p:=[(0,0),(1,0),(2,0),(3,0),(4,0),(5,0),(6,0),(7,0),(8,0),(9,0),(10,0),(11,0),(12,0),(13,0),(14,0),(15,0),(16,0),(17,0),(19,0),(20,0),(18,1),(21,1),(22,3)]) (by kernel_rfl) (by simp[C5,get]) ?_;obtain ⟨x78,g79,Dl⟩:=bK Dl;have f80:=B5 g79;have f81:(C0 a0.blocks).getD (Int.toNat Mz.Ip) []=[(.str x78.name),(.int .i64 x78.x),(.int .i64 x78.y)]:=B6 _ g79;obtain ⟨x82,g83,Dl⟩:=bK Dl;have f84:=B5 g83;have f85:(C0 a0.blocks).getD (Int.toNat Mz.out) []=[(.str x82.name),(.int .i64 x82.x),(.int .i64 x82.y)]:=B6 _ g83;obtain ⟨x86,g87,Dl⟩:=bK Dl;(try simp only[go_sem,f80,f81,f84,f85]);refine Gq (Dm 4 [Mz.name,x78.name,x82.name] [Mz.Ch] v26 _ g87) ?_;simp only[Aa,B0] at Dl;(try simp only[go_sem]);exact Aow (x86,(IntKind.i64.wrap (UC+1))) _ Dl ((Wk.forget (by simp[ZF,ZE,c3,c67])))
   simp only[c23,Ak] at RC;obtain ⟨T4,Awu,RC⟩:=bK RC;have f121:=B5 Awu;have f122:(Cw a0.next).getD (Int.toNat v17) []=[(.sl (BT T4))]:=B6 _ Awu;obtain ⟨e130,Baf,RC⟩:=bK RC;(try simp only[go_sem,c23,f121,f122]);refine CV Baf (λ q:(List Dc)×Int=>⟨[(1,.ptr 1 0),(4,.ptr 4 0),(5,.fn 88 [.ptr 4 0]),(8,.p (.int .i64 v17)),(42,.p (.sl (Cw a0.next))),(43,.p (.int .i64 ((a0.next.length:Nat):Int))),(44,.p (.int .i64 v17)),(49,.p (.sl (BT T4))),(50,.p (.int .i64 ((T4.length:Nat):Int))),(51,.p (.int .i64 q.2))],[(1,.box [.p (.sl (C0 a0.blocks)),.p (.sl (Cw a0.next)),.p (.sl (CY a0.spurs)),.p (.sl (BT a0.BW)),.p (.int .i64 a0.cq),.p (.int .i64 a0.ca),.p (.int .i64 a0.cd),.p (.int .i64 a0.cp)]),(4,.box [.ref 504000 0 q.1.length q.1.length]),(504000,.arr 82 4 (EK q.1))],150⟩) ((Wk.forget (by simp[ZF,ZE,c3]))) ?_;rintro ⟨Ahk,XN⟩ m129 I6 Avc;rw[FT.eq_1] at I6;cases Apt:decide (XN<((T4.length:Nat):Int))
   . simp only[Apt,Aj] at I6;simp only[Aa,BZ] at I6;cases I6;(try dsimp only at RC);simp only[Aa,B0] at RC;(try simp only[go_sem,Apt]);exact Ayz (Ahk,(IntKind.i64.wrap (v17+1))) _ RC ((Wk.forget (by simp[ZF,ZE,c3])))
   simp only[Apt,Ak] at I6;obtain ⟨Anl,Awr,I6⟩:=bK I6;have f135:=B5 Awr;have f136:(BT T4).getD (Int.toNat XN) []=[(.int .i64 Anl)]:=B6 _ Awr;(try simp only[go_sem,Apt,f135,f136]);refine CE mixed (p:=[(0,0),(1,0),(2,0),(3,0),(4,0),(5,0),(6,0),(7,0),(8,0),(9,0),(10,0),(11,0),(12,0),(13,1),(14,3)]) (by kernel_rfl) (by simp[C5,get]) ?_;obtain ⟨Aby,Awq,I6⟩:=bK I6;have f139:=B5 Awq;have f140:(C0 a0.blocks).getD (Int.toNat v17) []=[(.str Aby.name),(.int .i64 Aby.x),(.int .i64 Aby.y)]:=B6 _ Awq;obtain ⟨Abx,Apd,I6⟩:=bK I6;have f143:=B5 Apd;have f144:(C0 a0.blocks).getD (Int.toNat Anl) []=[(.str Abx.name),(.int .i64 Abx.x),(.int .i64 Abx.y)]:=B6 _ Apd;obtain ⟨Ari,Bae,I6⟩:=bK I6;(try simp only[go_sem,f139,f140,f143,f144]);refine Gq (Dm 2 [Aby.name,Abx.name] [] Ahk _ Bae) ?_;simp only[Aa,B0] at I6;(try simp only[go_sem]);exact Avc (Ari,(IntKind.i64.wrap (XN+1))) _ I6 ((Wk.forget (by simp[ZF,ZE,c3])))
 simp only[Ok,Ak] at Fu;obtain ⟨T3,Awk,Fu⟩:=bK Fu;have f248:=B5 Awk;have f249:(C0 a0.blocks).getD (Int.toNat v7) []=[(.str T3.name),(.int .i64 T3.x),(.int .i64 T3.y)]:=B6 _ Awk;obtain ⟨Ard,Baa,Fu⟩:=bK Fu;try simp only[go_sem,Ok,f248,f249]
 refine Cq (Dm 1 [T3.name] [T3.x,T3.y] v6 _ Baa) ?_;simp only[Aa,B0] at Fu;try simp only[go_sem]
 exact q0 (Ard,(IntKind.i64.wrap (v7+1))) _ Fu ((Wk.forget (by simp[ZF,ZE,c3])))
def Gm(a0:Int):Option (Bool):=
 some (!decide (a0=a0))
theorem Li(a0:Int)(r:Bool)(hr:Gm a0=some r):
   BV prog 178 [.p (.int .i64 a0)] [] λ h d=>h=[]/\d= .p (.bool r):=by
 refine BX func178 rfl Aer (by simp[Tryz.f178]) ?_;unfold Gm at hr;cases hr;try simp only[go_sem]
 all_goals ((try refine BU ?_);(try simp only[go_sem]);try first | rfl | exact ⟨rfl,rfl⟩ | (simp;done))
def G3(a0:Int)(a1:Int):Option (Bool):=
 Option.bind (Gm a0) λ x1=>cond x1 (Option.bind (Gm a1) λ x4=>cond x4 (some (decide (a0<a1))) (some true)) (some (decide (a0<a1)))
theorem Sj(a0:Int)(a1:Int)(r:Bool)(hr:G3 a0 a1=some r):
   BV prog 150 [.p (.int .i64 a0),.p (.int .i64 a1)] [] λ h d=>h=[]/\d= .p (.bool r):=by
 refine BX func150 rfl Af2 (by simp[Tryz.f150]) ?_;unfold G3 at hr;obtain ⟨x1,g2,hr⟩:=bE hr;try simp only[go_sem]
 refine Cq (Li a0 _ g2) ?_;cases c3:x1
 . simp only[c3,Aj] at hr;cases hr;(try simp only[go_sem,c3]);all_goals ((try refine BU ?_);(try simp only[go_sem,c3]);try first | rfl | exact ⟨rfl,rfl⟩ | (simp;done))
 simp only[c3,Ak] at hr;obtain ⟨x4,g5,hr⟩:=bE hr;try simp only[go_sem,c3]
 refine Cq (Li a1 _ g5) ?_;cases c6:x4
 . simp only[c6,Aj] at hr;cases hr;(try simp only[go_sem,c3,c6]);all_goals ((try refine BU ?_);(try simp only[go_sem,c3,c6]);try first | rfl | exact ⟨rfl,rfl⟩ | (simp;done))
 simp only[c6,Ak] at hr;cases hr;try simp only[go_sem,c3,c6]
 all_goals ((try refine BU ?_);(try simp only[go_sem,c3,c6]);try first | rfl | exact ⟨rfl,rfl⟩ | (simp;done))
def L9(a1:Int):(List Int)×Int->Option (((List Int)×Int)⊕(((List Int)×Int)))
 | (M6,R2)=>cond (decide (a1<R2)) (Option.bind (CB M6 R2) λ x21=>Option.bind (CB M6 (IntKind.i64.wrap (R2 - 1))) λ PH=>Option.bind (G3 x21 PH) λ x29=>cond x29 (Option.bind (CB (M6.set (Int.toNat R2) PH) (IntKind.i64.wrap (R2 - 1))) λ Xq=>some (Sum.inl (((M6.set (Int.toNat R2) PH).set (Int.toNat (IntKind.i64.wrap (R2 - 1))) x21),(IntKind.i64.wrap (R2 - 1))))) (some (Sum.inr (M6,R2)))) (some (Sum.inr (M6,R2)))
def Kf(a1:Int)(a2:Int):(List Int)×Int->Option (((List Int)×Int)⊕(((List Int)×Int)))
 | (v3,v4)=>cond (decide (v4<a2)) (Option.bind (Ct (L9 a1) (v3,v4)) (λ (v36,v37)=>some (Sum.inl (v36,(IntKind.i64.wrap (v4+1)))))) (some (Sum.inr (v3,v4)))
def RO(a0:List Int)(a1:Int)(a2:Int):Option ((List Int)):=
 Option.bind (Ct (Kf a1 a2) (a0,(IntKind.i64.wrap (a1+1)))) (λ (v38,v39)=>some v38)
theorem Adq(a0:List Int)(a1:Int)(a2:Int)(r:(List Int))(hr:RO a0 a1 a2=some r):
   BV prog 144 [.ref 1000000 0 a0.length a0.length,.p (.int .i64 a1),.p (.int .i64 a2)] [(1000000,.arr 3 1 (BT a0))] λ h d=>h=[(1000000,.arr 3 1 (BT r))]/\d= .De []:=by
 refine BX func144 rfl Af3 (by simp[Tryz.f144]) ?_;unfold RO at hr;obtain ⟨e8,g9,hr⟩:=bE hr;try simp only[go_sem]
 refine CV g9 (λ q:(List Int)×Int=>⟨[(0,.ref 1000000 0 q.1.length q.1.length),(1,.p (.int .i64 a1)),(2,.p (.int .i64 a2)),(6,.p (.int .i64 q.2))],[(1000000,.arr 3 1 (BT q.1))],49⟩) ((Wk.forget (by simp[ZF,ZE]))) ?_;rintro ⟨v3,v4⟩ m7 Ig ih6;rw[Kf.eq_1] at Ig;cases JX:decide (v4<a2)
 . simp only[JX,Aj] at Ig;simp only[Aa,BZ] at Ig;cases Ig;(try dsimp only at hr);cases hr;(try simp only[go_sem,JX]);all_goals ((try refine CR ?_);(try simp only[go_sem,JX]);try first | rfl | exact ⟨rfl,rfl⟩ | (simp;done))
 simp only[JX,Ak] at Ig;obtain ⟨e18,g19,Ig⟩:=bK Ig;try simp only[go_sem,JX]
 refine CV g19 (λ q:(List Int)×Int=>⟨[(0,.ref 1000000 0 q.1.length q.1.length),(1,.p (.int .i64 a1)),(2,.p (.int .i64 a2)),(6,.p (.int .i64 v4)),(7,.p (.int .i64 q.2))],[(1000000,.arr 3 1 (BT q.1))],49⟩) ((Wk.forget (by simp[ZF,ZE]))) ?_;rintro ⟨M6,R2⟩ m17 KY Az0;rw[L9.eq_1] at KY;try simp only[go_sem]
 refine CE mixed (p:=[(0,0),(1,0),(2,0),(3,0),(4,0),(5,0),(6,0),(7,0),(8,0),(9,0),(10,0),(11,0),(12,0),(13,2),(14,0)]) (by kernel_rfl) (by simp[C5,get]) ?_;cases c20:decide (a1<R2)
 . simp only[c20,Aj] at KY;simp only[Aa,BZ] at KY;cases KY;(try dsimp only at Ig);simp only[Aa,B0] at Ig;(try simp only[go_sem,c20]);exact ih6 (M6,(IntKind.i64.wrap (v4+1))) _ Ig ((Wk.forget (by simp[ZF,ZE])))
 simp only[c20,Ak] at KY;obtain ⟨x21,g22,KY⟩:=bK KY;have f23:=B5 g22;have f24:(BT M6).getD (Int.toNat R2) []=[(.int .i64 x21)]:=B6 _ g22;obtain ⟨PH,g26,KY⟩:=bK KY;have f27:=B5 g26;have f28:(BT M6).getD (Int.toNat (IntKind.i64.wrap (R2 - 1))) []=[(.int .i64 PH)]:=B6 _ g26;obtain ⟨x29,g30,KY⟩:=bK KY;try simp only[go_sem,c20,f23,f24,f27,f28]
 refine Gq (Sj x21 PH _ g30) ?_;cases PL:x29
 . simp only[PL,Aj] at KY;simp only[Aa,BZ] at KY;cases KY;(try dsimp only at Ig);simp only[Aa,B0] at Ig;(try simp only[go_sem,c20,PL]);exact ih6 (M6,(IntKind.i64.wrap (v4+1))) _ Ig ((Wk.forget (by simp[ZF,ZE,PL])))
 simp only[PL,Ak] at KY;try simp only[go_sem,c20,PL]
 refine CE mixed (p:=[(0,0),(1,0),(2,0),(3,0),(4,0),(5,0),(6,0),(7,0),(8,0),(9,0),(10,0),(11,0),(12,0),(13,0),(14,0),(15,4),(16,4),(17,4)]) (by kernel_rfl) (by simp[C5,get]) ?_;obtain ⟨Xq,g33,KY⟩:=bK KY;have f34:=B5 g33;have f35:(BT (M6.set (Int.toNat R2) PH)).getD (Int.toNat (IntKind.i64.wrap (R2 - 1))) []=[(.int .i64 Xq)]:=B6 _ g33;simp only[Aa,B0] at KY;try simp only[go_sem,f27,f28,f23,f24,f34,f35]
 exact Az0 (((M6.set (Int.toNat R2) PH).set (Int.toNat (IntKind.i64.wrap (R2 - 1))) x21),(IntKind.i64.wrap (R2 - 1))) _ KY ((Wk.forget (by simp[ZF,ZE,PL])))
def E5(a0:CX):Option (Bool):=
 some a0.Cy
theorem LM(a0:CX)(r:Bool)(hr:E5 a0=some r):
   BV prog 65 [.agg [.p (.str a0.name),.p (.bool a0.Cy),.p (.int .i64 a0.Ip),.p (.int .i64 a0.out),.p (.int .i64 a0.Ch),.p (.int .i64 a0.base)]] [] λ h d=>h=[]/\d= .p (.bool r):=by
 refine BX func65 rfl Akw (by simp[Tryz.f65]) ?_;unfold E5 at hr;cases hr;try simp only[go_sem]
 all_goals ((try refine BU ?_);(try simp only[go_sem]);try first | rfl | exact ⟨rfl,rfl⟩ | (simp;done))
def DG(a0:List CX):Int->Option ((Int)⊕(Int⊕Int))
 | v2=>cond (decide (v2<((a0.length:Nat):Int))) (Option.bind (CB a0 v2) λ x9=>Option.bind (E5 (⟨x9.name,x9.Cy,x9.Ip,x9.out,x9.Ch,x9.base⟩:CX)) λ PN=>cond PN (some (Sum.inr (.inr ((v2:Int))))) (some (Sum.inl (IntKind.i64.wrap (v2+1))))) (some (Sum.inr (.inl v2)))
def EB(a0:List CX):Option (Int):=
 Option.bind (Ct (DG a0) 0) (λ | .inl V0=>some (-1) | .inr (r17)=>some r17)
theorem KI(a0:List CX)(r:Int)(hr:EB a0=some r):
   BV prog 89 [.p (.sl (CY a0)),.fn 65 []] [] λ h d=>h=[]/\d= .p (.int .i64 r):=by
 refine BX func89 rfl YQ (by simp[Tryz.f89]) ?_;unfold EB at hr;obtain ⟨e6,g7,hr⟩:=bE hr;try simp only[go_sem]
 refine CV g7 (λ q:Int=>⟨[(0,.p (.sl (CY a0))),(1,.fn 65 []),(7,.p (.int .i64 ((a0.length:Nat):Int))),(8,.p (.int .i64 q))],[],19⟩) ((Wk.forget (by simp[ZF,ZE]))) ?_;rintro v2 m5 Ns ih4;rw[DG.eq_1] at Ns;cases c8:decide (v2<((a0.length:Nat):Int))
 . simp only[c8,Aj] at Ns;simp only[Aa,BZ] at Ns;cases Ns;(try dsimp only at hr);cases hr;(try simp only[go_sem,c8]);all_goals ((try refine BU ?_);(try simp only[go_sem,c8]);try first | rfl | exact ⟨rfl,rfl⟩ | (simp;done))
 simp only[c8,Ak] at Ns;obtain ⟨x9,g10,Ns⟩:=bK Ns;have f11:=B5 g10;have f12:(CY a0).getD (Int.toNat v2) []=[(.str x9.name),(.bool x9.Cy),(.int .i64 x9.Ip),(.int .i64 x9.out),(.int .i64 x9.Ch),(.int .i64 x9.base)]:=B6 _ g10;obtain ⟨PN,g14,Ns⟩:=bK Ns;try simp only[go_sem,c8,f11,f12]
 refine Cq (LM (⟨x9.name,x9.Cy,x9.Ip,x9.out,x9.Ch,x9.base⟩:CX) _ g14) ?_;cases Jx:PN
 . simp only[Jx,Aj] at Ns;simp only[Aa,B0] at Ns;(try simp only[go_sem,Jx]);exact ih4 (IntKind.i64.wrap (v2+1)) _ Ns ((Wk.forget (by simp[ZF,ZE,Jx])))
 simp only[Jx,Ak] at Ns;simp only[Aa,BZ] at Ns;cases Ns;try dsimp only at hr
 cases hr;try simp only[go_sem,Jx]
 all_goals ((try refine BU ?_);(try simp only[go_sem,Jx]);try first | rfl | exact ⟨rfl,rfl⟩ | (simp;done))
def MX(a0:List CX):Option (Bool):=
 Option.bind (EB a0) λ x1=>some (decide (0<=x1))
theorem Zj(a0:List CX)(r:Bool)(hr:MX a0=some r):
   BV prog 64 [.p (.sl (CY a0)),.fn 65 []] [] λ h d=>h=[]/\d= .p (.bool r):=by
 refine BX func64 rfl Akx (by simp[Tryz.f64]) ?_;unfold MX at hr;obtain ⟨x1,g2,hr⟩:=bE hr;try simp only[go_sem]
 refine Cq (KI a0 _ g2) ?_;cases hr;try simp only[go_sem]
 all_goals ((try refine BU ?_);(try simp only[go_sem]);try first | rfl | exact ⟨rfl,rfl⟩ | (simp;done))
def FD:List Int->Int->List Int
 | [],x=>[x]
 | y::r,x=>if x<y then x::y::r else y::FD r x
def DN(l:List Int):List Int:=l.foldl FD []
theorem O4(l:List Int)(x:Int):(FD l x).length=l.length+1:=by
 induction l with
 | nil=>rfl
 | cons y r ih=>simp only[FD];split<;>simp[ih]
theorem Tc(l p:List Int):(l.foldl FD p).length=p.length+l.length:=by
 induction l generalizing p with
 | nil=>simp
 | cons x r ih=>simp only[Bf,ih,O4,Aq];omega
theorem MF(l:List Int):(DN l).length=l.length:=by simp[DN,Tc]
theorem Yr(l:List Int)(x y:Int):y∈FD l x↔y=x∨y∈l:=by
 induction l with
 | nil=>simp[FD]
 | cons z r ih=>
   simp only[FD];split
   . simp
   . simp only[AE,ih];constructor
     . rintro (h | h | h)<;>simp[h]
     . rintro (h | h | h)<;>simp[h]
theorem Yq(l:List Int)(x:Int)(h:l.Pairwise (· <= ·)):(FD l x).Pairwise (· <= ·):=by
 induction l with
 | nil=>simp[FD]
 | cons y r ih=>
   obtain ⟨h1,h2⟩:=BH.1 h;simp only[FD];split
   . refine BH.2 ⟨λ z hz=>?_,h⟩;rcases AE.1 hz with rfl | hz
     . omega
     . have:=h1 z hz;omega
   . refine BH.2 ⟨λ z hz=>?_,ih h2⟩;rcases (Yr r x z).1 hz with rfl | hz
     . omega
     . exact h1 z hz
theorem WC(p:List Int)(y x:Int)(h:x<y):FD (p++[y]) x=FD p x++[y]:=by
 induction p with
 | nil=>simp[FD,h]
 | cons z r ih=>
   simp only[AR,FD];split
   . rfl
   . rw[ih];rfl
theorem O3(p:List Int)(y x:Int)(hs:(p++[y]).Pairwise (· <= ·))(h:¬x<y):FD (p++[y]) x=p++[y,x]:=by
 induction p with
 | nil=>simp[FD,h]
 | cons z r ih=>
   simp only[AR,BH] at hs;have:=hs.1 y (by simp);simp only[AR,FD];rw[if_neg (by omega),ih hs.2]
theorem V9{α:Type}(p q:List α)(x y:α):(p++x::q).set p.length y=p++y::q:=by
 induction p with
 | nil=>rfl
 | cons z r ih=>simp[ih]
theorem Asd(a b:Int):G3 a b=some (decide (a<b)):=by
 unfold G3 Gm;simp
theorem Yo(l:List Int):∀(n:Nat) (p:List Int) (x:Int) (q:List Int),p.length=n->p.Pairwise (· <= ·)->n<10000000->∃j,Ct (L9 0) (p++x::q,(n:Int))=some (FD p x++q,j)
 | 0,p,x,q,hp,_,_=>by
   obtain rfl:p=[]:=AZ hp;refine ⟨0,?_⟩;rw[CL,L9.eq_1];simp[FD,Hu]
 | n+1,p,x,q,hp,hs,hn=>by
   obtain ⟨r,y,rfl⟩:∃r y,p=r++[y]:=by
     rcases List.eq_nil_or_concat p with h | ⟨r,y,h⟩
     . subst h;simp at hp
     . exact ⟨r,y,by simpa using h⟩
   have hr:r.length=n:=by simpa using hp
   have hw:IntKind.i64.wrap (((n+1:Nat):Int) - 1)=(n:Int):=by rw[IntKind.wrap_i64];omega
   have i1:CB ((r++[y])++x::q) ((n+1:Nat):Int)=some x:=by
     rw[G9];simp[<-hr,AM]
   have i2:CB ((r++[y])++x::q) (n:Int)=some y:=by
     rw[G9];simp[<-hr,AM]
   have s1:((r++[y])++x::q).set (n+1) y=r++y::y::q:=by
     have:=V9 (r++[y]) q x y;rw[show (r++[y]).length=n+1 by simp[hr]] at this;rw[this];simp
   have i3:CB (((r++[y])++x::q).set (n+1) y) (n:Int)=some y:=by
     rw[s1,G9];simp[<-hr,AM]
   have s2:(((r++[y])++x::q).set (n+1) y).set n x=r++x::(y::q):=by
     rw[s1,<-hr];exact V9 r (y::q) y x
   rw[CL,L9.eq_1];have c1:decide ((0:Int)<((n+1:Nat):Int))=true:=Ag (by omega);rw[c1,Ak,i1,Aa,hw,i2,Aa,Asd,Aa];by_cases hxy:x<y
   . have c2:decide (x<y)=true:=by simpa using hxy
     rw[c2,Ak,show Int.toNat ((n+1:Nat):Int)=n+1 from rfl,i3,Aa,Aa,B0,show Int.toNat (n:Int)=n from rfl,s2];have Md:r.Pairwise (· <= ·):=(Bp.1 hs).1;obtain ⟨j,hj⟩:=Yo l n r x (y::q) hr Md (by omega);refine ⟨j,?_⟩;rw[hj,WC _ _ _ hxy];simp
   . have c2:decide (x<y)=false:=by simpa using hxy
     rw[c2,Aj,Aa,BZ];refine ⟨((n+1:Nat):Int),?_⟩;rw[O3 _ _ _ hs hxy];simp
theorem U9:∀(q p:List Int),p.Pairwise (· <= ·)->p.length+q.length<10000000->∃j,Ct (Kf 0 ((p.length+q.length:Nat):Int)) (p++q,(p.length:Int))=some (q.foldl FD p,j)
 | [],p,hs,hn=>by
   rw[CL,Kf.eq_1];simp[Hu]
 | x::q,p,hs,hn=>by
   have hl:p.length+(x::q).length=(FD p x).length+q.length:=by rw[O4];simp;omega
   rw[CL,Kf.eq_1];have c1:decide ((p.length:Int)<((p.length+(x::q).length:Nat):Int))=true:=Ag (by simp only[Aq];omega);obtain ⟨j,hj⟩:=Yo [] p.length p x q rfl hs (by simp at hn;omega);have hw:IntKind.i64.wrap ((p.length:Int)+1)=((FD p x).length:Int):=by rw[IntKind.wrap_i64,O4];simp at hn;omega
   rw[c1,Ak,hj,Aa,Aa,B0,hw,hl];obtain ⟨j2,hj2⟩:=U9 q (FD p x) (Yq p x hs) (by rw[O4];simp at hn;omega);exact ⟨j2,by rw[hj2];rfl⟩
theorem Yn(l:List Int)(hl:l.length<10000000):RO l 0 (l.length:Int)=some (DN l):=by
 unfold RO;cases l with
 | nil=>
   rw[CL,Kf.eq_1];simp[Hu,DN,IntKind.wrap_i64]
 | cons x r=>
   have hw:IntKind.i64.wrap (0+1)=(([x]:List Int).length:Int):=by rw[IntKind.wrap_i64];simp
   obtain ⟨j,hj⟩:=U9 r [x] (by simp) (by simp at hl ⊢;omega);rw[hw,show ((x::r).length:Int)=(([x]:List Int).length+r.length:Nat) by simp;omega,show x::r=[x]++r from rfl,hj];rfl
theorem Aj7(n:Nat)(hn:n<=12):BV prog 154 [.p (.int .u64 n)] [] λ h r=>h=[]/\∃m:Int,r= .p (.int .i64 m):=by
 have c1:decide ((4294967296:Int)<=(n:Int))=false:=by simp;omega
 have c2:decide ((65536:Int)<=(n:Int))=false:=by simp;omega
 have c3:decide ((256:Int)<=(n:Int))=false:=by simp;omega
 have w1:IntKind.u8.wrap (n:Int)=(n:Int):=by simp only[IntKind.wrap,IntKind.signed,IntKind.bits];first | omega | (simp;omega)
 have r1:(0:Int)<=(n:Int)/\(n:Int)<256:=by omega
 refine BX func154 rfl Af1 (by simp[Tryz.f154]) ?_;simp only[go_sem,c1,c2,c3,w1];refine ⟨by simp;omega,?_⟩;exact ⟨_,rfl⟩
theorem Ase(n:Nat)(hn:n<=12):BV prog 115 [.p (.int .u64 n)] [] λ h r=>h=[]/\∃m:Int,r= .p (.int .i64 m):=by
 refine BX func115 rfl Afn (by simp[Tryz.f115]) ?_;simp only[go_sem];refine DY (Aj7 n hn) ?_;rintro h' r ⟨rfl,m,rfl⟩;simp only[go_sem];exact ⟨m,rfl⟩
theorem Ad3(l:List Int)(hl:l.length<=12)(m:Int):BV prog 114 [.ref 1000000 0 l.length l.length,.p (.int .i64 0),.p (.int .i64 l.length),.p (.int .i64 m)] [(1000000,.arr 3 1 (BT l))]
   λ h r=>h=[(1000000,.arr 3 1 (BT (DN l)))]/\r= .De []:=by
 have w1:IntKind.i64.wrap ((l.length:Int) - 0)=(l.length:Int):=by rw[IntKind.wrap_i64];omega
 have c1:decide ((l.length:Int)<=12)=true:=by simp;omega
 refine BX func114 rfl Afo (by simp[Tryz.f114]) ?_;simp only[go_sem];refine Xl 1 ?_;rw[Atw];refine ⟨_,Wk.refl _,?_⟩;simp only[go_sem,w1,c1,BS];refine Om rfl rfl ?_;simp only[go_sem,Je];refine TO (Adq l 0 l.length _ (Yn l (by omega))) ?_;rintro h' r ⟨rfl,rfl⟩;simp only[go_sem];all_goals (try refine CR ?_)
 all_goals (try simp only[go_sem])
theorem Ahy(l:List Int)(hl:l.length<=12):BV prog 66 [.ref 1000000 0 l.length l.length] [(1000000,.arr 3 1 (BT l))] λ h r=>h=[(1000000,.arr 3 1 (BT (DN l)))]/\r= .De []:=by
 have w1:IntKind.u64.wrap (l.length:Int)=(l.length:Int):=by simp only[IntKind.wrap,IntKind.signed,IntKind.bits];first | omega | (simp;omega)
 refine BX func66 rfl Akv (by simp[Tryz.f66]) ?_;simp only[go_sem,BS,w1];refine DY (Ase l.length hl) ?_;rintro h' r ⟨rfl,m,rfl⟩;simp only[go_sem,BS];refine Om rfl rfl ?_;simp only[go_sem,Je];refine TO (Ad3 l hl m) ?_;rintro h' r ⟨rfl,rfl⟩;simp only[go_sem];all_goals (try refine CR ?_)
 all_goals (try simp only[go_sem])
theorem Ahx(rows:List (List Int))(i k:Nat)(hi:i<rows.length)(hl:(rows.getD i []).length<=12):
   BV prog 66 [.nr 1000000 i (rows.getD i []).length k] [(1000000,.Dj 22 3 1 k (encR rows) none)] λ h r=>h=[(1000000,.Dj 22 3 1 k (encR (rows.set i (DN (rows.getD i [])))) none)]/\r= .De []:=by
 have hg:(encR rows)[i]?=some (BT (rows.getD i [])):=by simp[encR,List.getD,hi]
 refine (TT (ps:=[]) hg (BS _).symm (Ahy (rows.getD i []) hl) (R':=λ es r=>es=BT (DN (rows.getD i []))/\r= .De []) ?_).mono ?_
 . rintro h' r ⟨rfl,rfl⟩;exact ⟨_,rfl,by rw[BS,MF],.inl rfl,rfl,rfl⟩
 . rintro h' r ⟨Nf,rfl,_,rfl,rfl⟩;exact ⟨by rw[YX],rfl⟩
def nt0:Nt:=⟨[],[],[],[],0,0,0,0⟩
def Cp.init:Cp:=⟨[],[],[],4,2,1,8,[],[],[],0,[],false⟩
def Eu:Cp->List Dc->Option (Int×Int)×Cp
 | b,[]=>(none,b)
 | b,d::r=>if (b.DC d).1=0 then Eu (b.DC d).2 r else (some (d.line,(b.DC d).1),b)
def ME(n:Int)(sp:List CX)(ba:List Int):List CX:=List.zipWith (λ s x=>{s with base:=n+x}) sp ba
def plB(sp:List CX)(p:Int×Int):Int:=(sp.getD p.1.toNat B8).base+p.2 - 1
def Cp.net(b:Cp):Nt:=⟨b.bl,b.nx.map DN,ME b.bl.length b.sp b.ba,b.pl.map (plB (ME b.bl.length b.sp b.ba)),b.cq,b.ca,b.cd,b.cp⟩
def nbuildV(d:List Dc):Nt×Int×Int:=match Eu Cp.init d with
 | (some (l,e),_)=>(nt0,l,e)
 | (none,b)=>if decide (b.bl.length=0)=true then (nt0,0,15) else if b.sp.any (·.Cy)=false then (nt0,0,16) else (b.net,0,0)
def Cp.Ayu(b:Cp):List D:=[.ref 901 0 b.bl.length b.bl.length,.Dk 902 b.nx.length,.ref 903 0 b.sp.length b.sp.length,.cl [],.p (.int .i64 b.cq),.p (.int .i64 b.ca),.p (.int .i64 b.cd),.p (.int .i64 b.cp),
 .mv 14,.mv 15,.ref 906 0 b.ba.length b.ba.length,.p (.int .i64 b.sl),.ref 907 0 b.pl.length b.pl.length,.p (.bool b.cf)]
def Cp.lh(b:Cp)(k:Nat):Hp:=[(17,.box b.Ayu),(901,.arr 76 3 (C0 b.bl)),(902,.Dj 22 3 1 k (encR b.nx) none),(903,.arr 68 6 (CY b.sp)),
 (14,.mp (JS b.mb)),(15,.mp (JS b.ms)),(906,.arr 3 1 (BT b.ba)),(907,.arr 120 2 (Il b.pl))]
theorem Cp.OW(b:Cp)(k:Nat):b.lh k=[(17,.box [.ref 901 0 b.bl.length b.bl.length,.Dk 902 b.nx.length,.ref 903 0 b.sp.length b.sp.length,.cl [],.p (.int .i64 b.cq),.p (.int .i64 b.ca),.p (.int .i64 b.cd),.p (.int .i64 b.cp),
 .mv 14,.mv 15,.ref 906 0 b.ba.length b.ba.length,.p (.int .i64 b.sl),.ref 907 0 b.pl.length b.pl.length,.p (.bool b.cf)]),(901,.arr 76 3 (C0 b.bl)),(902,.Dj 22 3 1 k (encR b.nx) none),(903,.arr 68 6 (CY b.sp)),
 (14,.mp (JS b.mb)),(15,.mp (JS b.ms)),(906,.arr 3 1 (BT b.ba)),(907,.arr 120 2 (Il b.pl))]:=rfl
theorem BI.init:BI Cp.init:=by
 refine ⟨by simp[Cp.init],rfl,λ x i h=>?_,λ x i h=>?_,λ i=>by simp[Cp.init],by simp[Cp.init],rfl,by simp[Cp.init],by simp[Cp.init],by simp[Cp.init],by simp[Cp.init],by simp[Cp.init]⟩<;>simp[Cp.init,DJ] at h
theorem Aga(l:List Dc)(i:Nat)(h:i<l.length):(EK l).getD i []=[.int .i64 (l.getD i Oi).word,.int .i64 (l.getD i Oi).line,.sl (CD (l.getD i Oi).names),.sl (BT (l.getD i Oi).B2)]:=by simp[EK,List.getD,h]
theorem Atj(l:List CX)(hl:l.length<10000000):MX l=some (l.any (·.Cy)):=by
 have h:=Kd (step:=DG l) l.length (λ i=>(i:Int)) (Sum.inl (l.length:Int)) (λ i=>if (l.getD i B8).Cy=true then some (Sum.inr (i:Int)) else none)
   (λ i hi _=>by
     have hx:CB l (i:Int)=some (l.getD i B8):=by rw[G9];simp[List.getD,hi]
     rw[DG.eq_1,Ag (by omega:(i:Int)<((l.length:Nat):Int)),Ak,hx,Aa];simp only[E5,Aa];cases c:(l.getD i B8).Cy
     . simp[Cf i (by omega)]
     . simp)
   (λ _=>by rw[DG.eq_1,Ah (by omega:¬((l.length:Nat):Int)<((l.length:Nat):Int)),Aj])
 unfold MX EB;rw[show ((0:Nat):Int)=0 from rfl] at h;rw[h];cases hf:(List.range l.length).findSome? (λ i=>if (l.getD i B8).Cy=true then some (Sum.inr (i:Int):Int⊕Int) else none) with
 | none=>
   rw[Bx] at hf;have:l.any (·.Cy)=false:=by
     rw[List.any_eq_false];intro x hx;obtain ⟨i,hi,rfl⟩:=List.getElem_of_mem hx;have:=hf i (by simpa using hi);simp[List.getD,hi] at this
     simpa using this
   simp[this]
 | some e=>
   obtain ⟨i,hi,he⟩:=List.exists_of_findSome?_eq_some hf;simp only[List.mem_range] at hi;split at he
   . rename_i hd;cases he;have:l.any (·.Cy)=true:=Bd.2 ⟨l.getD i B8,CJ l i B8 hi,hd⟩;simp[this]
   . cases he
def sB(n:Int)(sp:List CX)(ba:List Int)(i:Nat):List CX:=ME n (sp.take i) (ba.take i)++sp.drop i
theorem OF(n:Int)(sp:List CX)(ba:List Int)(h:ba.length=sp.length):(ME n sp ba).length=sp.length:=by simp[ME,h]
theorem Ary(n:Int)(sp:List CX)(ba:List Int)(i:Nat)(h:ba.length=sp.length)(hi:i<=sp.length):(sB n sp ba i).length=sp.length:=by
 simp only[sB,At,List.length_drop];rw[OF _ _ _ (by simp[h]),Bm];omega
theorem Auw(n:Int)(sp:List CX)(ba:List Int)(i:Nat)(h:ba.length=sp.length)(hi:i<sp.length):(sB n sp ba i).getD i B8=sp.getD i B8:=by
 have hl:(ME n (sp.take i) (ba.take i)).length=i:=by rw[OF _ _ _ (by simp[h]),Bm];omega
 simp only[sB,List.getD];rw[Bg (by omega),hl,AU];simp
theorem Arx(n:Int)(sp:List CX)(ba:List Int)(i:Nat)(h:ba.length=sp.length)(hi:i<sp.length):(sB n sp ba i).set i {sp.getD i B8 with base:=n+ba.getD i 0}=sB n sp ba (i+1):=by
 have hl:(ME n (sp.take i) (ba.take i)).length=i:=by rw[OF _ _ _ (by simp[h]),Bm];omega
 have hd:sp.drop i=sp.getD i B8::sp.drop (i+1):=by rw[AT hi];simp[List.getD,hi]
 have ht:sp.take (i+1)=sp.take i++[sp.getD i B8]:=by rw[BM];simp[List.getD,hi]
 have hb:ba.take (i+1)=ba.take i++[ba.getD i 0]:=by rw[BM];simp[List.getD,h,hi]
 unfold sB;rw[List.set_append_right _ _ (by omega),hl,Nat.sub_self,hd,List.set_cons_zero,ht,hb];unfold ME;rw[List.zipWith_append (by simp[h])];simp
def smallD(d:List Dc):Prop:=d.length<10000000/\∀x∈d,x.names.length<=10000000/\x.B2.length<=10000000
set_option maxHeartbeats 4000000 in
theorem Ada (d:List Dc) (hd:smallD d):BV prog 31 [.p (.sl (EK d))] [] λ h r=>h=[]/\r= .De [.agg (nbuildV d).1.cs,.p (.int .i64 (nbuildV d).2.1),.p (.int .i64 (nbuildV d).2.2)]:=by
  obtain ⟨Vh,I8⟩:=hd;refine BX func31 rfl Alh (by simp[Tryz.f31]) ?_;simp only[go_sem,KK.fit];refine B3 (λ q:Nat×Cp×Nat=>⟨[(2,.ptr 2 0),(5,.ptr 17 0),(23,.p (.sl (EK d))),(24,.p (.int .i64 d.length)),(25,.p (.int .i64 (q.1:Nat)))],(2,.box [.cl [],.cl [],.cl [],.cl [],.p (.int .i64 0),.p (.int .i64 0),.p (.int .i64 0),.p (.int .i64 0)])::q.2.1.lh q.2.2,139⟩)
    (λ q=>q.1<=d.length/\BI q.2.1/\Eu Cp.init d=Eu q.2.1 (d.drop q.1)) (λ q=>d.length - q.1) (0,Cp.init,0) ⟨AG _,BI.init,by simp⟩
    ((Wk.G6 (id:=17) (j:=0) (q:=901) (sz:=3) 76 rfl rfl rfl (by decide)).trans ((Wk.Aoh (id:=17) (j:=1) (q:=902) (sz:=1) 22 3 rfl rfl rfl (by decide)).trans
      ((Wk.G6 (id:=17) (j:=2) (q:=903) (sz:=6) 68 rfl rfl rfl (by decide)).trans ((Wk.G6 (id:=17) (j:=10) (q:=906) (sz:=1) 3 rfl rfl rfl (by decide)).trans
      ((Wk.G6 (id:=17) (j:=12) (q:=907) (sz:=2) 120 rfl rfl rfl (by decide)).trans (Wk.forget (by simp[ZF,Cp.OW,Cp.init,C0,CY,BT,encR,Il,JS,Fh]))))))) ?_
  rintro ⟨i,b,k⟩ n ⟨hi,hB,he⟩ ih;dsimp only at hi hB he;simp only[go_sem,Cp.OW];refine Cv (λ h2=>?_) (λ h2=>?_)
  . have Cj:i<d.length:=by simp at h2;omega
    have hw:=Cf i (by omega);have hg:=Aga d i Cj;have r1:(0:Int)<=(i:Int)/\(i:Int)<(d.length:Int):=by omega
    have Vg:d.drop i=d.getD i Oi::d.drop (i+1):=by
      rw[AT Cj];simp[List.getD,Cj]
    have hx:=I8 (d.getD i Oi) (CJ d i Oi Cj);rw[Vg] at he;generalize d.getD i Oi=x at*;simp only[go_sem,Cp.OW,Fh,Ab,r1,hg];refine DY (Atn b k x hB hx) ?_;rintro h' r ⟨k2,rfl,rfl⟩;have hB2:=hB.add x;simp only[Eu] at he;cases c1:decide ((b.DC x).1=0)
    . have c1':¬(b.DC x).1=0:=Ae c1;rw[if_neg c1'] at he;simp only[go_sem,Cp.Fw (b.DC x).2 k2,c1];refine Di [(7,.box [.p (.int .i64 x.word),.p (.int .i64 x.line),.p (.sl (CD x.names)),.p (.sl (BT x.B2))])] mixed (p:=[(0,0),(1,0),(2,0),(3,0),(4,2),(5,0),(6,0)]) (by kernel_rfl) (by simp[C5,get]) ?_;simp only[go_sem];refine BU ?_;simp only[go_sem];unfold nbuildV;rw[he];rfl
    . have c1':(b.DC x).1=0:=Ad c1;rw[if_pos c1'] at he;simp only[go_sem,Cp.Fw (b.DC x).2 k2,c1,hw];refine ih (i+1,(b.DC x).2,k2) _ ⟨Cj,hB2,he⟩ (by simp;omega) ?_
      (refine Wk.forget ?_;simp[ZF,Cp.OW];done)
  . have:i=d.length:=by simp at h2;omega
    subst this;rw[Bv] at he;simp only[Eu] at he;have hv:nbuildV d=if decide (b.bl.length=0)=true then (nt0,0,15) else if b.sp.any (·.Cy)=false then (nt0,0,16) else (b.net,0,0):=by
      unfold nbuildV;rw[he]
    rw[hv];have hc:decide ((b.bl.length:Int)=0)=decide (b.bl.length=0):=by
      by_cases h:b.bl.length=0<;>simp[h]
    cases c1:decide (b.bl.length=0);rotate_left
    . simp only[go_sem,Ce,hc,c1];refine BU ?_;simp only[go_sem];rfl
    simp only[go_sem,Ce,hc,c1];refine Aah rfl rfl (Zj b.sp _ (Atj b.sp (by have:=hB.ns;omega))) (by simp[KC,TR,ev,get,AV,ZB]) ?_;rintro h' r ⟨rfl,rfl⟩;refine ⟨rfl,rfl,?_⟩;cases c2:b.sp.any (·.Cy)
    . simp only[go_sem,c2];refine BU ?_;simp only[go_sem];rfl
    simp only[go_sem,c2];have hnb:=hB.nb;have hns:=hB.ns;have hba:=hB.nba;refine B3 (λ i:Nat=>⟨[(2,.ptr 2 0),(5,.ptr 17 0),(60,.p (.int .i64 b.sp.length)),(61,.p (.int .i64 (i:Nat)))],(2,.box [.cl [],.cl [],.cl [],.cl [],.p (.int .i64 0),.p (.int .i64 0),.p (.int .i64 0),.p (.int .i64 0)])::({b with sp:=sB b.bl.length b.sp b.ba i}:Cp).lh k,139⟩)
      (λ i=>i<=b.sp.length) (λ i=>b.sp.length - i) 0 (AG _) (Wk.forget (by simp[ZF,Cp.OW,sB,ME,EW])) ?_
    rintro i m hi JL;have hl:=Ary b.bl.length b.sp b.ba i hba hi;simp only[go_sem,Cp.OW,hl];refine Cv (λ h3=>?_) (λ h3=>?_)
    . have Cj:i<b.sp.length:=by simp at h3;omega
      have hw:=Cf i (by omega);have g1:=FH (sB b.bl.length b.sp b.ba i) i (by omega);rw[Auw _ _ _ _ hba Cj] at g1;have g2:=Cg b.ba i (by omega);have hbb:=hB.bas (b.ba.getD i 0) (CJ b.ba i 0 (by omega));have w1:IntKind.i64.wrap ((b.bl.length:Int)+b.ba.getD i 0)=(b.bl.length:Int)+b.ba.getD i 0:=by rw[IntKind.wrap_i64];omega
      have r1:(0:Int)<=(i:Int)/\(i:Int)<(b.sp.length:Int):=by omega
      have hs:=Arx b.bl.length b.sp b.ba i hba Cj;simp only[go_sem,Cp.OW,hl];refine CE mixed (p:=[(0,0),(1,0),(2,0),(3,0),(4,0),(5,0),(6,0),(7,0),(8,0),(9,0),(10,0),(11,0),(12,0),(13,0),(14,0),(15,0),(16,0),(17,0),(18,0),(19,0),(20,0),(21,0),(22,3)]) (by kernel_rfl) (by simp[C5,get]) ?_;simp only[go_sem,hba,r1,BS,Ce,EW,Ab,g1,g2,w1,hl,hw];refine JL (i+1) _ Cj (by omega) ?_;rw[<-hs]
      (refine Wk.forget ?_;simp[ZF,Cp.OW,QE,EW,hl,hba];done)
    obtain rfl:i=b.sp.length:=by simp at h3;omega
    have hsB:sB b.bl.length b.sp b.ba b.sp.length=ME b.bl.length b.sp b.ba:=by
      unfold sB;rw[Bv,List.append_nil,Aw,<-hba,Aw]
    rw[hsB] at hl ⊢;have LC:=hB.np;simp only[go_sem,Cp.OW,EE];refine B3 (λ i:Nat=>⟨[(2,.ptr 2 0),(5,.ptr 17 0),(90,.ref 907 0 b.pl.length b.pl.length),(91,.p (.int .i64 b.pl.length)),(92,.p (.int .i64 (i:Nat)))],[(2,.box [.cl [],.cl [],.cl [],.cl [],.p (.int .i64 0),.p (.int .i64 0),.p (.int .i64 0),.p (.int .i64 0)]),
        (17,.box [.ref 901 0 b.bl.length b.bl.length,.Dk 902 b.nx.length,.ref 903 0 b.sp.length b.sp.length,.ref 904 0 i i,.p (.int .i64 b.cq),.p (.int .i64 b.ca),.p (.int .i64 b.cd),.p (.int .i64 b.cp),
          .mv 14,.mv 15,.ref 906 0 b.ba.length b.ba.length,.p (.int .i64 b.sl),.ref 907 0 b.pl.length b.pl.length,.p (.bool b.cf)]),(901,.arr 76 3 (C0 b.bl)),(902,.Dj 22 3 1 k (encR b.nx) none),(903,.arr 68 6 (CY (ME b.bl.length b.sp b.ba))),
        (14,.mp (JS b.mb)),(15,.mp (JS b.ms)),(906,.arr 3 1 (BT b.ba)),(904,.arr 3 1 (BT ((b.pl.take i).map (plB (ME b.bl.length b.sp b.ba))))),(907,.arr 120 2 (Il b.pl))],139⟩)
      (λ i=>i<=b.pl.length) (λ i=>b.pl.length - i) 0 (AG _) ((Wk.G6 (id:=17) (j:=3) (q:=904) (sz:=1) 3 rfl rfl rfl (by decide)).trans (Wk.forget (by simp[ZF,BT,EE,hl]))) ?_
    rintro i m hi ih3;simp only[go_sem];refine Cv (λ h3=>?_) (λ h3=>?_)
    . have Cj:i<b.pl.length:=by simp at h3;omega
      have hw:=Cf i (by omega);have g1:(Il b.pl).getD i []=[.int .i64 (b.pl.getD i (0,0)).1,.int .i64 (b.pl.getD i (0,0)).2]:=by simp[Il,List.getD,Cj]
      have r1:(0:Int)<=(i:Int)/\(i:Int)<(b.pl.length:Int):=by omega
      obtain ⟨⟨j,hj,hjl⟩,JT⟩:=hB.pls (b.pl.getD i (0,0)) (CJ b.pl i (0,0) Cj);have r2:(0:Int)<=(j:Int)/\(j:Int)<(b.sp.length:Int):=by omega
      have g2:=FH (ME b.bl.length b.sp b.ba) j (by omega);have hbs:0<=((ME b.bl.length b.sp b.ba).getD j B8).base/\((ME b.bl.length b.sp b.ba).getD j B8).base<=48:=by
        have:=hB.bas (b.ba.getD j 0) (CJ b.ba j 0 (by omega));have e:((ME b.bl.length b.sp b.ba).getD j B8).base=b.bl.length+b.ba.getD j 0:=by
          simp[ME,List.getD,List.getElem?_zipWith,hjl,show j<b.ba.length by omega]
        omega
      have hpl:plB (ME b.bl.length b.sp b.ba) (b.pl.getD i (0,0))=((ME b.bl.length b.sp b.ba).getD j B8).base+(b.pl.getD i (0,0)).2 - 1:=by
        unfold plB;rw[hj];rfl
      have ZK:(b.pl.take (i+1)).map (plB (ME b.bl.length b.sp b.ba))=(b.pl.take i).map (plB (ME b.bl.length b.sp b.ba))++[plB (ME b.bl.length b.sp b.ba) (b.pl.getD i (0,0))]:=by
        rw[BM,Bb];congr 1;simp[List.getD,Cj]
      rw[hj] at g1;generalize (ME b.bl.length b.sp b.ba).getD j B8=sj at*;generalize b.pl.getD i (0,0)=pi at*;have w1:IntKind.i64.wrap (IntKind.i64.wrap (sj.base+pi.2) - 1)=sj.base+pi.2 - 1:=by rw[IntKind.wrap_i64,IntKind.wrap_i64];omega
      simp only[go_sem,EE,r1,Ab,g1];refine Di [(17,.box [.ref 901 0 b.bl.length b.bl.length,.Dk 902 b.nx.length,.ref 903 0 b.sp.length b.sp.length,.ref 904 0 i i,.p (.int .i64 b.cq),.p (.int .i64 b.ca),.p (.int .i64 b.cd),.p (.int .i64 b.cp),
          .mv 14,.mv 15,.ref 906 0 b.ba.length b.ba.length,.p (.int .i64 b.sl),.ref 907 0 b.pl.length b.pl.length,.p (.bool b.cf)]),(11,.box [.p (.int .i64 j),.p (.int .i64 pi.2)]),(903,.arr 68 6 (CY (ME b.bl.length b.sp b.ba)))] mixed (p:=[(0,0),(1,0),(2,0),(3,0),(4,0),(5,0),(6,0),(7,0),(8,0),(9,0),(10,0),(11,0),(12,0),(13,0),(14,0),(15,0),(16,0),(17,0),(18,0),(19,0),(20,1),(21,2),(22,0),(23,0),(24,0),(25,3)]) (by kernel_rfl) (by simp[C5,get]) ?_
      simp only[go_sem,hl,r2,Ab,EW,g2,w1,BS,A6,Bm,Nat.min_eq_left hi];refine ⟨⟨EN _ _ rfl,by omega⟩,?_⟩;simp only[go_sem,hw];refine ih3 (i+1) _ Cj (by omega) ?_;rw[ZK,hpl]
      (refine Wk.forget ?_;simp[ZF,Fo,Nat.min_eq_left hi];done)
    obtain rfl:i=b.pl.length:=by simp at h3;omega
    rw[Aw];have hnn:=hB.nn;simp only[go_sem,H6];refine B3 (λ q:Nat×List (List Int)=>⟨[(2,.ptr 2 0),(5,.ptr 17 0),(126,.Dk 902 b.nx.length),(127,.p (.int .i64 b.nx.length)),(128,.p (.int .i64 (q.1:Nat)))],[(2,.box [.cl [],.cl [],.cl [],.cl [],.p (.int .i64 0),.p (.int .i64 0),.p (.int .i64 0),.p (.int .i64 0)]),
        (17,.box [.ref 901 0 b.bl.length b.bl.length,.Dk 902 b.nx.length,.ref 903 0 b.sp.length b.sp.length,.ref 904 0 b.pl.length b.pl.length,.p (.int .i64 b.cq),.p (.int .i64 b.ca),.p (.int .i64 b.cd),.p (.int .i64 b.cp),
          .mv 14,.mv 15,.ref 906 0 b.ba.length b.ba.length,.p (.int .i64 b.sl),.ref 907 0 b.pl.length b.pl.length,.p (.bool b.cf)]),(901,.arr 76 3 (C0 b.bl)),(902,.Dj 22 3 1 k (encR q.2) none),(903,.arr 68 6 (CY (ME b.bl.length b.sp b.ba))),
        (14,.mp (JS b.mb)),(15,.mp (JS b.ms)),(906,.arr 3 1 (BT b.ba)),(904,.arr 3 1 (BT (b.pl.map (plB (ME b.bl.length b.sp b.ba))))),(907,.arr 120 2 (Il b.pl))],139⟩)
      (λ q=>q.1<=b.nx.length/\q.2=(b.nx.take q.1).map DN++b.nx.drop q.1) (λ q=>b.nx.length - q.1) (0,b.nx) ⟨AG _,by simp⟩ (Wk.forget (by simp[ZF])) ?_
    rintro ⟨i,rows⟩ m ⟨hi,hrw⟩ ih4;dsimp only at hi hrw;have hrl:rows.length=b.nx.length:=by rw[hrw];simp;omega
    simp only[go_sem];refine Cv (λ h3=>?_) (λ h3=>?_)
    . have Cj:i<b.nx.length:=by simp at h3;omega
      have hw:=Cf i (by omega);have r1:(0:Int)<=(i:Int)/\(i:Int)<(b.nx.length:Int):=by omega
      have Ij:rows.getD i []=b.nx.getD i []:=by
        rw[hrw];simp only[List.getD];rw[Bg (by simp;omega),AU];simp[Nat.min_eq_left hi]
      have E9:rows.set i (DN (rows.getD i []))=(b.nx.take (i+1)).map DN++b.nx.drop (i+1):=by
        rw[Ij,hrw,List.set_append_right _ _ (by simp;omega)];have Vg:b.nx.drop i=b.nx.getD i []::b.nx.drop (i+1):=by rw[AT Cj];simp[List.getD,Cj]
        rw[Vg,show i - ((b.nx.take i).map DN).length=0 by simp;omega,List.set_cons_zero,BM,Bb];simp[List.getD,Cj]
      have CS:=hB.row i;simp only[go_sem,r1,Ab,H6,Mq,BS,hrl];refine Om rfl rfl ?_;simp only[go_sem,Je];refine TO (Ahx rows i k (by omega) (by rw[Ij];omega)) ?_;rintro h' r ⟨rfl,rfl⟩;simp only[go_sem,hw];refine ih4 (i+1,_) _ ⟨Cj,E9⟩ (by simp;omega) ?_
      (refine Wk.forget ?_;simp[ZF];done)
    obtain rfl:i=b.nx.length:=by simp at h3;omega
    rw[Aw,Bv,List.append_nil] at hrw;subst hrw;simp only[go_sem];refine BU ?_;simp only[go_sem,Ce,EW,BS,hl,H6,A6];have e1:List.take b.sp.length (CY (ME b.bl.length b.sp b.ba))=CY (ME b.bl.length b.sp b.ba):=AV (by rw[EW,hl];exact Ai _);have e2:List.take b.pl.length (BT (b.pl.map (plB (ME b.bl.length b.sp b.ba))))=BT (b.pl.map (plB (ME b.bl.length b.sp b.ba))):=AV (by simp[BT]);have e3:(encR (b.nx.map DN)).map (λ r=>[Pd.sl r])=Cw (b.nx.map DN):=by simp[encR,Cw]
    rw[e1,e2,e3];simp[c1];rfl
theorem OB(a lo hi:Int):CM a lo hi=some (decide (lo<=a)&&decide (a<=hi)):=by
 unfold CM;cases decide (lo<=a)<;>rfl
theorem Ax7:∀b1 b2 b3 b4:Bool,cond b1 (cond b2 (cond b3 (some b4) (some false)) (some false)) (some false)=some (b1&&(b2&&(b3&&b4))):=by decide
theorem T6(q a d p:Int):DO ⟨q,a,d,p⟩=some (decide (HJ q a d p)):=by
 unfold DO;simp only[OB,Aa];rw[Ax7]
 congr 1
 rw[Bt];simp only[Ar,Ao];exact ⟨λ ⟨⟨a1,a2⟩,⟨b1,b2⟩,⟨c1,c2⟩,d1,d2⟩=>⟨a1,a2,b1,b2,c1,c2,d1,d2⟩,λ ⟨a1,a2,b1,b2,c1,c2,d1,d2⟩=>⟨⟨a1,a2⟩,⟨b1,b2⟩,⟨c1,c2⟩,d1,d2⟩⟩
def OX(l:List Int)(i:Nat):Int:=if i=0 then -1 else l.getD (i - 1) 0
theorem XJ(l:List Int)(i nb:Nat)(hl:l.length<=10000000):Eg l (i:Int) (nb:Int)=some (decide (Iv nb i l/\l.length<=4)):=by
 have h:=GN (step:=D4 l (i:Int) (nb:Int)) l.length (λ k=>((k:Int),OX l k)) (Sum.inl ((l.length:Int),OX l l.length)) (Sum.inr false) (λ k=>decide (IX nb i l k))
   (λ k hk hj=>by
     rw[D4.eq_1,E8 hk,Ak,Cd l k 0 hk,Aa];have hw:=Cs (show k<10000000 by omega);have Avr:0<k->0<=l.getD (k - 1) 0:=λ h=>by have:=Ad (hj (k - 1) (by omega));exact this.1
     have Aju:OX l (k+1)=l.getD k 0:=by unfold OX;rw[if_neg (by omega)];rfl
     by_cases c1:l.getD k 0<=OX l k
     . rw[Ag c1,Ak,if_neg];intro h;have:=Ad h;unfold OX at c1;split at c1
       . have:=this.1;omega
       . have:=this.2.2.2 (by omega);omega
     . rw[Ah c1,Aj];by_cases c2:(nb:Int)<=l.getD k 0
       . rw[Ag c2,Ak,if_neg];intro h;have:=(Ad h).2.1;omega
       . rw[Ah c2,Aj];by_cases c3:l.getD k 0=(i:Int)
         . rw[Ag c3,Ak,if_neg];intro h;exact (Ad h).2.2.1 c3
         . rw[Ah c3,Aj,if_pos,hw,Aju];refine Ag ⟨?_,by omega,c3,λ h=>?_⟩
           . unfold OX at c1;split at c1
             . omega
             . have:=Avr (by omega);omega
           . unfold OX at c1;rw[if_neg (by omega)] at c1;omega)
   (λ _=>by rw[D4.eq_1,FX,Aj])
 unfold Eg;rw[show ((0:Int),(-1:Int))=(((0:Nat):Int),OX l 0) from rfl,h,Aa];by_cases g:∀j,j<l.length->decide (IX nb i l j)=true
 . rw[if_pos g];simp only
   congr 1
   have hr:Iv nb i l:=λ k hk=>Ad (g k hk);by_cases h4:l.length<=4
   . rw[Ag (show (l.length:Int)<=4 by omega),Ag ⟨hr,h4⟩]
   . rw[Ah (show ¬(l.length:Int)<=4 by omega),Ah (λ h=>h4 h.2)]
 . rw[if_neg g];simp only
   congr 1
   symm
   exact Ah λ h=>g λ j hj=>Ag (h.1 j hj)
def Gz:List (List UInt8×Int)->List (List UInt8)->List (List UInt8×Int)
 | m,[]=>m
 | m,x::r=>Gz (HC m x (IntKind.i64.wrap ((DJ m x).getD 0+1))) r
theorem VL(m:List (List UInt8×Int))(l:List (List UInt8))(x:List UInt8):Gz m (l++[x])=HC (Gz m l) x (IntKind.i64.wrap ((DJ (Gz m l) x).getD 0+1)):=by
 induction l generalizing m with
 | nil=>rfl
 | cons y r ih=>simp only[AR,Gz];exact ih _
theorem Ame(m:List (List UInt8×Int))(a b:List (List UInt8)):Gz m (a++b)=Gz (Gz m a) b:=by
 induction a generalizing m with
 | nil=>rfl
 | cons y r ih=>simp only[AR,Gz];exact ih _
theorem Acx(m:List (List UInt8×Int))(k:List UInt8)(v:Int):(HC m k v).map (·.1)=if k∈m.map (·.1) then m.map (·.1) else m.map (·.1)++[k]:=by
 induction m with
 | nil=>simp[HC]
 | cons p r ih=>
   simp only[HC];by_cases h:p.1=k
   . simp[h]
   . rw[if_neg h,AD,ih];by_cases h2:k∈r.map (·.1)
     . rw[if_pos h2,if_pos (by simp only[AD,AE];exact .inr h2)];rfl
     . rw[if_neg h2,if_neg (by simp only[AD,AE,not_or];exact ⟨Bj h,h2⟩)];rfl
theorem VM:∀(l:List (List UInt8)) (m:List (List UInt8×Int)),(m.map (·.1)).Nodup->((Gz m l).map (·.1)).Nodup/\(Gz m l).length<=m.length+l.length/\((Gz m l).length=m.length+l.length↔(m.map (·.1)++l).Nodup)
 | [],m,h=>by simp[Gz,h]
 | x::r,m,h=>by
   simp only[Gz];have hk:=Acx m x (IntKind.i64.wrap ((DJ m x).getD 0+1));have hlen:(HC m x (IntKind.i64.wrap ((DJ m x).getD 0+1))).length=if x∈m.map (·.1) then m.length else m.length+1:=by
     have:=AQ List.length hk;rw[A6] at this;rw[this];split<;>simp
   have hnd:((HC m x (IntKind.i64.wrap ((DJ m x).getD 0+1))).map (·.1)).Nodup:=by
     rw[hk];split
     . exact h
     . rename_i hx;rw[Bn];exact ⟨h,by simp,λ a ha b hb=>by simp at hb;subst hb;intro e;subst e;exact hx ha⟩
   obtain ⟨h1,h2,h3⟩:=VM r _ hnd;refine ⟨h1,by rw[hlen] at h2;split at h2<;>simp<;>omega,?_⟩;by_cases hx:x∈m.map (·.1)
   . rw[hlen,if_pos hx] at h2;constructor
     . intro he;simp at he;omega
     . intro hn;rw[Bn] at hn;exact (hn.2.2 x hx x (by simp) rfl).elim
   . rw[hlen,if_neg hx,hk,if_neg hx] at h3;rw[show m.length+(x::r).length=m.length+1+r.length by simp;omega,h3,A1];rfl
theorem FY(p:Int×Bool)(r:List (Int×Bool))(x:Int):Iz (p::r) x=if p.1=x then some p.2 else Iz r x:=by
 unfold Iz;rw[List.find?_cons];by_cases h:p.1=x
 . simp[h]
 . rw[if_neg h,beq_eq_false_iff_ne.2 h]
theorem UR(p:Int×Bool)(r:List (Int×Bool))(k:Int)(v:Bool):P5 (p::r) k v=if p.1=k then (k,v)::r else p::P5 r k v:=rfl
theorem VH(p:Int×Bool)(r:List (Int×Bool))(k:Int):Lx (p::r) k=if p.1=k then r else p::Lx r k:=rfl
theorem Aec(m:List (Int×Bool))(k:Int)(v:Bool)(x:Int):Iz (P5 m k v) x=if x=k then some v else Iz m x:=by
 induction m with
 | nil=>
   have:P5 [] k v=[(k,v)]:=rfl;rw[this,FY];by_cases h:x=k
   . rw[if_pos h,if_pos h.symm]
   . rw[if_neg h,if_neg (Bj h)]
 | cons p r ih=>
   rw[UR,FY];by_cases h:p.1=k
   . rw[if_pos h,FY];by_cases h2:x=k
     . rw[if_pos h2,if_pos h2.symm]
     . rw[if_neg h2,if_neg (Bj h2),if_neg (λ e=>h2 (by rw[<-e,<-h]))]
   . rw[if_neg h,FY,ih];by_cases h2:p.1=x
     . rw[if_pos h2,if_pos h2,if_neg (λ e=>h (by rw[h2,e]))]
     . rw[if_neg h2,if_neg h2]
theorem Acz(m:List (Int×Bool))(k:Int)(v:Bool):(P5 m k v).map (·.1)=if k∈m.map (·.1) then m.map (·.1) else m.map (·.1)++[k]:=by
 induction m with
 | nil=>simp[P5]
 | cons p r ih=>
   rw[UR];by_cases h:p.1=k
   . simp[h]
   . rw[if_neg h,AD,ih];by_cases h2:k∈r.map (·.1)
     . rw[if_pos h2,if_pos (by simp only[AD,AE];exact .inr h2)];rfl
     . rw[if_neg h2,if_neg (by simp only[AD,AE,not_or];exact ⟨Bj h,h2⟩)];rfl
theorem Am7(m:List (Int×Bool))(k x:Int)(h:x∈(Lx m k).map (·.1)):x∈m.map (·.1):=by
 induction m with
 | nil=>exact h
 | cons p r ih=>
   rw[VH] at h;split at h
   . simp only[AD,AE];exact .inr h
   . simp only[AD,AE] at h ⊢;exact h.imp id ih
theorem Aed(m:List (Int×Bool))(x:Int):Iz m x=none↔x∉m.map (·.1):=by
 induction m with
 | nil=>simp[Iz]
 | cons p r ih=>
   rw[FY];by_cases h:p.1=x
   . simp[h]
   . rw[if_neg h,ih];simp[Bj h]
theorem Y8(m:List (Int×Bool))(k x:Int)(hn:(m.map (·.1)).Nodup):((Lx m k).map (·.1)).Nodup/\Iz (Lx m k) x=if x=k then none else Iz m x:=by
 induction m with
 | nil=>exact ⟨hn,by simp[Lx,Iz]⟩
 | cons p r ih=>
   simp only[AD,List.nodup_cons] at hn;obtain ⟨h1,h2⟩:=ih hn.2;rw[VH];by_cases h:p.1=k
   . rw[if_pos h];refine ⟨hn.2,?_⟩;by_cases hx:x=k
     . rw[if_pos hx,Aed,hx,<-h];exact hn.1
     . rw[if_neg hx,FY,if_neg (λ e=>hx (by rw[<-e,h]))]
   . rw[if_neg h];refine ⟨by simp only[AD,List.nodup_cons];exact ⟨λ hm=>hn.1 (Am7 r k _ hm),h1⟩,?_⟩;rw[FY,FY,h2];by_cases hp:p.1=x
     . rw[if_pos hp,if_pos hp,if_neg (λ e=>h (by rw[hp,e]))]
     . rw[if_neg hp,if_neg hp]
def MB(m:List (Int×Bool))(f:Int->Bool):Prop:=(m.map (·.1)).Nodup/\∀x,Iz m x=if f x=true then some true else none
theorem MB.nil:MB [] (λ _=>false):=⟨by simp,λ x=>by simp[Iz]⟩
theorem MB.put{m:List (Int×Bool)}{f:Int->Bool}(h:MB m f)(k:Int):MB (P5 m k true) (λ x=>f x||decide (x=k)):=by
 refine ⟨?_,λ x=>?_⟩
 . rw[Acz];split
   . exact h.1
   . rename_i hx;rw[Bn];exact ⟨h.1,by simp,λ a ha b hb=>by simp at hb;subst hb;intro e;subst e;exact hx ha⟩
 . rw[Aec,h.2];by_cases hx:x=k
   . simp[hx]
   . simp[hx]
theorem MB.del{m:List (Int×Bool)}{f:Int->Bool}(h:MB m f)(k:Int):MB (Lx m k) (λ x=>f x&&!decide (x=k)):=by
 refine ⟨(Y8 m k 0 h.1).1,λ x=>?_⟩;rw[(Y8 m k x h.1).2,h.2];by_cases hx:x=k
 . simp[hx]
 . simp[hx]
theorem MB.pos{m:List (Int×Bool)}{f:Int->Bool}(h:MB m f):0<m.length↔∃x,f x=true:=by
 constructor
 . intro hm;obtain ⟨p,r,rfl⟩:∃p r,m=p::r:=by cases m with | nil=>simp at hm | cons p r=>exact ⟨p,r,rfl⟩
   refine ⟨p.1,?_⟩;have:=h.2 p.1;rw[FY,if_pos rfl] at this;by_cases hf:f p.1=true
   . exact hf
   . rw[if_neg hf] at this;cases this
 . rintro ⟨x,hx⟩;cases m with
   | nil=>have:=h.2 x;rw[if_pos hx] at this;simp[Iz] at this
   | cons p r=>simp
theorem MB.congr{m:List (Int×Bool)}{f g:Int->Bool}(h:MB m f)(e:∀x,f x=g x):MB m g:=⟨h.1,λ x=>by rw[<-e];exact h.2 x⟩
def Wg(m:List (Int×Bool))(b:Int):Nat->List (Int×Bool)
 | 0=>m
 | n+1=>P5 (Wg m b n) (b+n) true
theorem MB.Wg{m:List (Int×Bool)}{f:Int->Bool}(h:MB m f)(b:Int):∀n:Nat,MB (Wg m b n) (λ x=>f x||(decide (b<=x)&&decide (x<b+n)))
 | 0=>h.congr λ x=>by
   have:(decide (b<=x)&&decide (x<b+((0:Nat):Int)))=false:=by
     rw[Bool.and_eq_false_iff];by_cases h:b<=x
     . exact .inr (Ah (by omega))
     . exact .inl (Ah h)
   rw[this,Bool.or_false]
 | n+1=>(MB.put (h.Wg b n) (b+n)).congr λ x=>by
   rw[Bool.or_assoc]
   congr 1
   rw[Bt];simp only[Bool.or_eq_true,Ar,Ao];omega
def K4(m:List (Int×Bool))(s:CX):List (Int×Bool):=if s.Cy=true then Wg m s.base s.Ch.toNat else m
theorem MB.dep{m:List (Int×Bool)}{f:Int->Bool}(h:MB m f)(s:CX)(hs:0<=s.Ch):MB (K4 m s) (λ x=>f x||Qi x s):=by
 unfold K4 Qi;cases s.Cy
 . exact h.congr λ x=>by simp
 . refine (h.Wg s.base s.Ch.toNat).congr λ x=>?_;rw[Int.toNat_of_nonneg hs];simp
theorem MB.Ax5{m:List (Int×Bool)}{f:Int->Bool}:∀(l:List CX) (h:MB m f),(∀s∈l,0<=s.Ch)->MB (l.foldl K4 m) (λ x=>f x||l.any (Qi x))
 | [],h,_=>h.congr λ x=>by simp
 | s::r,h,hs=>by
   rw[Bf];exact (MB.Ax5 r (h.dep s (hs s (by simp))) (λ t ht=>hs t (by simp[ht]))).congr λ x=>by simp[Bool.or_assoc]
theorem Ao0(s:CX)(m:List (Int×Bool))(hs:1<=s.Ch/\s.Ch<=4)(hb:0<=s.base/\s.base<=100):Ct (Ez s) (m,0,s.base)=some (K4 m s,s.Ch,s.base+s.Ch):=by
 have e:∃n:Nat,s.Ch=(n:Int):=⟨s.Ch.toNat,by omega⟩;obtain ⟨n,hn⟩:=e;have h:=C3 (step:=Ez s) n (λ j=>(if s.Cy=true then Wg m s.base j else m,(j:Int),s.base+(j:Int))) (K4 m s,s.Ch,s.base+s.Ch)
   (λ j hj=>by
     rw[Ez.eq_1,hn,E8 hj,Ak];have w1:=Cs (show j<10000000 by omega);have w2:IntKind.i64.wrap (s.base+(j:Int)+1)=s.base+((j+1:Nat):Int):=by rw[IntKind.wrap_i64];omega
     cases s.Cy
     . rw[Aj,w1,w2];rfl
     . rw[Ak,w1,w2];rfl)
   (by
     rw[Ez.eq_1,hn,FX,Aj];unfold K4;rw[hn];rfl)
 have e0:(m,(0:Int),s.base)=(if s.Cy=true then Wg m s.base 0 else m,((0:Nat):Int),s.base+((0:Nat):Int)):=by
   cases s.Cy<;>simp[Wg]
 rw[e0,h]
theorem Acf(sp:List CX)(i:Nat)(h:i<sp.length):Df (sp.take (i+1))=Df (sp.take i)+(sp.getD i B8).Ch:=by rw[Cr sp i B8 h,D0]
def Vj(n:Nt)(i:Nat):Bool:=CG (n.blocks.getD i DB).name&&(decide (T2 (n.blocks.getD i DB))&&decide (Iv n.blocks.length i (n.next.getD i [])/\(n.next.getD i []).length<=4))
def Rd(n:Nt)(i:Nat):Bool:=CG (n.spurs.getD i B8).name&&decide (Lh n.blocks.length (n.blocks.length+Df (n.spurs.take i)) (n.spurs.getD i B8))
theorem Ano(n:Nt)(hl:n.blocks.length<=24)(hn:n.next.length=n.blocks.length)(hr:∀r∈n.next,r.length<=10000000):
   Ct (Ex n) ([],0)=some (if (∀j,j<n.blocks.length->Vj n j=true) then Sum.inl (Gz [] (n.blocks.map EH.name),(n.blocks.length:Int)) else Sum.inr false):=by
 have h:=GN (step:=Ex n) n.blocks.length (λ i=>(Gz [] ((n.blocks.take i).map EH.name),(i:Int))) (Sum.inl (Gz [] (n.blocks.map EH.name),(n.blocks.length:Int))) (Sum.inr false) (λ i=>Vj n i)
   (λ i hi hj=>by
     rw[Ex.eq_1,E8 hi,Ak,Cd n.blocks i DB hi,Aa];have w2:=Cs (show i<10000000 by omega);simp only[Pg,OB,Aa];have Xw:(Gz [] ((n.blocks.take (i+1)).map EH.name),((i+1:Nat):Int))=
         (HC (Gz [] ((n.blocks.take i).map EH.name)) (n.blocks.getD i DB).name (IntKind.i64.wrap ((DJ (Gz [] ((n.blocks.take i).map EH.name)) (n.blocks.getD i DB).name).getD 0+1)),((i+1:Nat):Int)):=by
       rw[Cr n.blocks i DB hi,Bb,AD,Bi,VL]
     rw[Xw,Cd n.next i [] (by omega),Aa,XJ _ i n.blocks.length (by have:=hr (n.next.getD i []) (CJ n.next i [] (by omega));exact this),Aa];unfold Vj;generalize n.blocks.getD i DB=b;cases c0:CG b.name
     . simp
     rw[Ak,Bz];by_cases c1:(-9999)<=b.x/\b.x<=9999;rotate_left
     . have e1:(decide ((-9999)<=b.x)&&decide (b.x<=9999))=false:=by rw[<-BG];exact Ah c1
       rw[e1,Aj,if_neg (by rw[Ar,Ao];intro h;exact c1 ⟨h.1.1,h.1.2.1⟩)]
     rw[show (decide ((-9999)<=b.x)&&decide (b.x<=9999))=true by rw[<-BG];exact Ag c1,Ak];by_cases c2:(-9999)<=b.y/\b.y<=9999;rotate_left
     . have e1:(decide ((-9999)<=b.y)&&decide (b.y<=9999))=false:=by rw[<-BG];exact Ah c2
       rw[e1,Aj,if_neg (by rw[Ar,Ao];intro h;exact c2 ⟨h.1.2.2.1,h.1.2.2.2⟩)]
     rw[show (decide ((-9999)<=b.y)&&decide (b.y<=9999))=true by rw[<-BG];exact Ag c2,Ak];rw[show decide (T2 b)=true from Ag ⟨c1.1,c1.2,c2.1,c2.2⟩,Bz];cases decide (Iv n.blocks.length i (n.next.getD i [])/\(n.next.getD i []).length<=4)
     . simp
     . rw[Ak,if_pos rfl,w2])
   (λ hj=>by rw[Ex.eq_1,FX,Aj,Aw])
 exact h
theorem Arp(n:Nt)(m:List (List UInt8×Int))(hb:1<=n.blocks.length/\n.blocks.length<=24)(hl:n.spurs.length<=6):
   Ct (Ey n) (m,[],(n.blocks.length:Int),0)=some (if (∀j,j<n.spurs.length->Rd n j=true) then Sum.inl (Gz m (n.spurs.map CX.name),n.spurs.foldl K4 [],(n.blocks.length:Int)+Df n.spurs,(n.spurs.length:Int)) else Sum.inr false):=by
 have Lu:∀i,i<=n.spurs.length->(∀j,j<i->Rd n j=true)->0<=Df (n.spurs.take i)/\Df (n.spurs.take i)<=4*i:=by
   intro i hi hj;exact IM n.blocks.length n.spurs i hi (λ j h=>by
     have:=hj j h;simp only[Rd,Ar,Ao] at this;exact this.2)
 have h:=GN (step:=Ey n) n.spurs.length (λ i=>(Gz m ((n.spurs.take i).map CX.name),(n.spurs.take i).foldl K4 [],(n.blocks.length:Int)+Df (n.spurs.take i),(i:Int)))
   (Sum.inl (Gz m (n.spurs.map CX.name),n.spurs.foldl K4 [],(n.blocks.length:Int)+Df n.spurs,(n.spurs.length:Int))) (Sum.inr false) (λ i=>Rd n i)
   (λ i hi hj=>by
     have hs:=Lu i (by omega) hj;rw[Ey.eq_1,E8 hi,Ak,Cd n.spurs i B8 hi,Aa];have w1:IntKind.i64.wrap ((n.blocks.length:Int) - 1)=(n.blocks.length:Int) - 1:=by rw[IntKind.wrap_i64];omega
     have w2:=Cs (show i<10000000 by omega);simp only[Pg,OB,Aa,w1];have Xw:(Gz m ((n.spurs.take (i+1)).map CX.name),(n.spurs.take (i+1)).foldl K4 [],(n.blocks.length:Int)+Df (n.spurs.take (i+1)),((i+1:Nat):Int))=
         (HC (Gz m ((n.spurs.take i).map CX.name)) (n.spurs.getD i B8).name (IntKind.i64.wrap ((DJ (Gz m ((n.spurs.take i).map CX.name)) (n.spurs.getD i B8).name).getD 0+1)),K4 ((n.spurs.take i).foldl K4 []) (n.spurs.getD i B8),(n.blocks.length:Int)+Df (n.spurs.take i)+(n.spurs.getD i B8).Ch,((i+1:Nat):Int)):=by
       rw[Acf _ _ hi,Cr n.spurs i B8 hi,Bb,List.foldl_append,AD,Bi,VL,Int.add_assoc];rfl
     rw[Xw];unfold Rd;generalize hse:n.spurs.getD i B8=s;cases c0:CG s.name
     . simp
     rw[Ak,Bz];by_cases c1:0<=s.Ip/\s.Ip<=(n.blocks.length:Int) - 1;rotate_left
     . have e1:(decide (0<=s.Ip)&&decide (s.Ip<=(n.blocks.length:Int) - 1))=false:=by rw[<-BG];exact Ah c1
       rw[e1,Aj,if_neg (by rw[Ao];intro h;exact c1 ⟨h.1,by have:=h.2.1;omega⟩)]
     rw[show (decide (0<=s.Ip)&&decide (s.Ip<=(n.blocks.length:Int) - 1))=true by rw[<-BG];exact Ag c1,Ak];by_cases c2:0<=s.out/\s.out<=(n.blocks.length:Int) - 1;rotate_left
     . have e1:(decide (0<=s.out)&&decide (s.out<=(n.blocks.length:Int) - 1))=false:=by rw[<-BG];exact Ah c2
       rw[e1,Aj,if_neg (by rw[Ao];intro h;exact c2 ⟨h.2.2.1,by have:=h.2.2.2.1;omega⟩)]
     rw[show (decide (0<=s.out)&&decide (s.out<=(n.blocks.length:Int) - 1))=true by rw[<-BG];exact Ag c2,Ak];by_cases c3:1<=s.Ch/\s.Ch<=4;rotate_left
     . have e1:(decide (1<=s.Ch)&&decide (s.Ch<=4))=false:=by rw[<-BG];exact Ah c3
       rw[e1,Aj,if_neg (by rw[Ao];intro h;exact c3 ⟨h.2.2.2.2.1,h.2.2.2.2.2.1⟩)]
     rw[show (decide (1<=s.Ch)&&decide (s.Ch<=4))=true by rw[<-BG];exact Ag c3,Ak];by_cases c4:s.base=(n.blocks.length:Int)+Df (n.spurs.take i);rotate_left
     . rw[Ah c4,Aj,if_neg (by rw[Ao];intro h;exact c4 h.2.2.2.2.2.2)]
     rw[Ag c4,Ak,if_pos (Ag ⟨c1.1,by omega,c2.1,by omega,c3.1,c3.2,c4⟩),<-c4,Ao0 s _ c3 (by omega),Aa,w2])
   (λ hj=>by rw[Ey.eq_1,FX,Aj,Aw])
 have e0:(m,([]:List (Int×Bool)),(n.blocks.length:Int),(0:Int))=(Gz m ((n.spurs.take 0).map CX.name),(n.spurs.take 0).foldl K4 [],(n.blocks.length:Int)+Df (n.spurs.take 0),((0:Nat):Int)):=by
   simp[Gz,Df]
 rw[e0];exact h
theorem Ann(n:Nt)(m:List (Int×Bool))(f:Int->Bool)(hm:MB m f)(ok:Bool)(hl:n.BW.length<=8):
   ∃m',Ct (D2 n) (m,ok,0)=some (m',ok&&decide (∀i,i<n.BW.length->f (n.BW.getD i 0)=true/\n.BW.getD i 0∉n.BW.take i),(n.BW.length:Int)):=by
 have key:∀k,k<=n.BW.length->∃m',MB m' (λ x=>f x&&decide (x∉n.BW.take k))/\
     ∀r,Ct (D2 n) (m',ok&&decide (∀i,i<k->f (n.BW.getD i 0)=true/\n.BW.getD i 0∉n.BW.take i),(k:Int))=some r->Ct (D2 n) (m,ok,0)=some r:=by
   intro k
   induction k with
   | zero=>
     intro _;refine ⟨m,hm.congr λ x=>by simp,λ r hr=>?_⟩;simp only[A3,false_implies,implies_true,decide_true,Bool.and_true] at hr;exact hr
   | succ k ih=>
     intro hk;obtain ⟨m',h1,h2⟩:=ih (by omega);refine ⟨Lx m' (n.BW.getD k 0),(h1.del _).congr λ x=>?_,λ r hr=>h2 r ?_⟩
     . rw[Cr n.BW k 0 (by omega),Bool.and_assoc]
       congr 1
       rw[Bt];simp[not_or]
     . have w2:=Cs (show k<10000000 by omega);rw[CL,D2.eq_1,E8 (by omega),Ak,Cd n.BW k 0 (by omega),Aa,w2];have hg:(Iz m' (n.BW.getD k 0)).getD false=(f (n.BW.getD k 0)&&decide (n.BW.getD k 0∉n.BW.take k)):=by
         rw[h1.2];split
         . rename_i e;simpa using e.symm
         . rename_i e;simpa using e
       have II:decide (∀i,i<k+1->f (n.BW.getD i 0)=true/\n.BW.getD i 0∉n.BW.take i)=(decide (∀i,i<k->f (n.BW.getD i 0)=true/\n.BW.getD i 0∉n.BW.take i)&&(f (n.BW.getD k 0)&&decide (n.BW.getD k 0∉n.BW.take k))):=by
         rw[Bt];simp only[Ar,Ao];constructor
         . intro h;exact ⟨λ i hi=>h i (by omega),h k (by omega)⟩
         . rintro ⟨h3,h4⟩ i hi;by_cases e:i=k
           . subst e;exact h4
           . exact h3 i (by omega)
       rw[II] at hr;cases c:(ok&&decide (∀i,i<k->f (n.BW.getD i 0)=true/\n.BW.getD i 0∉n.BW.take i))
       . rw[Aj,Aa,B0];rw[<-Bool.and_assoc,c,Bool.false_and] at hr;exact hr
       . rw[Ak,Aa,B0,hg];rw[<-Bool.and_assoc,c,Bz] at hr;exact hr
 obtain ⟨m',h1,h2⟩:=key n.BW.length (Ai _);exact ⟨m',h2 _ (by rw[CL,D2.eq_1,FX,Aj,Aa,BZ])⟩
theorem Ahh(n:Nt)(m:List (Int×Bool))(hl:n.BW.length<=8):∃r,Ct (EA n) (m,0)=some r:=by
 have key:∀k (m:List (Int×Bool)) i,i+k=n.BW.length->∃r,Ct (EA n) (m,(i:Int))=some r:=by
   intro k
   induction k with
   | zero=>
     intro m i hi;obtain rfl:i=n.BW.length:=by omega
     exact ⟨_,by rw[CL,EA.eq_1,FX,Aj,Aa,BZ]⟩
   | succ k ih=>
     intro m i hi;have w2:=Cs (show i<10000000 by omega);obtain ⟨r,hr⟩:=ih (Lx m (n.BW.getD i 0)) (i+1) (by omega);exact ⟨r,by rw[CL,EA.eq_1,E8 (by omega),Ak,Cd n.BW i 0 (by omega),Aa,w2,Aa,B0];exact hr⟩
 exact key n.BW.length m 0 (by omega)
theorem IZ(l:List (List UInt8)):l.Nodup↔∀i,i<l.length->∀k,k<i->l.getD i []≠l.getD k []:=by
 unfold List.Nodup;rw[List.pairwise_iff_getElem];constructor
 . intro h i hi k hk;have:=h k i (by omega) hi hk;rw[getD_eq hi,getD_eq (show k<l.length by omega)];exact Bj this
 . intro h i j hi hj hij;have:=h j hj i hij;rw[getD_eq hi,getD_eq hj] at this;exact Bj this
theorem X9(n:Nt)(hs:JF n):ES n=some (decide (validN n)):=by
 obtain ⟨s1,⟨s2,s2'⟩,s3,s4⟩:=hs;have no:∀{r:Option Bool},¬validN n->r=some false->r=some (decide (validN n)):=λ h hr=>by rw[hr,Ah h]
 unfold ES;rw[OB,Aa];by_cases b1:1<=n.blocks.length/\n.blocks.length<=24;rotate_left
 . refine no (λ h=>b1 ⟨h.1.1,h.1.2.1⟩) ?_;rw[show (decide ((1:Int)<=((n.blocks.length:Nat):Int))&&decide (((n.blocks.length:Nat):Int)<=24))=false by rw[<-BG];exact Ah (by omega)];rfl
 rw[show (decide ((1:Int)<=((n.blocks.length:Nat):Int))&&decide (((n.blocks.length:Nat):Int)<=24))=true by rw[<-BG];exact Ag (by omega),Ak];by_cases b2:n.next.length=n.blocks.length
 rotate_left
 . refine no (λ h=>b2 h.1.2.2.1) ?_;rw[Ah (by omega),Aj]
 rw[Ag (by omega),Ak];by_cases b3:n.spurs.length<=6;rotate_left
 . refine no (λ h=>b3 h.2.1) ?_;rw[Ag (by omega),Ak]
 rw[Ah (by omega:¬(6:Int)<((n.spurs.length:Nat):Int)),Aj];by_cases b4:n.BW.length<=8;rotate_left
 . refine no (λ h=>b4 h.2.2.2.1) ?_;rw[Ag (by omega),Ak]
 rw[Ah (by omega:¬(8:Int)<((n.BW.length:Nat):Int)),Aj,T6,Aa];by_cases b5:HJ n.cq n.ca n.cd n.cp;rotate_left
 . refine no (λ h=>b5 h.2.2.2.2.1) ?_;rw[Ah b5,Aj]
 rw[Ag b5,Ak,Ano n b1.2 b2 s2',Aa];by_cases b6:∀j,j<n.blocks.length->Vj n j=true;rotate_left
 . refine no (λ h=>b6 λ j hj=>?_) ?_
   . have h1:=h.1.2.2.2 j hj;have h2:=(h.2.2.1 j (by simp[C2];omega)).1;have h3:(C2 n).getD j []=(n.blocks.getD j DB).name:=by
       unfold C2;simp[List.getD,AM,hj]
     rw[h3] at h2;simp only[Vj,Ar,Ao];exact ⟨h2,h1.1,h1.2.2,h1.2.1⟩
   . rw[if_neg b6]
 rw[if_pos b6];simp only;rw[Arp n _ b1 b3,Aa];by_cases b7:∀j,j<n.spurs.length->Rd n j=true;rotate_left
 . refine no (λ h=>b7 λ j hj=>?_) ?_
   . have h1:=h.2.2.2.2.2.1 j hj;have h2:=(h.2.2.1 (n.blocks.length+j) (by simp[C2];omega)).1;have h3:(C2 n).getD (n.blocks.length+j) []=(n.spurs.getD j B8).name:=by
       unfold C2;simp[List.getD,AM,hj]
     rw[h3] at h2;simp only[Rd,Ar,Ao];exact ⟨h2,h1⟩
   . rw[if_neg b7]
 rw[if_pos b7];simp only;have g6:∀j,j<n.blocks.length->CG (n.blocks.getD j DB).name=true/\T2 (n.blocks.getD j DB)/\(n.next.getD j []).length<=4/\Iv n.blocks.length j (n.next.getD j []):=λ j hj=>by
   have:=b6 j hj;simp only[Vj,Ar,Ao] at this;exact ⟨this.1,this.2.1,this.2.2.2,this.2.2.1⟩
 have g7:∀j,j<n.spurs.length->CG (n.spurs.getD j B8).name=true/\Lh n.blocks.length (n.blocks.length+Df (n.spurs.take j)) (n.spurs.getD j B8):=λ j hj=>by
   have:=b7 j hj;simp only[Rd,Ar,Ao] at this;exact this
 have Aji:∀s∈n.spurs,1<=s.Ch:=by
   intro s hs;obtain ⟨i,hi,rfl⟩:=List.getElem_of_mem hs;have:=(g7 i hi).2.2.2.2.2.1;rwa[getD_eq hi] at this
 have hM:=(MB.Ax5 n.spurs MB.nil (λ s hs=>by have:=Aji s hs;omega)).congr (g:=λ x=>n.spurs.any (Qi x)) (λ x=>by simp);have Awc:(0<(n.spurs.foldl K4 []).length)↔0<(n.spurs.filter CX.Cy).length:=by
   rw[hM.pos,List.length_pos_iff_exists_mem];constructor
   . rintro ⟨x,hx⟩;obtain ⟨s,hs,h⟩:=Bd.1 hx;refine ⟨s,List.mem_filter.2 ⟨hs,?_⟩⟩;unfold Qi at h;simp only[Ar] at h;exact h.1
   . rintro ⟨s,hs⟩;obtain ⟨hs,hd⟩:=List.mem_filter.1 hs;refine ⟨s.base,Bd.2 ⟨s,hs,?_⟩⟩;have:=Aji s hs;simp[Qi,hd];omega
 have YB:=VM (C2 n) [] (by simp);have Awf:Gz (Gz [] (n.blocks.map EH.name)) (n.spurs.map CX.name)=Gz [] (C2 n):=by rw[<-Ame];rfl
 have O8:(C2 n).length=n.blocks.length+n.spurs.length:=by simp[C2]
 rw[Awf];have w1:IntKind.i64.wrap (((n.blocks.length:Nat):Int)+((n.spurs.length:Nat):Int))=((n.blocks.length+n.spurs.length:Nat):Int):=by rw[IntKind.wrap_i64];omega
 have hnn:E7 n↔(C2 n).Nodup:=by
   rw[IZ];constructor
   . intro h i hi k hk;exact (h i hi).2 k hk
   . intro h i hi;refine ⟨?_,λ k hk=>h i hi k hk⟩;by_cases hb:i<n.blocks.length
     . have h3:(C2 n).getD i []=(n.blocks.getD i DB).name:=by
         unfold C2;simp[List.getD,AM,hb]
       rw[h3];exact (g6 i hb).1
     . have h3:(C2 n).getD i []=(n.spurs.getD (i - n.blocks.length) B8).name:=by
         unfold C2;simp[List.getD,AM,hb,show i - n.blocks.length<n.spurs.length by omega]
       rw[h3];exact (g7 _ (by omega)).1
 have Q8:decide ((((Gz [] (C2 n)).length:Nat):Int)=((n.blocks.length+n.spurs.length:Nat):Int))=decide (E7 n):=by
   rw[Bt,Ao,Ao,hnn];have:=YB.2.2;simp only[Az,A0,Bi,Be] at this;rw[<-this,O8];omega
 by_cases b8:0<(n.spurs.foldl K4 []).length
 . rw[Ag (by omega:(0:Int)<(((n.spurs.foldl K4 []).length:Nat):Int)),Ak,w1,Q8];obtain ⟨m',hm'⟩:=Ann n (n.spurs.foldl K4 []) _ hM (decide (E7 n)) b4;rw[hm',Aa];simp only
   congr 1
   rw[Bt,Ar,Ao,Ao,Ao];constructor
   . rintro ⟨h1,h2⟩;exact ⟨⟨b1.1,b1.2,b2,λ i hi=>(g6 i hi).2⟩,b3,h1,b4,b5,λ i hi=>(g7 i hi).2,h2,Awc.1 b8⟩
   . intro h;exact ⟨h.2.2.1,h.2.2.2.2.2.2.1⟩
 . rw[Ah (by omega:¬(0:Int)<(((n.spurs.foldl K4 []).length:Nat):Int)),Aj];obtain ⟨r,hr⟩:=Ahh n (n.spurs.foldl K4 []) b4;rw[hr,Aa];exact no (λ h=>b8 (Awc.2 h.2.2.2.2.2.2.2)) rfl
def LA(l:List (List UInt8))(x:List UInt8):Option Nat:=l.findIdx? (λ y=>decide (y=x))
def ixI(o:Option Nat):Int:=match o with | some i=>(i:Int) | none=>-1
theorem KX(o:Option Nat):decide (0<=ixI o)=o.isSome:=by cases o<;>simp[ixI]
theorem O2(o:Option Nat):decide (ixI o<0)=o.isNone:=by
 cases o with
 | none=>rfl
 | some i=>exact Ah (by simp only[ixI];omega)
theorem O1{l:List (List UInt8)}{x:List UInt8}{i:Nat}(h:LA l x=some i):i<l.length/\l.getD i []=x:=by
 unfold LA at h;obtain ⟨h1,h2,_⟩:=List.findIdx?_eq_some_iff_getElem.1 h;exact ⟨h1,by rw[getD_eq h1];simpa using h2⟩
theorem G8{l:List (List UInt8)}{x:List UInt8}:LA l x=none↔x∉l:=by
 unfold LA;rw[List.findIdx?_eq_none_iff];constructor
 . intro h hx;have:=h x hx;simp at this
 . intro h y hy;simp;rintro rfl;exact h hy
theorem Ym(l:List (List UInt8))(y x:List UInt8)(hy:y∉l):LA (l++[y]) x=if x=y then some l.length else LA l x:=by
 unfold LA;rw[List.findIdx?_append];by_cases h:x=y
 . subst h;have:l.findIdx? (λ z=>decide (z=x))=none:=G8.2 hy;rw[this,if_pos rfl];simp
 . rw[if_neg h];cases hf:l.findIdx? (λ z=>decide (z=x)) with
   | some i=>rfl
   | none=>simp[Bj h]
theorem Ab7{ns:List (List UInt8)}{x:List UInt8}(step:Int->Option (Int⊕(Int⊕Int)))(hl:ns.length<=10000000)
   (h1:∀i,i<ns.length->step (i:Int)=some (if ns.getD i []=x then .inr (.inr (i:Int)) else .inl ((i+1:Nat):Int))) (h2:step (ns.length:Int)=some (.inr (.inl (ns.length:Int)))):
   Ct step 0=some (match LA ns x with | some i=> .inr (i:Int) | none=> .inl (ns.length:Int)):=by
 have h:=Kd (step:=step) ns.length (λ i=>(i:Int)) (Sum.inl (ns.length:Int)) (λ i=>if ns.getD i []=x then some (Sum.inr (i:Int)) else none)
   (λ i hi _=>by rw[h1 i hi];split<;>simp_all) (λ _=>h2)
 rw[show ((0:Nat):Int)=0 from rfl] at h;rw[h]
 congr 1
 cases hx:LA ns x with
 | none=>
   have hn:=G8.1 hx;have:(List.range ns.length).findSome? (λ i=>if ns.getD i []=x then some (Sum.inr (i:Int):Int⊕Int) else none)=none:=by
     rw[Bx];intro i hi;rw[if_neg];intro e;exact hn (by rw[<-e];exact CJ ns i [] (by simpa using hi))
   rw[this];rfl
 | some i=>
   obtain ⟨g1,g2⟩:=O1 hx;have Azy:∀j,j<i->ns.getD j []≠x:=by
     intro j hj;have:=(List.findIdx?_eq_some_iff_getElem.1 hx).2.2 j hj;rw[getD_eq (by omega)]
     simpa using this
   have hr:List.range ns.length=List.range i++i::(List.range (ns.length - i - 1)).map (· +(i+1)):=by
     have:ns.length=i+1+(ns.length - i - 1):=by omega
     conv=>lhs;rw[this,List.range_add,List.range_succ]
     simp[Nat.add_comm]
   rw[hr,List.findSome?_append];have:(List.range i).findSome? (λ i=>if ns.getD i []=x then some (Sum.inr (i:Int):Int⊕Int) else none)=none:=by
     rw[Bx];intro j hj;rw[if_neg (Azy j (by simpa using hj))]
   rw[this,Option.none_or,List.findSome?_cons,if_pos g2];rfl
theorem ID(n:Nt)(x:List UInt8)(hl:n.blocks.length<=10000000):HY n x=some (ixI (LA (n.blocks.map EH.name) x)):=by
 have h:=Ab7 (ns:=n.blocks.map EH.name) (x:=x) (MH n x) (by simpa using hl)
   (λ i hi=>by
     have EG:i<n.blocks.length:=by simpa using hi
     rw[MH.eq_1,E8 EG,Ak,Cd n.blocks i DB EG,Aa,Cs (by omega)];have e:(n.blocks.map EH.name).getD i []=(n.blocks.getD i DB).name:=by simp[List.getD,EG]
     rw[e];by_cases c:(n.blocks.getD i DB).name=x
     . rw[if_pos c,Ag c];rfl
     . rw[if_neg c,Ah c];rfl)
   (by rw[A6,MH.eq_1,FX,Aj])
 unfold HY;rw[h];cases LA (n.blocks.map EH.name) x<;>rfl
theorem Sl(n:Nt)(x:List UInt8)(hl:n.spurs.length<=10000000):OI n x=some (ixI (LA (n.spurs.map CX.name) x)):=by
 have h:=Ab7 (ns:=n.spurs.map CX.name) (x:=x) (OJ n x) (by simpa using hl)
   (λ i hi=>by
     have EG:i<n.spurs.length:=by simpa using hi
     rw[OJ.eq_1,E8 EG,Ak,Cd n.spurs i B8 EG,Aa,Cs (by omega)];have e:(n.spurs.map CX.name).getD i []=(n.spurs.getD i B8).name:=by simp[List.getD,EG]
     rw[e];by_cases c:(n.spurs.getD i B8).name=x
     . rw[if_pos c,Ag c];rfl
     . rw[if_neg c,Ah c];rfl)
   (by rw[A6,OJ.eq_1,FX,Aj])
 unfold OI;rw[h];cases LA (n.spurs.map CX.name) x<;>rfl
theorem Acj(l p:List Int)(x:Int):x∈l.foldl FD p↔x∈p∨x∈l:=by
 induction l generalizing p with
 | nil=>simp
 | cons y r ih=>
   rw[Bf,ih,Yr];simp only[AE];constructor
   . rintro ((h | h) | h)<;>simp[h]
   . rintro (h | h | h)<;>simp[h]
theorem Ak2(l:List Int)(x:Int)(hl:l.length<=10000000):Abj l x=some (decide (x∈l)):=by
 have h:=Kd (step:=WT l x) l.length (λ i=>(i:Int)) (Sum.inl (l.length:Int)) (λ i=>if l.getD i 0=x then some (Sum.inr true) else none)
   (λ i hi _=>by
     rw[WT.eq_1,E8 hi,Ak,Cd l i 0 hi,Aa,Cs (by omega)];by_cases c:l.getD i 0=x
     . rw[if_pos c,Ag c];rfl
     . rw[if_neg c,Ah c];rfl)
   (λ _=>by rw[WT.eq_1,FX,Aj])
 unfold Abj;rw[show ((0:Nat):Int)=0 from rfl] at h;rw[h];by_cases c:x∈l
 . rw[Ag c];cases hf:(List.range l.length).findSome? (λ i=>if l.getD i 0=x then some (Sum.inr true:Int⊕Bool) else none) with
   | none=>
     exfalso;rw[Bx] at hf;obtain ⟨i,hi,e⟩:=List.getElem_of_mem c;have:=hf i (by simpa using hi);rw[getD_eq hi,if_pos e] at this;cases this
   | some e=>
     obtain ⟨i,hi,he⟩:=List.exists_of_findSome?_eq_some hf;split at he
     . cases he;rfl
     . cases he
 . rw[Ah c];have:(List.range l.length).findSome? (λ i=>if l.getD i 0=x then some (Sum.inr true:Int⊕Bool) else none)=none:=by
     rw[Bx];intro i hi;rw[if_neg];intro e;exact c (by rw[<-e];exact CJ l i 0 (by simpa using hi))
   rw[this];rfl
theorem Ads(l:List Int)(x:Int)(hl:l.length<=1000000):SP l x=some (FD l x):=by
 have key:∀(r p:List Int) (dn:Bool),p.length+2*r.length<=3000000->(∃q:List Int,q.length+r.length=l.length/\l=q++r)->
     ∃dn' i',Ct (MK l x) (p,dn,((l.length - r.length:Nat):Int))=some (if dn=true then p++r else (if dn'=true then p++FD r x else p++r),dn',i')/\(dn=true->dn'=true)/\(dn=false->dn'=false->FD r x=r++[x]):=by
   intro r
   induction r with
   | nil=>
     intro p dn hp hq;refine ⟨dn,((l.length - 0:Nat):Int),?_,id,λ h _=>by simp[FD]⟩;rw[CL,MK.eq_1,Az,Nat.sub_zero,FX,Aj,Aa,BZ];cases dn<;>simp[FD]
   | cons y r ih=>
     intro p dn hp ⟨q,Ve,hq2⟩;have hql:q.length<l.length:=by simp at Ve;omega
     have FE:l.length - (y::r).length=q.length:=by simp at Ve ⊢;omega
     have Ij:CB l (q.length:Int)=some y:=by rw[G9,hq2];simp
     have Xw:((l.length - r.length:Nat):Int)=((q.length+1:Nat):Int):=by simp at Ve;omega
     rw[FE,CL,MK.eq_1,E8 hql,Ak];simp only[Ij,Aa,Cs (show q.length<10000000 by omega)];have hlp:p.length+2<10000000:=by simp only[Aq] at hp;omega
     cases dn with
     | true=>
       rw[Ak,Ag (by (try simp only[Aq,Az]);omega),Ak,Aa,B0,<-Xw];obtain ⟨dn',i',h1,h2,h3⟩:=ih (p++[y]) true (by simp only[At,Aq,Az] at hp ⊢;omega) ⟨q++[y],(by simp only[At,Aq,Az] at Ve ⊢;omega),(by simp[hq2])⟩;exact ⟨dn',i',by rw[h1];simp,h2,λ h=>(by cases h)⟩
     | false=>
       rw[Aj];by_cases c:x<y
       . rw[Ag c,Ak,Ag (by (try simp only[Aq,Az]);omega),Ak,Ag (by (try simp only[At,Aq,Az]);omega),Ak,Aa,B0,<-Xw];obtain ⟨dn',i',h1,h2,h3⟩:=ih ((p++[x])++[y]) true (by simp only[At,Aq,Az] at hp ⊢;omega) ⟨q++[y],(by simp only[At,Aq,Az] at Ve ⊢;omega),(by simp[hq2])⟩;refine ⟨true,i',?_,λ h=>(by cases h),λ _ h=>(by cases h)⟩;rw[h1,h2 rfl];simp[FD,c]
       . rw[Ah c,Aj,Ag (by (try simp only[Aq,Az]);omega),Ak,Aa,B0,<-Xw];obtain ⟨dn',i',h1,h2,h3⟩:=ih (p++[y]) false (by simp only[At,Aq,Az] at hp ⊢;omega) ⟨q++[y],(by simp only[At,Aq,Az] at Ve ⊢;omega),(by simp[hq2])⟩;refine ⟨dn',i',?_,λ h=>(by cases h),λ _ h=>(by simp[FD,c,h3 rfl h])⟩;rw[h1];simp[FD,c]
 obtain ⟨dn',i',h1,_,h3⟩:=key l [] false (by simp only[Az];omega) ⟨[],by simp,rfl⟩;rw[Nat.sub_self] at h1;unfold SP;rw[show ((0:Nat):Int)=0 from rfl] at h1;rw[h1,Aa];simp only[AJ,A7,Be];cases dn'
 . simp only[AJ,A7,Aj];rw[Ag (by (try simp only[Aq,Az]);omega),Ak,h3 rfl rfl]
 . simp
def Ng(p:Int×Int):Int:=p.1*8+p.2
def Q6(o:Option Nat):Option Int:=match o with | some i=>some (i:Int) | none=>none
structure NI(b:Cp):Prop where
 mb:∀x,DJ b.mb x=Q6 (LA (b.bl.map EH.name) x)
 ms:∀x,DJ b.ms x=Q6 (LA (b.sp.map CX.name) x)
 ba:∀i,i<b.sp.length->b.ba.getD i 0=Df (b.sp.take i)
 sl:b.sl=Df b.sp
def rS(b:Cp):(List EH)×(List (List Int))×(List CX)×(List Int)×Int×Int×Int×Int×Bool:=(b.bl,b.nx.map DN,b.sp,b.pl.map Ng,b.cq,b.ca,b.cd,b.cp,b.cf)
theorem OS{b:Cp}(n:NI b)(x:List UInt8):b.Ic x=((LA (b.bl.map EH.name) x).isSome||(LA (b.sp.map CX.name) x).isSome):=by
 unfold Cp.Ic;rw[n.mb,n.ms];cases LA (b.bl.map EH.name) x<;>cases LA (b.sp.map CX.name) x<;>rfl
theorem Aid{b:Cp}(h:BI b)(n:NI b)(d:Dc)(h1:1<=d.names.length)(h2:2<=d.B2.length):
   ∃s',P3 b.bl (b.nx.map DN) b.sp (b.pl.map Ng) b.cq b.ca b.cd b.cp b.cf d=some ((b.Em d).1,s')/\((b.Em d).1=0->s'=rS (b.Em d).2/\NI (b.Em d).2):=by
 have hnb:=h.nb;have hns:=h.ns;unfold P3;rw[show CB d.names 0=some (d.names.getD 0 []) from Cd d.names 0 [] (by omega),Aa,ID _ _ (by simp;omega),Aa,KX];unfold Cp.Em;rw[OS n];cases c1:LA (b.bl.map EH.name) (d.names.getD 0 []) with
 | some i=>exact ⟨rS b,by simp[rS],by simp⟩
 | none=>
   rw[Ba,Aj,Sl _ _ (by simp;omega),Aa,KX];cases c2:LA (b.sp.map CX.name) (d.names.getD 0 []) with
   | some i=>exact ⟨rS b,by simp[rS],by simp⟩
   | none=>
     rw[Ba,Aj,Bool.or_self,if_neg AI];by_cases c3:b.bl.length=24
     . rw[Ag (by omega),Ak,if_pos c3];exact ⟨rS b,rfl,by simp⟩
     . rw[Ah (by omega),Aj,if_neg c3,show CB d.B2 0=some (d.B2.getD 0 0) from Cd d.B2 0 0 (by omega),Aa,
         show CB d.B2 1=some (d.B2.getD 1 0) from Cd d.B2 1 0 (by omega),Aa,Ag (by omega),Ak,Ag (by rw[A6,h.nn];omega),Ak]
       refine ⟨_,rfl,λ _=>⟨by simp[rS,DN],⟨λ x=>?_,n.ms,n.ba,n.sl⟩⟩⟩;simp only[MO,Bb,AD,Bi];rw[Ym _ _ _ (G8.1 c1)];split
       . simp[Q6]
       . exact n.mb x
theorem Ao8{b:Cp}(h:BI b)(n:NI b)(d:Dc)(h1:3<=d.names.length)(h2:1<=d.B2.length):
   ∃s',OL b.bl (b.nx.map DN) b.sp (b.pl.map Ng) b.cq b.ca b.cd b.cp b.cf d=some ((b.Es d).1,s')/\((b.Es d).1=0->s'=rS (b.Es d).2/\NI (b.Es d).2):=by
 have hnb:=h.nb;have hns:=h.ns;unfold OL;rw[show CB d.names 1=some (d.names.getD 1 []) from Cd d.names 1 [] (by omega),Aa,show CB d.names 2=some (d.names.getD 2 []) from Cd d.names 2 [] (by omega),Aa,
   ID _ _ (by simp;omega),Aa,ID _ _ (by simp;omega),Aa,show CB d.names 0=some (d.names.getD 0 []) from Cd d.names 0 [] (by omega),Aa,
   ID _ _ (by simp;omega),Aa,KX]
 unfold Cp.Es;rw[OS n,n.mb,n.mb];cases c1:LA (b.bl.map EH.name) (d.names.getD 0 []) with
 | some i=>exact ⟨rS b,by simp[rS,Q6],by simp[Q6]⟩
 | none=>
   rw[Ba,Aj,Sl _ _ (by simp;omega),Aa,KX];cases c2:LA (b.sp.map CX.name) (d.names.getD 0 []) with
   | some i=>exact ⟨rS b,by simp[rS,Q6],by simp[Q6]⟩
   | none=>
     rw[Ba,Aj,Bool.or_self,if_neg AI,O2,O2];cases c3:LA (b.bl.map EH.name) (d.names.getD 1 []) with
     | none=>exact ⟨rS b,by simp[rS,Q6],by simp[Q6]⟩
     | some i=>
       rw[Option.isNone_some,Aj];cases c4:LA (b.bl.map EH.name) (d.names.getD 2 []) with
       | none=>exact ⟨rS b,by simp[rS,Q6],by simp[Q6]⟩
       | some j=>
         rw[Option.isNone_some,Aj,show CB d.B2 0=some (d.B2.getD 0 0) from Cd d.B2 0 0 (by omega),Aa];simp only[Q6];cases c5:decide (d.B2.getD 0 0<1);rotate_left
         . exact ⟨rS b,by simp[rS,Q6],by simp[Q6]⟩
         rw[Aj,if_neg AI];cases c6:decide (4<d.B2.getD 0 0);rotate_left
         . exact ⟨rS b,by simp[rS,Q6],by simp[Q6]⟩
         rw[Aj,if_neg AI];by_cases c7:b.sp.length=6
         . rw[Ag (by omega),Ak,if_pos c7];exact ⟨rS b,rfl,by simp⟩
         . rw[Ah (by omega),Aj,if_neg c7,Ag (by omega),Ak];refine ⟨_,rfl,λ _=>⟨rfl,⟨n.mb,λ x=>?_,λ i hi=>?_,?_⟩⟩⟩
           . simp only[MO,Bb,AD,Bi];rw[Ym _ _ _ (G8.1 c2)];split
             . simp[Q6]
             . exact n.ms x
           . have hba:=h.nba;simp only[At,Aq,Az] at hi;by_cases e:i<b.sp.length
             . rw[List.take_append_of_le_length (by omega)];have:=n.ba i e;rw[<-this];simp[List.getD,AM,show i<b.ba.length by omega]
             . have e2:i=b.sp.length:=by omega
               subst e2;rw[List.take_left' rfl,<-n.sl];simp[List.getD,AM,hba]
           . simp only[D0,n.sl]
theorem Am3{p q:Int×Int}(hp:1<=p.2/\p.2<=4)(hq:1<=q.2/\q.2<=4)(h:Ng p=Ng q):p=q:=by
 unfold Ng at h;have h1:p.1=q.1:=by omega
 have h2:p.2=q.2:=by omega
 exact Prod.ext h1 h2
theorem Aic{b:Cp}(h:BI b)(n:NI b)(d:Dc)(h1:1<=d.names.length)(h2:1<=d.B2.length):
   ∃s',P2 b.bl (b.nx.map DN) b.sp (b.pl.map Ng) b.cq b.ca b.cd b.cp b.cf d=some ((b.Dq d).1,s')/\((b.Dq d).1=0->s'=rS (b.Dq d).2/\NI (b.Dq d).2):=by
 have hnb:=h.nb;have hns:=h.ns;have LC:=h.np;unfold P2;rw[show CB d.names 0=some (d.names.getD 0 []) from Cd d.names 0 [] (by omega),Aa,Sl _ _ (by simp;omega),Aa,O2];unfold Cp.Dq;rw[n.ms];cases c1:LA (b.sp.map CX.name) (d.names.getD 0 []) with
 | none=>exact ⟨rS b,by simp[rS,Q6],by simp[Q6]⟩
 | some i=>
   have hi:i<b.sp.length:=by simpa using (O1 c1).1
   rw[Option.isNone_some,Aj,show CB b.sp (ixI (some i))=some (b.sp.getD i B8) from Cd b.sp i B8 hi,Aa];simp only[Q6,Ab];have hs:=h.sps (b.sp.getD i B8) (CJ b.sp i B8 hi);cases c2:(b.sp.getD i B8).Cy
   . exact ⟨rS b,by simp[rS,Q6],by simp[Q6]⟩
   rw[Ak,if_neg (by simp),show CB d.B2 0=some (d.B2.getD 0 0) from Cd d.B2 0 0 (by omega),Aa];cases c3:decide (d.B2.getD 0 0<1);rotate_left
   . exact ⟨rS b,by simp[rS,Q6],by simp[Q6]⟩
   rw[Aj,if_neg AI];have c3':=Ae c3;by_cases ZS:(b.sp.getD i B8).Ch<d.B2.getD 0 0
   . have c4:=Ag ZS;simp only[c4,Ak,AL];exact ⟨rS b,rfl,by simp⟩
   have c4:=Ah ZS;have hw:IntKind.i64.wrap (IntKind.i64.wrap (ixI (some i)*8)+d.B2.getD 0 0)=Ng ((i:Int),d.B2.getD 0 0):=by
     unfold Ng ixI;rw[IntKind.wrap_i64,IntKind.wrap_i64];simp only;omega
   simp only[c4,Aj,AJ,A7];rw[hw,Ak2 _ _ (by simp;omega),Aa];have hm:decide (Ng ((i:Int),d.B2.getD 0 0)∈b.pl.map Ng)=decide (((i:Int),d.B2.getD 0 0)∈b.pl):=by
     rw[Bt,Ao,Ao,AN];constructor
     . rintro ⟨q,hq,e⟩;rw[<-Am3 (h.pls q hq).2 (by simp only;omega) e];exact hq
     . intro hq;exact ⟨_,hq,rfl⟩
   rw[hm];by_cases c5:((i:Int),d.B2.getD 0 0)∈b.pl
   . rw[Ag c5,Ak,if_pos c5];exact ⟨rS b,rfl,by simp⟩
   rw[Ah c5,Aj,if_neg c5];by_cases c6:b.pl.length=8
   . rw[Ag (by rw[A6];omega),Ak,if_pos c6];exact ⟨rS b,rfl,by simp⟩
   . rw[Ah (by rw[A6];omega),Aj,if_neg c6,Ag (by rw[A6];omega),Ak];exact ⟨_,rfl,λ _=>⟨by simp[rS],⟨n.mb,n.ms,n.ba,n.sl⟩⟩⟩
theorem Aib(q a d p:Int):JG ⟨q,a,d,p⟩=some (decide (HJ q a d p)):=by
 unfold JG;have hc:∀b1 b2 b3 b4 b5 b6 b7 b8:Bool,cond b1 (cond b2 (cond b3 (cond b4 (cond b5 (cond b6 (cond b7 (some b8) (some false)) (some false)) (some false)) (some false)) (some false)) (some false)) (some false)=some (b1&&(b2&&(b3&&(b4&&(b5&&(b6&&(b7&&b8))))))):=by decide
 rw[hc]
 congr 1
 rw[Bt];simp only[Ar,Ao];exact Iff.rfl
theorem Aa4(q a d p:Int):Ux q a d p=decide (HJ q a d p):=by
 unfold Ux inV;rw[Bt];simp only[Ar,Ao];exact ⟨λ ⟨⟨a1,a2⟩,⟨b1,b2⟩,⟨c1,c2⟩,d1,d2⟩=>⟨a1,a2,b1,b2,c1,c2,d1,d2⟩,λ ⟨a1,a2,b1,b2,c1,c2,d1,d2⟩=>⟨⟨a1,a2⟩,⟨b1,b2⟩,⟨c1,c2⟩,d1,d2⟩⟩
theorem Acr{b:Cp}(n:NI b)(d:Dc)(h2:4<=d.B2.length):
   ∃s',NP b.bl (b.nx.map DN) b.sp (b.pl.map Ng) b.cq b.ca b.cd b.cp b.cf d=some ((b.Dz d).1,s')/\((b.Dz d).1=0->s'=rS (b.Dz d).2/\NI (b.Dz d).2):=by
 unfold NP Cp.Dz;cases c1:b.cf;rotate_left
 . exact ⟨_,rfl,by simp⟩
 rw[Aj,if_neg AI,show CB d.B2 0=some (d.B2.getD 0 0) from Cd d.B2 0 0 (by omega),Aa,show CB d.B2 1=some (d.B2.getD 1 0) from Cd d.B2 1 0 (by omega),Aa,
   show CB d.B2 2=some (d.B2.getD 2 0) from Cd d.B2 2 0 (by omega),Aa,show CB d.B2 3=some (d.B2.getD 3 0) from Cd d.B2 3 0 (by omega),Aa,Aib,Aa,Aa4]
 cases decide (HJ (d.B2.getD 0 0) (d.B2.getD 1 0) (d.B2.getD 2 0) (d.B2.getD 3 0))
 . exact ⟨_,rfl,by simp⟩
 . exact ⟨_,rfl,λ _=>⟨rfl,⟨n.mb,n.ms,n.ba,n.sl⟩⟩⟩
theorem X3(d:Dc)(hd:d.names.length<=10000000):∀(r:List (List UInt8)) (i:Nat) (b:Cp),BI b->NI b->d.names.drop i=r->i<=d.names.length->
   ∃e s',Ct (J2 b.bl b.sp (b.pl.map Ng) b.cq b.ca b.cd b.cp b.cf d) (b.nx.map DN,(i:Int))=some e/\
     (match e with | .inl x=>(0,b.bl,x.1,b.sp,b.pl.map Ng,b.cq,b.ca,b.cd,b.cp,b.cf) | .inr y=>y)=((b.DT r).1,s')/\((b.DT r).1=0->s'=rS (b.DT r).2/\NI (b.DT r).2)
 | [],i,b,h,n,hr,hi=>by
   have RS:i=d.names.length:=by have:=AQ List.length hr;simp at this;omega
   refine ⟨_,rS b,by rw[CL,J2.eq_1,Ah (by rw[IntKind.wrap_i64];omega),Aj,Aa,BZ],rfl,λ _=>⟨rfl,n⟩⟩
 | [x],i,b,h,n,hr,hi=>by
   have RS:i+1=d.names.length:=by have:=AQ List.length hr;simp at this;omega
   refine ⟨_,rS b,by rw[CL,J2.eq_1,Ah (by rw[IntKind.wrap_i64];omega),Aj,Aa,BZ],rfl,λ _=>⟨rfl,n⟩⟩
 | x::y::r,i,b,h,n,hr,hi=>by
   have hnb:=h.nb;have hnn:=h.nn;have RS:i+1<d.names.length:=by have:=AQ List.length hr;simp at this;omega
   have hx:CB d.names (i:Int)=some x:=by
     rw[G9];have:=AQ (·[0]?) hr
     simpa [List.getElem?_drop] using this
   have hy:CB d.names ((i+1:Nat):Int)=some y:=by
     rw[G9];have:=AQ (·[1]?) hr
     simpa [List.getElem?_drop] using this
   have Vg:d.names.drop (i+1)=y::r:=by
     rw[<-List.drop_drop,hr];rfl
   have hw:IntKind.i64.wrap ((i:Int)+1)=((i+1:Nat):Int):=by rw[IntKind.wrap_i64];omega
   rw[CL,J2.eq_1,hw,Ag (by omega),Ak,hx,Aa,hy,Aa,ID _ _ (by simp;omega),Aa,ID _ _ (by simp;omega),Aa,O2,O2];have LD:∀c:Int,c≠0->b.EL x y=(c,b)->b.DT (x::y::r)=(c,b):=λ c hc h=>by simp[Cp.DT,h,hc]
   have hL:b.EL x y=(match Q6 (LA (b.bl.map EH.name) x),Q6 (LA (b.bl.map EH.name) y) with
     | some i,some j=>if i=j then (10,b) else if j∈b.nx.getD i.toNat [] then (11,b) else if (b.nx.getD i.toNat []).length=4 then (14,b) else (0,{b with nx:=b.nx.set i.toNat (b.nx.getD i.toNat []++[j])})
     | _,_=>(9,b)):=by
     unfold Cp.EL;rw[n.mb,n.mb];cases LA (b.bl.map EH.name) x<;>cases LA (b.bl.map EH.name) y<;>rfl
   cases c1:LA (b.bl.map EH.name) x with
   | none=>
     rw[LD 9 (by decide) (by rw[hL,c1];rfl)];exact ⟨_,rS b,rfl,rfl,by simp⟩
   | some u=>
     rw[Option.isNone_some,Aj];cases c2:LA (b.bl.map EH.name) y with
     | none=>
       rw[LD 9 (by decide) (by rw[hL,c1,c2];rfl)];exact ⟨_,rS b,rfl,rfl,by simp⟩
     | some v=>
       have hu:u<b.nx.length:=by have:=(O1 c1).1;simp at this;omega
       rw[Option.isNone_some,Aj,show (decide (ixI (some u)=ixI (some v)))=decide ((u:Int)=(v:Int)) from rfl];rw[show ixI (some u)=(u:Int) from rfl,show ixI (some v)=(v:Int) from rfl];have hL2:b.EL x y=(if (u:Int)=(v:Int) then (10,b) else if (v:Int)∈b.nx.getD u [] then (11,b) else if (b.nx.getD u []).length=4 then (14,b) else (0,{b with nx:=b.nx.set u (b.nx.getD u []++[(v:Int)])})):=by rw[hL,c1,c2];rfl
       by_cases c3:(u:Int)=(v:Int)
       . rw[Ag c3,Ak,LD 10 (by decide) (by rw[hL2,if_pos c3])];exact ⟨_,rS b,rfl,rfl,by simp⟩
       rw[Ah c3,Aj];rw[if_neg c3] at hL2;have CS:CB (b.nx.map DN) (u:Int)=some (DN (b.nx.getD u [])):=by rw[G9];simp[List.getD,hu]
       have h4:=h.row u;rw[CS,Aa,Ak2 _ _ (by rw[MF];omega),Aa];have hm:decide ((v:Int)∈DN (b.nx.getD u []))=decide ((v:Int)∈b.nx.getD u []):=by
         rw[Bt,Ao,Ao];unfold DN;rw[Acj];simp
       rw[hm];by_cases c4:(v:Int)∈b.nx.getD u []
       . rw[Ag c4,Ak,LD 11 (by decide) (by rw[hL2,if_pos c4])];exact ⟨_,rS b,rfl,rfl,by simp⟩
       rw[if_neg c4] at hL2;rw[Ah c4,Aj,MF];by_cases c5:(b.nx.getD u []).length=4
       . rw[Ag (by omega),Ak,LD 14 (by decide) (by rw[hL2,if_pos c5])];exact ⟨_,rS b,rfl,rfl,by simp⟩
       rw[if_neg c5] at hL2;rw[Ah (by omega),Aj,Ads _ _ (by rw[MF];omega),Aa,Aa,B0];have hB2:BI {b with nx:=b.nx.set u (b.nx.getD u []++[(v:Int)])}:=by
         have:=h.lane x y;rw[hL2] at this;exact this
       have E9:(b.nx.map DN).set u (FD (DN (b.nx.getD u [])) (v:Int))=(b.nx.set u (b.nx.getD u []++[(v:Int)])).map DN:=by
         rw[BR]
         congr 1
         unfold DN;rw[List.foldl_append];rfl
       rw[Ab,E9];have hlv:b.DT (x::y::r)=Cp.DT {b with nx:=b.nx.set u (b.nx.getD u []++[(v:Int)])} (y::r):=by
         simp[Cp.DT,hL2]
       rw[hlv];exact X3 d hd (y::r) (i+1) {b with nx:=b.nx.set u (b.nx.getD u []++[(v:Int)])} hB2 ⟨n.mb,n.ms,n.ba,n.sl⟩ Vg (by omega)
theorem Ao9{b:Cp}(h:BI b)(n:NI b)(d:Dc)(hd:d.names.length<=10000000):
   ∃s',Sq b.bl (b.nx.map DN) b.sp (b.pl.map Ng) b.cq b.ca b.cd b.cp b.cf d=some ((b.DT d.names).1,s')/\((b.DT d.names).1=0->s'=rS (b.DT d.names).2/\NI (b.DT d.names).2):=by
 obtain ⟨e,s',g1,g2,g3⟩:=X3 d hd d.names 0 b h n (by simp) (AG _);refine ⟨s',?_,g3⟩;unfold Sq;rw[show ((0:Nat):Int)=0 from rfl] at g1;rw[g1,Aa,<-g2];cases e<;>rfl
theorem Ao4(l:List (List UInt8))(hl:l.length<=10000000)(d:Dc)(hd:d.names=l):Ct (FN d) 0=some (if (∀j,j<l.length->CG (l.getD j [])=true) then .inl (l.length:Int) else .inr false):=by
 subst hd;have h:=GN (step:=FN d) d.names.length (λ i=>(i:Int)) (Sum.inl (d.names.length:Int)) (Sum.inr false) (λ i=>CG (d.names.getD i []))
   (λ i hi _=>by
     rw[FN.eq_1,E8 hi,Ak,Cd d.names i [] hi,Aa,Cs (by omega)];simp only[Aav,Aa];cases CG (d.names.getD i [])<;>rfl)
   (λ _=>by rw[FN.eq_1,FX,Aj])
 exact h
theorem Ai8(d:Dc)(hl:d.B2.length<=10000000):Ct (FO d) 0=some (if (∀j,j<d.B2.length->(!(decide (d.B2.getD j 0< -9999)||decide (9999<d.B2.getD j 0)))=true) then .inl (d.B2.length:Int) else .inr false):=by
 have h:=GN (step:=FO d) d.B2.length (λ i=>(i:Int)) (Sum.inl (d.B2.length:Int)) (Sum.inr false) (λ i=>!(decide (d.B2.getD i 0< -9999)||decide (9999<d.B2.getD i 0)))
   (λ i hi _=>by
     rw[FO.eq_1,E8 hi,Ak,Cd d.B2 i 0 hi,Aa,Cs (by omega)];cases decide (d.B2.getD i 0< -9999)<;>cases decide (9999<d.B2.getD i 0)<;>rfl)
   (λ _=>by rw[FO.eq_1,FX,Aj])
 exact h
theorem PD{α:Type}(l:List α)(p:α->Bool)(x:α):l.all p=true↔∀j,j<l.length->p (l.getD j x)=true:=by
 rw[AB];constructor
 . intro h j hj;exact h _ (CJ l j x hj)
 . intro h y hy;obtain ⟨i,hi,rfl⟩:=List.getElem_of_mem hy;have:=h i hi;rwa[getD_eq hi] at this
theorem Ai0(w:Int):LP w=some (CA w):=by
 unfold LP CA;by_cases h1:w=1
 . simp[h1]
 by_cases h2:w=2
 . simp[h2]
 by_cases h3:w=3
 . simp[h3]
 by_cases h4:w=4
 . simp[h4]
 by_cases h5:w=5
 . simp[h5]
 . simp[h1,h2,h3,h4,h5]
theorem Wf(w:Int)(nl ml:Nat)(x3 x4:Int)(t:Bool):
   cond (decide (w<1)) (some false) (cond (decide (6<w)) (some false) (cond (decide ((ml:Int)=x4)) (cond (decide ((nl:Int)<x3)) (some false) (cond (decide (x3<(nl:Int))) (cond (decide (w=2)) (some t) (some false)) (some t))) (some false)))=
     some (decide (1<=w/\w<=6)&&(decide ((ml:Int)=x4)&&((decide ((nl:Int)=x3)||(decide (x3<(nl:Int))&&decide (w=2)))&&t))):=by
 by_cases h1:w<1
 . rw[Ag h1,Ak,Ah (by omega:¬(1<=w/\w<=6)),Bool.false_and]
 rw[Ah h1,Aj];by_cases h2:6<w
 . rw[Ag h2,Ak,Ah (by omega:¬(1<=w/\w<=6)),Bool.false_and]
 rw[Ah h2,Aj,Ag (by omega:1<=w/\w<=6),Bz];by_cases h3:(ml:Int)=x4;rotate_left
 . rw[Ah h3,Aj,Bool.false_and]
 rw[Ag h3,Ak,Bz];by_cases h4:(nl:Int)<x3
 . rw[Ag h4,Ak,Ah (by omega:¬(nl:Int)=x3),Ah (by omega:¬x3<(nl:Int))];rfl
 rw[Ah h4,Aj];by_cases h5:x3<(nl:Int)
 . rw[Ag h5,Ak,Ah (by omega:¬(nl:Int)=x3),Bz,Bool.false_or];cases decide (w=2)<;>rfl
 . rw[Ah h5,Aj,Ag (by omega:(nl:Int)=x3),Bool.true_or,Bz]
theorem X4(d:Dc)(hd:d.names.length<=10000000/\d.B2.length<=10000000):LQ d=some (CP d):=by
 have hA:=Ao4 d.names hd.1 d rfl;have hB:=Ai8 d hd.2;unfold LQ CP;rw[Ai0,Aa];generalize CA d.word=sh;obtain ⟨x3,x4⟩:=sh;dsimp only;by_cases g1:∀j,j<d.names.length->CG (d.names.getD j [])=true
 . rw[(PD d.names CG []).2 g1,Bz];by_cases g2:∀j,j<d.B2.length->(!(decide (d.B2.getD j 0< -9999)||decide (9999<d.B2.getD j 0)))=true
   . rw[(PD d.B2 (λ n=>!(decide (n< -9999)||decide (9999<n))) 0).2 g2];simp only[hA,hB,if_pos g1,if_pos g2,Aa];exact Wf _ _ _ _ _ _
   . have e2:(d.B2.all λ n=>!(decide (n< -9999)||decide (9999<n)))=false:=by
       rw[Bool.eq_false_iff];intro h;exact g2 ((PD d.B2 (λ n=>!(decide (n< -9999)||decide (9999<n))) 0).1 h)
     rw[e2];simp only[hA,hB,if_pos g1,if_neg g2,Aa];exact Wf _ _ _ _ _ _
 . have e1:d.names.all CG=false:=by
     rw[Bool.eq_false_iff];intro h;exact g1 ((PD d.names CG []).1 h)
   rw[e1,Bool.false_and];simp only[hA,if_neg g1,Aa];exact Wf _ _ _ _ _ _
theorem As4{b:Cp}(h:BI b)(n:NI b)(d:Dc)(hd:d.names.length<=10000000/\d.B2.length<=10000000):
   ∃s',Jt b.bl (b.nx.map DN) b.sp (b.pl.map Ng) b.cq b.ca b.cd b.cp b.cf d=some ((b.DC d).1,s')/\((b.DC d).1=0->s'=rS (b.DC d).2/\NI (b.DC d).2):=by
 unfold Jt;have he:(⟨d.word,d.line,d.names,d.B2⟩:Dc)=d:=rfl;rw[he,X4 d hd,Aa];cases c0:CP d
 . have hv:b.DC d=(20,b):=by unfold Cp.DC;rw[if_pos c0]
   rw[hv];exact ⟨rS b,rfl,by simp⟩
 rw[Ak];have hs:=LF c0;by_cases c1:d.word=1
 . rw[c1] at hs;simp[CA] at hs;have hv:b.DC d=b.Em d:=by unfold Cp.DC;rw[if_neg (by rw[c0];simp),if_pos (Ag c1)]
   rw[hv,Ag c1,Ak];obtain ⟨s',g1,g2⟩:=Aid h n d (by omega) (by omega);rw[g1];exact ⟨s',rfl,g2⟩
 rw[Ah c1,Aj];by_cases c2:d.word=2
 . have hv:b.DC d=b.DT d.names:=by unfold Cp.DC;rw[if_neg (by rw[c0];simp),if_neg (by rw[Ah c1];simp),if_pos (Ag c2)]
   rw[hv,Ag c2,Ak];obtain ⟨s',g1,g2⟩:=Ao9 h n d hd.1;rw[g1];exact ⟨s',rfl,g2⟩
 rw[Ah c2,Aj];by_cases c3:d.word=3∨d.word=4
 . simp only[CA,c1,c2,c3,A7,AL] at hs;have hv:b.DC d=b.Es d:=by
     unfold Cp.DC;rw[if_neg (by rw[c0];simp),if_neg (by rw[Ah c1];simp),if_neg (by rw[Ah c2];simp),if_neg (by rw[Ah (by omega)];simp),if_neg (by rw[Ah (by omega)];simp)]
   rw[hv];obtain ⟨s',g1,g2⟩:=Ao8 h n d (by omega) (by omega);rw[g1];rcases c3 with c3 | c3
   . rw[Ag c3,Ak];exact ⟨s',rfl,g2⟩
   . rw[Ah (by omega:¬d.word=3),Aj,Ag c3,Ak];exact ⟨s',rfl,g2⟩
 rw[Ah (by omega:¬d.word=3),Aj,Ah (by omega:¬d.word=4),Aj];by_cases c5:d.word=5
 . rw[c5] at hs;simp[CA] at hs;have hv:b.DC d=b.Dq d:=by
     unfold Cp.DC;rw[if_neg (by rw[c0];simp),if_neg (by rw[Ah c1];simp),if_neg (by rw[Ah c2];simp),if_pos (Ag c5)]
   rw[hv,Ag c5,Ak];obtain ⟨s',g1,g2⟩:=Aic h n d (by omega) (by omega);rw[g1];exact ⟨s',rfl,g2⟩
 rw[Ah c5,Aj];have c6:d.word=6:=by omega
 rw[c6] at hs;simp[CA] at hs;have hv:b.DC d=b.Dz d:=by
   unfold Cp.DC;rw[if_neg (by rw[c0];simp),if_neg (by rw[Ah c1];simp),if_neg (by rw[Ah c2];simp),if_neg (by rw[Ah c5];simp),if_pos (Ag c6)]
 rw[hv];obtain ⟨s',g1,g2⟩:=Acr n d (by omega);rw[g1];exact ⟨s',rfl,g2⟩
theorem NI.init:NI Cp.init:=⟨λ x=>rfl,λ x=>rfl,λ i hi=>by simp[Cp.init] at hi,rfl⟩
theorem Ax8(l:List Int)(a:Int):((BT l).take (((l.length:Nat):Int)).toNat).drop a.toNat=BT (l.drop a.toNat):=by
 rw[Ab,K3];simp[BT]
section
variable {P:Program} {st:St} {x:Code} {k:Kt}
theorem Zx{n l:Nat}{rest:Code}(hf:findLabel x l=some rest)(h:X P rest (.user (scQ P x k n)) st):Jm P x k (n+1) l st:=⟨st,rest,Wk.refl _,hf,h⟩
theorem Abu{σ ε γ:Type}{step:σ->Option (σ⊕ε)}{s0:σ}{e:ε}(hr:Ct step s0=some e)(S:σ->γ->St)(c0:γ)(hw:Wk st (S s0 c0))
   (hs:∀s c n,(step s).bind (Hu (GO step n))=some e->(∀s' c' st',GO step n s'=some e->Wk st' (S s' c')->L P x k n st')->X P x (.lp x n k) (S s c)):X P (.loop x) k st:=by
 obtain ⟨n,hn⟩:=Kb.1 hr;have key:∀n s c,GO step n s=some e->L P x k n (S s c):=by
   intro n
   induction n with
   | zero=>intro s c h;simp[GO] at h
   | succ n ih=>intro s c h;exact ⟨S s c,Wk.refl _,hs s c n h λ s' c' st' h' hw'=>Ah2 hw' (ih s' c' h')⟩
 exact Xl _ (Ah2 hw (key n s0 c0 hn))
end
attribute [go_sem] Nat.mul_one List.length_replicate
def Kq(a0:List (List Int))(v3:Int)(DD:List Int):Int×Int->Option ((Int×Int)⊕((Int×Int)⊕Int))
 | (v17,v18)=>cond (decide (v17<((DD.length:Nat):Int))) (Option.bind (CB DD v17) λ PH=>cond (decide (PH<=v18)) (some (Sum.inr (.inr ((20:Int))))) (cond (decide (((a0.length:Nat):Int)<=PH)) (some (Sum.inr (.inr ((20:Int))))) (cond (decide (PH=v3)) (some (Sum.inr (.inr ((20:Int))))) (some (Sum.inl ((IntKind.i64.wrap (v17+1)),PH)))))) (some (Sum.inr (.inl (v17,v18))))
def Kp(a0:List (List Int)):Int->Option ((Int)⊕(Int⊕Int))
 | v3=>cond (decide (v3<((a0.length:Nat):Int))) (Option.bind (CB a0 v3) λ DD=>Option.bind (Ct (Kq a0 v3 DD) (0,(-1))) (λ | .inl (v32,v33)=>some (Sum.inl (IntKind.i64.wrap (v3+1))) | .inr (r34)=>some (Sum.inr (.inr (r34))))) (some (Sum.inr (.inl v3)))
def Mm(a0:List (List Int))(a1:List Bool):Option (Int):=
 cond (decide (24<((a0.length:Nat):Int))) (some 20) (Option.bind (Ct (Kp a0) 0) (λ | .inl v35=>cond (decide (((a1.length:Nat):Int)=((a0.length:Nat):Int))) (some 0) (some 19) | .inr (r37)=>some r37))
theorem w9(a0:List (List Int))(a1:List Bool)(r:Int)(hr:Mm a0 a1=some r):
   BV prog 58 [.p (.sl (Cw a0)),.p (.sl (CW a1))] [] λ h d=>h=[]/\d= .p (.int .i64 r):=by
 refine BX func58 rfl Al3 (by simp[Tryz.f58]) ?_;unfold Mm at hr;cases c1:decide (24<((a0.length:Nat):Int))
 . simp only[c1,Aj] at hr;obtain ⟨e7,g8,hr⟩:=bE hr;(try simp only[go_sem,c1]);refine CV g8 (λ q:Int=>⟨[(0,.p (.sl (Cw a0))),(1,.p (.sl (CW a1))),(13,.p (.sl (Cw a0))),(14,.p (.int .i64 ((a0.length:Nat):Int))),(15,.p (.int .i64 q))],[],48⟩) ((Wk.forget (by simp[ZF,ZE]))) ?_;rintro v3 m6 GP ih5;rw[Kp.eq_1] at GP;cases c9:decide (v3<((a0.length:Nat):Int))
   . simp only[c9,Aj] at GP;simp only[Aa,BZ] at GP;cases GP;(try dsimp only at hr);cases JX:decide (((a1.length:Nat):Int)=((a0.length:Nat):Int))
     . simp only[JX,Aj] at hr;cases hr;(try simp only[go_sem,c9,JX]);all_goals ((try refine BU ?_);(try simp only[go_sem,c9,JX]);try first | rfl | exact ⟨rfl,rfl⟩ | (simp;done))
     simp only[JX,Ak] at hr;cases hr;(try simp only[go_sem,c9,JX]);all_goals ((try refine BU ?_);(try simp only[go_sem,c9,JX]);try first | rfl | exact ⟨rfl,rfl⟩ | (simp;done))
   simp only[c9,Ak] at GP;obtain ⟨DD,g12,GP⟩:=bK GP;have f13:=B5 g12;have f14:(Cw a0).getD (Int.toNat v3) []=[(.sl (BT DD))]:=B6 _ g12;obtain ⟨e22,g23,GP⟩:=bK GP;(try simp only[go_sem,c9,f13,f14]);refine CV g23 (λ q:Int×Int=>⟨[(0,.p (.sl (Cw a0))),(1,.p (.sl (CW a1))),(5,.p (.int .i64 v3)),(7,.p (.int .i64 q.2)),(13,.p (.sl (Cw a0))),(14,.p (.int .i64 ((a0.length:Nat):Int))),(15,.p (.int .i64 v3)),(20,.p (.sl (BT DD))),(21,.p (.int .i64 ((DD.length:Nat):Int))),(22,.p (.int .i64 q.1))],[],48⟩) ((Wk.forget (by simp[ZF,ZE]))) ?_;rintro ⟨v17,v18⟩ m21 JN Ayy;rw[Kq.eq_1] at JN;cases Xc:decide (v17<((DD.length:Nat):Int))
   . simp only[Xc,Aj] at JN;simp only[Aa,BZ] at JN;cases JN;(try dsimp only at GP);simp only[Aa,B0] at GP;(try simp only[go_sem,Xc]);exact ih5 (IntKind.i64.wrap (v3+1)) _ GP ((Wk.forget (by simp[ZF,ZE])))
   simp only[Xc,Ak] at JN;obtain ⟨PH,g26,JN⟩:=bK JN;have f27:=B5 g26;have f28:(BT DD).getD (Int.toNat v17) []=[(.int .i64 PH)]:=B6 _ g26;cases XA:decide (PH<=v18)
   . simp only[XA,Aj] at JN;cases TD:decide (((a0.length:Nat):Int)<=PH)
     . simp only[TD,Aj] at JN;cases PL:decide (PH=v3)
       . simp only[PL,Aj] at JN;simp only[Aa,B0] at JN;(try simp only[go_sem,Xc,f27,f28,XA,TD,PL]);exact Ayy ((IntKind.i64.wrap (v17+1)),PH) _ JN ((Wk.forget (by simp[ZF,ZE])))
       simp only[PL,Ak] at JN;simp only[Aa,BZ] at JN;cases JN;(try dsimp only at GP);simp only[Aa,BZ] at GP;cases GP;(try dsimp only at hr);cases hr;(try simp only[go_sem,Xc,f27,f28,XA,TD,PL]);all_goals ((try refine BU ?_);(try simp only[go_sem,Xc,f27,f28,XA,TD,PL]);try first | rfl | exact ⟨rfl,rfl⟩ | (simp;done))
     simp only[TD,Ak] at JN;simp only[Aa,BZ] at JN;cases JN;(try dsimp only at GP);simp only[Aa,BZ] at GP;cases GP;(try dsimp only at hr);cases hr;(try simp only[go_sem,Xc,f27,f28,XA,TD]);all_goals ((try refine BU ?_);(try simp only[go_sem,Xc,f27,f28,XA,TD]);try first | rfl | exact ⟨rfl,rfl⟩ | (simp;done))
   simp only[XA,Ak] at JN;simp only[Aa,BZ] at JN;cases JN;(try dsimp only at GP);simp only[Aa,BZ] at GP;cases GP;(try dsimp only at hr);cases hr;(try simp only[go_sem,Xc,f27,f28,XA]);all_goals ((try refine BU ?_);(try simp only[go_sem,Xc,f27,f28,XA]);try first | rfl | exact ⟨rfl,rfl⟩ | (simp;done))
 simp only[c1,Ak] at hr;cases hr;try simp only[go_sem,c1]
 all_goals ((try refine BU ?_);(try simp only[go_sem,c1]);try first | rfl | exact ⟨rfl,rfl⟩ | (simp;done))
def Gr(VX:Int)(Jl:Int)(x52:List Int):(List Int)×Int×(List Int)->Option (((List Int)×Int×(List Int))⊕(((List Int)×Int×(List Int))))
 | (ZI,v75,v76)=>cond (decide (v75<((x52.length:Nat):Int))) (Option.bind (CB x52 v75) λ x84=>cond (decide (x84=VX)) (Option.bind (CB ZI VX) λ x89=>Option.bind (CB ZI Jl) λ x93=>cond (decide (v76.length+1<10000000)) (some (Sum.inl ((ZI.set (Int.toNat Jl) (IntKind.i64.wrap (x89+1))),(IntKind.i64.wrap (v75+1)),(v76++[Jl])))) none) (some (Sum.inl (ZI,(IntKind.i64.wrap (v75+1)),v76)))) (some (Sum.inr (ZI,v75,v76)))
def Ko(a0:List (List Int))(a1:List Bool)(VX:Int):(List Int)×Int×(List Int)->Option (((List Int)×Int×(List Int))⊕(((List Int)×Int×(List Int))))
 | (v41,Jl,v44)=>cond (decide (Jl<((a0.length:Nat):Int))) (Option.bind (CB a0 Jl) λ x52=>Option.bind (CB v41 Jl) λ x56=>cond (decide (0<=x56)) (some (Sum.inl (v41,(IntKind.i64.wrap (Jl+1)),v44))) (Option.bind (CB a1 Jl) λ x61=>cond x61 (some (Sum.inl (v41,(IntKind.i64.wrap (Jl+1)),v44))) (Option.bind (Ct (Gr VX Jl x52) (v41,0,v44)) (λ (Ay1,v115,Ay0)=>some (Sum.inl (Ay1,(IntKind.i64.wrap (Jl+1)),Ay0)))))) (some (Sum.inr (v41,Jl,v44)))
def Ml(a0:List (List Int))(a1:List Bool):(List Int)×(List Int)->Option (((List Int)×(List Int))⊕(((List Int)×(List Int))))
 | (v19,v20)=>cond (decide (0<((v20.length:Nat):Int))) (Option.bind (CB v20 0) λ VX=>cond (decide (0<=1/\1<=((v20.length:Nat):Int)/\((v20.length:Nat):Int)<=((v20.length:Nat):Int))) (Option.bind (Ct (Ko a0 a1 VX) (v19,0,(v20.drop 1))) (λ (Axy,v163,v164)=>some (Sum.inl (Axy,v164)))) none) (some (Sum.inr (v19,v20)))
def Kn(a0:List (List Int)):(List Int)×Int->Option (((List Int)×Int)⊕(((List Int)×Int)))
 | (v4,v5)=>cond (decide (v5<((a0.length:Nat):Int))) (Option.bind (CB v4 v5) λ Aug=>some (Sum.inl ((v4.set (Int.toNat v5) (-1)),(IntKind.i64.wrap (v5+1))))) (some (Sum.inr (v4,v5)))
def Pf(a0:List (List Int))(a1:List Bool)(a2:Int):Option ((List Int)):=
 cond (decide (a0.length<10000000)) (Option.bind (Ct (Kn a0) ((List.replicate a0.length 0),0)) (λ (v171,v172)=>Option.bind (CB v171 a2) λ x173=>Option.bind (Ct (Ml a0 a1) ((v171.set (Int.toNat a2) 0),[a2])) (λ (Axv,v327)=>some Axv))) none
theorem Aee(a0:List (List Int))(a1:List Bool)(a2:Int)(r:(List Int))(hr:Pf a0 a1 a2=some r):
   BV prog 103 [.p (.sl (Cw a0)),.p (.sl (CW a1)),.p (.int .i64 a2)] [] λ h d=>h=[]/\d= .p (.sl (BT r)):=by
 refine BX func103 rfl Afz (by simp[Tryz.f103]) ?_;unfold Pf at hr;obtain ⟨c1,hr⟩:=gE hr;try simp only[go_sem]
 refine ⟨by have:=Ad c1;omega,?_⟩;obtain ⟨e9,g10,hr⟩:=bE hr;try simp only[go_sem]
 refine CV g10 (λ q:(List Int)×Int=>⟨[(0,.p (.sl (Cw a0))),(1,.p (.sl (CW a1))),(2,.p (.int .i64 a2)),(7,.ref 17 0 q.1.length q.1.length),(19,.p (.int .i64 ((a0.length:Nat):Int))),(20,.p (.int .i64 q.2))],[(17,.arr 3 1 (BT q.1))],86⟩) ((Wk.forget (by simp[ZF,ZE]))) ?_;rintro ⟨v4,v5⟩ m8 hh6 ih7;rw[Kn.eq_1] at hh6;cases c11:decide (v5<((a0.length:Nat):Int))
 . simp only[c11,Aj] at hh6;simp only[Aa,BZ] at hh6;cases hh6;(try dsimp only at hr);obtain ⟨VY,g13,hr⟩:=bE hr;have f14:=B5 g13;have f15:(BT v4).getD (Int.toNat a2) []=[(.int .i64 VY)]:=B6 _ g13;obtain ⟨e24,g25,hr⟩:=bE hr;(try simp only[go_sem,c11,f14,f15]);refine CV g25 (λ q:(List Int)×(List Int)=>⟨[(0,.p (.sl (Cw a0))),(1,.p (.sl (CW a1))),(7,.ref 17 0 q.1.length q.1.length),(9,.p (.sl (BT q.2)))],[(17,.arr 3 1 (BT q.1))],86⟩) ((Wk.pure (t:=9) (id:=31) (sz:=1) (e:=3) (es:=BT [a2]) (by simp[get,ZE]) (by simp[get,ZE])).trans ((Wk.forget (by simp[ZF,ZE])))) ?_;rintro ⟨v19,v20⟩ m23 Mg Av9;rw[Ml.eq_1] at Mg;cases c26:decide (0<((v20.length:Nat):Int))
   . simp only[c26,Aj] at Mg;simp only[Aa,BZ] at Mg;cases Mg;(try dsimp only at hr);cases hr;(try simp only[go_sem,c26]);all_goals ((try refine BU ?_);(try simp only[go_sem,c26]);try first | rfl | exact ⟨rfl,rfl⟩ | (simp;done))
   simp only[c26,Ak] at Mg;obtain ⟨VX,g28,Mg⟩:=bK Mg;have f29:=B5 g28;have f30:(BT v20).getD 0 []=[(.int .i64 VX)]:=B6 _ g28;obtain ⟨PL,Mg⟩:=gK Mg;have f32:=Ad PL;have f33:=Ax8 v20 1;obtain ⟨e48,g49,Mg⟩:=bK Mg;(try simp only[go_sem,c26,f29,f30,f32,f33,eq_self,H7 v20]);refine Abu g49 (λ (q:(List Int)×Int×(List Int)) (c:Bool)=>⟨[(0,.p (.sl (Cw a0))),(1,.p (.sl (CW a1))),(7,.ref 17 0 q.1.length q.1.length),(9,match c with | true=> .cz (BT q.2.2) | false=> .ref 82 0 q.2.2.length q.2.2.length),(10,.p (.int .i64 VX)),(44,.p (.sl (Cw a0))),(45,.p (.int .i64 ((a0.length:Nat):Int))),(46,.p (.int .i64 q.2.1))],(match c with | true=>[] | false=>[(82,.arr 3 1 (BT q.2.2))])++[(17,.arr 3 1 (BT q.1))],86⟩) true ((Wk.forget (by simp[ZF,ZE]))) ?_;rintro ⟨v41,Jl,v44⟩ Bat m47 D6 r0;rw[Ko.eq_1] at D6;rcases Bat with _ | _
   . cases Agq:decide (Jl<((a0.length:Nat):Int))
     . simp only[Agq,Aj] at D6;simp only[Aa,BZ] at D6;cases D6;(try dsimp only at Mg);simp only[Aa,B0] at Mg;(try simp only[go_sem,Agq]);exact Av9 (v41,v44) _ Mg ((Wk.pure (t:=9) (id:=82) (sz:=1) (e:=3) (es:=BT v44) (by simp[get,ZE]) (by simp[get,ZE])).trans ((Wk.forget (by simp[ZF,ZE]))))
     simp only[Agq,Ak] at D6;obtain ⟨Ahe,Awv,D6⟩:=bK D6;have f120:=B5 Awv;have f121:(Cw a0).getD (Int.toNat Jl) []=[(.sl (BT Ahe))]:=B6 _ Awv;obtain ⟨Auk,Awt,D6⟩:=bK D6;have f124:=B5 Awt;have f125:(BT v41).getD (Int.toNat Jl) []=[(.int .i64 Auk)]:=B6 _ Awt;cases Amn:decide (0<=Auk)
     . simp only[Amn,Aj] at D6;obtain ⟨Auj,Aws,D6⟩:=bK D6;have f129:=B5 Aws;have f130:(CW a1).getD (Int.toNat Jl) []=[(.bool Auj)]:=B6 _ Aws;cases Xg:Auj
       . simp only[Xg,Aj] at D6;obtain ⟨e141,Apd,D6⟩:=bK D6;(try simp only[go_sem,Agq,f120,f121,f124,f125,Amn,f129,f130,Xg]);refine CV Apd (λ q:(List Int)×Int×(List Int)=>⟨[(0,.p (.sl (Cw a0))),(1,.p (.sl (CW a1))),(7,.ref 17 0 q.1.length q.1.length),(9,.ref 82 0 q.2.2.length q.2.2.length),(10,.p (.int .i64 VX)),(11,.p (.int .i64 Jl)),(44,.p (.sl (Cw a0))),(45,.p (.int .i64 ((a0.length:Nat):Int))),(46,.p (.int .i64 Jl)),(62,.p (.sl (BT Ahe))),(63,.p (.int .i64 ((Ahe.length:Nat):Int))),(64,.p (.int .i64 q.2.1))],[(17,.arr 3 1 (BT q.1)),(82,.arr 3 1 (BT q.2.2))],86⟩) ((Wk.forget (by simp[ZF,ZE,Xg]))) ?_;rintro ⟨Ahj,Anq,Arr⟩ m140 Hc Aqx;rw[Gr.eq_1] at Hc;cases Amm:decide (Anq<((Ahe.length:Nat):Int))
         . simp only[Amm,Aj] at Hc;simp only[Aa,BZ] at Hc;cases Hc;(try dsimp only at D6);simp only[Aa,B0] at D6;(try simp only[go_sem,Amm]);exact r0 (Ahj,(IntKind.i64.wrap (Jl+1)),Arr) false _ D6 ((Wk.forget (by simp[ZF,ZE,Xg])))
         simp only[Amm,Ak] at Hc;obtain ⟨Aui,Awp,Hc⟩:=bK Hc;have f146:=B5 Awp;have f147:(BT Ahe).getD (Int.toNat Anq) []=[(.int .i64 Aui)]:=B6 _ Awp;cases Aps:decide (Aui=VX)
         . simp only[Aps,Aj] at Hc;simp only[Aa,B0] at Hc;(try simp only[go_sem,Amm,f146,f147,Aps]);exact Aqx (Ahj,(IntKind.i64.wrap (Anq+1)),Arr) _ Hc ((Wk.forget (by simp[ZF,ZE,Xg])))
         simp only[Aps,Ak] at Hc;obtain ⟨Auh,Awn,Hc⟩:=bK Hc;have f151:=B5 Awn;have f152:(BT Ahj).getD (Int.toNat VX) []=[(.int .i64 Auh)]:=B6 _ Awn;obtain ⟨Ahd,Apc,Hc⟩:=bK Hc;have f155:=B5 Apc;have f156:(BT Ahj).getD (Int.toNat Jl) []=[(.int .i64 Ahd)]:=B6 _ Apc;obtain ⟨Bau,Hc⟩:=gK Hc;(try simp only[go_sem,Amm,f146,f147,Aps,f151,f152,f155,f156]);refine ⟨by have:=Ad Bau;(try simp only[Aq,Az,At] at*);(repeat' refine And.intro ?_ ?_)<;>first | exact EN _ _ rfl | exact H7 _ | omega | (simp[Ly];done),?_⟩;simp only[Aa,B0] at Hc;(try simp only[go_sem]);exact Aqx ((Ahj.set (Int.toNat Jl) (IntKind.i64.wrap (Auh+1))),(IntKind.i64.wrap (Anq+1)),(Arr++[Jl])) _ Hc ((Wk.forget (by simp[ZF,ZE,Xg])))
       simp only[Xg,Ak] at D6;simp only[Aa,B0] at D6;(try simp only[go_sem,Agq,f120,f121,f124,f125,Amn,f129,f130,Xg]);exact r0 (v41,(IntKind.i64.wrap (Jl+1)),v44) false _ D6 ((Wk.forget (by simp[ZF,ZE,Xg])))
     simp only[Amn,Ak] at D6;simp only[Aa,B0] at D6;(try simp only[go_sem,Agq,f120,f121,f124,f125,Amn]);exact r0 (v41,(IntKind.i64.wrap (Jl+1)),v44) false _ D6 ((Wk.forget (by simp[ZF,ZE])))
   . cases c51:decide (Jl<((a0.length:Nat):Int))
     . simp only[c51,Aj] at D6;simp only[Aa,BZ] at D6;cases D6;(try dsimp only at Mg);simp only[Aa,B0] at Mg;(try simp only[go_sem,c51]);exact Av9 (v41,v44) _ Mg ((Wk.Ati (t:=9) rfl).trans ((Wk.forget (by simp[ZF,ZE]))))
     simp only[c51,Ak] at D6;obtain ⟨x52,g53,D6⟩:=bK D6;have f54:=B5 g53;have f55:(Cw a0).getD (Int.toNat Jl) []=[(.sl (BT x52))]:=B6 _ g53;obtain ⟨x56,g57,D6⟩:=bK D6;have f58:=B5 g57;have f59:(BT v41).getD (Int.toNat Jl) []=[(.int .i64 x56)]:=B6 _ g57;cases c60:decide (0<=x56)
     . simp only[c60,Aj] at D6;obtain ⟨x61,g62,D6⟩:=bK D6;have f63:=B5 g62;have f64:(CW a1).getD (Int.toNat Jl) []=[(.bool x61)]:=B6 _ g62;cases c65:x61
       . simp only[c65,Aj] at D6;obtain ⟨e80,g81,D6⟩:=bK D6;(try simp only[go_sem,c51,f54,f55,f58,f59,c60,f63,f64,c65]);refine Abu g81 (λ (q:(List Int)×Int×(List Int)) (c:Bool)=>⟨[(0,.p (.sl (Cw a0))),(1,.p (.sl (CW a1))),(7,.ref 17 0 q.1.length q.1.length),(9,match c with | true=> .cz (BT q.2.2) | false=> .ref 82 0 q.2.2.length q.2.2.length),(10,.p (.int .i64 VX)),(11,.p (.int .i64 Jl)),(44,.p (.sl (Cw a0))),(45,.p (.int .i64 ((a0.length:Nat):Int))),(46,.p (.int .i64 Jl)),(62,.p (.sl (BT x52))),(63,.p (.int .i64 ((x52.length:Nat):Int))),(64,.p (.int .i64 q.2.1))],(match c with | true=>[] | false=>[(82,.arr 3 1 (BT q.2.2))])++[(17,.arr 3 1 (BT q.1))],86⟩) true ((Wk.forget (by simp[ZF,ZE,c65]))) ?_;rintro ⟨ZI,v75,v76⟩ Bas m79 Fv Aov;rw[Gr.eq_1] at Fv;rcases Bas with _ | _
         . cases c98:decide (v75<((x52.length:Nat):Int))
           . simp only[c98,Aj] at Fv;simp only[Aa,BZ] at Fv;cases Fv;(try dsimp only at D6);simp only[Aa,B0] at D6;(try simp only[go_sem,c98]);exact r0 (ZI,(IntKind.i64.wrap (Jl+1)),v76) false _ D6 ((Wk.forget (by simp[ZF,ZE,c65])))
           simp only[c98,Ak] at Fv;obtain ⟨x99,Awy,Fv⟩:=bK Fv;have f101:=B5 Awy;have f102:(BT x52).getD (Int.toNat v75) []=[(.int .i64 x99)]:=B6 _ Awy;cases Apu:decide (x99=VX)
           . simp only[Apu,Aj] at Fv;simp only[Aa,B0] at Fv;(try simp only[go_sem,c98,f101,f102,Apu]);exact Aov (ZI,(IntKind.i64.wrap (v75+1)),v76) false _ Fv ((Wk.forget (by simp[ZF,ZE,c65])))
           simp only[Apu,Ak] at Fv;obtain ⟨Aul,Awx,Fv⟩:=bK Fv;have f106:=B5 Awx;have f107:(BT ZI).getD (Int.toNat VX) []=[(.int .i64 Aul)]:=B6 _ Awx;obtain ⟨Axp,Aww,Fv⟩:=bK Fv;have f110:=B5 Aww;have f111:(BT ZI).getD (Int.toNat Jl) []=[(.int .i64 Axp)]:=B6 _ Aww;obtain ⟨Bav,Fv⟩:=gK Fv;(try simp only[go_sem,c98,f101,f102,Apu,f106,f107,f110,f111]);refine ⟨by have:=Ad Bav;(try simp only[Aq,Az,At] at*);(repeat' refine And.intro ?_ ?_)<;>first | exact EN _ _ rfl | exact H7 _ | omega | (simp[Ly];done),?_⟩;simp only[Aa,B0] at Fv;(try simp only[go_sem]);exact Aov ((ZI.set (Int.toNat Jl) (IntKind.i64.wrap (Aul+1))),(IntKind.i64.wrap (v75+1)),(v76++[Jl])) false _ Fv ((Wk.forget (by simp[ZF,ZE,c65])))
         . cases VP:decide (v75<((x52.length:Nat):Int))
           . simp only[VP,Aj] at Fv;simp only[Aa,BZ] at Fv;cases Fv;(try dsimp only at D6);simp only[Aa,B0] at D6;(try simp only[go_sem,VP]);exact r0 (ZI,(IntKind.i64.wrap (Jl+1)),v76) true _ D6 ((Wk.forget (by simp[ZF,ZE,c65])))
           simp only[VP,Ak] at Fv;obtain ⟨x84,g85,Fv⟩:=bK Fv;have f86:=B5 g85;have f87:(BT x52).getD (Int.toNat v75) []=[(.int .i64 x84)]:=B6 _ g85;cases c88:decide (x84=VX)
           . simp only[c88,Aj] at Fv;simp only[Aa,B0] at Fv;(try simp only[go_sem,VP,f86,f87,c88]);exact Aov (ZI,(IntKind.i64.wrap (v75+1)),v76) true _ Fv ((Wk.forget (by simp[ZF,ZE,c65])))
           simp only[c88,Ak] at Fv;obtain ⟨x89,g90,Fv⟩:=bK Fv;have f91:=B5 g90;have f92:(BT ZI).getD (Int.toNat VX) []=[(.int .i64 x89)]:=B6 _ g90;obtain ⟨x93,g94,Fv⟩:=bK Fv;have f95:=B5 g94;have f96:(BT ZI).getD (Int.toNat Jl) []=[(.int .i64 x93)]:=B6 _ g94;obtain ⟨c97,Fv⟩:=gK Fv;(try simp only[go_sem,VP,f86,f87,c88,f91,f92,f95,f96]);refine ⟨by have:=Ad c97;(try simp only[Aq,Az,At] at*);(repeat' refine And.intro ?_ ?_)<;>first | exact EN _ _ rfl | exact H7 _ | omega | (simp[Ly];done),?_⟩;simp only[Aa,B0] at Fv;(try simp only[go_sem]);exact Aov ((ZI.set (Int.toNat Jl) (IntKind.i64.wrap (x89+1))),(IntKind.i64.wrap (v75+1)),(v76++[Jl])) false _ Fv ((Wk.forget (by simp[ZF,ZE,c65])))
       simp only[c65,Ak] at D6;simp only[Aa,B0] at D6;(try simp only[go_sem,c51,f54,f55,f58,f59,c60,f63,f64,c65]);exact r0 (v41,(IntKind.i64.wrap (Jl+1)),v44) true _ D6 ((Wk.forget (by simp[ZF,ZE,c65])))
     simp only[c60,Ak] at D6;simp only[Aa,B0] at D6;(try simp only[go_sem,c51,f54,f55,f58,f59,c60]);exact r0 (v41,(IntKind.i64.wrap (Jl+1)),v44) true _ D6 ((Wk.forget (by simp[ZF,ZE])))
 simp only[c11,Ak] at hh6;obtain ⟨Aug,Awl,hh6⟩:=bK hh6;have f169:=B5 Awl;have f170:(BT v4).getD (Int.toNat v5) []=[(.int .i64 Aug)]:=B6 _ Awl;simp only[Aa,B0] at hh6;try simp only[go_sem,c11,f169,f170]
 exact ih7 ((v4.set (Int.toNat v5) (-1)),(IntKind.i64.wrap (v5+1))) _ hh6 ((Wk.forget (by simp[ZF,ZE])))
def Km(x6:List Int)(RI:List Int):Int×Int->Option ((Int×Int)⊕((Int×Int)))
 | (v23,v24)=>cond (decide (v24<((RI.length:Nat):Int))) (Option.bind (CB RI v24) λ x34=>Option.bind (CB x6 x34) λ x38=>cond (decide (0<=x38)) (cond (decide (v23<0)) (some (Sum.inl (x34,(IntKind.i64.wrap (v24+1))))) (Option.bind (CB x6 v23) λ x44=>cond (decide (x38<x44)) (some (Sum.inl (x34,(IntKind.i64.wrap (v24+1))))) (some (Sum.inl (v23,(IntKind.i64.wrap (v24+1))))))) (some (Sum.inl (v23,(IntKind.i64.wrap (v24+1)))))) (some (Sum.inr (v23,v24)))
def Mj(a0:List (List Int))(a2:Int)(x6:List Int):(List Int)×Int->Option (((List Int)×Int)⊕((List Int)))
 | (v10,v11)=>Option.bind (CB a0 v11) λ RI=>Option.bind (Ct (Km x6 RI) ((-1),0)) (λ (v49,v50)=>cond (decide (v49<0)) (some (Sum.inr ([]:(List Int)))) (cond (decide (v49=a2)) (some (Sum.inr (v10:(List Int)))) (cond (decide (v10.length+1<10000000)) (some (Sum.inl ((v10++[v49]),v49))) none)))
def Pe(a0:List (List Int))(a1:List Bool)(a2:Int):Option ((List Int)):=
 Option.bind (CB a1 a2) λ x1=>cond x1 (some []) (Option.bind (Pf a0 a1 a2) λ x6=>Option.bind (Ct (Mj a0 a2 x6) ([a2],a2)) (λ r54=>some r54))
theorem Vo(a0:List (List Int))(a1:List Bool)(a2:Int)(r:(List Int))(hr:Pe a0 a1 a2=some r):
   BV prog 59 [.p (.sl (Cw a0)),.p (.sl (CW a1)),.p (.int .i64 a2)] [] λ h d=>h=[]/\d= .p (.sl (BT r)):=by
 refine BX func59 rfl Al2 (by simp[Tryz.f59]) ?_;unfold Pe at hr;obtain ⟨x1,g2,hr⟩:=bE hr;have f3:=B5 g2;have f4:(CW a1).getD (Int.toNat a2) []=[(.bool x1)]:=B6 _ g2;cases c5:x1
 . simp only[c5,Aj] at hr;obtain ⟨x6,g7,hr⟩:=bE hr;(try simp only[go_sem,f3,f4,c5]);refine Cq (Aee a0 a1 a2 _ g7) ?_;obtain ⟨e15,g16,hr⟩:=bE hr;(try simp only[go_sem]);refine CV g16 (λ q:(List Int)×Int=>⟨[(0,.p (.sl (Cw a0))),(2,.p (.int .i64 a2)),(7,.p (.sl (BT x6))),(8,.ref 22 0 q.1.length q.1.length),(9,.p (.int .i64 q.2))],[(22,.arr 3 1 (BT q.1))],68⟩) ((Wk.forget (by simp[ZF,ZE,c5]))) ?_;rintro ⟨v10,v11⟩ m14 Er Ae0;rw[Mj.eq_1] at Er;obtain ⟨RI,g18,Er⟩:=bK Er;have f19:=B5 g18;have f20:(Cw a0).getD (Int.toNat v11) []=[(.sl (BT RI))]:=B6 _ g18;obtain ⟨e28,g29,Er⟩:=bK Er;(try simp only[go_sem,f19,f20]);refine CV g29 (λ q:Int×Int=>⟨[(0,.p (.sl (Cw a0))),(2,.p (.int .i64 a2)),(7,.p (.sl (BT x6))),(8,.ref 22 0 v10.length v10.length),(10,.p (.int .i64 q.1)),(27,.p (.sl (BT RI))),(28,.p (.int .i64 ((RI.length:Nat):Int))),(29,.p (.int .i64 q.2))],[(22,.arr 3 1 (BT v10))],68⟩) ((Wk.forget (by simp[ZF,ZE,c5]))) ?_;rintro ⟨v23,v24⟩ m27 Ih Aox;rw[Km.eq_1] at Ih;cases TD:decide (v24<((RI.length:Nat):Int))
   . simp only[TD,Aj] at Ih;simp only[Aa,BZ] at Ih;cases Ih;(try dsimp only at Er);cases PL:decide (v23<0)
     . simp only[PL,Aj] at Er;cases c32:decide (v23=a2)
       . simp only[c32,Aj] at Er;obtain ⟨c33,Er⟩:=gK Er;(try simp only[go_sem,TD,PL,c32]);refine ⟨by have:=Ad c33;(try simp only[Aq,Az,At] at*);(repeat' refine And.intro ?_ ?_)<;>first | exact EN _ _ rfl | exact H7 _ | omega | (simp[Ly];done),?_⟩;simp only[Aa,B0] at Er;(try simp only[go_sem]);exact Ae0 ((v10++[v23]),v23) _ Er ((Wk.forget (by simp[ZF,ZE,c5])))
       simp only[c32,Ak] at Er;simp only[Aa,BZ] at Er;cases Er;(try dsimp only at hr);cases hr;(try simp only[go_sem,TD,PL,c32]);all_goals ((try refine BU ?_);(try simp only[go_sem,TD,PL,c32]);try first | rfl | exact ⟨rfl,rfl⟩ | (simp;done))
     simp only[PL,Ak] at Er;simp only[Aa,BZ] at Er;cases Er;(try dsimp only at hr);cases hr;(try simp only[go_sem,TD,PL]);all_goals ((try refine BU ?_);(try simp only[go_sem,TD,PL]);try first | rfl | exact ⟨rfl,rfl⟩ | (simp;done))
   simp only[TD,Ak] at Ih;obtain ⟨x34,g35,Ih⟩:=bK Ih;have f36:=B5 g35;have f37:(BT RI).getD (Int.toNat v24) []=[(.int .i64 x34)]:=B6 _ g35;(try simp only[go_sem,TD,f36,f37]);refine CE mixed (p:=[(0,0),(1,0),(2,0),(3,0),(4,0),(5,0),(6,0),(7,0),(8,0),(9,0),(10,0),(11,0),(12,0),(13,0),(14,0),(15,0),(16,0),(17,0),(18,0),(19,0)]) (by kernel_rfl) (by simp[C5,get]) ?_;obtain ⟨x38,g39,Ih⟩:=bK Ih;have f40:=B5 g39;have f41:(BT x6).getD (Int.toNat x34) []=[(.int .i64 x38)]:=B6 _ g39;cases c42:decide (0<=x38)
   . simp only[c42,Aj] at Ih;simp only[Aa,B0] at Ih;(try simp only[go_sem,f40,f41,c42]);exact Aox (v23,(IntKind.i64.wrap (v24+1))) _ Ih ((Wk.forget (by simp[ZF,ZE,c5])))
   simp only[c42,Ak] at Ih;cases c43:decide (v23<0)
   . simp only[c43,Aj] at Ih;obtain ⟨x44,g45,Ih⟩:=bK Ih;have f46:=B5 g45;have f47:(BT x6).getD (Int.toNat v23) []=[(.int .i64 x44)]:=B6 _ g45;cases c48:decide (x38<x44)
     . simp only[c48,Aj] at Ih;simp only[Aa,B0] at Ih;(try simp only[go_sem,f40,f41,c42,c43,f46,f47,c48]);exact Aox (v23,(IntKind.i64.wrap (v24+1))) _ Ih ((Wk.forget (by simp[ZF,ZE,c5])))
     simp only[c48,Ak] at Ih;simp only[Aa,B0] at Ih;(try simp only[go_sem,f40,f41,c42,c43,f46,f47,c48]);exact Aox (x34,(IntKind.i64.wrap (v24+1))) _ Ih ((Wk.forget (by simp[ZF,ZE,c5])))
   simp only[c43,Ak] at Ih;simp only[Aa,B0] at Ih;(try simp only[go_sem,f40,f41,c42,c43]);exact Aox (x34,(IntKind.i64.wrap (v24+1))) _ Ih ((Wk.forget (by simp[ZF,ZE,c5])))
 simp only[c5,Ak] at hr;cases hr;try simp only[go_sem,f3,f4,c5]
 all_goals ((try refine BU ?_);(try simp only[go_sem,f3,f4,c5]);try first | rfl | exact ⟨rfl,rfl⟩ | (simp;done))
def nlD(l:List Int):D:=match l with
 | []=> .cl []
 | x::r=> .p (.sl (BT (x::r)))
theorem RN:nlD []= .cl []:=rfl
theorem J8(x:Int)(r:List Int):nlD (x::r)= .p (.sl (BT (x::r))):=rfl
def IJ(a0:List (List Int))(a1:List Bool):(List Int)×Int->Option (((List Int)×Int)⊕((List Int)×Int))
 | (b,v)=>cond (decide (v<((a0.length:Nat):Int))) (Option.bind (Pe a0 a1 v) λ x=>cond (decide (0<((x.length:Nat):Int))) (cond b.isEmpty (some (.inl (x,IntKind.i64.wrap (v+1)))) (cond (decide (((x.length:Nat):Int)<((b.length:Nat):Int))) (some (.inl (x,IntKind.i64.wrap (v+1)))) (some (.inl (b,IntKind.i64.wrap (v+1)))))) (some (.inl (b,IntKind.i64.wrap (v+1))))) (some (.inr (b,v)))
def Mk(a0:List (List Int))(a1:List Bool):Option (Int×(List Int)×Int):=
 Option.bind (Mm a0 a1) λ x1=>cond (decide (x1=0)) (Option.bind (Ct (IJ a0 a1) ([],0)) (λ (b,v)=>some (((b.length:Nat):Int),b,0))) (some (0,[],x1))
theorem S8(a0:List (List Int))(a1:List Bool)(r:Int×(List Int)×Int)(hr:Mk a0 a1=some r):
   BV prog 25 [.p (.sl (Cw a0)),.p (.sl (CW a1))] [] λ h d=>h=[]/\d= .De [.p (.int .i64 r.1),.p (.sl (BT r.2.1)),.p (.int .i64 r.2.2)]:=by
 refine BX func25 rfl Aln (by simp[Tryz.f25]) ?_;unfold Mk at hr;obtain ⟨x1,g2,hr⟩:=bE hr;try simp only[go_sem]
 refine Cq (w9 a0 a1 _ g2) ?_;cases c3:decide (x1=0)
 . simp only[c3,Aj] at hr;cases hr;(try simp only[go_sem,c3]);all_goals ((try refine BU ?_);(try simp only[go_sem,c3]);try first | rfl | exact ⟨rfl,rfl⟩ | (simp;done))
 simp only[c3,Ak] at hr;obtain ⟨e11,g12,hr⟩:=bE hr;try simp only[go_sem,c3]
 refine CV g12 (λ q:(List Int)×Int=>⟨[(0,.p (.sl (Cw a0))),(1,.p (.sl (CW a1))),(8,nlD q.1),(18,.p (.int .i64 ((a0.length:Nat):Int))),(19,.p (.int .i64 q.2))],[],45⟩) ((Wk.forget (by simp[ZF,RN,ZE]))) ?_;rintro ⟨v6,v7⟩ m10 Fu q0;rw[IJ.eq_1] at Fu;cases Ok:decide (v7<((a0.length:Nat):Int))
 . simp only[Ok,Aj] at Fu;simp only[Aa,BZ] at Fu;cases Fu;(try dsimp only at hr);cases hr;rcases v6 with _ | ⟨b0,bs⟩
   . (try simp only[go_sem,Ok,RN]);all_goals ((try refine BU ?_);(try simp only[go_sem,Ok]);try first | rfl | exact ⟨rfl,rfl⟩ | (simp;done))
   . (try simp only[go_sem,Ok,J8,BS]);all_goals ((try refine BU ?_);(try simp only[go_sem,Ok,BS]);try first | rfl | exact ⟨rfl,rfl⟩ | (simp;done))
 simp only[Ok,Ak] at Fu;obtain ⟨Nj,g15,Fu⟩:=bK Fu;rcases v6 with _ | ⟨b0,bs⟩
 . (try simp only[go_sem,Ok,RN]);refine Cq (Vo a0 a1 v7 _ g15) ?_;cases JW:decide (0<((Nj.length:Nat):Int))
   . simp only[JW,Aj] at Fu;simp only[Aa,B0] at Fu;(try simp only[go_sem,JW,BS]);exact q0 ([],(IntKind.i64.wrap (v7+1))) _ Fu ((Wk.forget (by simp[ZF,RN,ZE])))
   simp only[JW,Ak,List.isEmpty_nil] at Fu;simp only[Aa,B0] at Fu;(try simp only[go_sem,JW,BS,List.isEmpty_nil]);have hx:0<Nj.length:=by have:=Ad JW;omega
   rcases Nj with _ | ⟨y0,ys⟩
   . exact absurd hx (by simp)
   exact q0 (y0::ys,(IntKind.i64.wrap (v7+1))) _ Fu ((Wk.forget (by simp[ZF,J8,ZE])))
 . have Dn:BT (b0::bs)≠[]:=by simp[BT]
   (try simp only[go_sem,Ok,J8]);refine Cq (Vo a0 a1 v7 _ g15) ?_;cases JW:decide (0<((Nj.length:Nat):Int))
   . simp only[JW,Aj] at Fu;simp only[Aa,B0] at Fu;(try simp only[go_sem,JW,BS]);exact q0 (b0::bs,(IntKind.i64.wrap (v7+1))) _ Fu ((Wk.forget (by simp[ZF,J8,ZE])))
   simp only[JW,Ak,List.isEmpty_cons,Aj] at Fu;cases JV:decide (((Nj.length:Nat):Int)<(((b0::bs).length:Nat):Int))
   . have Oy:decide (((Nj.length:Nat):Int)<((bs.length+1:Nat):Int))=false:=JV;simp only[JV,Aj] at Fu;simp only[Aa,B0] at Fu;(try simp only[go_sem,JW,Oy,BS,Dn,ne_eq]);exact q0 (b0::bs,(IntKind.i64.wrap (v7+1))) _ Fu ((Wk.forget (by simp[ZF,J8,ZE])))
   have Oy:decide (((Nj.length:Nat):Int)<((bs.length+1:Nat):Int))=true:=JV;simp only[JV,Ak] at Fu;simp only[Aa,B0] at Fu;(try simp only[go_sem,JW,Oy,BS,Dn,ne_eq]);have hx:0<Nj.length:=by have:=Ad JW;omega
   rcases Nj with _ | ⟨y0,ys⟩
   . exact absurd hx (by simp)
   exact q0 (y0::ys,(IntKind.i64.wrap (v7+1))) _ Fu ((Wk.forget (by simp[ZF,J8,ZE])))
theorem JJ{l:List Int}{k:Nat}(h:k<l.length)(w:Int):w∈l.take (k+1)↔w∈l.take k∨l.getD k 0=w:=by
 rw[Cr l k 0 h];simp[eq_comm]
theorem Ai4{g:List (List Int)}(hg:DI g){u:Nat}(hu:u<g.length){k:Nat}(hk:k<(g.getD u []).length):(g.getD u []).getD k 0∉(g.getD u []).take k:=by
 intro hm;obtain ⟨i,hi,he⟩:=AA.1 hm;have EG:i<k:=by simp only[Bm] at hi;omega
 have:=Acn hg hu EG hk;rw[List.getElem_take] at he;have e1:(g.getD u []).getD i 0=(g.getD u [])[i]'(by omega):=getD_eq (by omega);rw[e1,he] at this;omega
theorem Aeg{g:List (List Int)}(hg:DI g){sh:List Bool}(Jn:sh.length=g.length):Mm g sh=some 0:=by
 have CS:∀u,u<g.length->Ct (Kq g (u:Int) (g.getD u [])) (0,-1)=some (.inl (((g.getD u []).length:Nat),if (g.getD u []).length=0 then -1 else (g.getD u []).getD ((g.getD u []).length - 1) 0)):=λ u hu=>by
   refine C3 (g.getD u []).length (λ k=>(((k:Nat):Int),if k=0 then -1 else (g.getD u []).getD (k - 1) 0)) _ (λ k hk=>?_) ?_
   . have h1:=hg.2 u hu k hk;unfold IX at h1;have hl:=KL hg hu;(try dsimp only);rw[Kq.eq_1];simp only[E8 hk,Ak,Cd _ _ 0 hk,Aa];have c1:decide ((g.getD u []).getD k 0<=if k=0 then -1 else (g.getD u []).getD (k - 1) 0)=false:=Ah (by split<;>omega);have c2:decide (((g.length:Nat):Int)<=(g.getD u []).getD k 0)=false:=Ah (by omega);have c3:decide ((g.getD u []).getD k 0=(u:Int))=false:=Ah (by omega);simp only[c1,c2,c3,Aj];rw[Cs (by omega)];simp
   . (try dsimp only);rw[Kq.eq_1];simp only[FX,Aj]
 have DZ:Ct (Kp g) ((0:Nat):Int)=some (.inl ((g.length:Nat):Int)):=by
   refine C3 g.length (λ k=>((k:Nat):Int)) _ (λ u hu=>?_) ?_
   . rw[Kp.eq_1];simp only[E8 hu,Ak,Cd _ _ [] hu,Aa];rw[CS u hu];simp only[Aa];rw[Cs (by have:=hg.1;omega)]
   . rw[Kp.eq_1];simp only[FX,Aj]
 unfold Mm;have c1:decide (24<((g.length:Nat):Int))=false:=Ah (by have:=hg.1;omega);have c2:decide (((sh.length:Nat):Int)=((g.length:Nat):Int))=true:=Ag (by rw[Jn]);simp only[c1,Aj];rw[show (0:Int)=((0:Nat):Int) from rfl,DZ];simp only[Aa,c2,Ak]
theorem Aka{g:List (List Int)}(hg:DI g){sh:List Bool}{goal:Nat}{w:Int}{v:Nat}{d q:List Int}(h:BF g sh goal w v d q)(Ql:0<=w)(hv:v<g.length)(hd:d.getD v 0<0):
   Ct (Gr w (v:Int) (g.getD v [])) (d,0,q)=some (if w∈g.getD v [] then (d.set v (d.getD w.toNat 0+1),(((g.getD v []).length:Nat):Int),q++[(v:Int)]) else (d,(((g.getD v []).length:Nat):Int),q)):=by
 have hl:=KL hg hv;obtain ⟨hc1,Xy,hc3,hc4⟩:=h.cur Ql;have Xx:=h.len;have hb:=h.bnd w.toNat (by omega);have hq:=h.Aig;have Qu:=hg.1;have key:=C3 (step:=Gr w (v:Int) (g.getD v [])) (g.getD v []).length
   (λ k=>if w∈(g.getD v []).take k then (d.set v (d.getD w.toNat 0+1),((k:Nat):Int),q++[(v:Int)]) else (d,((k:Nat):Int),q))
   (if w∈g.getD v [] then (d.set v (d.getD w.toNat 0+1),(((g.getD v []).length:Nat):Int),q++[(v:Int)]) else (d,(((g.getD v []).length:Nat):Int),q)) (λ k hk=>?_) ?_
 . simpa using key
 . (try dsimp only);by_cases c:w∈(g.getD v []).take k
   . have Dn:(g.getD v []).getD k 0≠w:=λ e=>by
       have:=Ai4 hg hv hk;rw[e] at this;exact this c
     rw[if_pos c,if_pos ((JJ hk w).2 (.inl c)),Gr.eq_1];simp only[E8 hk,Ak,Cd _ _ 0 hk,Aa,Ah Dn,Aj];rw[Cs (by omega)]
   . rw[if_neg c];by_cases e:(g.getD v []).getD k 0=w
     . rw[if_pos ((JJ hk w).2 (.inr e)),Gr.eq_1];have i1:CB d w=some (d.getD w.toNat 0):=by
         have:=Cd d w.toNat 0 (by omega);rw[show ((w.toNat:Nat):Int)=w by omega] at this;exact this
       have i2:=Cd d v 0 (by omega);have c5:decide (q.length+1<10000000)=true:=Ag (by omega);simp only[E8 hk,Ak,Cd _ _ 0 hk,Aa,Ag e,i1,i2,c5];rw[Cs (by omega)];have:IntKind.i64.wrap (d.getD w.toNat 0+1)=d.getD w.toNat 0+1:=by
         have:=Cs (n:=(d.getD w.toNat 0).toNat) (by omega);rw[show (((d.getD w.toNat 0).toNat:Nat):Int)=d.getD w.toNat 0 by omega] at this;rw[this];omega
       rw[this];simp
     . rw[if_neg (λ hm=>by rcases (JJ hk w).1 hm with h1 | h1;exact c h1;exact e h1),Gr.eq_1];simp only[E8 hk,Ak,Cd _ _ 0 hk,Aa,Ah e,Aj];rw[Cs (by omega)]
 . (try dsimp only);rw[Aw];split
   . rw[Gr.eq_1];simp only[FX,Aj]
   . rw[Gr.eq_1];simp only[FX,Aj]
theorem Aef{g:List (List Int)}(hg:DI g){sh:List Bool}(Jn:sh.length=g.length){goal:Nat}{w:Int}{d q:List Int}(h:BF g sh goal w 0 d q)(Ql:0<=w):
   ∃d' q',Ct (Ko g sh w) (d,0,q)=some (d',((g.length:Nat):Int),q')/\BF g sh goal w g.length d' q'/\q'.length+JH d'=q.length+JH d:=by
 have Qu:=hg.1;obtain ⟨e,h1,h2⟩:∃e,Ct (Ko g sh w) (d,0,q)=some e/\e.2.1=((g.length:Nat):Int)/\BF g sh goal w g.length e.1 e.2.2/\e.2.2.length+JH e.1=q.length+JH d:=by
   refine Qe (step:=Ko g sh w) (λ s=>∃v:Nat,s.2.1=(v:Int)/\v<=g.length/\BF g sh goal w v s.1 s.2.2/\s.2.2.length+JH s.1=q.length+JH d)
     (λ s=>g.length - s.2.1.toNat) (λ e=>e.2.1=((g.length:Nat):Int)/\BF g sh goal w g.length e.1 e.2.2/\e.2.2.length+JH e.1=q.length+JH d) (λ s hs=>?_) (d,0,q) ⟨0,rfl,by omega,h,rfl⟩
   obtain ⟨d1,i,q1⟩:=s;obtain ⟨v,h3,h4,h5,h6⟩:=hs;dsimp only at h3 h4 h5 h6;subst h3;rw[Ko.eq_1];by_cases hv:v<g.length
   . have Xx:=h5.len;have i1:=Cd g v [] hv;have i2:=Cd d1 v 0 (by omega);have i3:=Cd sh v false (by omega);simp only[E8 hv,Ak,i1,i2,Aa];by_cases c1:0<=d1.getD v 0
     . simp only[Ag c1,Ak];rw[Cs (by omega)];exact ⟨_,rfl,⟨v+1,rfl,hv,h5.skip Ql (.inl c1),h6⟩,by dsimp only;omega⟩
     . simp only[Ah c1,Aj,i3,Aa];cases c2:sh.getD v false
       . simp only[Aj];rw[Aka hg h5 Ql hv (by omega)];simp only[Aa];rw[Cs (by omega)];by_cases c3:w∈g.getD v []
         . rw[if_pos c3];have hn:=SD (d:=d1) (v:=v) (x:=d1.getD w.toNat 0+1) (by omega) (by omega) (by have:=(h5.cur Ql).2.1;omega);exact ⟨_,rfl,⟨v+1,rfl,hv,h5.push Ql hv (by omega) c2 c3,by simp only[List.length_append,List.length_singleton];omega⟩,by dsimp only;omega⟩
         . rw[if_neg c3];exact ⟨_,rfl,⟨v+1,rfl,hv,h5.skip Ql (.inr (.inr c3)),h6⟩,by dsimp only;omega⟩
       . simp only[Ak];rw[Cs (by omega)];exact ⟨_,rfl,⟨v+1,rfl,hv,h5.skip Ql (.inr (.inl c2)),h6⟩,by dsimp only;omega⟩
   . have e1:v=g.length:=by omega
     subst e1;simp only[FX,Aj];exact ⟨_,rfl,rfl,h5,h6⟩
 obtain ⟨d',i,q'⟩:=e;obtain ⟨h3,h4,h5⟩:=h2;dsimp only at h3 h4 h5;subst h3;exact ⟨d',q',h1,h4,h5⟩
theorem BF.fin{g:List (List Int)}{sh:List Bool}{goal:Nat}{d q:List Int}{w:Int}(h:BF g sh goal w g.length d q):BF g sh goal (-1) 0 d q:=
 ⟨h.len,h.lo,h.zero,h.prev,h.shut,h.qin,h.sorted,h.top,λ y hy Xu hy3 hy4 u hu _ hs hm=>h.done y hy Xu hy3 hy4 u hu (λ _=>hu) hs hm,h.bnd,h.Aig,λ h=>by omega⟩
theorem Ak9{g:List (List Int)}(hg:DI g){sh:List Bool}(Jn:sh.length=g.length){goal:Nat}(F3:goal<g.length)(ho:sh.getD goal false=false):Pf g sh (goal:Int)=some (Dv g sh goal):=by
 have Qu:=hg.1;have h4:Ct (Kn g) (List.replicate g.length 0,((0:Nat):Int))=some (List.replicate g.length (-1),((g.length:Nat):Int)):=by
   have:=C3 (step:=Kn g) g.length (λ k=>(List.replicate k (-1)++List.replicate (g.length - k) 0,((k:Nat):Int))) (List.replicate g.length (-1),((g.length:Nat):Int)) (λ k hk=>?_) ?_
   . simpa using this
   . (try dsimp only);rw[Kn.eq_1];have i1:=Cd (List.replicate k (-1)++List.replicate (g.length - k) (0:Int)) k 0 (by simp;omega);simp only[E8 hk,Ak,i1,Aa];rw[Cs (by omega),show ((k:Nat):Int).toNat=k by omega];have:(List.replicate k (-1)++List.replicate (g.length - k) (0:Int)).set k (-1)=List.replicate (k+1) (-1)++List.replicate (g.length - (k+1)) 0:=by
       rw[List.set_append_right _ _ (by simp),show g.length - k=(g.length - (k+1))+1 by omega,List.replicate_succ];simp[List.replicate_succ']
     rw[this]
   . (try dsimp only);rw[Kn.eq_1];simp only[FX,Aj];simp
 obtain ⟨e,h1,h2⟩:∃e,Ct (Ml g sh) ((List.replicate g.length (-1)).set goal 0,[(goal:Int)])=some e/\DS g sh goal e.1:=by
   refine Qe (step:=Ml g sh) (λ s=>BF g sh goal (-1) 0 s.1 s.2) (λ s=>s.2.length+JH s.1) (λ e=>DS g sh goal e.1) (λ s hs=>?_) ((List.replicate g.length (-1)).set goal 0,[(goal:Int)]) (BF.init F3 ho);obtain ⟨d,q⟩:=s;dsimp only at hs;rw[Ml.eq_1];cases q with
   | nil=>
     have c0:decide ((0:Int)<((([]:List Int).length:Nat):Int))=false:=rfl;simp only[c0,Aj];exact ⟨_,rfl,hs.end hg (.inl (by omega))⟩
   | cons w q=>
     have c0:decide ((0:Int)<(((w::q).length:Nat):Int))=true:=Ag (by simp only[Aq];omega);have c1:decide ((0:Nat)<=1/\(1:Int)<=(((w::q).length:Nat):Int)/\(((w::q).length:Nat):Int)<=(((w::q).length:Nat):Int))=true:=Ag (by simp only[Aq];omega);have i0:CB (w::q) 0=some w:=rfl;have hp:=hs.pop (.inl (by omega));have hw:=hs.qin w (by simp);obtain ⟨d',q',h5,h6,h7⟩:=Aef hg Jn hp hw.1;simp only[c0,c1,Ak,i0,Aa,List.drop_succ_cons,List.drop_zero];rw[h5];simp only[Aa];exact ⟨_,rfl,h6.fin,by dsimp only;simp only[List.length_cons];omega⟩
 unfold Pf;have c1:decide (g.length<10000000)=true:=Ag (by omega);have i1:=Cd (List.replicate g.length (-1:Int)) goal 0 (by simpa using F3);simp only[c1,Ak];rw[show ((List.replicate g.length 0,(0:Int)):List Int×Int)=(List.replicate g.length 0,((0:Nat):Int)) from rfl,h4];simp only[Aa,i1];rw[show ((goal:Nat):Int).toNat=goal by omega,h1];simp only[Aa];rw[DS.uniq hg h2 (Px hg F3 ho)]
theorem Kh{l:List Int}{w:Int}(h0:0<=w)(h1:w<(l.length:Int)):CB l w=some (l.getD w.toNat 0):=by
 have:=Cd l w.toNat 0 (by omega);rw[show ((w.toNat:Nat):Int)=w by omega] at this;exact this
theorem YE{g:List (List Int)}(hg:DI g){o:List Int}(ho:o.length=g.length){u:Nat}(hu:u<g.length):
   Ct (Km o (g.getD u [])) (-1,0)=some (F4 o (g.getD u []),(((g.getD u []).length:Nat):Int)):=by
 have hl:=KL hg hu;have key:=C3 (step:=Km o (g.getD u [])) (g.getD u []).length (λ k=>(((g.getD u []).take k).foldl (F5 o) (-1),((k:Nat):Int))) (F4 o (g.getD u []),(((g.getD u []).length:Nat):Int)) (λ k hk=>?_) ?_
 . simpa using key
 . (try dsimp only);have hm:(g.getD u []).getD k 0∈g.getD u []:=by
     have e1:(g.getD u []).getD k 0=(g.getD u [])[k]:=getD_eq hk;rw[e1];exact AW hk
   have hr:=F9 hg hu hm;rw[Km.eq_1];have i2:=Kh (l:=o) hr.1 (by omega);simp only[E8 hk,Ak,Cd _ _ 0 hk,Aa,i2];rw[Cr _ k 0 hk,List.foldl_append,Bf,List.foldl_nil];have hb:=HK o ((g.getD u []).take k) (-1);generalize ((g.getD u []).take k).foldl (F5 o) (-1)=b at hb;generalize hx:(g.getD u []).getD k 0=x at*;unfold F5;by_cases c1:0<=o.getD x.toNat 0
   . simp only[Ag c1,Ak];by_cases c2:b<0
     . simp only[Ag c2,Ak];rw[Cs (by omega),if_pos ⟨c1,.inl c2⟩]
     . have TZ:b∈g.getD u []:=by
         rcases hb with h | h
         . omega
         . exact BK h.1
       have hbr:=F9 hg hu TZ;have i3:=Kh (l:=o) hbr.1 (by omega);simp only[Ah c2,Aj,i3,Aa];by_cases c3:o.getD x.toNat 0<o.getD b.toNat 0
       . simp only[Ag c3,Ak];rw[Cs (by omega),if_pos ⟨c1,.inr c3⟩]
       . simp only[Ah c3,Aj];rw[Cs (by omega),if_neg (by rintro ⟨_,h | h⟩;exact c2 h;exact c3 h)]
   . simp only[Ah c1,Aj];rw[Cs (by omega),if_neg (λ h=>c1 h.1)]
 . (try dsimp only);rw[Km.eq_1,Aw];simp only[FX,Aj];rfl
theorem DS.Kj{g:List (List Int)}(hg:DI g){sh:List Bool}{goal:Nat}{o:List Int}(ho:DS g sh goal o){v:Nat}(hv:v<g.length)(h1:1<=o.getD v 0):
   0<=Jo o (g.getD v []) (o.getD v 0 - 1)/\Jo o (g.getD v []) (o.getD v 0 - 1)<(g.length:Int)/\o.getD (Jo o (g.getD v []) (o.getD v 0 - 1)).toNat 0=o.getD v 0 - 1:=by
 obtain ⟨h2,h3⟩:=Ajq (ho.prev v hv h1);have:=F9 hg hv h2;exact ⟨this.1,this.2.1,h3⟩
theorem YF{g:List (List Int)}(hg:DI g){sh:List Bool}{goal:Nat}{o:List Int}(ho:DS g sh goal o)(F3:goal<g.length):∀(f b:Nat) (W:List Int),b<g.length->o.getD b 0=((f+1:Nat):Int)->W.length+f+1<=1000->
   Ct (Mj g (goal:Int) o) (W++[(b:Int)],(b:Int))=some (W++M5 g o (f+1) (b:Int))
 | f,b,W,hb,hd,hW=>by
   have Awh:=DS.Amt hg ho hb (by omega);obtain ⟨h1,h2,h3⟩:=ho.Kj hg hb (by omega);have hz:=ho.zero (Jo o (g.getD b []) (o.getD b 0 - 1)).toNat (by omega);rw[CL,Mj.eq_1];simp only[Cd _ _ [] hb,Aa];rw[YE hg ho.len hb];simp only[Aa];rw[Awh];have Az5:M5 g o (f+1) (b:Int)=(b:Int)::M5 g o f (Jo o (g.getD b []) (o.getD b 0 - 1)):=by
     rw[M5,show ((b:Nat):Int).toNat=b by omega]
   rw[Az5];generalize Jo o (g.getD b []) (o.getD b 0 - 1)=x at*;have c1:decide (x<0)=false:=Ah (by omega);simp only[c1,Aj];cases f with
   | zero=>
     have c2:decide (x=(goal:Int))=true:=Ag (by have:=hz.1 (by omega);omega);simp only[c2,Ak,Aa,BZ];rfl
   | succ f=>
     have c2:decide (x=(goal:Int))=false:=Ah (λ e=>by have:=hz.2 (by omega);omega);have c3:decide ((W++[(b:Int)]).length+1<10000000)=true:=Ag (by simp only[At,BO];omega);simp only[c2,c3,Aj,Ak,Aa,B0];have ih:=YF hg ho F3 f x.toNat (W++[(b:Int)]) (by omega) (by rw[h3];omega) (by simp only[At,BO];omega);rw[show ((x.toNat:Nat):Int)=x by omega] at ih;rw[ih];simp
theorem Ak8{g:List (List Int)}(hg:DI g){sh:List Bool}(Jn:sh.length=g.length){v:Nat}(hv:v<g.length):Pe g sh (v:Int)=some (E3 g sh v):=by
 unfold Pe E3;have i1:=Cd sh v false (by omega);simp only[i1,Aa];cases hs:sh.getD v false
 . simp only[Aj];rw[Ak9 hg Jn hv hs];have ho:=Px hg hv hs;have Ae7:=λ {u:Nat} (hu:u<g.length)=>MU hg sh hv hu;generalize Dv g sh v=o at ho Ae7;simp only[Aa];rw[CL,Mj.eq_1];simp only[Cd _ _ [] hv,Aa];rw[YE hg ho.len hv];simp only[Aa];rw[if_neg (by simp)];have hb:=HK o (g.getD v []) (-1)
   change F4 o (g.getD v [])=-1∨(F4 o (g.getD v [])∈g.getD v []/\0<=o.getD (F4 o (g.getD v [])).toNat 0) at hb
   generalize F4 o (g.getD v [])=b at*;by_cases c1:b<0
   . simp only[Ag c1,Ak,Aa,BZ];rw[if_pos c1]
   . have TZ:b∈g.getD v []/\0<=o.getD b.toNat 0:=by
       rcases hb with h | h
       . omega
       . exact h
     have hr:=F9 hg hv TZ.1;have hz:=ho.zero b.toNat (by omega);have c2:decide (b=(v:Int))=false:=Ah hr.2.2;have c3:decide ([(v:Int)].length+1<10000000)=true:=rfl;have Dn:o.getD b.toNat 0≠0:=λ e=>by have:=hz.1 e;omega
     have hle:=Ae7 (u:=b.toNat) (by omega);simp only[Ah c1,c2,c3,Aj,Ak,Aa,B0];rw[if_neg c1];have:=YF hg ho hv (o.getD b.toNat 0 - 1).toNat b.toNat [(v:Int)] (by omega) (by omega) (by simp only[BO];omega);rw[show ((b.toNat:Nat):Int)=b by omega,show (o.getD b.toNat 0 - 1).toNat+1=(o.getD b.toNat 0).toNat by omega] at this;rw[this];rfl
 . simp only[Ak,AL]
theorem Ace{g:List (List Int)}(hg:DI g)(sh:List Bool){v:Nat}(hv:v<g.length):(E3 g sh v).length<=25:=by
 unfold E3;split
 . simp
 . (try dsimp only);split
   . simp
   . rename_i h1 h2;have hb:=HK (Dv g sh v) (g.getD v []) (-1)
     change F4 (Dv g sh v) (g.getD v [])=-1∨(F4 (Dv g sh v) (g.getD v [])∈g.getD v []/\_) at hb
     rw[Aq,IK];rcases hb with h | h
     . omega
     . have hr:=F9 hg hv h.1;have:=MU hg sh hv (v:=(F4 (Dv g sh v) (g.getD v [])).toNat) (by omega);omega
theorem Lm{g:List (List Int)}(hg:DI g)(sh:List Bool):∀k,k<=g.length->((((List.range g.length).map (E3 g sh)).take k).foldl Ik []).length<=25
 | 0,_=>by simp
 | k+1,hk=>by
   have h1:=Lm hg sh k (by omega);rw[Cr _ k [] (by simp;omega),List.foldl_append,Bf,List.foldl_nil];unfold Ik;split
   . rw[getD_map' (E3 g sh) _ k 0 [] (by simp;omega)];have:=Ace hg sh (v:=k) (by omega)
     simpa [List.getD,List.getElem?_range (show k<g.length by omega)] using this
   . exact h1
theorem Vp{g:List (List Int)}(hg:DI g){sh:List Bool}(Jn:sh.length=g.length):Mk g sh=some ((((DV g sh).length:Nat):Int),DV g sh,0):=by
 have hl:Ct (IJ g sh) ([],((0:Nat):Int))=some (DV g sh,((g.length:Nat):Int)):=by
   refine C3 (step:=IJ g sh) g.length (λ k=>((((List.range g.length).map (E3 g sh)).take k).foldl Ik [],((k:Nat):Int))) _ (λ k hk=>?_) ?_
   . (try dsimp only);rw[IJ.eq_1];simp only[E8 hk,Ak];rw[Ak8 hg Jn hk];simp only[Aa];have e1:((List.range g.length).map (E3 g sh)).getD k []=E3 g sh k:=by
       rw[getD_map' (E3 g sh) _ k 0 [] (by simpa using hk)];simp[List.getD,List.getElem?_range hk]
     rw[Cr _ k [] (by simpa using hk),List.foldl_append,List.foldl_cons,List.foldl_nil,e1];generalize (((List.range g.length).map (E3 g sh)).take k).foldl Ik []=b;generalize E3 g sh k=x;have hw:=Cs (n:=k) (by have:=hg.1;omega);rw[hw];unfold Ik;by_cases c1:0<x.length
     . simp only[Ag (show (0:Int)<((x.length:Nat):Int) by omega),Ak];cases b with
       | nil=>simp only[List.isEmpty_nil,Ak];rw[if_pos ⟨c1,.inl rfl⟩]
       | cons b0 bs=>
         simp only[List.isEmpty_cons,Aj];by_cases c2:x.length<(b0::bs).length
         . simp only[Ag (show ((x.length:Nat):Int)<(((b0::bs).length:Nat):Int) by omega),Ak];rw[if_pos ⟨c1,.inr c2⟩]
         . simp only[Ah (show ¬((x.length:Nat):Int)<(((b0::bs).length:Nat):Int) by omega),Aj];rw[if_neg (by rintro ⟨_,h | h⟩;simp at h;exact c2 h)]
     . simp only[Ah (show ¬(0:Int)<((x.length:Nat):Int) by omega),Aj];rw[if_neg (λ h=>c1 h.1)]
   . (try dsimp only);rw[IJ.eq_1];simp only[FX,Aj];rw[AV (by simp)];rfl
 unfold Mk;rw[Aeg hg Jn];simp only[Aa];rw[show (([]:List Int),(0:Int))=([],((0:Nat):Int)) from rfl,hl];rfl
def LV(g:List (List Int))(sh:List Bool):Option Int:=if g.length<=10000000/\∀r∈g,r.length<=10000000 then some (if DI g then (if sh.length=g.length then 0 else 19) else 20) else none
theorem j8(g:List (List Int))(sh:List Bool)(r:Int)(h:LV g sh=some r):BV prog 68 [.p (.sl (Cw g)),.p (.sl (CW sh))] [] λ h d=>h=[]/\d= .p (.int .i64 r):=by unfold LV at h;split at h<;>cases h;rename_i hs;exact Agl g sh hs
def KM(g:List (List Int))(sh:List Bool)(goal:Int):Option (List Int):=if DI g/\sh.length=g.length/\0<=goal/\goal<(g.length:Int) then some (Dv g sh goal.toNat) else none
theorem P4(g:List (List Int))(sh:List Bool)(goal:Int)(r:List Int)(h:KM g sh goal=some r):BV prog 123 [.p (.sl (Cw g)),.p (.sl (CW sh)),.p (.int .i64 goal)] [] λ h d=>h=[]/\d= .p (.sl (BT r)):=by unfold KM at h;split at h<;>cases h;rename_i hs;have:=Apl g sh goal.toNat hs.1 hs.2.1 (by omega);rw[show ((goal.toNat:Nat):Int)=goal by omega] at this;exact this
def IV(x1:List Int)(v7:Int)(ZT:List Int):(List Int)×Int->Option (((List Int)×Int)⊕(((List Int)×Int)))
 | (v24,RJ)=>cond (decide (0<=RJ)) (Option.bind (CB x1 v7) λ Xq=>cond (decide (0<Xq)) (Option.bind (CB ZT RJ) λ x37=>Option.bind (CB x1 x37) λ x41=>cond (decide (x41=(IntKind.i64.wrap (Xq - 1)))) (Option.bind (CB v24 v7) λ XB=>some (Sum.inl ((v24.set (Int.toNat v7) x37),(IntKind.i64.wrap (RJ - 1))))) (some (Sum.inl (v24,(IntKind.i64.wrap (RJ - 1)))))) (some (Sum.inr (v24,RJ)))) (some (Sum.inr (v24,RJ)))
def LR(a0:List (List Int))(x1:List Int):(List Int)×Int->Option (((List Int)×Int)⊕(((List Int)×Int)))
 | (v6,v7)=>cond (decide (v7<((a0.length:Nat):Int))) (Option.bind (CB v6 v7) λ Nj=>Option.bind (CB a0 v7) λ ZT=>Option.bind (Ct (IV x1 v7 ZT) ((v6.set (Int.toNat v7) (-1)),(IntKind.i64.wrap (((ZT.length:Nat):Int) - 1)))) (λ (v50,v51)=>some (Sum.inl (v50,(IntKind.i64.wrap (v7+1)))))) (some (Sum.inr (v6,v7)))
def OO(a0:List (List Int))(a1:List Bool)(a2:Int):Option ((List Int)):=
 Option.bind (KM a0 a1 a2) λ x1=>cond (decide (a0.length<10000000)) (Option.bind (Ct (LR a0 x1) ((List.replicate a0.length 0),0)) (λ (v52,v53)=>some v52)) none
theorem Acv(a0:List (List Int))(a1:List Bool)(a2:Int)(r:(List Int))(hr:OO a0 a1 a2=some r):
   BV prog 156 [.p (.sl (Cw a0)),.p (.sl (CW a1)),.p (.int .i64 a2)] [] λ h d=>h=[]/\d= .p (.sl (BT r)):=by
 refine BX func156 rfl Aez (by simp[Tryz.f156]) ?_;unfold OO at hr;obtain ⟨x1,g2,hr⟩:=bE hr;try simp only[go_sem]
 refine Cq (P4 a0 a1 a2 _ g2) ?_;obtain ⟨c3,hr⟩:=gE hr;try simp only[go_sem]
 refine ⟨by have:=Ad c3;omega,?_⟩;obtain ⟨e11,g12,hr⟩:=bE hr;try simp only[go_sem]
 refine CV g12 (λ q:(List Int)×Int=>⟨[(0,.p (.sl (Cw a0))),(7,.p (.sl (BT x1))),(8,.ref 18 0 q.1.length q.1.length),(9,.p (.int .i64 q.2))],[(18,.arr 3 1 (BT q.1))],67⟩) ((Wk.forget (by simp[ZF,ZE]))) ?_;rintro ⟨v6,v7⟩ m10 Fu q0;rw[LR.eq_1] at Fu;cases Ok:decide (v7<((a0.length:Nat):Int))
 . simp only[Ok,Aj] at Fu;simp only[Aa,BZ] at Fu;cases Fu;(try dsimp only at hr);cases hr;(try simp only[go_sem,Ok]);all_goals ((try refine BU ?_);(try simp only[go_sem,Ok]);try first | rfl | exact ⟨rfl,rfl⟩ | (simp;done))
 simp only[Ok,Ak] at Fu;obtain ⟨Nj,g15,Fu⟩:=bK Fu;have f16:=B5 g15;have f17:(BT v6).getD (Int.toNat v7) []=[(.int .i64 Nj)]:=B6 _ g15;obtain ⟨ZT,g19,Fu⟩:=bK Fu;have f20:=B5 g19;have f21:(Cw a0).getD (Int.toNat v7) []=[(.sl (BT ZT))]:=B6 _ g19;obtain ⟨e29,g30,Fu⟩:=bK Fu;try simp only[go_sem,Ok,f16,f17,f20,f21]
 refine CV g30 (λ q:(List Int)×Int=>⟨[(0,.p (.sl (Cw a0))),(7,.p (.sl (BT x1))),(8,.ref 18 0 q.1.length q.1.length),(9,.p (.int .i64 v7)),(10,.p (.int .i64 q.2))],[(18,.arr 3 1 (BT q.1))],67⟩) ((Wk.forget (by simp[ZF,ZE]))) ?_;rintro ⟨v24,RJ⟩ m28 I5 Av8;rw[IV.eq_1] at I5;cases PL:decide (0<=RJ)
 . simp only[PL,Aj] at I5;simp only[Aa,BZ] at I5;cases I5;(try dsimp only at Fu);simp only[Aa,B0] at Fu;(try simp only[go_sem,PL]);exact q0 (v24,(IntKind.i64.wrap (v7+1))) _ Fu ((Wk.forget (by simp[ZF,ZE])))
 simp only[PL,Ak] at I5;obtain ⟨Xq,g33,I5⟩:=bK I5;have f34:=B5 g33;have f35:(BT x1).getD (Int.toNat v7) []=[(.int .i64 Xq)]:=B6 _ g33;cases c36:decide (0<Xq)
 . simp only[c36,Aj] at I5;simp only[Aa,BZ] at I5;cases I5;(try dsimp only at Fu);simp only[Aa,B0] at Fu;(try simp only[go_sem,PL,f34,f35,c36]);exact q0 (v24,(IntKind.i64.wrap (v7+1))) _ Fu ((Wk.forget (by simp[ZF,ZE])))
 simp only[c36,Ak] at I5;obtain ⟨x37,g38,I5⟩:=bK I5;have f39:=B5 g38;have f40:(BT ZT).getD (Int.toNat RJ) []=[(.int .i64 x37)]:=B6 _ g38;try simp only[go_sem,PL,f34,f35,c36,f20,f21,f39,f40]
 refine CE mixed (p:=[(0,0),(1,0),(2,0),(3,0),(4,0),(5,0),(6,0),(7,0),(8,0),(9,0)]) (by kernel_rfl) (by simp[C5,get]) ?_;obtain ⟨x41,g42,I5⟩:=bK I5;have f43:=B5 g42;have f44:(BT x1).getD (Int.toNat x37) []=[(.int .i64 x41)]:=B6 _ g42;cases c45:decide (x41=(IntKind.i64.wrap (Xq - 1)))
 . simp only[c45,Aj] at I5;simp only[Aa,B0] at I5;(try simp only[go_sem,f43,f44,f34,f35,c45]);exact Av8 (v24,(IntKind.i64.wrap (RJ - 1))) _ I5 ((Wk.forget (by simp[ZF,ZE])))
 simp only[c45,Ak] at I5;obtain ⟨XB,g47,I5⟩:=bK I5;have f48:=B5 g47;have f49:(BT v24).getD (Int.toNat v7) []=[(.int .i64 XB)]:=B6 _ g47;simp only[Aa,B0] at I5;try simp only[go_sem,f43,f44,f34,f35,c45,f48,f49]
 exact Av8 ((v24.set (Int.toNat v7) x37),(IntKind.i64.wrap (RJ - 1))) _ I5 ((Wk.forget (by simp[ZF,ZE])))
def J4(a3:Int)(x8:List Int):(List Int)×Int->Option (((List Int)×Int)⊕(((List Int)×Int)))
 | (v12,M6)=>cond (decide (M6=a3)) (some (Sum.inr (v12,M6))) (Option.bind (CB x8 M6) λ TW=>cond (decide (v12.length+1<10000000)) (some (Sum.inl ((v12++[TW]),TW))) none)
def LU(a0:List (List Int))(a1:List Bool)(a2:Int)(a3:Int):Option ((List Int)):=
 Option.bind (KM a0 a1 a3) λ x1=>Option.bind (CB x1 a2) λ x3=>cond (decide (x3<0)) (some []) (Option.bind (OO a0 a1 a3) λ x8=>Option.bind (Ct (J4 a3 x8) ([a2],a2)) (λ (RJ,v26)=>some RJ))
theorem j7(a0:List (List Int))(a1:List Bool)(a2:Int)(a3:Int)(r:(List Int))(hr:LU a0 a1 a2 a3=some r):
   BV prog 124 [.p (.sl (Cw a0)),.p (.sl (CW a1)),.p (.int .i64 a2),.p (.int .i64 a3)] [] λ h d=>h=[]/\d= .p (.sl (BT r)):=by
 refine BX func124 rfl Afg (by simp[Tryz.f124]) ?_;unfold LU at hr;obtain ⟨x1,g2,hr⟩:=bE hr;try simp only[go_sem]
 refine Cq (P4 a0 a1 a3 _ g2) ?_;obtain ⟨x3,g4,hr⟩:=bE hr;have f5:=B5 g4;have f6:(BT x1).getD (Int.toNat a2) []=[(.int .i64 x3)]:=B6 _ g4;cases c7:decide (x3<0)
 . simp only[c7,Aj] at hr;obtain ⟨x8,g9,hr⟩:=bE hr;(try simp only[go_sem,f5,f6,c7]);refine Cq (Acv a0 a1 a3 _ g9) ?_;obtain ⟨e17,g18,hr⟩:=bE hr;(try simp only[go_sem]);refine CV g18 (λ q:(List Int)×Int=>⟨[(2,.p (.int .i64 q.2)),(3,.p (.int .i64 a3)),(9,.p (.sl (BT x8))),(10,.ref 24 0 q.1.length q.1.length)],[(24,.arr 3 1 (BT q.1))],37⟩) ((Wk.forget (by simp[ZF,ZE]))) ?_;rintro ⟨v12,M6⟩ m16 Ei Asi;rw[J4.eq_1] at Ei;cases Oy:decide (M6=a3)
   . simp only[Oy,Aj] at Ei;obtain ⟨TW,g21,Ei⟩:=bK Ei;have f22:=B5 g21;have f23:(BT x8).getD (Int.toNat M6) []=[(.int .i64 TW)]:=B6 _ g21;obtain ⟨Xc,Ei⟩:=gK Ei;(try simp only[go_sem,Oy,f22,f23]);refine ⟨by have:=Ad Xc;(try simp only[Aq,Az,At] at*);(repeat' refine And.intro ?_ ?_)<;>first | exact EN _ _ rfl | exact H7 _ | omega | (simp[Ly];done),?_⟩;simp only[Aa,B0] at Ei;(try simp only[go_sem]);exact Asi ((v12++[TW]),TW) _ Ei ((Wk.forget (by simp[ZF,ZE])))
   simp only[Oy,Ak] at Ei;simp only[Aa,BZ] at Ei;cases Ei;(try dsimp only at hr);cases hr;(try simp only[go_sem,Oy]);all_goals ((try refine BU ?_);(try simp only[go_sem,Oy]);try first | rfl | exact ⟨rfl,rfl⟩ | (simp;done))
 simp only[c7,Ak] at hr;cases hr;try simp only[go_sem,f5,f6,c7]
 all_goals ((try refine BU ?_);(try simp only[go_sem,f5,f6,c7]);try first | rfl | exact ⟨rfl,rfl⟩ | (simp;done))
def J3(a0:List (List Int))(a2:Int)(x6:List Int):Int×Int->Option ((Int×Int)⊕((Int×Int)))
 | (v10,v11)=>Option.bind (CB a0 a2) λ RI=>cond (decide (v11<((RI.length:Nat):Int))) (Option.bind (CB RI v11) λ x28=>Option.bind (CB x6 x28) λ Xq=>cond (decide (0<=Xq)) (cond (decide (v10<0)) (some (Sum.inl (x28,(IntKind.i64.wrap (v11+1))))) (Option.bind (CB x6 v10) λ x38=>cond (decide (Xq<x38)) (some (Sum.inl (x28,(IntKind.i64.wrap (v11+1))))) (some (Sum.inl (v10,(IntKind.i64.wrap (v11+1))))))) (some (Sum.inl (v10,(IntKind.i64.wrap (v11+1)))))) (some (Sum.inr (v10,v11)))
def ON(a0:List (List Int))(a1:List Bool)(a2:Int):Option ((List Int)):=
 Option.bind (CB a1 a2) λ x1=>cond x1 (some []) (Option.bind (KM a0 a1 a2) λ x6=>Option.bind (Ct (J3 a0 a2 x6) ((-1),0)) (λ (Jl,v44)=>cond (decide (Jl<0)) (some []) (Option.bind (LU a0 a1 Jl a2) λ XB=>cond (decide (0<=0/\0<=(IntKind.i64.wrap (((XB.length:Nat):Int) - 1))/\(IntKind.i64.wrap (((XB.length:Nat):Int) - 1))<=((XB.length:Nat):Int))) (cond (decide ([a2].length+(XB.take (Int.toNat (IntKind.i64.wrap (((XB.length:Nat):Int) - 1)))).length<10000000)) (some ([a2]++(XB.take (Int.toNat (IntKind.i64.wrap (((XB.length:Nat):Int) - 1)))))) none) none)))
theorem Acu(a0:List (List Int))(a1:List Bool)(a2:Int)(r:(List Int))(hr:ON a0 a1 a2=some r):
   BV prog 86 [.p (.sl (Cw a0)),.p (.sl (CW a1)),.p (.int .i64 a2)] [] λ h d=>h=[]/\d= .p (.sl (BT r)):=by
 refine BX func86 rfl Ako (by simp[Tryz.f86]) ?_;unfold ON at hr;obtain ⟨x1,g2,hr⟩:=bE hr;have f3:=B5 g2;have f4:(CW a1).getD (Int.toNat a2) []=[(.bool x1)]:=B6 _ g2;cases c5:x1
 . simp only[c5,Aj] at hr;obtain ⟨x6,g7,hr⟩:=bE hr;(try simp only[go_sem,f3,f4,c5]);refine Cq (P4 a0 a1 a2 _ g7) ?_;obtain ⟨e15,g16,hr⟩:=bE hr;(try simp only[go_sem]);refine CV g16 (λ q:Int×Int=>⟨[(0,.p (.sl (Cw a0))),(1,.p (.sl (CW a1))),(2,.p (.int .i64 a2)),(7,.p (.sl (BT x6))),(8,.p (.int .i64 q.1)),(9,.p (.int .i64 q.2))],[],72⟩) ((Wk.forget (by simp[ZF,ZE,c5]))) ?_;rintro ⟨v10,v11⟩ m14 Er Ae0;rw[J3.eq_1] at Er;obtain ⟨RI,g18,Er⟩:=bK Er;have f19:=B5 g18;have f20:(Cw a0).getD (Int.toNat a2) []=[(.sl (BT RI))]:=B6 _ g18;cases c21:decide (v11<((RI.length:Nat):Int))
   . simp only[c21,Aj] at Er;simp only[Aa,BZ] at Er;cases Er;(try dsimp only at hr);cases RV:decide (v10<0)
     . simp only[RV,Aj] at hr;obtain ⟨x23,g24,hr⟩:=bE hr;(try simp only[go_sem,f19,f20,c21,RV]);refine Cq (j7 a0 a1 v10 a2 _ g24) ?_;obtain ⟨c25,hr⟩:=gE hr;have f26:=Ad c25;obtain ⟨c27,hr⟩:=gE hr;(try simp only[go_sem,f26,H7 x23]);refine ⟨by have:=Ad c27;(try simp only[Aq,Az,At] at*);(repeat' refine And.intro ?_ ?_)<;>first | exact EN _ _ rfl | exact H7 _ | omega | (simp[Ly];done),?_⟩;cases hr;(try simp only[go_sem]);all_goals ((try refine BU ?_);(try simp only[go_sem]);try first | rfl | exact ⟨rfl,rfl⟩ | (simp;done))
     simp only[RV,Ak] at hr;cases hr;(try simp only[go_sem,f19,f20,c21,RV]);all_goals ((try refine BU ?_);(try simp only[go_sem,f19,f20,c21,RV]);try first | rfl | exact ⟨rfl,rfl⟩ | (simp;done))
   simp only[c21,Ak] at Er;obtain ⟨x28,g29,Er⟩:=bK Er;have f30:=B5 g29;have f31:(BT RI).getD (Int.toNat v11) []=[(.int .i64 x28)]:=B6 _ g29;(try simp only[go_sem,f19,f20,c21,f30,f31]);refine CE mixed (p:=[(0,0),(1,0),(2,0),(3,0),(4,0),(5,0),(6,0),(7,0),(8,0),(9,0),(10,0),(11,0),(12,0),(13,0),(14,0),(15,0),(16,0),(17,0),(18,0),(19,0)]) (by kernel_rfl) (by simp[C5,get]) ?_;obtain ⟨Xq,g33,Er⟩:=bK Er;have f34:=B5 g33;have f35:(BT x6).getD (Int.toNat x28) []=[(.int .i64 Xq)]:=B6 _ g33;cases c36:decide (0<=Xq)
   . simp only[c36,Aj] at Er;simp only[Aa,B0] at Er;(try simp only[go_sem,f34,f35,c36]);exact Ae0 (v10,(IntKind.i64.wrap (v11+1))) _ Er ((Wk.forget (by simp[ZF,ZE,c5])))
   simp only[c36,Ak] at Er;cases c37:decide (v10<0)
   . simp only[c37,Aj] at Er;obtain ⟨x38,g39,Er⟩:=bK Er;have f40:=B5 g39;have f41:(BT x6).getD (Int.toNat v10) []=[(.int .i64 x38)]:=B6 _ g39;cases c42:decide (Xq<x38)
     . simp only[c42,Aj] at Er;simp only[Aa,B0] at Er;(try simp only[go_sem,f34,f35,c36,c37,f40,f41,c42]);exact Ae0 (v10,(IntKind.i64.wrap (v11+1))) _ Er ((Wk.forget (by simp[ZF,ZE,c5])))
     simp only[c42,Ak] at Er;simp only[Aa,B0] at Er;(try simp only[go_sem,f34,f35,c36,c37,f40,f41,c42]);exact Ae0 (x28,(IntKind.i64.wrap (v11+1))) _ Er ((Wk.forget (by simp[ZF,ZE,c5])))
   simp only[c37,Ak] at Er;simp only[Aa,B0] at Er;(try simp only[go_sem,f34,f35,c36,c37]);exact Ae0 (x28,(IntKind.i64.wrap (v11+1))) _ Er ((Wk.forget (by simp[ZF,ZE,c5])))
 simp only[c5,Ak] at hr;cases hr;try simp only[go_sem,f3,f4,c5]
 all_goals ((try refine BU ?_);(try simp only[go_sem,f3,f4,c5]);try first | rfl | exact ⟨rfl,rfl⟩ | (simp;done))
def IE(a0:List (List Int))(a1:List Bool):(List Int)×Int->Option (((List Int)×Int)⊕(((List Int)×Int)))
 | (v6,v7)=>cond (decide (v7<((a0.length:Nat):Int))) (Option.bind (ON a0 a1 v7) λ Nj=>cond (decide (0<((Nj.length:Nat):Int))) (cond (decide (((v6.length:Nat):Int)=0)) (some (Sum.inl (Nj,(IntKind.i64.wrap (v7+1))))) (cond (decide (((Nj.length:Nat):Int)<((v6.length:Nat):Int))) (some (Sum.inl (Nj,(IntKind.i64.wrap (v7+1))))) (some (Sum.inl (v6,(IntKind.i64.wrap (v7+1))))))) (some (Sum.inl (v6,(IntKind.i64.wrap (v7+1)))))) (some (Sum.inr (v6,v7)))
def LS(a0:List (List Int))(a1:List Bool):Option (Int×(List Int)×Int):=
 Option.bind (LV a0 a1) λ x1=>cond (decide (x1=0)) (Option.bind (Ct (IE a0 a1) ([],0)) (λ (v19,v20)=>some (((v19.length:Nat):Int),v19,0))) (some (0,[],x1))
theorem j6(a0:List (List Int))(a1:List Bool)(r:Int×(List Int)×Int)(hr:LS a0 a1=some r):
   BV prog 47 [.p (.sl (Cw a0)),.p (.sl (CW a1))] [] λ h d=>h=[]/\d= .De [.p (.int .i64 r.1),.p (.sl (BT r.2.1)),.p (.int .i64 r.2.2)]:=by
 refine BX func47 rfl Alb (by simp[Tryz.f47]) ?_;unfold LS at hr;obtain ⟨x1,g2,hr⟩:=bE hr;try simp only[go_sem]
 refine Cq (j8 a0 a1 _ g2) ?_;cases c3:decide (x1=0)
 . simp only[c3,Aj] at hr;cases hr;(try simp only[go_sem,c3]);all_goals ((try refine BU ?_);(try simp only[go_sem,c3]);try first | rfl | exact ⟨rfl,rfl⟩ | (simp;done))
 simp only[c3,Ak] at hr;obtain ⟨e11,g12,hr⟩:=bE hr;try simp only[go_sem,c3]
 refine CV g12 (λ q:(List Int)×Int=>⟨[(0,.p (.sl (Cw a0))),(1,.p (.sl (CW a1))),(8,.p (.sl (BT q.1))),(9,.p (.int .i64 q.2))],[],46⟩) ((Wk.nil (t:=8) (q:=900008) (sz:=1) 3 rfl rfl (by decide)).trans ((Wk.pure (t:=8) (id:=900008) (sz:=1) (e:=3) (es:=[]) rfl rfl).trans ((Wk.forget (by simp[ZF,ZE]))))) ?_;rintro ⟨v6,v7⟩ m10 Fu q0;rw[IE.eq_1] at Fu;cases Ok:decide (v7<((a0.length:Nat):Int))
 . simp only[Ok,Aj] at Fu;simp only[Aa,BZ] at Fu;cases Fu;(try dsimp only at hr);cases hr;(try simp only[go_sem,Ok]);all_goals ((try refine BU ?_);(try simp only[go_sem,Ok]);try first | rfl | exact ⟨rfl,rfl⟩ | (simp;done))
 simp only[Ok,Ak] at Fu;obtain ⟨Nj,g15,Fu⟩:=bK Fu;try simp only[go_sem,Ok]
 refine Cq (Acu a0 a1 v7 _ g15) ?_;cases JW:decide (0<((Nj.length:Nat):Int))
 . simp only[JW,Aj] at Fu;simp only[Aa,B0] at Fu;(try simp only[go_sem,JW]);exact q0 (v6,(IntKind.i64.wrap (v7+1))) _ Fu ((Wk.forget (by simp[ZF,ZE])))
 simp only[JW,Ak] at Fu;cases Oz:decide (((v6.length:Nat):Int)=0)
 . simp only[Oz,Aj] at Fu;cases JV:decide (((Nj.length:Nat):Int)<((v6.length:Nat):Int))
   . simp only[JV,Aj] at Fu;simp only[Aa,B0] at Fu;(try simp only[go_sem,JW,Oz,JV]);exact q0 (v6,(IntKind.i64.wrap (v7+1))) _ Fu ((Wk.forget (by simp[ZF,ZE])))
   simp only[JV,Ak] at Fu;simp only[Aa,B0] at Fu;(try simp only[go_sem,JW,Oz,JV]);exact q0 (Nj,(IntKind.i64.wrap (v7+1))) _ Fu ((Wk.forget (by simp[ZF,ZE])))
 simp only[Oz,Ak] at Fu;simp only[Aa,B0] at Fu;try simp only[go_sem,JW,Oz]
 exact q0 (Nj,(IntKind.i64.wrap (v7+1))) _ Fu ((Wk.forget (by simp[ZF,ZE])))
theorem Ss{g:List (List Int)}(hg:DI g){sh:List Bool}(Jn:sh.length=g.length){goal:Nat}(F3:goal<g.length):KM g sh (goal:Int)=some (Dv g sh goal):=by
 unfold KM;rw[if_pos ⟨hg,Jn,by omega,by omega⟩,show ((goal:Nat):Int).toNat=goal by omega]
theorem Ae9{o row:List Int}{m:Int}{k:Nat}(hk:k<row.length):Jo o (row.drop k) m=if o.getD (row.getD k 0).toNat 0=m then row.getD k 0 else Jo o (row.drop (k+1)) m:=by
 have e1:row.getD k 0=row[k]:=getD_eq hk;rw[AT hk,<-e1];unfold Jo;rw[List.find?_cons];by_cases c:o.getD (row.getD k 0).toNat 0=m
 . rw[Ag c,if_pos c];rfl
 . rw[Ah c,if_neg c]
def Yz(g:List (List Int))(o:List Int)(u:Nat):Int:=if 0<o.getD u 0 then Jo o (g.getD u []) (o.getD u 0 - 1) else -1
theorem Aii{g:List (List Int)}(hg:DI g){o:List Int}(ho:o.length=g.length)(hr:∀u,u<g.length->-1<=o.getD u 0/\o.getD u 0<=24){u:Nat}(hu:u<g.length){out:List Int}(Ry:out.length=g.length):
   ∃k,Ct (IV o (u:Int) (g.getD u [])) (out.set u (-1),IntKind.i64.wrap ((((g.getD u []).length:Nat):Int) - 1))=some (out.set u (Yz g o u),k):=by
 have hl:=KL hg hu;have hru:=hr u hu;have Qk:IntKind.i64.wrap (o.getD u 0 - 1)=o.getD u 0 - 1:=by
   rw[IntKind.wrap_i64];omega
 have HG:∀i:Nat,i<=25->IntKind.i64.wrap ((i:Int) - 1)=(i:Int) - 1:=λ i hi=>by
   rw[IntKind.wrap_i64];omega
 unfold Yz;by_cases c:0<o.getD u 0
 . rw[if_pos c];have key:=C3 (step:=IV o (u:Int) (g.getD u [])) (g.getD u []).length
     (λ i=>(out.set u (Jo o ((g.getD u []).drop ((g.getD u []).length - i)) (o.getD u 0 - 1)),(((g.getD u []).length - i:Nat):Int) - 1))
     (out.set u (Jo o (g.getD u []) (o.getD u 0 - 1)),-1) (λ i hi=>?_) ?_
   . refine ⟨-1,?_⟩;rw[HG _ (by omega)];simp only[Nat.sub_zero,Bv] at key;exact key
   . (try dsimp only);rw[IV.eq_1];have hk:(g.getD u []).length - (i+1)<(g.getD u []).length:=by omega
     have e2:(((g.getD u []).length - i:Nat):Int) - 1=(((g.getD u []).length - (i+1):Nat):Int):=by omega
     have hm:(g.getD u []).getD ((g.getD u []).length - (i+1)) 0∈g.getD u []:=by
       have e1:(g.getD u []).getD ((g.getD u []).length - (i+1)) 0=(g.getD u [])[(g.getD u []).length - (i+1)]:=getD_eq hk;rw[e1];exact AW hk
     have hrr:=F9 hg hu hm;have i1:=Cd o u 0 (by omega);have i2:=Cd (g.getD u []) ((g.getD u []).length - (i+1)) 0 hk;have i3:=Kh (l:=o) hrr.1 (by omega);have i4:=Cd (out.set u (Jo o ((g.getD u []).drop ((g.getD u []).length - i)) (o.getD u 0 - 1))) u 0 (by simp;omega);rw[e2];have c0:decide ((0:Int)<=(((g.getD u []).length - (i+1):Nat):Int))=true:=Ag (by omega);simp only[c0,Ak,i1,Aa,Ag c,i2,i3,Qk];have hd:=Ae9 (o:=o) (row:=g.getD u []) (m:=o.getD u 0 - 1) hk;rw[show (g.getD u []).length - (i+1)+1=(g.getD u []).length - i by omega] at hd;rw[hd];by_cases c2:o.getD ((g.getD u []).getD ((g.getD u []).length - (i+1)) 0).toNat 0=o.getD u 0 - 1
     . simp only[Ag c2,Ak,i4,Aa];rw[HG _ (by omega),if_pos c2,show ((u:Nat):Int).toNat=u by omega,List.set_set]
     . simp only[Ah c2,Aj];rw[HG _ (by omega),if_neg c2]
   . (try dsimp only);rw[IV.eq_1];have c0:decide ((0:Int)<=(((g.getD u []).length - (g.getD u []).length:Nat):Int) - 1)=false:=Ah (by omega);simp only[c0,Aj];simp
 . rw[if_neg c,HG _ (by omega)];rw[CL,IV.eq_1];have i1:=Cd o u 0 (by omega);by_cases c1:(0:Int)<=((((g.getD u []).length:Nat):Int)) - 1
   . simp only[Ag c1,Ak,i1,Aa,Ah c,Aj,BZ];exact ⟨_,rfl⟩
   . simp only[Ah c1,Aj,Aa,BZ];exact ⟨_,rfl⟩
theorem Aih{g:List (List Int)}(hg:DI g){sh:List Bool}(Jn:sh.length=g.length){goal:Nat}(F3:goal<g.length):
   ∃h,OO g sh (goal:Int)=some h/\h.length=g.length/\∀u,u<g.length->h.getD u 0=Yz g (Dv g sh goal) u:=by
 have Qu:=hg.1;have ho:=VG g sh goal;have hr:∀u,u<g.length->-1<=(Dv g sh goal).getD u 0/\(Dv g sh goal).getD u 0<=24:=λ u hu=>MU hg sh F3 hu;unfold OO;rw[Ss hg Jn F3];generalize Dv g sh goal=o at*;have c1:decide (g.length<10000000)=true:=Ag (by omega);simp only[Aa,c1,Ak];obtain ⟨e,h1,h2⟩:∃e,Ct (LR g o) (List.replicate g.length 0,0)=some e/\(e.1.length=g.length/\∀u,u<g.length->e.1.getD u 0=Yz g o u):=by
   refine Qe (step:=LR g o) (λ s=>∃v:Nat,s.2=(v:Int)/\v<=g.length/\s.1.length=g.length/\∀u,u<v->s.1.getD u 0=Yz g o u) (λ s=>g.length - s.2.toNat)
     (λ e=>e.1.length=g.length/\∀u,u<g.length->e.1.getD u 0=Yz g o u) (λ s hs=>?_) (List.replicate g.length 0,0) ⟨0,rfl,by omega,by simp,λ u hu=>by omega⟩
   obtain ⟨out,i⟩:=s;obtain ⟨v,h3,h4,h5,h6⟩:=hs;dsimp only at h3 h4 h5 h6;subst h3;rw[LR.eq_1];by_cases hv:v<g.length
   . have i1:=Cd out v 0 (by omega);have i2:=Cd g v [] hv;simp only[E8 hv,Ak,i1,i2,Aa];rw[show ((v:Nat):Int).toNat=v by omega];obtain ⟨k,hk⟩:=Aii hg ho hr hv h5;rw[hk];simp only[Aa];rw[Cs (by omega)];refine ⟨_,rfl,⟨v+1,rfl,hv,by simpa using h5,λ u hu=>?_⟩,by dsimp only;omega⟩;dsimp only;rw[ET _ _ _ _ _ (by omega)];by_cases e:u=v
     . rw[if_pos e,e]
     . rw[if_neg e];exact h6 u (by omega)
   . have e1:v=g.length:=by omega
     subst e1;simp only[FX,Aj];exact ⟨_,rfl,h5,h6⟩
 rw[h1];exact ⟨_,rfl,h2⟩
theorem UQ{g:List (List Int)}(hg:DI g){sh:List Bool}{goal:Nat}{o:List Int}(ho:DS g sh goal o){h:List Int}(hh:h.length=g.length)(hf:∀u,u<g.length->h.getD u 0=Yz g o u):∀(f b:Nat) (W:List Int),b<g.length->o.getD b 0=(f:Int)->W.length+f+1<=1000->
   Ct (J4 (goal:Int) h) (W++[(b:Int)],(b:Int))=some (W++M5 g o f (b:Int)++[(goal:Int)],(goal:Int))
 | 0,b,W,hb,hd,hW=>by
   have e:b=goal:=(ho.zero b hb).1 hd;subst e;rw[CL,J4.eq_1];simp only[decide_true,Ak,Aa,BZ,M5,List.append_nil]
 | f+1,b,W,hb,hd,hW=>by
   have Dn:b≠goal:=λ e=>by have:=(ho.zero b hb).2 e;omega
   obtain ⟨h1,h2,h3⟩:=ho.Kj hg hb (by omega);have hx:=hf b hb;unfold Yz at hx;rw[if_pos (by omega)] at hx;rw[CL,J4.eq_1];have c1:decide ((b:Int)=(goal:Int))=false:=Ah (by omega);have c2:decide ((W++[(b:Int)]).length+1<10000000)=true:=Ag (by simp only[At,BO];omega);have i1:=Cd h b 0 (by omega);simp only[c1,c2,Aj,Ak,i1,Aa,B0];rw[hx,M5,show ((b:Nat):Int).toNat=b by omega];generalize Jo o (g.getD b []) (o.getD b 0 - 1)=x at*;have ih:=UQ hg ho hh hf f x.toNat (W++[(b:Int)]) (by omega) (by omega) (by simp only[At,BO];omega);rw[show ((x.toNat:Nat):Int)=x by omega] at ih;rw[ih];simp
theorem Aif{g:List (List Int)}(hg:DI g){o:List Int}(ho:o.length=g.length){u:Nat}(hu:u<g.length):
   Ct (J3 g (u:Int) o) (-1,0)=some (F4 o (g.getD u []),(((g.getD u []).length:Nat):Int)):=by
 have hl:=KL hg hu;have i0:=Cd g u [] hu;have key:=C3 (step:=J3 g (u:Int) o) (g.getD u []).length (λ k=>(((g.getD u []).take k).foldl (F5 o) (-1),((k:Nat):Int))) (F4 o (g.getD u []),(((g.getD u []).length:Nat):Int)) (λ k hk=>?_) ?_
 . simpa using key
 . (try dsimp only);have hm:(g.getD u []).getD k 0∈g.getD u []:=by
     have e1:(g.getD u []).getD k 0=(g.getD u [])[k]:=getD_eq hk;rw[e1];exact AW hk
   have hr:=F9 hg hu hm;rw[J3.eq_1];have i2:=Kh (l:=o) hr.1 (by omega);simp only[i0,E8 hk,Ak,Cd _ _ 0 hk,Aa,i2];rw[Cr _ k 0 hk,List.foldl_append,Bf,List.foldl_nil];have hb:=HK o ((g.getD u []).take k) (-1);generalize ((g.getD u []).take k).foldl (F5 o) (-1)=b at hb;generalize hx:(g.getD u []).getD k 0=x at*;unfold F5;by_cases c1:0<=o.getD x.toNat 0
   . simp only[Ag c1,Ak];by_cases c2:b<0
     . simp only[Ag c2,Ak];rw[Cs (by omega),if_pos ⟨c1,.inl c2⟩]
     . have TZ:b∈g.getD u []:=by
         rcases hb with h | h
         . omega
         . exact BK h.1
       have hbr:=F9 hg hu TZ;have i3:=Kh (l:=o) hbr.1 (by omega);simp only[Ah c2,Aj,i3,Aa];by_cases c3:o.getD x.toNat 0<o.getD b.toNat 0
       . simp only[Ag c3,Ak];rw[Cs (by omega),if_pos ⟨c1,.inr c3⟩]
       . simp only[Ah c3,Aj];rw[Cs (by omega),if_neg (by rintro ⟨_,h | h⟩;exact c2 h;exact c3 h)]
   . simp only[Ah c1,Aj];rw[Cs (by omega),if_neg (λ h=>c1 h.1)]
 . (try dsimp only);rw[J3.eq_1,Aw];simp only[i0,Aa,FX,Aj];rfl
theorem Aie{g:List (List Int)}(hg:DI g){sh:List Bool}(Jn:sh.length=g.length){v:Nat}(hv:v<g.length):ON g sh (v:Int)=some (E3 g sh v):=by
 unfold ON E3;have i1:=Cd sh v false (by omega);simp only[i1,Aa];cases hs:sh.getD v false
 . simp only[Aj];rw[Ss hg Jn hv];obtain ⟨h,hh1,hh2,Ns⟩:=Aih hg Jn hv;have hq:=Ss hg Jn hv;have ho:=Px hg hv hs;have Ae7:=λ {u:Nat} (hu:u<g.length)=>MU hg sh hv hu;generalize Dv g sh v=o at ho Ae7 Ns hq;simp only[Aa];rw[Aif hg ho.len hv];simp only[Aa];rw[if_neg (by simp)];have hb:=HK o (g.getD v []) (-1)
   change F4 o (g.getD v [])=-1∨(F4 o (g.getD v [])∈g.getD v []/\0<=o.getD (F4 o (g.getD v [])).toNat 0) at hb
   generalize F4 o (g.getD v [])=b at*;by_cases c1:b<0
   . simp only[Ag c1,Ak];rw[if_pos c1]
   . have TZ:b∈g.getD v []/\0<=o.getD b.toNat 0:=by
       rcases hb with h | h
       . omega
       . exact h
     have hr:=F9 hg hv TZ.1;have hle:=Ae7 (u:=b.toNat) (by omega);have At5:LU g sh b (v:Int)=some (M5 g o (o.getD b.toNat 0).toNat b++[(v:Int)]):=by
       unfold LU;have i2:=Kh (l:=o) hr.1 (by rw[ho.len];omega);have c2:decide (o.getD b.toNat 0<0)=false:=Ah (by omega);rw[hq];simp only[Aa,i2,c2,Aj,hh1];have:=UQ hg ho hh2 Ns (o.getD b.toNat 0).toNat b.toNat [] (by omega) (by omega) (by simp only[Az];omega);rw[show ((b.toNat:Nat):Int)=b by omega] at this;simp only[Be] at this;rw[this];rfl
     rw[if_neg c1];simp only[Ah c1,Aj];rw[At5];simp only[Aa];have hlen:(M5 g o (o.getD b.toNat 0).toNat b++[(v:Int)]).length=(o.getD b.toNat 0).toNat+1:=by
       rw[At,IK];rfl
     have hw:IntKind.i64.wrap ((((o.getD b.toNat 0).toNat+1:Nat):Int) - 1)=(((o.getD b.toNat 0).toNat:Nat):Int):=by
       rw[IntKind.wrap_i64];omega
     rw[hlen,hw];rw[show (((o.getD b.toNat 0).toNat:Nat):Int).toNat=(o.getD b.toNat 0).toNat by omega];have ht:(M5 g o (o.getD b.toNat 0).toNat b++[(v:Int)]).take (o.getD b.toNat 0).toNat=M5 g o (o.getD b.toNat 0).toNat b:=by
       rw[List.take_append_of_le_length (by rw[IK];omega),AV (by rw[IK];omega)]
     rw[ht];have hwl:=IK g o (o.getD b.toNat 0).toNat b;have c4:decide ((0:Nat)<=0/\(0:Int)<=(((o.getD b.toNat 0).toNat:Nat):Int)/\(((o.getD b.toNat 0).toNat:Nat):Int)<=(((o.getD b.toNat 0).toNat+1:Nat):Int))=true:=Ag (by omega);have c5:decide ([(v:Int)].length+(M5 g o (o.getD b.toNat 0).toNat b).length<10000000)=true:=Ag (by rw[hwl];simp only[BO];omega);simp only[c4,c5,Ak];rfl
 . simp only[Ak,AL]
theorem Acw{g:List (List Int)}(hg:DI g){sh:List Bool}(Jn:sh.length=g.length):LS g sh=some ((((DV g sh).length:Nat):Int),DV g sh,0):=by
 have hl:Ct (IE g sh) ([],((0:Nat):Int))=some (DV g sh,((g.length:Nat):Int)):=by
   refine C3 (step:=IE g sh) g.length (λ k=>((((List.range g.length).map (E3 g sh)).take k).foldl Ik [],((k:Nat):Int))) _ (λ k hk=>?_) ?_
   . (try dsimp only);rw[IE.eq_1];simp only[E8 hk,Ak];rw[Aie hg Jn hk];simp only[Aa];have e1:((List.range g.length).map (E3 g sh)).getD k []=E3 g sh k:=by
       rw[getD_map' (E3 g sh) _ k 0 [] (by simpa using hk)];simp[List.getD,List.getElem?_range hk]
     rw[Cr _ k [] (by simpa using hk),List.foldl_append,List.foldl_cons,List.foldl_nil,e1];generalize (((List.range g.length).map (E3 g sh)).take k).foldl Ik []=b;generalize E3 g sh k=x;have hw:=Cs (n:=k) (by have:=hg.1;omega);rw[hw];unfold Ik;by_cases c1:0<x.length
     . simp only[Ag (show (0:Int)<((x.length:Nat):Int) by omega),Ak];by_cases c0:b.length=0
       . simp only[Ag (show ((b.length:Nat):Int)=0 by omega),Ak];rw[if_pos ⟨c1,.inl c0⟩]
       . simp only[Ah (show ¬((b.length:Nat):Int)=0 by omega),Aj];by_cases c2:x.length<b.length
         . simp only[Ag (show ((x.length:Nat):Int)<((b.length:Nat):Int) by omega),Ak];rw[if_pos ⟨c1,.inr c2⟩]
         . simp only[Ah (show ¬((x.length:Nat):Int)<((b.length:Nat):Int) by omega),Aj];rw[if_neg (by rintro ⟨_,h | h⟩;exact c0 h;exact c2 h)]
     . simp only[Ah (show ¬(0:Int)<((x.length:Nat):Int) by omega),Aj];rw[if_neg (λ h=>c1 h.1)]
   . (try dsimp only);rw[IE.eq_1];simp only[FX,Aj];rw[AV (by simp)];rfl
 have hsm:g.length<=10000000/\∀r∈g,r.length<=10000000:=⟨by have:=hg.1;omega,λ r hr=>by
   obtain ⟨u,hu,rfl⟩:=AA.1 hr;have e1:g.getD u []=g[u]:=getD_eq hu;have:=KL hg hu;rw[e1] at this;omega⟩
 have hc:LV g sh=some 0:=by
   unfold LV;rw[if_pos hsm,if_pos hg,if_pos Jn]
 unfold LS;rw[hc];simp only[Aa];rw[show (([]:List Int),(0:Int))=([],((0:Nat):Int)) from rfl,hl];rfl
def nI(l:List Nat):List Int:=List.map (λ n:Nat=>(n:Int)) l
theorem Cu(l:List Nat):(nI l).length=l.length:=by simp[nI]
theorem Du(l:List Nat)(i:Nat):(nI l).getD i 0=((l.getD i 0:Nat):Int):=by
 by_cases h:i<l.length<;>simp[nI,List.getD,h]
theorem As8(l:List Nat)(i x:Nat):(nI l).set i (x:Int)=nI (l.set i x):=by simp[nI,BR]
theorem Aoo(l:List Nat)(x:Nat):nI l++[(x:Int)]=nI (l++[x]):=by simp[nI]
theorem Aon(l:List Nat)(k:Nat):(nI l).take k=nI (l.take k):=by simp[nI,Bu]
theorem Aop(l:List Nat)(k:Nat):(nI l).drop k=nI (l.drop k):=by simp[nI,List.map_drop]
theorem Asa(l:List Nat)(x:Nat):(x:Int)∈nI l↔x∈l:=by
 simp only[nI,AN];constructor
 . rintro ⟨y,hy,e⟩;have:y=x:=by omega
   rwa[this] at hy
 . exact λ h=>⟨x,h,rfl⟩
attribute [go_sem] Cu As8 Aoo
theorem Acm(l:List Int)(i:Nat)(hi:i<l.length)(hl:l.length<=10000000)(hn:∀j,j<i->l.getD j 0≠l.getD i 0):OH l (l.getD i 0)=some (i:Int):=by
 have S2:=C3 (step:=J0 l (l.getD i 0)) i (λ k=>(k:Int)) (Sum.inr (i:Int))
   (λ k hk=>by
     have S3:k<l.length:=by omega
     rw[J0.eq_1,E8 S3,Ak,Cd l k 0 S3,Aa,Ah (λ e=>hn k hk e.symm),Aj,Cs (by omega)])
   (by rw[J0.eq_1,E8 hi,Ak,Cd l i 0 hi,Aa,Ag rfl,Ak])
 unfold OH;rw[show (0:Int)=((0:Nat):Int) from rfl] at*;rw[S2];rfl
theorem Ao2(l:List Int)(h1:1<=l.length)(hl:l.length<=10000000):∃m,Wb l=some m/\m∈l/\∀x∈l,m<=x:=by
 have key:∀d k,k+d=l.length->1<=k->∀m,m∈l.take k->(∀x∈l.take k,m<=x)->∃m' j,Ct (OG l) (m,(k:Int))=some (m',j)/\m'∈l/\∀x∈l,m'<=x:=by
   intro d
   induction d with
   | zero=>
     intro k hk _ m hm hx;obtain rfl:k=l.length:=by omega
     rw[Aw] at hm hx;exact ⟨m,_,by rw[CL,OG.eq_1,FX,Aj];rfl,hm,hx⟩
   | succ d ih=>
     intro k hk Qq m hm hx;have S3:k<l.length:=by omega
     rw[CL,OG.eq_1,E8 S3,Ak,Cd l k 0 S3,Aa,Aa,B0,Cs (by omega)];refine ih (k+1) (by omega) (by omega) _ ?_ ?_
     . rw[Cr l k 0 S3,Au];split
       . exact .inr (by simp)
       . exact .inl hm
     . intro x H4;rw[Cr l k 0 S3,Au] at H4;rcases H4 with h2 | h2
       . have:=hx x h2;split<;>omega
       . rw[Av.1 h2];split<;>omega
 unfold Wb;rw[Ah (by omega),Aj,show CB l 0=some (l.getD 0 0) from Cd l 0 0 (by omega),Aa];obtain ⟨m',j,h2,h3,h4⟩:=key (l.length - 1) 1 (by omega) (by omega) (l.getD 0 0) (by
     rw[Cr l 0 0 (by omega)];simp) (by rw[Cr l 0 0 (by omega)];simp)
 exact ⟨m',by rw[show ((1:Int))=((1:Nat):Int) from rfl,h2,Aa],h3,h4⟩
def Sr.bx(g:List (List Int))(sh:List Bool)(s:Sr)(P:List Nat)(pk:Nat):List D:=[.p (.sl (Cw g)),.p (.sl (CW sh)),.ref 1000001 0 s.seen.length s.seen.length,.ref 1000002 0 s.low.length s.low.length,.ref 1000003 0 s.at_.length s.at_.length,
 .ref 1000004 0 pk P.length,.ref 1000005 0 s.held.length s.held.length,.p (.int .i64 (s.count:Nat)),.ref 1000006 0 s.names.length s.names.length]
def ER(l:List Int)(ws:List Nat)(x:Int):List Int:=ws.foldl (λ l w=>l.set w x) l
theorem HB(ws:List Nat)(l:List Int)(x:Int):(ER l ws x).length=l.length:=by
 induction ws generalizing l with
 | nil=>rfl
 | cons w r ih=>simp only[ER,Bf] at ih ⊢;rw[ih];simp
attribute [go_sem] HB
theorem XX(l:List Int)(ws:List Nat)(w:Nat)(x:Int):ER l (ws++[w]) x=(ER l ws x).set w x:=by simp[ER,List.foldl_append]
theorem GU(g:List (List Int))(sh:List Bool)(s:Sr)(P:List Nat)(pk i:Nat)(hi:i<s.held.length)(hl:s.held.length<=1000)(hn:∀j,j<i->s.held.getD j 0≠s.held.getD i 0)(hr:∀w∈s.held,w<s.names.length):
   BV prog 155 [.ptr 1000000 0,.p (.int .i64 (s.held.getD i 0:Nat))]
     [(1000000,.box (s.bx g sh P pk)),(1000001,.arr 3 1 (BT (nI s.seen))),(1000002,.arr 3 1 (BT (nI s.low))),(1000003,.arr 3 1 (BT (nI s.at_))),(1000004,.arr 3 1 (BT (nI P))),(1000005,.arr 3 1 (BT (nI s.held))),(1000006,.arr 3 1 (BT s.names))]
     λ h r=>∃m,(m∈nI (s.held.drop i)/\∀x∈nI (s.held.drop i),m<=x)/\h=[(1000000,.box [.p (.sl (Cw g)),.p (.sl (CW sh)),.ref 1000001 0 s.seen.length s.seen.length,.ref 1000002 0 s.low.length s.low.length,.ref 1000003 0 s.at_.length s.at_.length,
       .ref 1000004 0 pk P.length,.ref 1000005 0 i s.held.length,.p (.int .i64 (s.count:Nat)),.ref 1000006 0 s.names.length s.names.length]),
       (1000001,.arr 3 1 (BT (nI s.seen))),(1000002,.arr 3 1 (BT (nI s.low))),(1000003,.arr 3 1 (BT (nI s.at_))),(1000004,.arr 3 1 (BT (nI P))),(1000005,.arr 3 1 (BT (nI s.held))),(1000006,.arr 3 1 (BT (ER s.names (s.held.drop i) m)))]/\r= .De []:=by
 refine BX func155 rfl Af0 (by simp[Tryz.f155]) ?_;unfold Sr.bx;have e1:=Acm (nI s.held) i (by rw[Cu];exact hi) (by rw[Cu];omega) (λ j hj=>by rw[Du,Du];have:=hn j hj;omega);rw[Du] at e1;obtain ⟨m,e2,RR,RA⟩:=Ao2 (nI (s.held.drop i)) (by rw[Cu];simp;omega) (by rw[Cu];simp;omega);simp only[go_sem];refine Aah rfl rfl (Z8 _ _ _ e1) (by simp[KC,TR,ev,get,Cu,BT,AV]) ?_;rintro h' r ⟨rfl,rfl⟩;refine ⟨rfl,rfl,?_⟩;simp only[go_sem];have f1:(0:Int)<=(i:Int)/\(i:Int)<=(s.held.length:Int):=by omega
 have f2:((s.held.length:Int) - (i:Int)).toNat=s.held.length - i:=by omega
 simp only[go_sem,f1,Ab,Int.le_refl,f2];refine Aah rfl rfl (Ai2 _ _ e2) ?_ ?_
 . simp[KC,TR,ev,get,Cu,BT,Aop,AV];simp[nI,List.map_drop]
 rintro h' r ⟨rfl,rfl⟩;refine ⟨rfl,rfl,?_⟩;simp only[go_sem,f1,Ab,Int.le_refl,f2];refine B3 (λ k=>⟨[(0,.ptr 1000000 0),(4,.p (.int .i64 (i:Nat))),(5,.p (.int .i64 m)),(26,.ref 1000005 i (s.held.length - i) s.held.length),(27,.p (.int .i64 ((s.held.length - i:Nat):Int))),(28,.p (.int .i64 (k:Nat)))],
     [(1000000,.box (s.bx g sh P pk)),(1000001,.arr 3 1 (BT (nI s.seen))),(1000002,.arr 3 1 (BT (nI s.low))),(1000003,.arr 3 1 (BT (nI s.at_))),(1000004,.arr 3 1 (BT (nI P))),(1000005,.arr 3 1 (BT (nI s.held))),
      (1000006,.arr 3 1 (BT (ER s.names ((s.held.drop i).take k) m)))],49⟩) (λ k=>k<=s.held.length - i) (λ k=>s.held.length - i - k) 0 (AG _)
   ((Wk.forget (by simp[ZF,Sr.bx,ER]))) ?_
 rintro k n hk ih;unfold Sr.bx;cases c1:decide ((k:Int)<((s.held.length - i:Nat):Int))
 . have f3:((i:Int) - 0).toNat=i:=by omega
   obtain rfl:k=s.held.length - i:=by have:=Ae c1;omega
   simp only[go_sem,c1,f1,f3];refine CR ?_;have f4:(s.held.drop i).take (s.held.length - i)=s.held.drop i:=AV (by simp);simp only[go_sem,c1,f1,f3,f4];exact ⟨m,⟨RR,RA⟩,rfl⟩
 . have Jj:k<s.held.length - i:=by simpa using Ad c1
   have f4:(0:Int)<=(k:Int)/\(k:Int)<((s.held.length - i:Nat):Int):=by omega
   have g1:=Cg (nI s.held) (i+k) (by rw[Cu];omega);rw[Du] at g1;have hw:=hr _ (CJ s.held (i+k) 0 (by omega));have f5:(0:Int)<=((s.held.getD (i+k) 0:Nat):Int)/\((s.held.getD (i+k) 0:Nat):Int)<(s.names.length:Int):=by omega
   have f6:IntKind.i64.wrap ((k:Int)+1)=((k+1:Nat):Int):=Cs (by omega);have g2:=Cg (ER s.names ((s.held.drop i).take k) m) (s.held.getD (i+k) 0) (by rw[HB];exact hw);simp only[go_sem,c1,f4,g1,g2,f5,Ab,f6];refine ih (k+1) _ (by omega) (by omega) ?_;have hd:(s.held.drop i).take (k+1)=(s.held.drop i).take k++[s.held.getD (i+k) 0]:=by
     rw[Cr (s.held.drop i) k 0 (by simp;omega)];simp[List.getD]
   rw[hd,XX];exact (Wk.forget (by simp[ZF,Sr.bx,C9]))
structure FB where
 Xt:Nat
 s:Sr
 v:Nat
 p1:Nat
 p2:Nat
def FB.st(g:List (List Int))(sh:List Bool)(b:FB):St:=⟨[(0,.ptr 1000000 0),(1,.p (.int .i64 (b.v:Nat)))],[
 (1000000,.box [.p (.sl (Cw g)),.p (.sl (CW sh)),.ref 1000001 0 b.s.seen.length b.s.seen.length,.ref 1000002 0 b.s.low.length b.s.low.length,.ref 1000003 0 b.s.at_.length b.s.at_.length,.ref 500005 0 b.s.path.length b.s.path.length,.ref 500006 0 b.s.held.length b.s.held.length,.p (.int .i64 (b.s.count:Nat)),.ref 1000006 0 b.s.names.length b.s.names.length]),(1000001,.arr 3 1 (BT (nI b.s.seen))),(1000002,.arr 3 1 (BT (nI b.s.low))),(1000003,.arr 3 1 (BT (nI b.s.at_))),(1000004,.E4 (FA 1 b.p1)),(1000005,.E4 (FA 1 b.p2)),(1000006,.arr 3 1 (BT b.s.names))
 ,(500005,.arr 3 1 (BT (nI b.s.path))),(500006,.arr 3 1 (BT (nI b.s.held)))],210⟩
theorem Apn(P:List Nat)(k:Nat):(BT (nI P)).take k=BT (nI (P.take k)):=by rw[Od,Aon]
theorem Ama(P:List Nat)(k:Nat)(h:k<=P.length):(BT (nI (P.take k))).take k=BT (nI (P.take k)):=AV (by rw[BS,Cu];simp;omega)
end Go.Am
end
