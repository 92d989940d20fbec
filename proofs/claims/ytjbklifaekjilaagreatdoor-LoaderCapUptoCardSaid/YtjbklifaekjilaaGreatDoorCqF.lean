/- Texts of this proof, what it rests on, merged: part F. -/
import Derived.Lib.Bytealg
import Derived.Laws.Externs
import Derived.Test.YtjbklifaekjilaaGreatDoorCqE
noncomputable section
namespace Go.Am
open Go Go.Proofs
open Tryz
set_option maxRecDepth 100000
set_option linter.unusedVariables false
set_option linter.unusedSimpArgs false
set_option maxHeartbeats 2000000
def CN(c:UInt8):List UInt8->List (List UInt8)
 | []=>[[]]
 | b::r=>if b=c then []::CN c r else match CN c r with
   | []=>[[b]]
   | x::xs=>(b::x)::xs
theorem UH(c:UInt8)(l:List UInt8):CN c l≠[]:=by
 cases l with
 | nil=>simp[CN]
 | cons b r=>
   simp only[CN];split
   . simp
   . split<;>simp
theorem KH(c:UInt8)(l:List UInt8):(CN c l).length=l.count c+1:=by
 induction l with
 | nil=>simp[CN]
 | cons b r ih=>
   simp only[CN];split
   . rename_i h;subst h;simp[ih]
   . rename_i h;rw[List.count_cons_of_ne h];cases hs:CN c r with
     | nil=>exact (UH c r hs).elim
     | cons x xs=>rw[hs] at ih;simpa using ih
theorem I0(c:UInt8):∀(l:List UInt8),(Lib.indexByte l c=-1/\CN c l=[l])∨∃m:Nat,Lib.indexByte l c=(m:Int)/\m<l.length/\CN c l=l.take m::CN c (l.drop (m+1))
 | []=> .inl ⟨rfl,rfl⟩
 | b::r=>by
   simp only[Lib.indexByte];by_cases h:b=c
   . subst h;exact .inr ⟨0,by simp,by simp,by simp[CN]⟩
   . rcases I0 c r with ⟨h1,h2⟩ | ⟨m,h1,h2,h3⟩
     . refine .inl ⟨by simp[h,h1],by simp[CN,h,h2]⟩
     . refine .inr ⟨m+1,by simp[h,h1],by simp;omega,by simp[CN,h,h3]⟩
theorem Aoy(l:List UInt8)(c:Int):BV prog 195 [.p (.str l),.p (.int .u8 c)] [] λ h r=>h=[]/\r= .p (.int .i64 (Lib.indexByte l c.toNat.toUInt8)):=by
 refine TU (run_callFunc_extern func195 (by kernel_rfl) (by kernel_rfl) (by kernel_rfl) (e:=Extern.BytealgIndexByte.indexByte) (by kernel_rfl)) ?_;intro vs w F M hd;obtain ⟨hl,h⟩:=hd;obtain ⟨v1,v2,rfl⟩:∃v1 v2,vs=#[v1,v2]:=by
   match vs,hl with
   | ⟨[v1,v2]⟩,_=>exact ⟨v1,v2,rfl⟩
 have h1:=h 0 _ rfl;have h2:=h 1 _ rfl;simp only[A2,List.getD_cons_succ] at h1 h2;cases h1 with | p h1=>cases h1 with | str=>
 cases h2 with | p h2=>cases h2 with | int=>
 exact ⟨_,_,Lib.run_indexByteString _ _ _,.p (.int _ _),rfl,rfl⟩
theorem Apq(l:List UInt8)(c:Int):BV prog 168 [.p (.str l),.p (.int .u8 c)] [] λ h r=>h=[]/\r= .p (.int .i64 (Lib.countByte l c.toNat.toUInt8:Nat)):=by
 refine TU (run_callFunc_extern func168 (by kernel_rfl) (by kernel_rfl) (by kernel_rfl) (e:=Extern.BytealgCount.count) (by kernel_rfl)) ?_;intro vs w F M hd;obtain ⟨hl,h⟩:=hd;obtain ⟨v1,v2,rfl⟩:∃v1 v2,vs=#[v1,v2]:=by
   match vs,hl with
   | ⟨[v1,v2]⟩,_=>exact ⟨v1,v2,rfl⟩
 have h1:=h 0 _ rfl;have h2:=h 1 _ rfl;simp only[A2,List.getD_cons_succ] at h1 h2;cases h1 with | p h1=>cases h1 with | str=>
 cases h2 with | p h2=>cases h2 with | int=>
 exact ⟨_,_,Lib.run_countString _ _ _,.p (.int _ _),rfl,rfl⟩
theorem Aqo(c:UInt8):((c.toNat:Int)).toNat.toUInt8=c:=by simp
theorem Amb(l:List UInt8)(c:UInt8):BV prog 138 [.p (.str l),.p (.str [c])] [] λ h r=>h=[]/\r= .p (.int .i64 (l.count c:Nat)):=by
 refine BX func138 rfl Af9 (by simp[Tryz.f138]) ?_;have h0:(0:Int)<1:=by decide
 simp only[go_sem,A2];refine Cq (Apq l c.toNat) ?_;simp only[go_sem,Aqo];rfl
theorem Ady(l:List UInt8)(c:UInt8):BV prog 169 [.p (.str l),.p (.str [c])] [] λ h r=>h=[]/\r= .p (.int .i64 (Lib.indexByte l c)):=by
 refine BX func169 rfl Aeu (by simp[Tryz.f169]) ?_;cases he:decide ([c]=l)
 . simp only[go_sem,he,A2];refine DY (?_:BV prog 186 _ _ λ h r=>h=[]/\r= .p (.int .i64 (Lib.indexByte l c))) ?_
   . refine BX func186 rfl Aep (by simp[Tryz.f186]) ?_;simp only[go_sem];refine Cq (Aoy l c.toNat) ?_;simp only[go_sem,Aqo]
   . rintro h' r ⟨rfl,rfl⟩;simp only[go_sem]
 . simp only[go_sem,he];have:l=[c]:=by simpa using (Ad he).symm
   subst this;simp[Lib.indexByte]
theorem Ajg(l:List UInt8)(c:UInt8):BV prog 139 [.p (.str l),.p (.str [c])] [] λ h r=>h=[]/\r= .p (.int .i64 (Lib.indexByte l c)):=by
 refine BX func139 rfl Af8 (by simp[Tryz.f139]) ?_;simp only[go_sem];refine Cq (Ady l c) ?_;simp only[go_sem]
theorem Aar(a r:List (List UInt8))(y x:List UInt8):(a++y::r).set a.length x=(a++[x])++r:=by
 rw[List.set_append_right _ _ (Ai _),Nat.sub_self,List.set_cons_zero,A1];rfl
theorem Alw(n:Nat):CD (List.replicate n [])=List.replicate n [.str []]:=by simp[CD]
theorem YD(l:List UInt8)(c:UInt8)(hl:l.length<=100000000):BV prog 104 [.p (.str l),.p (.str [c]),.p (.int .i64 0),.p (.int .i64 (-1))] [] λ h r=>h=[(0,.arr 9 1 (CD (CN c l)))]/\r= .ref 0 0 (CN c l).length (CN c l).length:=by
 refine BX func104 rfl Afy (by simp[Tryz.f104]) ?_;have hn:=KH c l;have hc:l.count c<=l.length:=List.count_le_length;have w1:IntKind.i64.wrap ((l.count c:Nat)+1)=(((CN c l).length:Nat):Int):=by rw[hn,BY]<;>omega
 have w2:IntKind.i64.wrap ((l.length:Int)+1)=(l.length:Int)+1:=by rw[BY]<;>omega
 have w3:¬(l.length:Int)+1<(((CN c l).length:Nat):Int):=by omega
 have w4:IntKind.i64.wrap ((((CN c l).length:Nat):Int) - 1)=((l.count c:Nat):Int):=by rw[hn,BY]<;>omega
 simp only[go_sem];refine Cq (Amb l c) ?_;simp only[go_sem,w1,w2,w3,w4,Ab];refine ⟨by omega,?_⟩;generalize hS:CN c l=S at*;refine B3 (λ q:List (List UInt8)×List UInt8=>⟨[(0,.p (.str q.2)),(1,.p (.str [c])),(2,.p (.int .i64 0)),(3,.p (.int .i64 (l.count c:Nat))),(9,.ref 31 0 S.length S.length),(10,.p (.int .i64 (q.1.length:Nat)))],[(31,.arr 9 1 (CD (q.1++List.replicate (S.length - q.1.length) [])))],66⟩)
   (λ q=>S=q.1++CN c q.2/\q.2.length<=l.length) (λ q=>S.length - q.1.length) ([],l) ⟨by simp[hS],by simp⟩ (Wk.forget (by simp[ZF,Alw])) ?_
 rintro ⟨a,t⟩ n ⟨he,ht⟩ ih;simp only at he ht;have hln:=AQ List.length he;rw[At,KH] at hln;simp only[go_sem];refine Cv (λ h2=>?_) (λ h2=>?_)
 . have Cj:a.length<l.count c:=by simp at h2;omega
   simp only[go_sem];refine Cq (Ajg t c) ?_;rcases I0 c t with ⟨h3,h4⟩ | ⟨m,h3,h4,h5⟩
   . rw[h4] at he;have:=AQ List.length he;simp at this;omega
   . have c1:¬(m:Int)<0:=by omega
     have w5:IntKind.i64.wrap ((m:Int)+0)=(m:Int):=by rw[BY]<;>omega
     have w6:IntKind.i64.wrap ((m:Int)+1)=((m+1:Nat):Int):=by rw[BY]<;>omega
     have w7:=Cf a.length (by omega);have RR:(0:Int)<=(m:Int)/\(m:Int)<=(t.length:Int):=by omega
     have RA:(0:Int)<=((m+1:Nat):Int)/\((m+1:Nat):Int)<=(t.length:Int):=by omega
     have ha:(0:Int)<=(a.length:Int)/\(a.length:Int)<(S.length:Int):=by omega
     obtain ⟨k,hk⟩:∃k,S.length - a.length=k+1:=⟨S.length - a.length - 1,by omega⟩;have Jj:S.length - (a.length+1)=k:=by omega
     have hlen:S.length=(a++[]::List.replicate k ([]:List UInt8)).length:=by simp;omega
     have hg:=DW (a++[]::List.replicate k ([]:List UInt8)) a.length (by rw[<-hlen];omega);simp only[go_sem,h3,c1,hk,w5,w6,w7,Ab,B1,RR,RA,ha,hg,Int.le_refl,List.drop_zero,Aw];refine ⟨hlen,hlen,?_⟩;rw[<-Pp,Aar];refine ih (a++[t.take m],t.drop (m+1)) _ ⟨by rw[he,h5];simp,by simp;omega⟩ (by simp;omega) ?_
     (refine Wk.forget ?_;simp[ZF,Jj];done)
 . have Cj:a.length=l.count c:=by simp at h2;omega
   have hS1:S.length - a.length=1:=by omega
   rcases I0 c t with ⟨h3,h4⟩ | ⟨m,h3,h4,h5⟩
   . have w7:IntKind.i64.wrap ((a.length:Int)+1)=((S.length:Nat):Int):=by rw[BY]<;>omega
     have ha:(0:Int)<=(a.length:Int)/\(a.length:Int)<(S.length:Int):=by omega
     have hlen:S.length=(a++[([]:List UInt8)]).length:=by simp;omega
     have hg:=DW (a++[([]:List UInt8)]) a.length (by rw[<-hlen];omega);have Awa:S=a++[t]:=by rw[he,h4]
     have hS0:(0:Int)<=(S.length:Int):=by omega
     simp only[go_sem,hS1,w7,Ab,B1,ha,hg,Int.le_refl,<-Pp,Aar,List.length_set,hS0,Int.sub_zero];refine ⟨hlen,hlen,by rw[Awa],CR ?_⟩;simp only[go_sem];rw[Awa]
   . rw[h5] at he;have h6:=KH c (t.drop (m+1));have:=AQ List.length he;simp at this;omega
theorem Ahw(l:List UInt8)(c:UInt8)(hl:l.length<=100000000):BV prog 60 [.p (.str l),.p (.str [c])] [] λ h r=>h=[(0,.arr 9 1 (CD (CN c l)))]/\r= .ref 0 0 (CN c l).length (CN c l).length:=by
 refine BX func60 rfl Al1 (by simp[Tryz.f60]) ?_;simp only[go_sem];refine Cq (YD l c hl) ?_;simp only[go_sem];refine CR ?_;simp only[go_sem]
def Hq(c:Int):Bool:=decide (32<c)&&(decide (c<=126)&&!decide (c=35))
theorem Jz(c:Int):BV prog 105 [.p (.int .u8 c)] [] λ h r=>h=[]/\r= .p (.bool (Hq c)):=by
 refine BX func105 rfl Afx (by simp[Tryz.f105]) ?_;by_cases h1:32<c
 . by_cases h2:c<=126
   . simp only[go_sem,h1,h2];simp[Hq,h1,h2]
   . simp only[go_sem,h1,h2];simp[Hq,h1,h2]
 . simp only[go_sem,h1];simp[Hq,h1]
def HQ:List UInt8->Option (List UInt8)->List (List UInt8)->List (List UInt8)×Int
 | [],none,acc=>(acc,0)
 | [],some cur,acc=>(acc++[cur],0)
 | b::r,c,acc=>
   if (b.toNat:Int)=35 then (acc++c.toList,0)
   else if (b.toNat:Int)=32∨(b.toNat:Int)=9 then HQ r none (acc++c.toList)
   else if Hq b.toNat then (if (c.getD []).length=12 then ([],3) else HQ r (some (c.getD []++[b])) acc)
   else ([],2)
theorem Ael(b:UInt8)(r:List UInt8)(acc:List (List UInt8))(h1:¬(b.toNat:Int)=35)(h2:¬(b.toNat:Int)=32)(h3:¬(b.toNat:Int)=9):HQ (b::r) none acc=HQ (b::r) (some []) acc:=by
 simp[HQ,h1,h2,h3]
theorem Aem(t:List UInt8)(cur:List UInt8)(acc:List (List UInt8))(h:∀b r,t=b::r->(b.toNat:Int)=35∨(b.toNat:Int)=32∨(b.toNat:Int)=9):HQ t (some cur) acc=HQ t none (acc++[cur]):=by
 cases t with
 | nil=>simp[HQ]
 | cons b r=>
   rcases h b r rfl with h | h | h<;>simp[HQ,h]
theorem Apo(s:List UInt8)(hs:s.length<=100000000):BV prog 61 [.p (.str s)] [] λ h r=>h=[]/\r= .De [.p (.sl (CD (HQ s none []).1)),.p (.int .i64 (HQ s none []).2)]:=by
 refine BX func61 rfl Al0 (by simp[Tryz.f61]) ?_;simp only[go_sem];refine Ro (λ q:Bool×Nat×Nat×List (List UInt8)=>if q.1 then 1 else 0)
   (λ q=>⟨[(0,.p (.str s)),(2,.cl []),(4,.ref 59 0 q.2.2.2.length q.2.2.2.length),(5,.p (.int .i64 (q.2.1:Nat))),(6,.p (.int .i64 (q.2.2.1:Nat)))],[(59,.arr 9 1 (CD q.2.2.2))],71⟩)
   (λ q=>q.2.2.1<=q.2.1/\q.2.1<=s.length/\(q.1=true->q.2.1<=q.2.2.1+12/\q.2.2.1<q.2.1/\q.2.2.2.length<=q.2.2.1)/\q.2.2.2.length<=q.2.1/\HQ (s.drop q.2.1) (if q.1 then some ((s.take q.2.1).drop q.2.2.1) else none) q.2.2.2=HQ s none [])
   (λ q=>2*(s.length - q.2.1)+(if q.1 then 1 else 0)) (2*s.length+2) ?_ ?_
 . intro n ih;simp only[go_sem];cases I7:decide ((0:Int)=(s.length:Int));rotate_left
   . have Ajx:0=s.length:=by have:=Ad I7;omega
     simp only[go_sem,I7];refine BU ?_;simp only[go_sem];rw[AZ Ajx.symm];simp[HQ,CD]
   have Cj:0<s.length:=by have:=Ae I7;omega
   have S6:s=s.getD 0 0::s.drop 1:=by have:=D1 s 0 0 Cj;simpa using this
   have he:HQ (s.getD 0 0::s.drop 1) none []=HQ s none []:=by rw[<-S6]
   have RS:(0:Int)<(s.length:Int):=by omega
   have DH:(0:Int)<=(0:Int):=by omega
   have hw:IntKind.i64.wrap ((0:Int)+1)=(((0+1:Nat)):Int):=by rw[BY]<;>omega
   have Ql:IntKind.i64.wrap ((0:Int) - 0)=0:=by rw[Int.sub_self];rfl
   have ZK:(s.take (0+1)).drop 0=[s.getD 0 0]:=by rw[List.drop_take,D1 s _ 0 Cj];simp
   generalize hb:s.getD 0 0=b at*;generalize hc:(b.toNat:Int)=c at*;cases PK:decide (c=35);rotate_left
   . simp only[go_sem,Ab,I7,RS,DH,hb,hc,PK,Int.reduceToNat,Nat.reduceAdd];refine BU ?_;simp only[go_sem];have:=Ad PK;rw[<-he];simp[HQ,hc,this,B1,Ku,CD]
   have WX:=Ae PK;cases YC:decide (c=32)
   . cases h9:decide (c=9)
     . have Qx:=Ae YC;have h9':=Ae h9;simp only[go_sem,Ab,I7,RS,DH,hb,hc,PK,YC,h9];refine Cq (Jz c) ?_;cases JU:Hq c
       . simp only[go_sem,JU];refine BU ?_;simp only[go_sem];rw[<-he];simp[HQ,hc,WX,Qx,h9',JU,CD]
       . simp only[go_sem,JU,hw,Ql];refine ih (true,0+1,0,[]) _ ⟨by simp only;omega,by simp only;omega,(λ _=>by simp only[Az];omega),by simp only[Az];omega,?_⟩ (by simp only[AL];omega) ?_
         . rw[<-he];simp only[AL,ZK];simp[HQ,hc,WX,Qx,h9',JU]
         . exact (Wk.nil (t:=4) (q:=59) (sz:=1) 9 rfl rfl (by decide)).trans (Wk.forget (by simp[ZF,CD]))
     . have h9':=Ad h9;simp only[go_sem,Ab,I7,RS,DH,hb,hc,PK,YC,h9,hw];refine ih (false,0+1,0,[]) _ ⟨by simp only;omega,by simp only;omega,(λ h=>by cases h),by simp only[Az];omega,?_⟩ (by simp;omega) ?_
       . rw[<-he];simp[HQ,hc,h9']
       . exact (Wk.nil (t:=4) (q:=59) (sz:=1) 9 rfl rfl (by decide)).trans (Wk.forget (by simp[ZF,CD]))
   . have Qx:=Ad YC;simp only[go_sem,Ab,I7,RS,DH,hb,hc,PK,YC,hw];refine ih (false,0+1,0,[]) _ ⟨by simp only;omega,by simp only;omega,(λ h=>by cases h),by simp only[Az];omega,?_⟩ (by simp;omega) ?_
     . rw[<-he];simp[HQ,hc,Qx]
     . exact (Wk.nil (t:=4) (q:=59) (sz:=1) 9 rfl rfl (by decide)).trans (Wk.forget (by simp[ZF,CD]))
 . rintro ⟨Xt,at_,bg,acc⟩ n ⟨hbg,Ij,Uq,Ba7,he⟩ ih;simp only at hbg Ij Uq Ba7 he;cases Xt
   . simp only[AJ,A7] at he;refine ⟨_,rfl,?_⟩;simp only[go_sem];cases I7:decide ((at_:Int)=(s.length:Int));rotate_left
     . have Ajx:at_=s.length:=by have:=Ad I7;omega
       simp only[go_sem,I7];refine BU ?_;simp only[go_sem];rw[<-he,BC (by omega)];simp[HQ,B1,Ku]
     have Cj:at_<s.length:=by have:=Ae I7;omega
     rw[D1 s at_ 0 Cj] at he;have RS:(at_:Int)<(s.length:Int):=by omega
     have DH:(0:Int)<=(at_:Int):=by omega
     have hw:IntKind.i64.wrap ((at_:Int)+1)=(((at_+1:Nat)):Int):=by rw[BY]<;>omega
     have Ql:IntKind.i64.wrap ((at_:Int) - at_)=0:=by rw[Int.sub_self];rfl
     have ZK:(s.take (at_+1)).drop at_=[s.getD at_ 0]:=by rw[List.drop_take,D1 s _ 0 Cj];simp
     generalize hb:s.getD at_ 0=b at*;generalize hc:(b.toNat:Int)=c at*;cases PK:decide (c=35);rotate_left
     . simp only[go_sem,Ab,I7,RS,DH,hb,hc,PK];refine BU ?_;simp only[go_sem];have:=Ad PK;rw[<-he];simp[HQ,hc,this,B1,Ku]
     have WX:=Ae PK;cases YC:decide (c=32)
     . cases h9:decide (c=9)
       . have Qx:=Ae YC;have h9':=Ae h9;simp only[go_sem,Ab,I7,RS,DH,hb,hc,PK,YC,h9];refine Cq (Jz c) ?_;cases JU:Hq c
         . simp only[go_sem,JU];refine BU ?_;simp only[go_sem];rw[<-he];simp[HQ,hc,WX,Qx,h9',JU,CD]
         . simp only[go_sem,JU,hw,Ql];refine ih (true,at_+1,at_,acc) _ ⟨by simp only;omega,by simp only;omega,(λ _=>by simp only[Az];omega),by simp only[Az];omega,?_⟩ (by simp only[AL];omega) ?_
           . rw[<-he];simp only[AL,ZK];simp[HQ,hc,WX,Qx,h9',JU]
           . (refine Wk.forget ?_;simp[ZF];done)
       . have h9':=Ad h9;simp only[go_sem,Ab,I7,RS,DH,hb,hc,PK,YC,h9,hw];refine ih (false,at_+1,bg,acc) _ ⟨by simp only;omega,by simp only;omega,(λ h=>by cases h),by simp only[Az];omega,?_⟩ (by simp;omega) ?_
         . rw[<-he];simp[HQ,hc,h9']
         . (refine Wk.forget ?_;simp[ZF];done)
     . have Qx:=Ad YC;simp only[go_sem,Ab,I7,RS,DH,hb,hc,PK,YC,hw];refine ih (false,at_+1,bg,acc) _ ⟨by simp only;omega,by simp only;omega,(λ h=>by cases h),by simp only[Az];omega,?_⟩ (by simp;omega) ?_
       . rw[<-he];simp[HQ,hc,Qx]
       . (refine Wk.forget ?_;simp[ZF];done)
   . simp only[AL] at he ih;simp only[forall_const] at Uq;refine ⟨_,rfl,?_⟩;simp only[go_sem];have hbi:(0:Int)<=(bg:Int)/\(bg:Int)<=(at_:Int)/\(at_:Int)<=(s.length:Int):=by omega
     have flush:(∀b r,s.drop at_=b::r->(b.toNat:Int)=35∨(b.toNat:Int)=32∨(b.toNat:Int)=9)->HQ (s.drop at_) none (acc++[(s.take at_).drop bg])=HQ s none []:=by
       intro h;rw[<-Aem _ _ _ h];exact he
     cases I7:decide ((at_:Int)=(s.length:Int));rotate_left
     . have Ajx:at_=s.length:=by have:=Ad I7;omega
       have hdn:s.drop at_=[]:=BC (by omega);simp only[go_sem,I7,Ab,B1,hbi];refine ⟨⟨EN _ _ rfl,by omega⟩,?_⟩;refine ih (false,at_,bg,acc++[(s.take at_).drop bg]) _ ⟨hbg,Ij,(λ h=>by cases h),by have:=Uq.2.2;have:=Uq.2.1;simp;omega,?_⟩ (by simp) ?_
       . simp only[AJ,A7];exact flush (λ b r h=>by rw[hdn] at h;cases h)
       . (refine Wk.forget ?_;simp[ZF,EV,B1];done)
     have Cj:at_<s.length:=by have:=Ae I7;omega
     have hd:=D1 s at_ 0 Cj;have RS:(at_:Int)<(s.length:Int):=by omega
     have DH:(0:Int)<=(at_:Int):=by omega
     have hw:IntKind.i64.wrap ((at_:Int)+1)=((at_+1:Nat):Int):=by rw[BY]<;>omega
     have Ql:IntKind.i64.wrap ((at_:Int) - bg)=((at_ - bg:Nat):Int):=by rw[BY]<;>omega
     have ZK:(s.take (at_+1)).drop bg=(s.take at_).drop bg++[s.getD at_ 0]:=by
       rw[List.take_succ_eq_append_getElem Cj,List.drop_append_of_le_length (by simp;omega)];simp[List.getD,Cj]
     have PJ:((s.take at_).drop bg).length=at_ - bg:=by simp;omega
     generalize hb:s.getD at_ 0=b at*;rw[hd] at he;generalize hc:(b.toNat:Int)=c at*;have sep:c=35∨c=32∨c=9->HQ (s.drop at_) none (acc++[(s.take at_).drop bg])=HQ s none []:=by
       intro h;refine flush λ b' r' h'=>?_;rw[hd] at h';cases h';rw[hc];exact h
     cases PK:decide (c=35)
     . cases YC:decide (c=32)
       . cases h9:decide (c=9)
         . have WX:=Ae PK;have Qx:=Ae YC;have h9':=Ae h9;simp only[go_sem,Ab,I7,RS,DH,hb,hc,PK,YC,h9];refine Cq (Jz c) ?_;cases JU:Hq c
           . simp only[go_sem,JU];refine BU ?_;simp only[go_sem];rw[<-he];simp[HQ,hc,WX,Qx,h9',JU,CD]
           . cases Apa:decide (((at_ - bg:Nat):Int)=12)
             . have Ata:¬at_ - bg=12:=by have:=Ae Apa;omega
               simp only[go_sem,JU,hw,Ql,Apa];refine ih (true,at_+1,bg,acc) _ ⟨by simp only;omega,by simp only;omega,(λ _=>by simp only;omega),by simp only;omega,?_⟩ (by simp only[AL];omega) ?_
               . rw[<-he];simp only[AL,ZK];simp[HQ,hc,WX,Qx,h9',JU,PJ,Ata]
               . (refine Wk.forget ?_;simp[ZF];done)
             . have Ata:at_ - bg=12:=by have:=Ad Apa;omega
               simp only[go_sem,JU,hw,Ql,Apa];refine BU ?_;simp only[go_sem];rw[<-he];simp[HQ,hc,WX,Qx,h9',JU,PJ,Ata,CD]
         . simp only[go_sem,Ab,I7,RS,DH,hb,hc,PK,YC,h9,B1,hbi];refine ⟨⟨EN _ _ rfl,by omega⟩,?_⟩;refine ih (false,at_,bg,acc++[(s.take at_).drop bg]) _ ⟨hbg,Ij,(λ h=>by cases h),by have:=Uq.2.2;have:=Uq.2.1;simp;omega,?_⟩ (by simp) ?_
           . simp only[AJ,A7];exact sep (.inr (.inr (Ad h9)))
           . (refine Wk.forget ?_;simp[ZF,EV,B1];done)
       . simp only[go_sem,Ab,I7,RS,DH,hb,hc,PK,YC,B1,hbi];refine ⟨⟨EN _ _ rfl,by omega⟩,?_⟩;refine ih (false,at_,bg,acc++[(s.take at_).drop bg]) _ ⟨hbg,Ij,(λ h=>by cases h),by have:=Uq.2.2;have:=Uq.2.1;simp;omega,?_⟩ (by simp) ?_
         . simp only[AJ,A7];exact sep (.inr (.inl (Ad YC)))
         . (refine Wk.forget ?_;simp[ZF,EV,B1];done)
     . simp only[go_sem,Ab,I7,RS,DH,hb,hc,PK,B1,hbi];refine ⟨⟨EN _ _ rfl,by omega⟩,?_⟩;refine ih (false,at_,bg,acc++[(s.take at_).drop bg]) _ ⟨hbg,Ij,(λ h=>by cases h),by have:=Uq.2.2;have:=Uq.2.1;simp;omega,?_⟩ (by simp) ?_
       . simp only[AJ,A7];exact sep (.inl (Ad PK))
       . (refine Wk.forget ?_;simp[ZF,EV,B1];done)
def IP:List (List UInt8)->Nat->List Ln->List Ln×Int×Int
 | [],_,acc=>(acc,0,0)
 | t::r,k,acc=>if (HQ t none []).2=0 then IP r (k+1) (if 0<(HQ t none []).1.length then acc++[⟨(k:Nat),(HQ t none []).1⟩] else acc) else ([],(k:Nat),(HQ t none []).2)
def Dh(s:List UInt8):List Ln×Int×Int:=if 6000<s.length then ([],0,1) else IP (CN 10 s) 1 []
def Wy(r:List Ln×Int×Int):D:= .De [.p (.sl (Gb r.1)),.p (.int .i64 r.2.1),.p (.int .i64 r.2.2)]
theorem V7(c:UInt8)(l:List UInt8):∀x∈CN c l,x.length<=l.length:=by
 induction l with
 | nil=>simp[CN]
 | cons b r ih=>
   intro x hx;simp only[CN] at hx;split at hx
   . rcases AE.1 hx with rfl | hx
     . simp
     . have:=ih x hx;simp;omega
   . split at hx
     . simp at hx;subst hx;simp
     . rename_i y ys h;rcases AE.1 hx with rfl | hx
       . have:=ih y (by rw[h];simp);simp;omega
       . have:=ih x (by rw[h];simp[hx]);simp;omega
theorem Adj(s:List UInt8):BV prog 29 [.p (.str s)] [] λ h r=>h=[]/\r=Wy (Dh s):=by
 refine BX func29 rfl Alj (by simp[Tryz.f29]) ?_;cases hlen:decide ((6000:Int)<(s.length:Int))
 . have hl:s.length<=6000:=by have:=Ae hlen;omega
   have hf:Dh s=IP (CN 10 s) 1 []:=by unfold Dh;rw[if_neg (by omega)]
   rw[hf];simp only[go_sem,hlen];refine Cq (Ahw s 10 (by omega)) ?_;have hsm:=V7 10 s;have Awf:=KH 10 s;have PJ:s.count 10<=s.length:=List.count_le_length;generalize hS:CN 10 s=S at*;simp only[go_sem,B1];refine B3 (λ q:Nat×List Ln=>⟨[(14,.ref 10014 0 S.length S.length),(15,.p (.int .i64 (S.length:Nat))),(16,.p (.int .i64 (q.1:Nat))),(5,.ref 40 0 q.2.length q.2.length)],[(10014,.arr 9 1 (CD S)),(40,.arr 80 2 (Gb q.2))],43⟩)
     (λ q=>q.1<=S.length/\q.2.length<=q.1/\IP (S.drop q.1) (q.1+1) q.2=IP S 1 []) (λ q=>S.length - q.1) (0,[]) ⟨AG _,by simp,by simp⟩ ((Wk.nil (t:=5) (q:=40) (sz:=2) 80 rfl rfl (by decide)).trans (Wk.forget (by simp[ZF,Gb]))) ?_
   rintro ⟨i,acc⟩ n ⟨hi,hn,he⟩ ih;simp only at hi hn he;simp only[go_sem];refine Cv (λ h2=>?_) (λ h2=>?_)
   . have Cj:i<S.length:=by simp at h2;omega
     have hw:=Cf i (by omega);have hb:=hsm _ (CJ S i [] Cj);have RS:(i:Int)<(S.length:Int):=by omega
     have DH:(0:Int)<=(i:Int):=by omega
     have hg:=DW S i Cj;rw[D1 S i [] Cj] at he;generalize S.getD i []=t at*;simp only[go_sem,Ab,B1,hg,RS,DH];refine Cq (Apo t (by omega)) ?_;by_cases hz:(HQ t none []).2=0
     . by_cases hp:0<(HQ t none []).1.length
       . have hp':(0:Int)<((HQ t none []).1.length:Int):=by omega
         simp only[go_sem,hz,hw,B1,Dx,hp'];refine ⟨⟨EN _ _ rfl,by omega⟩,?_⟩;refine ih (i+1,acc++[⟨(i+1:Nat),(HQ t none []).1⟩]) _ ⟨Cj,by simp only[At,Aq,Az];omega,by rw[<-he];simp only[IP,hz,hp,AL]⟩ (by simp only;omega) ?_
         (refine Wk.forget ?_;simp[ZF,MR,Dx];done)
       . have hp':¬(0:Int)<((HQ t none []).1.length:Int):=by omega
         simp only[go_sem,hz,hw,B1,hp'];refine ih (i+1,acc) _ ⟨Cj,by simp only;omega,by rw[<-he];simp only[IP,hz,hp,AL,A7]⟩ (by simp only;omega) ?_
         (refine Wk.forget ?_;simp[ZF];done)
     . simp only[go_sem,hz,hw];refine BU ?_;simp only[go_sem];rw[<-he];simp[IP,hz,Wy,Gb]
   . simp only[go_sem];have s7:i=S.length:=by simp at h2;omega
     subst s7;refine BU ?_;simp only[go_sem];rw[Bv] at he;rw[<-he];simp[IP,Wy,Dx,Vz]
 . have hl:6000<s.length:=by have:=Ad hlen;omega
   have hf:Dh s=([],0,1):=by unfold Dh;rw[if_pos hl]
   rw[hf];simp only[go_sem,hlen];refine BU ?_;simp only[go_sem];try simp[Wy,Gb]
def EP(n:Nat):List UInt8:=if h:n<10 then [UInt8.ofNat (48+n)] else EP (n / 10)++[UInt8.ofNat (48+n % 10)]
termination_by n
decreasing_by omega
def Pz(n:Int):List UInt8:=if n<0 then 45::EP (-n).toNat else EP n.toNat
theorem Ek(n:Nat)(h:n<10):EP n=[UInt8.ofNat (48+n)]:=by rw[EP,dif_pos h]
theorem H9(n:Nat)(h:¬n<10):EP n=EP (n / 10)++[UInt8.ofNat (48+n % 10)]:=by rw[EP,dif_neg h]
theorem Jc:∀(k n:Nat),n<10 ^ (k+1)->(EP n).length<=k+1
 | 0,n,h=>by rw[Ek n (by simpa using h)];simp
 | k+1,n,h=>by
   by_cases h1:n<10
   . rw[Ek n h1];simp
   . have:=Jc k (n / 10) (by rw[Nat.pow_succ] at h;omega);rw[H9 n h1];simp;omega
theorem MV(n:Nat)(hn:n<=1000000000000000):BV prog 56 [.p (.int .i64 (n:Nat))] [] λ h r=>h=[]/\r= .p (.str (EP n)):=by
 refine BX func56 rfl Al5 (by simp[Tryz.f56]) ?_;have hlen:=Jc 15 n (by omega);have h0:¬(n:Int)<0:=by omega
 simp only[go_sem,h0];refine B3 (λ q:Nat×List UInt8=>⟨[(0,.p (.int .i64 (q.1:Nat))),(3,.p (.str q.2))],[],23⟩) (λ q=>q.1<=n/\EP q.1++q.2=EP n) (λ q=>q.1) (n,[]) ⟨Ai _,by simp⟩ (Wk.forget (by simp[ZF])) ?_;rintro ⟨m,s⟩ k ⟨hm,he⟩ ih;simp only at hm he;have YA:(m:Int).tmod 10=((m % 10:Nat):Int):=by rw[Int.tmod_eq_emod_of_nonneg (by omega)];omega
 have hdiv:(m:Int).tdiv 10=((m / 10:Nat):Int):=by rw[Int.tdiv_eq_ediv_of_nonneg (by omega)];omega
 have w1:IntKind.i64.wrap (48+((m % 10:Nat):Int))=48+((m % 10:Nat):Int):=by rw[BY]<;>omega
 have w2:IntKind.u8.wrap (48+((m % 10:Nat):Int))=((UInt8.ofNat (48+m % 10)).toNat:Int):=by rw[IntKind.wrap_u8];simp
 have w3:IntKind.i64.wrap ((m / 10:Nat):Int)=((m / 10:Nat):Int):=by rw[BY]<;>omega
 have Ar5:¬(10:Int)=0:=by decide
 have r7:s.length<=20:=by have:=AQ List.length he;simp at this;omega
 simp only[go_sem,YA,hdiv,w1,w2,Ar5];refine Auc (l:=[UInt8.ofNat (48+m % 10)]) rfl Ant ti9 ti5 rfl rfl ?_;simp only[go_sem,YA,hdiv,w3,Ar5];refine ⟨by unfold maxLen;omega,?_⟩;refine Cv (λ h2=>?_) (λ h2=>?_)
 . simp only[go_sem];have h3:m<10:=by simp at h2;omega
   rw[<-he,Ek m h3,Nat.mod_eq_of_lt h3];rfl
 . have h3:¬m<10:=by simp at h2;omega
   simp only[go_sem];refine ih (m / 10,[UInt8.ofNat (48+m % 10)]++s) _ ⟨by simp only;omega,by rw[<-he,H9 m h3];simp⟩ (by simp only;omega) ?_
   (refine Wk.forget ?_;simp[ZF];done)
theorem W4(k:Nat)(h:k<10):((UInt8.ofNat (48+k)).toNat:Int)=48+k:=by simp;omega
theorem Y4(k:Nat):∀n:Nat,n<10 ^ (k+1)->It (EP n)=(n:Int)/\Py (EP n)=true/\EP n≠[]/\(n≠0->(((EP n).getD 0 0).toNat:Int)≠48):=by
 induction k with
 | zero=>
   intro n h;have h1:n<10:=by simpa using h
   rw[Ek n h1];refine ⟨by simp[It];omega,by simp[Py,Ut];omega,by simp,λ h2=>?_⟩;simp only[A2,W4 n h1];omega
 | succ k ih=>
   intro n h;by_cases h1:n<10
   . rw[Ek n h1];refine ⟨by simp[It];omega,by simp[Py,Ut];omega,by simp,λ h2=>?_⟩;simp only[A2,W4 n h1];omega
   . obtain ⟨i1,i2,i3,i4⟩:=ih (n / 10) (by rw[Nat.pow_succ] at h;omega);rw[H9 n h1];have Jq:n % 10<10:=Nat.mod_lt _ (by decide);refine ⟨?_,?_,by simp,λ _=>?_⟩
     . unfold It at i1 ⊢;rw[List.foldl_append,i1];simp only[Bf,List.foldl_nil,W4 _ Jq];omega
     . unfold Py at i2 ⊢;rw[List.all_append,i2];simp only[List.all_cons,List.all_nil,W4 _ Jq];simp[Ut];omega
     . have:(EP (n / 10)++[UInt8.ofNat (48+n % 10)]).getD 0 0=(EP (n / 10)).getD 0 0:=by
         cases hd:EP (n / 10) with
         | nil=>exact (i3 hd).elim
         | cons x xs=>rfl
       rw[this];exact i4 (by omega)
theorem Abo:∀(k n:Nat),10 ^ k<=n->k+1<=(EP n).length
 | 0,n,h=>by
   by_cases h1:n<10
   . rw[Ek n h1];simp
   . rw[H9 n h1];simp
 | k+1,n,h=>by
   have h1:¬n<10:=by rw[Nat.pow_succ] at h;have:=Nat.one_le_pow k 10 (by decide);omega
   have:=Abo k (n / 10) (by rw[Nat.pow_succ] at h;omega);rw[H9 n h1];simp;omega
theorem Sy(neg:Bool)(n:Nat)(h:n<1000000)(h0:neg=true->n≠0):numOf neg (EP n)=if n<=9999 then (if neg then 0 - (n:Int) else n,true) else (0,false):=by
 obtain ⟨h1,h2,h3,h4⟩:=Y4 5 n (by omega);have hlen:(EP n).length<=4↔n<=9999:=by
   constructor
   . intro h5;by_cases h6:n<=9999
     . exact h6
     . have:=Abo 4 n (by omega);omega
   . intro h5;exact Jc 3 n (by omega)
 cases hd:EP n with
 | nil=>exact (h3 hd).elim
 | cons b r=>
   rw[hd] at h1 h2 h4 hlen;simp only[Aq,A2] at hlen h4;by_cases h5:n<=9999
   . have hl:¬4<r.length+1:=by have:=hlen.2 h5;omega
     have hb:¬((b.toNat:Int)=48/\(neg=true∨1<r.length+1)):=by
       rintro ⟨h6,h7⟩;have hn0:n=0:=Classical.byContradiction λ h8=>h4 h8 h6;rcases h7 with h7 | h7
       . exact h0 h7 hn0
       . subst hn0;rw[Ek 0 (by decide)] at hd;cases hd;simp at h7
     rw[if_pos h5];simp only[numOf,hl,hb,or_self,A7,h2,AL,h1]
   . have hl:4<r.length+1:=by omega
     rw[if_neg h5];simp only[numOf,hl,true_or,AL]
theorem Aa2(n:Nat)(h:n<1000000):∃b r,EP n=b::r/\b≠45:=by
 obtain ⟨_,h2,h3,_⟩:=Y4 5 n (by omega);cases hd:EP n with
 | nil=>exact (h3 hd).elim
 | cons b r=>
   rw[hd] at h2;refine ⟨b,r,rfl,?_⟩;rintro rfl;simp[Py,Ut] at h2
theorem Ad9(n:Int)(h1:-1000000<n)(h2:n<1000000):OP (Pz n)=if -9999<=n/\n<=9999 then (n,true) else (0,false):=by
 unfold Pz;by_cases hn:n<0
 . rw[if_pos hn];have hp:Lv (45::EP (-n).toNat) [45]=true:=by simp[Lv]
   unfold OP;rw[if_pos hp];simp only[List.drop_succ_cons,List.drop_zero];rw[Sy true _ (by omega) (λ _=>by omega)];by_cases h3:-9999<=n
   . have h5:(-n).toNat<=9999:=by omega
     have h6:-9999<=n/\n<=9999:=by omega
     rw[if_pos h5,if_pos h6];simp;omega
   . have h5:¬(-n).toNat<=9999:=by omega
     have h6:¬(-9999<=n/\n<=9999):=by omega
     rw[if_neg h5,if_neg h6]
 . rw[if_neg hn];obtain ⟨b,r,hd,hb⟩:=Aa2 n.toNat (by omega);have hp:Lv (EP n.toNat) [45]=false:=by rw[hd];simp[Lv,hb]
   unfold OP;rw[hp];simp only[AJ,A7];rw[Sy false _ (by omega) (λ h=>by cases h)];by_cases h3:n<=9999
   . have h5:n.toNat<=9999:=by omega
     have h6:-9999<=n/\n<=9999:=by omega
     rw[if_pos h5,if_pos h6];simp;omega
   . have h5:¬n.toNat<=9999:=by omega
     have h6:¬(-9999<=n/\n<=9999):=by omega
     rw[if_neg h5,if_neg h6]
theorem S7(l:List Int)(x:Int)(hl:l.length<=10000000):
   BV prog 45 [.p (.sl (BT l)),.p (.int .i64 x)] [] λ h r=>h=[]/\r= .p (.bool (decide (x∈l))):=by
 refine BX func45 rfl YS (by simp[Tryz.f45]) ?_;simp only[go_sem,BS];refine B3 (λ i=>⟨[(0,.p (.sl (BT l))),(1,.p (.int .i64 x)),(5,.p (.int .i64 (i:Nat)))],[],18⟩) (λ i=>i<=l.length/\x∉l.take i) (λ i=>l.length - i) 0 ⟨AG _,by simp⟩ (Wk.forget (by simp[ZF,BT])) ?_;rintro i n ⟨hi,he⟩ ih;simp only[go_sem,BS];refine Cv (λ h2=>?_) (λ h2=>?_)
 . have Cj:i<l.length:=by simp at h2;omega
   have hw:=Cf i (by omega);have hg:=Cg l i Cj;have hx:l[i]?=some (l.getD i 0):=by simp[List.getD,Cj]
   have DH:(0:Int)<=(i:Int)/\(i:Int)<(l.length:Int):=by omega
   have Ft:=CJ l i 0 Cj;generalize l.getD i 0=y at*;simp only[go_sem,BS,Ab,hg,DH];cases hv:decide (y=x)
   . simp only[go_sem,hv,hw];refine ih (i+1) _ ⟨Cj,?_⟩ (by omega) ?_
     . rw[BM,hx];have:¬x=y:=λ e=>Ae hv e.symm;simp[he,this]
     . (refine Wk.forget ?_;simp[ZF,BT];done)
   . simp only[go_sem,hv];have hm:x∈l:=by rw[<-Ad hv];exact Ft
     simp[hm]
 . simp only[go_sem];have:i=l.length:=by simp at h2;omega
   subst this;rw[Aw] at he;simp[he]
theorem Ap7(l:List Int)(x:Int)(hl:l.length<=10000000):
   BV prog 45 [.ref 1000000 0 l.length l.length,.p (.int .i64 x)] [(1000000,.arr 3 1 (BT l))] λ h r=>h=[(1000000,.arr 3 1 (BT l))]/\r= .p (.bool (decide (x∈l))):=by
 refine BX func45 rfl YS (by simp[Tryz.f45]) ?_;simp only[go_sem,BS];refine B3 (λ i=>⟨[(0,.ref 1000000 0 l.length l.length),(1,.p (.int .i64 x)),(5,.p (.int .i64 (i:Nat)))],[(1000000,.arr 3 1 (BT l))],18⟩) (λ i=>i<=l.length/\x∉l.take i) (λ i=>l.length - i) 0 ⟨AG _,by simp⟩ (Wk.forget (by simp[ZF,BT])) ?_;rintro i n ⟨hi,he⟩ ih;simp only[go_sem,BS];refine Cv (λ h2=>?_) (λ h2=>?_)
 . have Cj:i<l.length:=by simp at h2;omega
   have hw:=Cf i (by omega);have hg:=Cg l i Cj;have hx:l[i]?=some (l.getD i 0):=by simp[List.getD,Cj]
   have DH:(0:Int)<=(i:Int)/\(i:Int)<(l.length:Int):=by omega
   have Ft:=CJ l i 0 Cj;generalize l.getD i 0=y at*;simp only[go_sem,BS,Ab,hg,DH];cases hv:decide (y=x)
   . simp only[go_sem,hv,hw];refine ih (i+1) _ ⟨Cj,?_⟩ (by omega) ?_
     . rw[BM,hx];have:¬x=y:=λ e=>Ae hv e.symm;simp[he,this]
     . (refine Wk.forget ?_;simp[ZF,BT];done)
   . simp only[go_sem,hv];have hm:x∈l:=by rw[<-Ad hv];exact Ft
     simp[hm]
 . simp only[go_sem];have:i=l.length:=by simp at h2;omega
   subst this;rw[Aw] at he;simp[he]
theorem MJ(l:List Int)(x:Int)(hl:l.length<=10000000):
   BV prog 102 [.p (.sl (BT l)),.p (.int .i64 x)] [] λ h r=>h=[]/\r= .p (.sl (BT (Kg l x))):=by
 refine BX func102 rfl Ag0 (by simp[Tryz.f102]) ?_;simp only[go_sem,BS];refine B3 (λ q:Nat×Bool×List Int=>⟨[(0,.p (.sl (BT l))),(1,.p (.int .i64 x)),(5,.ref 27 0 q.2.2.length q.2.2.length),(6,.p (.bool q.2.1)),(7,.p (.int .i64 (q.1:Nat)))],[(27,.arr 3 1 (BT q.2.2))],42⟩)
   (λ q=>q.1<=l.length/\q.2.2.length<=q.1+q.2.1.toNat/\q.2.2++(if q.2.1 then l.drop q.1 else Kg (l.drop q.1) x)=Kg l x) (λ q=>l.length - q.1) (0,false,[]) ⟨AG _,by simp,by simp⟩ ((Wk.nil (t:=5) (q:=27) (sz:=1) 3 rfl rfl (by decide)).trans (Wk.forget (by simp[ZF,BT]))) ?_
 rintro ⟨i,dn,acc⟩ n ⟨hi,ha,he⟩ ih;simp only at hi ha he;simp only[go_sem,BS];refine Cv (λ h2=>?_) (λ h2=>?_)
 . have Cj:i<l.length:=by simp at h2;omega
   have hw:=Cf i (by omega);have hg:=Cg l i Cj;have DH:(0:Int)<=(i:Int)/\(i:Int)<(l.length:Int):=by omega
   rw[D1 l i 0 Cj] at he;generalize l.getD i 0=y at*;cases dn
   . cases hv:decide (x<y)
     . have hv':¬x<y:=Ae hv;simp only[go_sem,BS,Ab,hg,DH,hv,hv'];refine ⟨⟨EN _ _ rfl,by simp at ha;omega⟩,?_⟩;simp only[go_sem,hw];refine ih (i+1,false,acc++[y]) _ ⟨Cj,by simp at ha ⊢;omega,?_⟩ (by simp only;omega) ?_
       . rw[<-he];simp[Kg,hv']
       . (refine Wk.forget ?_;simp[ZF,Fo,BS];done)
     . have hv':x<y:=Ad hv;simp only[go_sem,BS,Ab,hg,DH,hv,hv'];refine ⟨⟨EN _ _ rfl,by simp at ha;omega⟩,⟨EN _ _ rfl,by simp at ha;simp[BS];omega⟩,?_⟩;simp only[go_sem,hw];refine ih (i+1,true,acc++[x]++[y]) _ ⟨Cj,by simp at ha ⊢;omega,?_⟩ (by simp only;omega) ?_
       . rw[<-he];simp[Kg,hv']
       . (refine Wk.forget ?_;simp[ZF,BT];done)
   . simp only[go_sem,BS,Ab,hg,DH];refine ⟨⟨EN _ _ rfl,by simp at ha;omega⟩,?_⟩;simp only[go_sem,hw];refine ih (i+1,true,acc++[y]) _ ⟨Cj,by simp at ha ⊢;omega,?_⟩ (by simp only;omega) ?_
     . rw[<-he];simp
     . (refine Wk.forget ?_;simp[ZF,Fo,BS];done)
 . have:i=l.length:=by simp at h2;omega
   subst this;rw[Bv] at he;cases dn
   . simp only[go_sem,BS];refine ⟨⟨EN _ _ rfl,by simp at ha;omega⟩,?_⟩;refine BU ?_;simp only[go_sem];rw[<-he];(try rw[AV (by simp[BS])]);simp[Kg,BT]
   . simp only[go_sem];refine BU ?_;simp only[go_sem];rw[<-he];simp[MS,BS]
def IX(nb i:Nat)(l:List Int)(k:Nat):Prop:=0<=l.getD k 0/\l.getD k 0<(nb:Int)/\l.getD k 0≠(i:Int)/\(0<k->l.getD (k - 1) 0<l.getD k 0)
instance (nb i:Nat) (l:List Int) (k:Nat):Decidable (IX nb i l k):=by unfold IX;exact inferInstance
def Iv(nb i:Nat)(l:List Int):Prop:=∀k,k<l.length->IX nb i l k
instance (nb i:Nat) (l:List Int):Decidable (Iv nb i l):=by unfold Iv;exact inferInstance
def DI(g:List (List Int)):Prop:=g.length<=24/\∀i,i<g.length->Iv g.length i (g.getD i [])
instance (g:List (List Int)):Decidable (DI g):=by unfold DI;exact inferInstance
def Sb(g:List (List Int)):Prop:=g.length<=10000000/\∀r∈g,r.length<=10000000
theorem Hz(m:Nat)(h:m<9223372036854775807):IntKind.i64.wrap (((m+1:Nat):Int) - 1)=(m:Int):=by rw[BY]<;>omega
theorem Ac4(g:List (List Int))(hg:Sb g):BV prog 119 [.p (.sl (Cw g))] [] λ h r=>h=[]/\r= .p (.bool (decide (DI g))):=by
 obtain ⟨Qu,s9⟩:=hg;refine BX func119 rfl Afj (by simp[Tryz.f119]) ?_;simp only[go_sem,Ca];refine Cv (λ h1=>?_) (λ h1=>?_)
 . simp only[go_sem];rw[Ah (λ hp=>?_)];have:=hp.1;simp at h1;omega
 have hlen:g.length<=24:=by simp at h1;omega
 simp only[go_sem];refine B3 (λ i:Nat=>⟨[(0,.p (.sl (Cw g))),(3,.p (.int .i64 (i:Nat)))],[],60⟩) (λ i=>i<=g.length/\∀j,j<i->Iv g.length j (g.getD j [])) (λ i=>g.length - i) 0 ⟨AG _,λ j hj=>absurd hj (A3 _)⟩ (Wk.forget (by simp[ZF])) ?_;rintro i n ⟨hi,Me⟩ ih;simp only[go_sem,Ca];refine Cv (λ h2=>?_) (λ h2=>?_);rotate_left
 . simp only[go_sem];have:i=g.length:=by simp at h2;omega
   subst this;rw[Ag ⟨hlen,Me⟩]
 have Cj:i<g.length:=by simp at h2;omega
 have hw:=Cf i (by omega);have hrl:=s9 _ (CJ g i [] Cj);have Hw:=H8 g i Cj;have Jp:¬Iv g.length i (g.getD i [])->decide (DI g)=false:=λ h=>Ah (λ hp=>h (hp.2 i Cj));have Nu:Iv g.length i (g.getD i [])->∀j,j<i+1->Iv g.length j (g.getD j []):=λ h j hj=>by
   rcases AF.1 hj with h3 | rfl
   . exact Me j h3
   . exact h
 generalize g.getD i []=r at hrl Hw Jp Nu;have DH:(0:Int)<=(i:Int)/\(i:Int)<(g.length:Int):=by omega
 simp only[go_sem];refine B3 (λ k:Nat=>⟨[(0,.p (.sl (Cw g))),(3,.p (.int .i64 (i:Nat))),(4,.p (.int .i64 (k:Nat)))],[],60⟩) (λ k=>k<=r.length/\∀j,j<k->IX g.length i r j) (λ k=>r.length - k) 0 ⟨AG _,λ j hj=>absurd hj (A3 _)⟩ (Wk.forget (by simp[ZF])) ?_;rintro k n2 ⟨hk,Q8⟩ JL;simp only[go_sem,Ca,BS,Ab,Hw,DH];refine Cv (λ h3=>?_) (λ h3=>?_);rotate_left
 . have:k=r.length:=by simp at h3;omega
   subst this;simp only[go_sem,hw];refine ih (i+1) _ ⟨Cj,Nu Q8⟩ (by omega) ?_
   (refine Wk.forget ?_;simp[ZF];done)
 have Qp:k<r.length:=by simp at h3;omega
 have HG:=Cf k (by omega);have Ou:=Cg r k Qp;have Ho:(0:Int)<=(k:Int)/\(k:Int)<(r.length:Int):=by omega
 have Ij:IX g.length i r k↔(0<=r.getD k 0/\r.getD k 0<(g.length:Int)/\r.getD k 0≠(i:Int)/\(0<k->r.getD (k - 1) 0<r.getD k 0)):=Iff.rfl;have Dn:¬IX g.length i r k->decide (DI g)=false:=λ h=>Jp (λ hp=>h (hp k Qp));have SW:IX g.length i r k->∀j,j<k+1->IX g.length i r j:=λ h j hj=>by
   rcases AF.1 hj with h4 | rfl
   . exact Q8 j h4
   . exact h
 rcases k with _ | m
 . have hz0:(0:Int)<(r.length:Int):=by omega
   have hwz:IntKind.i64.wrap (0+1)=1:=rfl;generalize r.getD 0 0=y at Ou Ij;cases c1:decide (y<0);rotate_left
   . simp only[go_sem,Ca,BS,Ab,Hw,DH,Ou,hz0,c1];rw[Dn (λ hp=>by have:=Ij.1 hp;simp at c1;omega)]
   cases c2:decide ((g.length:Int)<=y);rotate_left
   . simp only[go_sem,Ca,BS,Ab,Hw,DH,Ou,hz0,c1,c2];rw[Dn (λ hp=>by have:=Ij.1 hp;simp at c2;omega)]
   cases c3:decide (y=(i:Int));rotate_left
   . simp only[go_sem,Ca,BS,Ab,Hw,DH,Ou,hz0,c1,c2,c3];rw[Dn (λ hp=>by have:=Ij.1 hp;simp at c3;omega)]
   simp only[go_sem,Ca,BS,Ab,Hw,DH,Ou,hz0,c1,c2,c3,hwz];refine JL (0+1) _ ⟨Qp,SW (Ij.2 (by simp at c1 c2 c3;exact ⟨by omega,by omega,c3,λ h=>absurd h (Nat.lt_irrefl _)⟩))⟩ (by omega) ?_
   (refine Wk.forget ?_;simp[ZF];done)
 . have hmt:m<r.length:=by omega
   have hgm:=Cg r m hmt;have hm0:(0:Int)<=(m:Int)/\(m:Int)<(r.length:Int):=by omega
   have hwp:=Hz m (by omega);have hkp:(0:Int)<((m+1:Nat):Int):=by omega
   rw[show m+1 - 1=m from rfl] at Ij;generalize r.getD (m+1) 0=y at Ou Ij;generalize r.getD m 0=z at hgm Ij;cases c1:decide (y<0);rotate_left
   . simp only[go_sem,Ca,BS,Ab,Hw,DH,Ou,Ho,c1];rw[Dn (λ hp=>by have:=Ij.1 hp;simp at c1;omega)]
   cases c2:decide ((g.length:Int)<=y);rotate_left
   . simp only[go_sem,Ca,BS,Ab,Hw,DH,Ou,Ho,c1,c2];rw[Dn (λ hp=>by have:=Ij.1 hp;simp at c2;omega)]
   cases c3:decide (y=(i:Int));rotate_left
   . simp only[go_sem,Ca,BS,Ab,Hw,DH,Ou,Ho,c1,c2,c3];rw[Dn (λ hp=>by have:=Ij.1 hp;simp at c3;omega)]
   cases c4:decide (y<=z);rotate_left
   . simp only[go_sem,Ca,BS,Ab,Hw,DH,Ou,Ho,hgm,hm0,hwp,hkp,c1,c2,c3,c4];rw[Dn (λ hp=>by have:=(Ij.1 hp).2.2.2 (by omega);simp at c4;omega)]
   simp only[go_sem,Ca,BS,Ab,Hw,DH,Ou,Ho,hgm,hm0,hwp,hkp,c1,c2,c3,c4,HG];refine JL (m+1+1) _ ⟨Qp,SW (Ij.2 (by simp at c1 c2 c3 c4;exact ⟨by omega,by omega,c3,λ _=>by omega⟩))⟩ (by omega) ?_
   (refine Wk.forget ?_;simp[ZF];done)
def T2(b:EH):Prop:=-9999<=b.x/\b.x<=9999/\-9999<=b.y/\b.y<=9999
instance (b:EH):Decidable (T2 b):=by unfold T2;exact inferInstance
def HS(n:Nt):Prop:=1<=n.blocks.length/\n.blocks.length<=24/\n.next.length=n.blocks.length/\∀i,i<n.blocks.length->T2 (n.blocks.getD i DB)/\(n.next.getD i []).length<=4/\Iv n.blocks.length i (n.next.getD i [])
instance (n:Nt):Decidable (HS n):=by unfold HS;exact inferInstance
theorem Agt(n:Nt)(hb:n.blocks.length<=10000000)(hg:Sb n.next):BV prog 83 [.agg n.cs] [] λ h r=>h=[]/\r= .p (.bool (decide (HS n))):=by
 obtain ⟨Qu,s9⟩:=hg;obtain ⟨bl,nx,sp,rb,cq,ca,cd,cp⟩:=n;simp only at hb Qu s9;refine BX func83 rfl Akr (by simp[Tryz.f83]) ?_;cases d1:decide ((bl.length:Int)<1);rotate_left
 . simp only[go_sem,Nt.cs,Ce,Ca,d1];rw[Ah (λ hp=>by have:=hp.1;have hd:=Ad d1;simp only at this;omega)]
 cases d2:decide (24<(bl.length:Int));rotate_left
 . simp only[go_sem,Nt.cs,Ce,Ca,d1,d2];rw[Ah (λ hp=>by have:=hp.2.1;simp at d2;simp only at this;omega)]
 cases d3:decide ((nx.length:Int)=(bl.length:Int))
 . simp only[go_sem,Nt.cs,Ce,Ca,d1,d2,d3];rw[Ah (λ hp=>by have:=hp.2.2.1;have hd:=Ae d3;simp only at this;omega)]
 have hl1:1<=bl.length:=by have:=Ae d1;omega
 have S2:bl.length<=24:=by have:=Ae d2;omega
 have hl3:nx.length=bl.length:=by have:=Ad d3;omega
 simp only[go_sem,Nt.cs,Ce,Ca,d1,d2,d3];clear d1 d2 d3;refine B3 (λ i:Nat=>⟨[(1,.ptr 1 0),(3,.p (.int .i64 (i:Nat)))],[(1,.box (Nt.cs ⟨bl,nx,sp,rb,cq,ca,cd,cp⟩))],114⟩) (λ i=>i<=bl.length/\∀j,j<i->T2 (bl.getD j DB)/\(nx.getD j []).length<=4/\Iv bl.length j (nx.getD j [])) (λ i=>bl.length - i) 0 ⟨AG _,λ j hj=>absurd hj (A3 _)⟩ (Wk.forget (by simp[ZF,Nt.cs])) ?_;rintro i n ⟨hi,Me⟩ ih;simp only[go_sem,Nt.cs,Ce];refine Cv (λ h2=>?_) (λ h2=>?_);rotate_left
 . simp only[go_sem];have:i=bl.length:=by simp at h2;omega
   subst this;rw[Ag ⟨hl1,S2,hl3,Me⟩]
 have Cj:i<bl.length:=by simp at h2;omega
 have hw:=Cf i (by omega);have hrl:=s9 _ (CJ nx i [] (by omega));have Hw:=H8 nx i (by omega);have hgb:=YY bl i Cj;have Ra:¬(T2 (bl.getD i DB)/\(nx.getD i []).length<=4/\Iv bl.length i (nx.getD i []))->decide (HS ⟨bl,nx,sp,rb,cq,ca,cd,cp⟩)=false:=λ h=>Ah (λ hp=>h (hp.2.2.2 i Cj));have s8:(T2 (bl.getD i DB)/\(nx.getD i []).length<=4/\Iv bl.length i (nx.getD i []))->∀j,j<i+1->T2 (bl.getD j DB)/\(nx.getD j []).length<=4/\Iv bl.length j (nx.getD j []):=λ h j hj=>by
   rcases AF.1 hj with h3 | rfl
   . exact Me j h3
   . exact h
 generalize nx.getD i []=r at hrl Hw Ra s8;generalize bl.getD i DB=b at hgb Ra s8;have DH:(0:Int)<=(i:Int)/\(i:Int)<(nx.length:Int):=by omega
 have Nr:(i:Int)<(bl.length:Int):=by omega
 cases c1:decide (b.x< -9999);rotate_left
 . simp only[go_sem,Ca,Ce,BS,Nt.cs,Ab,Hw,hgb,DH,Nr,c1];rw[Ra (λ hp=>by have:=hp.1.1;simp at c1;omega)]
 cases c2:decide (9999<b.x);rotate_left
 . simp only[go_sem,Ca,Ce,BS,Nt.cs,Ab,Hw,hgb,DH,Nr,c1,c2];rw[Ra (λ hp=>by have:=hp.1.2.1;simp at c2;omega)]
 cases c3:decide (b.y< -9999);rotate_left
 . simp only[go_sem,Ca,Ce,BS,Nt.cs,Ab,Hw,hgb,DH,Nr,c1,c2,c3];rw[Ra (λ hp=>by have:=hp.1.2.2.1;simp at c3;omega)]
 cases c4:decide (9999<b.y);rotate_left
 . simp only[go_sem,Ca,Ce,BS,Nt.cs,Ab,Hw,hgb,DH,Nr,c1,c2,c3,c4];rw[Ra (λ hp=>by have:=hp.1.2.2.2;simp at c4;omega)]
 cases c5:decide (4<(r.length:Int));rotate_left
 . simp only[go_sem,Ca,Ce,BS,Nt.cs,Ab,Hw,hgb,DH,Nr,c1,c2,c3,c4,c5];rw[Ra (λ hp=>by have:=hp.2.1;simp at c5;omega)]
 simp only[go_sem,Ca,Ce,BS,Nt.cs,Ab,Hw,hgb,DH,Nr,c1,c2,c3,c4,c5];have hxy:T2 b:=by simp at c1 c2 c3 c4;exact ⟨c1,c2,c3,c4⟩
 have hr4:r.length<=4:=by simp at c5;omega
 clear c1 c2 c3 c4 c5;have Jp:¬Iv bl.length i r->decide (HS ⟨bl,nx,sp,rb,cq,ca,cd,cp⟩)=false:=λ h=>Ra (λ hp=>h hp.2.2);have Nu:Iv bl.length i r->∀j,j<i+1->T2 (bl.getD j DB)/\(nx.getD j []).length<=4/\Iv bl.length j (nx.getD j []):=λ h=>s8 ⟨hxy,hr4,h⟩;refine B3 (λ k:Nat=>⟨[(1,.ptr 1 0),(3,.p (.int .i64 (i:Nat))),(4,.ptr 4 0),(5,.p (.int .i64 (k:Nat)))],[(1,.box (Nt.cs ⟨bl,nx,sp,rb,cq,ca,cd,cp⟩)),(4,.box [.p (.str b.name),.p (.int .i64 b.x),.p (.int .i64 b.y)])],114⟩) (λ k=>k<=r.length/\∀j,j<k->IX bl.length i r j) (λ k=>r.length - k) 0 ⟨AG _,λ j hj=>absurd hj (A3 _)⟩ (Wk.forget (by simp[ZF,Nt.cs])) ?_;rintro k n2 ⟨hk,Q8⟩ JL;simp only[go_sem,Ca,Ce,BS,Nt.cs,Ab,Hw,DH,Nr];refine Cv (λ h3=>?_) (λ h3=>?_);rotate_left
 . have:k=r.length:=by simp at h3;omega
   subst this;simp only[go_sem,hw];refine ih (i+1) _ ⟨Cj,Nu Q8⟩ (by omega) ?_
   (refine Wk.forget ?_;simp[ZF,Nt.cs];done)
 have Qp:k<r.length:=by simp at h3;omega
 have HG:=Cf k (by omega);have Ou:=Cg r k Qp;have Ho:(0:Int)<=(k:Int)/\(k:Int)<(r.length:Int):=by omega
 have Ij:IX bl.length i r k↔(0<=r.getD k 0/\r.getD k 0<(bl.length:Int)/\r.getD k 0≠(i:Int)/\(0<k->r.getD (k - 1) 0<r.getD k 0)):=Iff.rfl;have Dn:¬IX bl.length i r k->decide (HS ⟨bl,nx,sp,rb,cq,ca,cd,cp⟩)=false:=λ h=>Jp (λ hp=>h (hp k Qp));have SW:IX bl.length i r k->∀j,j<k+1->IX bl.length i r j:=λ h j hj=>by
   rcases AF.1 hj with h4 | rfl
   . exact Q8 j h4
   . exact h
 rcases k with _ | m
 . have hz0:(0:Int)<(r.length:Int):=by omega
   have hwz:IntKind.i64.wrap (0+1)=1:=rfl;generalize r.getD 0 0=y at Ou Ij;cases c1:decide (y<0);rotate_left
   . simp only[go_sem,Ca,Ce,BS,Nt.cs,Ab,Hw,DH,Nr,Ou,hz0,c1];rw[Dn (λ hp=>by have:=Ij.1 hp;simp at c1;omega)]
   cases c2:decide ((bl.length:Int)<=y);rotate_left
   . simp only[go_sem,Ca,Ce,BS,Nt.cs,Ab,Hw,DH,Nr,Ou,hz0,c1,c2];rw[Dn (λ hp=>by have:=Ij.1 hp;simp at c2;omega)]
   cases c3:decide (y=(i:Int));rotate_left
   . simp only[go_sem,Ca,Ce,BS,Nt.cs,Ab,Hw,DH,Nr,Ou,hz0,c1,c2,c3];rw[Dn (λ hp=>by have:=Ij.1 hp;simp at c3;omega)]
   simp only[go_sem,Ca,Ce,BS,Nt.cs,Ab,Hw,DH,Nr,Ou,hz0,c1,c2,c3,hwz];refine JL (0+1) _ ⟨Qp,SW (Ij.2 (by simp at c1 c2 c3;exact ⟨by omega,by omega,c3,λ h=>absurd h (Nat.lt_irrefl _)⟩))⟩ (by omega) ?_
   (refine Wk.forget ?_;simp[ZF,Nt.cs];done)
 . have hmt:m<r.length:=by omega
   have hgm:=Cg r m hmt;have hm0:(0:Int)<=(m:Int)/\(m:Int)<(r.length:Int):=by omega
   have hwp:=Hz m (by omega);have hkp:(0:Int)<((m+1:Nat):Int):=by omega
   rw[show m+1 - 1=m from rfl] at Ij;generalize r.getD (m+1) 0=y at Ou Ij;generalize r.getD m 0=z at hgm Ij;cases c1:decide (y<0);rotate_left
   . simp only[go_sem,Ca,Ce,BS,Nt.cs,Ab,Hw,DH,Nr,Ou,Ho,c1];rw[Dn (λ hp=>by have:=Ij.1 hp;simp at c1;omega)]
   cases c2:decide ((bl.length:Int)<=y);rotate_left
   . simp only[go_sem,Ca,Ce,BS,Nt.cs,Ab,Hw,DH,Nr,Ou,Ho,c1,c2];rw[Dn (λ hp=>by have:=Ij.1 hp;simp at c2;omega)]
   cases c3:decide (y=(i:Int));rotate_left
   . simp only[go_sem,Ca,Ce,BS,Nt.cs,Ab,Hw,DH,Nr,Ou,Ho,c1,c2,c3];rw[Dn (λ hp=>by have:=Ij.1 hp;simp at c3;omega)]
   cases c4:decide (y<=z);rotate_left
   . simp only[go_sem,Ca,Ce,BS,Nt.cs,Ab,Hw,DH,Nr,Ou,Ho,hgm,hm0,hwp,hkp,c1,c2,c3,c4];rw[Dn (λ hp=>by have:=(Ij.1 hp).2.2.2 (by omega);simp at c4;omega)]
   simp only[go_sem,Ca,Ce,BS,Nt.cs,Ab,Hw,DH,Nr,Ou,Ho,hgm,hm0,hwp,hkp,c1,c2,c3,c4,HG];refine JL (m+1+1) _ ⟨Qp,SW (Ij.2 (by simp at c1 c2 c3 c4;exact ⟨by omega,by omega,c3,λ _=>by omega⟩))⟩ (by omega) ?_
   (refine Wk.forget ?_;simp[ZF,Nt.cs];done)
def C2(n:Nt):List (List UInt8):=n.blocks.map EH.name++n.spurs.map CX.name
def E7(n:Nt):Prop:=∀i,i<(C2 n).length->CG ((C2 n).getD i [])=true/\∀k,k<i->(C2 n).getD i []≠(C2 n).getD k []
instance (n:Nt):Decidable (E7 n):=by unfold E7;exact inferInstance
theorem Nk{α β:Type}(f:α->β)(l:List α)(i:Nat)(x:α)(h:i<l.length):(l.take (i+1)).map f=(l.take i).map f++[f (l.getD i x)]:=by
 rw[BM,Bb,List.getD,Ax h];rfl
theorem Ait(n:Nt)(hb:n.blocks.length<=10000000)(hs:n.spurs.length<=10000000):BV prog 84 [.agg n.cs] [] λ h r=>h=[]/\r= .p (.bool (decide (E7 n))):=by
 generalize hL:C2 n=L;have hLl:L.length=n.blocks.length+n.spurs.length:=by rw[<-hL];simp[C2]
 refine BX func84 rfl Akq (by simp[Tryz.f84]) ?_;simp only[go_sem,Nt.cs];refine B3 (λ i:Nat=>⟨[(1,.ptr 1 0),(3,.ref 23 0 i i),(4,.p (.int .i64 (i:Nat)))],[(1,.box (Nt.cs n)),(23,.arr 9 1 (CD ((n.blocks.take i).map EH.name)))],66⟩) (λ i=>i<=n.blocks.length) (λ i=>n.blocks.length - i) 0 (AG _) ((Wk.nil (t:=3) (q:=23) (sz:=1) 9 rfl rfl (by decide)).trans (Wk.forget (by simp[ZF,Nt.cs,CD]))) ?_;rintro i m hi ih;have hll:(CD ((n.blocks.take i).map EH.name)).length=i:=by rw[B1];simp;omega
 simp only[go_sem,Nt.cs,Ce];refine Cv (λ h2=>?_) (λ h2=>?_)
 . have Cj:i<n.blocks.length:=by simp at h2;omega
   have hw:=Cf i (by omega);have hgb:=YY n.blocks i Cj;have DH:(0:Int)<=(i:Int)/\(i:Int)<(n.blocks.length:Int):=by omega
   simp only[go_sem,Ce,Nt.cs,Ab,hgb,DH,hll];refine ⟨⟨EN _ _ rfl,by omega⟩,?_⟩;simp only[go_sem,hw];refine ih (i+1) _ Cj (by omega) ?_
   (refine Wk.forget ?_;simp[ZF,Nt.cs,Nk EH.name n.blocks i DB Cj,EV,hll,-List.map_take];done)
 have:i=n.blocks.length:=by simp at h2;omega
 subst this;clear ih hll;simp only[go_sem];refine B3 (λ i:Nat=>⟨[(1,.ptr 1 0),(3,.ref 23 0 (n.blocks.length+i) (n.blocks.length+i)),(5,.p (.int .i64 (i:Nat)))],[(1,.box (Nt.cs n)),(23,.arr 9 1 (CD (n.blocks.map EH.name++(n.spurs.take i).map CX.name)))],66⟩) (λ i=>i<=n.spurs.length) (λ i=>n.spurs.length - i) 0 (AG _) (Wk.forget (by simp[ZF,Nt.cs,CD])) ?_;rintro i m2 EG ih;have hll:(CD (n.blocks.map EH.name++(n.spurs.take i).map CX.name)).length=n.blocks.length+i:=by rw[B1];simp;omega
 simp only[go_sem,Nt.cs,Cm];refine Cv (λ h2=>?_) (λ h2=>?_)
 . have Cj:i<n.spurs.length:=by simp at h2;omega
   have hw:=Cf i (by omega);have hgb:=FH n.spurs i Cj;have DH:(0:Int)<=(i:Int)/\(i:Int)<(n.spurs.length:Int):=by omega
   simp only[go_sem,Cm,Nt.cs,Ab,hgb,DH,hll];refine ⟨⟨EN _ _ rfl,by omega⟩,?_⟩;simp only[go_sem,hw];refine ih (i+1) _ Cj (by omega) ?_
   (refine Wk.forget ?_;simp[ZF,Nt.cs,Nk CX.name n.spurs i B8 Cj,EV,<-List.append_assoc,Nat.add_assoc,hll,-List.map_take];done)
 have:i=n.spurs.length:=by simp at h2;omega
 subst this;clear ih hll;rw[Aw,show n.blocks.map EH.name++n.spurs.map CX.name=L from hL,<-hLl];simp only[go_sem];have hP:E7 n↔∀i,i<L.length->CG (L.getD i [])=true/\∀k,k<i->L.getD i []≠L.getD k []:=by unfold E7;rw[hL]
 refine B3 (λ i:Nat=>⟨[(3,.ref 23 0 L.length L.length),(6,.p (.int .i64 (i:Nat)))],[(23,.arr 9 1 (CD L))],66⟩) (λ i=>i<=L.length/\∀j,j<i->CG (L.getD j [])=true/\∀k,k<j->L.getD j []≠L.getD k []) (λ i=>L.length - i) 0 ⟨AG _,λ j hj=>absurd hj (A3 _)⟩ (Wk.forget (by simp[ZF,Nt.cs,CD])) ?_;rintro i m3 ⟨hi3,DZ⟩ ih;simp only[go_sem,B1];refine Cv (λ h3=>?_) (λ h3=>?_);rotate_left
 . simp only[go_sem];have:i=L.length:=by simp at h3;omega
   subst this;rw[Ag (hP.2 DZ)];try simp
 have Cj:i<L.length:=by simp at h3;omega
 have hw:=Cf i (by omega);have Hw:=DW L i Cj;have DH:(0:Int)<=(i:Int)/\(i:Int)<(L.length:Int):=by omega
 simp only[go_sem,B1,Ab,Hw,DH];refine Cq ((Aiu _)) ?_;cases hn:CG (L.getD i [])
 . simp only[go_sem,hn];rw[Ah (λ hp=>by have:=(hP.1 hp i Cj).1;rw[hn] at this;cases this)];try simp
 simp only[go_sem,hn];refine B3 (λ k:Nat=>⟨[(3,.ref 23 0 L.length L.length),(6,.p (.int .i64 (i:Nat))),(7,.p (.int .i64 (k:Nat)))],[(23,.arr 9 1 (CD L))],66⟩) (λ k=>k<=i/\∀j,j<k->L.getD i []≠L.getD j []) (λ k=>i - k) 0 ⟨AG _,λ j hj=>absurd hj (A3 _)⟩ (Wk.forget (by simp[ZF,CD])) ?_;rintro k m4 ⟨hk,Dn⟩ JL;simp only[go_sem];refine Cv (λ h4=>?_) (λ h4=>?_)
 . have Qp:k<i:=by simp at h4;omega
   have HG:=Cf k (by omega);have Ou:=DW L k (by omega);have Ho:(0:Int)<=(k:Int)/\(k:Int)<(L.length:Int):=by omega
   simp only[go_sem];refine Di [(23,.arr 9 1 (CD L))] mixed (p:=[(0,0),(1,0),(2,0),(3,0),(4,0),(5,0),(6,0),(7,0),(8,0)]) (by kernel_rfl) (by simp[C5,get]) ?_;simp only[go_sem,B1,Ab,Hw,DH,Ou,Ho];cases he:decide (L.getD i []=L.getD k [])
   . simp only[go_sem,he,HG];refine JL (k+1) _ ⟨Qp,λ j hj=>?_⟩ (by omega) ?_
     . rcases AF.1 hj with h5 | rfl
       . exact Dn j h5
       . exact Ae he
     . (refine Wk.forget ?_;simp[ZF];done)
   . simp only[go_sem,he];rw[Ah (λ hp=>(hP.1 hp i Cj).2 k Qp (Ad he))];try simp
 . have:k=i:=by simp at h4;omega
   subst this;simp only[go_sem,hw];refine ih (k+1) _ ⟨Cj,λ j hj=>?_⟩ (by omega) ?_
   . rcases AF.1 hj with h5 | rfl
     . exact DZ j h5
     . exact ⟨hn,Dn⟩
   . (refine Wk.forget ?_;simp[ZF];done)
def HJ(cq ca cd cp:Int):Prop:=1<=cq/\cq<=8/\0<=ca/\ca<=4/\0<=cd/\cd<=3/\1<=cp/\cp<=16
instance (cq ca cd cp:Int):Decidable (HJ cq ca cd cp):=by unfold HJ;exact inferInstance
theorem Uw(cq ca cd cp:Int):BV prog 85 [.agg [.p (.int .i64 cq),.p (.int .i64 ca),.p (.int .i64 cd),.p (.int .i64 cp)]] [] λ h r=>h=[]/\r= .p (.bool (decide (HJ cq ca cd cp))):=by
 refine BX func85 rfl Akp (by simp[Tryz.f85]) ?_;by_cases h1:1<=cq;rotate_left
 . simp only[go_sem,h1];simp[HJ,h1]
 by_cases h2:cq<=8;rotate_left
 . simp only[go_sem,h1,h2];simp[HJ,h2]
 by_cases h3:0<=ca;rotate_left
 . simp only[go_sem,h1,h2,h3];simp[HJ,h3]
 by_cases h4:ca<=4;rotate_left
 . simp only[go_sem,h1,h2,h3,h4];simp[HJ,h4]
 by_cases h5:0<=cd;rotate_left
 . simp only[go_sem,h1,h2,h3,h4,h5];simp[HJ,h5]
 by_cases h6:cd<=3;rotate_left
 . simp only[go_sem,h1,h2,h3,h4,h5,h6];simp[HJ,h6]
 by_cases h7:1<=cp;rotate_left
 . simp only[go_sem,h1,h2,h3,h4,h5,h6,h7];simp[HJ,h7]
 by_cases h8:cp<=16
 . simp only[go_sem,h1,h2,h3,h4,h5,h6,h7,h8];simp[HJ,h1,h2,h3,h4,h5,h6,h7,h8]
 . simp only[go_sem,h1,h2,h3,h4,h5,h6,h7,h8];simp[HJ,h8]
theorem Hi(l:List Bool):(CW l).length=l.length:=by simp[CW]
theorem D7{α:Type}(l:List α)(i j:Nat)(x y:α):(l.set i x).getD j y=if i=j/\i<l.length then x else l.getD j y:=by
 simp only[List.getD,BN];by_cases h:i=j
 . subst h;by_cases h2:i<l.length
   . simp[h2]
   . simp[h2]
 . simp[h]
def JY(g:List (List Int))(sh:List Bool)(d:Int)(v:Nat)(o:List Int):List Int:=
 if sh.getD v false=true∨0<=o.getD v 0 then o else if (g.getD v []).any (λ w=>decide (o.getD w.toNat 0=d - 1))=true then o.set v d else o
def IL(g:List (List Int))(sh:List Bool)(d:Int):Nat->Nat->List Int->List Int
 | 0,_,o=>o
 | f+1,v,o=>IL g sh d f (v+1) (JY g sh d v o)
def Jw(g:List (List Int))(sh:List Bool):Nat->Nat->List Int->List Int
 | 0,_,o=>o
 | f+1,d,o=>Jw g sh f (d+1) (IL g sh d g.length 0 o)
def Dv(g:List (List Int))(sh:List Bool)(goal:Nat):List Int:=
 if sh.getD goal false=true then List.replicate g.length (-1) else Jw g sh (g.length - 1) 1 ((List.replicate g.length (-1)).set goal 0)
theorem Ac8(g:List (List Int))(sh:List Bool)(d:Int)(v:Nat)(o:List Int):(JY g sh d v o).length=o.length:=by
 unfold JY;split
 . rfl
 . split<;>simp
theorem UB(g:List (List Int))(sh:List Bool)(d:Int):∀(f v:Nat) (o:List Int),(IL g sh d f v o).length=o.length
 | 0,_,_=>rfl
 | f+1,v,o=>by rw[IL,UB g sh d f,Ac8]
theorem VJ(g:List (List Int))(sh:List Bool):∀(f d:Nat) (o:List Int),(Jw g sh f d o).length=o.length
 | 0,_,_=>rfl
 | f+1,d,o=>by rw[Jw,VJ g sh f,UB]
theorem VG(g:List (List Int))(sh:List Bool)(goal:Nat):(Dv g sh goal).length=g.length:=by
 unfold Dv;split
 . simp
 . rw[VJ];simp
def DP(g:List (List Int))(goal:Nat)(m:Int)(o:List Int):Prop:=
 o.length=g.length/\∀v,v<g.length->o.getD v 0=-1∨(o.getD v 0=0/\v=goal)∨(1<=o.getD v 0/\o.getD v 0<=m/\∃w∈g.getD v [],o.getD w.toNat 0=o.getD v 0 - 1)
theorem XK{g:List (List Int)}(hg:DI g){sh:List Bool}{goal:Nat}{d:Int}{v:Nat}{o:List Int}(hv:v<g.length)(hd:1<=d)(h:DP g goal d o):DP g goal d (JY g sh d v o):=by
 unfold JY;split
 . exact h
 rename_i h1;split
 . rename_i h2;obtain ⟨hl,hh⟩:=h;have Avy:o.getD v 0<0:=by
     rcases Int.lt_or_le (o.getD v 0) 0 with h3 | h3
     . exact h3
     . exact absurd (Or.inr h3) h1
   refine ⟨by simpa using hl,λ u hu=>?_⟩;rw[Bd] at h2;obtain ⟨w,hw,hwd⟩:=h2;have hwd:=Ad hwd;have E9:∀j,j<g.length->(o.set v d).getD j 0=if v=j then d else o.getD j 0:=λ j hj=>by
     rw[D7];by_cases e:v=j
     . rw[if_pos ⟨e,by omega⟩,if_pos e]
     . rw[if_neg (λ h=>e h.1),if_neg e]
   have Q9:∀u,u<g.length->∀w∈g.getD u [],0<=w/\w<(g.length:Int)/\w≠(u:Int):=λ u hu w hw=>by
     obtain ⟨k,hk,rfl⟩:=AA.1 hw;have:=hg.2 u hu k hk;unfold IX at this;have e1:(g.getD u []).getD k 0=(g.getD u [])[k]:=getD_eq hk;rw[e1] at this;exact ⟨this.1,this.2.1,this.2.2.1⟩
   rw[E9 u hu];by_cases e:v=u
   . subst e;rw[if_pos rfl];have h3:=Q9 v hv w hw;refine .inr (.inr ⟨hd,Int.le_refl _,w,hw,?_⟩);rw[E9 _ (by omega),if_neg (by omega)];exact hwd
   . rw[if_neg e];rcases hh u hu with h3 | h3 | ⟨h3,h4,w2,h5,h6⟩
     . exact .inl h3
     . exact .inr (.inl h3)
     . refine .inr (.inr ⟨h3,h4,w2,h5,?_⟩);have h7:=Q9 u hu w2 h5;rw[E9 _ (by omega)];by_cases e2:v=w2.toNat
       . rw[e2] at Avy;omega
       . rw[if_neg e2];exact h6
 . exact h
theorem R1{g:List (List Int)}(hg:DI g){sh:List Bool}{goal:Nat}{d:Int}(hd:1<=d):∀(f v:Nat) (o:List Int),v+f<=g.length->DP g goal d o->DP g goal d (IL g sh d f v o)
 | 0,_,_,_,h=>h
 | f+1,v,o,hv,h=>R1 hg hd f (v+1) _ (by omega) (XK hg (by omega) hd h)
theorem DP.mono{g:List (List Int)}{goal:Nat}{m m':Int}{o:List Int}(hm:m<=m')(h:DP g goal m o):DP g goal m' o:=
 ⟨h.1,λ v hv=>by
   rcases h.2 v hv with h3 | h3 | ⟨h3,h4,h5⟩
   . exact .inl h3
   . exact .inr (.inl h3)
   . exact .inr (.inr ⟨h3,by omega,h5⟩)⟩
theorem Zc{g:List (List Int)}(hg:DI g){sh:List Bool}{goal:Nat}:∀(f d:Nat) (o:List Int),1<=d->DP g goal d o->DP g goal (d+f:Nat) (Jw g sh f d o)
 | 0,d,o,_,h=>h.mono (by omega)
 | f+1,d,o,hd,h=>by
   have:=Zc (sh:=sh) hg f (d+1) (IL g sh d g.length 0 o) (by omega) ((R1 hg (by omega) g.length 0 o (by omega) h).mono (by omega));rw[show d+1+f=d+(f+1) by omega] at this;exact this
theorem Am4{g:List (List Int)}(hg:DI g)(sh:List Bool)(goal:Nat)(F3:goal<g.length):DP g goal 24 (Dv g sh goal):=by
 have Ae8:∀v,v<g.length->(List.replicate g.length (-1:Int)).getD v 0=-1:=λ v hv=>by simp[List.getD,hv]
 unfold Dv;split
 . exact ⟨by simp,λ v hv=> .inl (Ae8 v hv)⟩
 . refine (Zc hg (g.length - 1) 1 _ (Ai _) ⟨by simp,λ v hv=>?_⟩).mono (by have:=hg.1;omega);rw[D7];by_cases e:goal=v
   . rw[if_pos ⟨e,by simpa using F3⟩];exact .inr (.inl ⟨rfl,e.symm⟩)
   . rw[if_neg (λ h=>e h.1)];exact .inl (Ae8 v hv)
theorem Ai5{g:List (List Int)}(hg:DI g){u:Nat}(hu:u<g.length){k:Nat}(hk:k<(g.getD u []).length):∃w:Nat,(g.getD u []).getD k 0=(w:Int)/\w<g.length/\w≠u:=by
 have:=hg.2 u hu k hk;unfold IX at this;exact ⟨((g.getD u []).getD k 0).toNat,by omega,by omega,by omega⟩
theorem F9{g:List (List Int)}(hg:DI g){u:Nat}(hu:u<g.length){w:Int}(hw:w∈g.getD u []):0<=w/\w<(g.length:Int)/\w≠(u:Int):=by
 obtain ⟨k,hk,rfl⟩:=AA.1 hw;have:=hg.2 u hu k hk;unfold IX at this;have e1:(g.getD u []).getD k 0=(g.getD u [])[k]:=getD_eq hk;rw[e1] at this;exact ⟨this.1,this.2.1,this.2.2.1⟩
structure DS(g:List (List Int))(sh:List Bool)(goal:Nat)(o:List Int):Prop where
 len:o.length=g.length
 lo:∀v,v<g.length->-1<=o.getD v 0
 zero:∀v,v<g.length->(o.getD v 0=0↔v=goal)
 prev:∀v,v<g.length->1<=o.getD v 0->∃w∈g.getD v [],o.getD w.toNat 0=o.getD v 0 - 1
 next:∀v,v<g.length->sh.getD v false=false->∀w∈g.getD v [],0<=o.getD w.toNat 0->0<=o.getD v 0/\o.getD v 0<=o.getD w.toNat 0+1
 shut:∀v,v<g.length->sh.getD v false=true->o.getD v 0=-1
theorem DS.le{g:List (List Int)}(hg:DI g){sh:List Bool}{goal:Nat}{o p:List Int}(ho:DS g sh goal o)(hp:DS g sh goal p):
   ∀(k:Nat) (v:Nat),v<g.length->o.getD v 0=(k:Int)->0<=p.getD v 0/\p.getD v 0<=(k:Int)
 | 0,v,hv,h=>by
   have h1:=(ho.zero v hv).1 h;have h2:=(hp.zero v hv).2 h1;omega
 | k+1,v,hv,h=>by
   obtain ⟨w,hw,hd⟩:=ho.prev v hv (by omega);have hr:=F9 hg hv hw;have ih:=DS.le hg ho hp k w.toNat (by omega) (by omega);have hs:sh.getD v false=false:=by
     cases e:sh.getD v false
     . rfl
     . have:=ho.shut v hv e;omega
   have:=hp.next v hv hs w hw ih.1
   omega
theorem DS.uniq{g:List (List Int)}(hg:DI g){sh:List Bool}{goal:Nat}{o p:List Int}(ho:DS g sh goal o)(hp:DS g sh goal p):o=p:=by
 apply List.ext_getElem (by rw[ho.len,hp.len]);intro v h1 h2;have hv:v<g.length:=by rw[<-ho.len];exact h1
 have e1:o.getD v 0=o[v]:=getD_eq h1;have e2:p.getD v 0=p[v]:=getD_eq h2;rw[<-e1,<-e2];have l1:=ho.lo v hv;have l2:=hp.lo v hv;by_cases c:0<=o.getD v 0
 . have a:=DS.le hg ho hp (o.getD v 0).toNat v hv (by omega);have b:=DS.le hg hp ho (p.getD v 0).toNat v hv (by omega);omega
 . by_cases c2:0<=p.getD v 0
   . have b:=DS.le hg hp ho (p.getD v 0).toNat v hv (by omega);omega
   . omega
def NX(g:List (List Int))(sh:List Bool)(d:Int)(v:Nat)(o:List Int):Prop:=
 ∀u,u<g.length->sh.getD u false=false->∀w∈g.getD u [],0<=o.getD w.toNat 0->(o.getD w.toNat 0<d - 1∨(o.getD w.toNat 0=d - 1/\u<v))->0<=o.getD u 0/\o.getD u 0<=o.getD w.toNat 0+1
theorem Ahi{g:List (List Int)}(hg:DI g){sh:List Bool}{goal:Nat}{d:Int}{v:Nat}{o:List Int}(hv:v<g.length)(hd:1<=d)(h:DP g goal d o)(hx:NX g sh d v o):NX g sh d (v+1) (JY g sh d v o):=by
 unfold JY;split
 . rename_i h1;intro u hu hs w hw h0 hc;by_cases e:u=v
   . subst e;have h2:0<=o.getD u 0:=by
       rcases h1 with h1 | h1
       . rw[hs] at h1;cases h1
       . exact h1
     rcases hc with hc | hc
     . exact hx u hu hs w hw h0 (.inl hc)
     . refine ⟨h2,?_⟩;rcases h.2 u hu with h3 | h3 | h3<;>omega
   . exact hx u hu hs w hw h0 (by omega)
 . rename_i h1;split
   . rename_i h2;have Avy:o.getD v 0<0:=by
       rcases Int.lt_or_le (o.getD v 0) 0 with h3 | h3
       . exact h3
       . exact absurd (Or.inr h3) h1
     intro u hu hs w hw;have hr:=F9 hg hu hw;rw[D7,D7];have hl:=h.1;by_cases e2:v=w.toNat
     . rw[if_pos ⟨e2,by omega⟩];intro _ hc;omega
     . rw[if_neg (λ h=>e2 h.1)];intro h0 hc;by_cases e:v=u
       . subst e;rw[if_pos ⟨rfl,by omega⟩];refine ⟨by omega,?_⟩;rcases Int.lt_or_le (o.getD w.toNat 0) (d - 1) with h3 | h3
         . have:=hx v hu hs w hw h0 (.inl h3);omega
         . omega
       . rw[if_neg (λ h=>e h.1)];exact hx u hu hs w hw h0 (by omega)
   . rename_i h2;intro u hu hs w hw h0 hc;by_cases e:u=v
     . subst e;rcases hc with hc | hc
       . exact hx u hu hs w hw h0 (.inl hc)
       . exact absurd (Bd.2 ⟨w,hw,Ag hc.1⟩) h2
     . exact hx u hu hs w hw h0 (by omega)
theorem XM{g:List (List Int)}(hg:DI g){sh:List Bool}{goal:Nat}{d:Int}(hd:1<=d):∀(f v:Nat) (o:List Int),v+f<=g.length->DP g goal d o->NX g sh d v o->NX g sh d (v+f) (IL g sh d f v o)
 | 0,_,_,_,_,h=>h
 | f+1,v,o,hv,h,hx=>by
   have:=XM hg hd f (v+1) _ (by omega) (XK hg (sh:=sh) (by omega) hd h) (Ahi hg (by omega) hd h hx);rw[show v+1+f=v+(f+1) by omega] at this;exact this
theorem Zb{g:List (List Int)}(hg:DI g){sh:List Bool}{goal:Nat}:∀(f d:Nat) (o:List Int),1<=d->DP g goal ((d - 1:Nat):Int) o->NX g sh d 0 o->NX g sh ((d+f:Nat):Int) 0 (Jw g sh f d o)/\DP g goal ((d+f - 1:Nat):Int) (Jw g sh f d o)
 | 0,d,o,hd,h,hx=>⟨hx,h⟩
 | f+1,d,o,hd,h,hx=>by
   have hD:DP g goal (d:Int) o:=h.mono (by omega);have h1:=R1 (sh:=sh) hg (d:=(d:Int)) (by omega) g.length 0 o (by omega) hD;have h2:=XM (sh:=sh) hg (d:=(d:Int)) (by omega) g.length 0 o (by omega) hD hx;have h3:NX g sh ((d+1:Nat):Int) 0 (IL g sh d g.length 0 o):=λ u hu hs w hw h0 hc=>by
     refine h2 u hu hs w hw h0 ?_;rcases Int.lt_or_le ((IL g sh d g.length 0 o).getD w.toNat 0) ((d:Int) - 1) with h4 | h4
     . exact .inl h4
     . exact .inr ⟨by omega,by omega⟩
   have:=Zb hg f (d+1) _ (by omega) (show DP g goal ((d+1 - 1:Nat):Int) _ by rw[show d+1 - 1=d by omega];exact h1) h3;rw[show d+1+f=d+(f+1) by omega] at this;exact this
theorem R0{g:List (List Int)}{sh:List Bool}{d:Int}{v u:Nat}{o:List Int}(h:0<=o.getD u 0∨sh.getD u false=true):(JY g sh d v o).getD u 0=o.getD u 0:=by
 unfold JY;split
 . rfl
 . rename_i h1;split
   . rw[D7];by_cases e:v=u
     . subst e;rcases h with h | h
       . exact absurd (Or.inr h) h1
       . exact absurd (Or.inl h) h1
     . rw[if_neg (λ h=>e h.1)]
   . rfl
theorem NC{g:List (List Int)}{sh:List Bool}{d:Int}{u:Nat}:∀(f v:Nat) (o:List Int),(0<=o.getD u 0∨sh.getD u false=true)->(IL g sh d f v o).getD u 0=o.getD u 0
 | 0,_,_,_=>rfl
 | f+1,v,o,h=>by
   rw[IL,NC f (v+1) _ (by rw[R0 h];exact h),R0 h]
theorem Tz{g:List (List Int)}{sh:List Bool}{u:Nat}:∀(f d:Nat) (o:List Int),(0<=o.getD u 0∨sh.getD u false=true)->(Jw g sh f d o).getD u 0=o.getD u 0
 | 0,_,_,_=>rfl
 | f+1,d,o,h=>by
   rw[Jw,Tz f (d+1) _ (by rw[NC _ _ _ h];exact h),NC _ _ _ h]
theorem DP.chain{g:List (List Int)}(hg:DI g){goal:Nat}{m:Int}{o:List Int}(h:DP g goal m o):∀(k v:Nat),v<g.length->o.getD v 0=(k:Int)->∃l:List Int,l.Nodup/\l.length=k+1/\∀x∈l,0<=x/\x<(g.length:Int)/\0<=o.getD x.toNat 0/\o.getD x.toNat 0<=(k:Int)
 | 0,v,hv,e=>⟨[(v:Int)],by simp,rfl,λ x hx=>by
     simp only[Av] at hx;subst hx;simp only[Ab];omega⟩
 | k+1,v,hv,e=>by
   rcases h.2 v hv with h3 | h3 | ⟨_,_,w,hw,h4⟩
   . omega
   . omega
   . have hr:=F9 hg hv hw;obtain ⟨l,h5,h6,h7⟩:=DP.chain hg h k w.toNat (by omega) (by omega);refine ⟨(v:Int)::l,?_,by simp[h6],?_⟩
     . rw[List.nodup_cons];refine ⟨λ hm=>?_,h5⟩;have:=h7 _ hm;simp only[Ab] at this;omega
     . intro x hx;rcases AE.1 hx with rfl | hx
       . simp only[Ab];omega
       . have:=h7 x hx;omega
theorem Px{g:List (List Int)}(hg:DI g){sh:List Bool}{goal:Nat}(F3:goal<g.length)(ho:sh.getD goal false=false):DS g sh goal (Dv g sh goal):=by
 have Ae8:∀v,v<g.length->(List.replicate g.length (-1:Int)).getD v 0=-1:=λ v hv=>by simp[List.getD,hv]
 have e0:Dv g sh goal=Jw g sh (g.length - 1) 1 ((List.replicate g.length (-1)).set goal 0):=by
   unfold Dv;rw[ho];rfl
 have hz:∀u,u<g.length->((List.replicate g.length (-1:Int)).set goal 0).getD u 0=if u=goal then 0 else -1:=λ u hu=>by
   rw[D7];by_cases e:goal=u
   . rw[if_pos ⟨e,by simpa using F3⟩,if_pos e.symm]
   . rw[if_neg (λ h=>e h.1),if_neg (λ h=>e h.symm),Ae8 u hu]
 have hD0:DP g goal ((1 - 1:Nat):Int) ((List.replicate g.length (-1)).set goal 0):=⟨by simp,λ u hu=>by
   rw[hz u hu];by_cases e:u=goal
   . rw[if_pos e];exact .inr (.inl ⟨rfl,e⟩)
   . rw[if_neg e];exact .inl rfl⟩
 have hN0:NX g sh ((1:Nat):Int) 0 ((List.replicate g.length (-1)).set goal 0):=λ u hu hs w hw h0 hc=>by omega
 obtain ⟨hN,hD⟩:=Zb hg (g.length - 1) 1 _ (Ai _) hD0 hN0;have hk:∀u,u<g.length->(u=goal∨sh.getD u false=true)->(Dv g sh goal).getD u 0=if u=goal then 0 else -1:=λ u hu hc=>by
   rw[e0,Tz _ _ _ ?_,hz u hu];rcases hc with hc | hc
   . left;rw[hz u hu,if_pos hc];omega
   . exact .inr hc
 rw[<-e0] at hN hD;rw[show 1+(g.length - 1)=g.length by omega] at hN hD;refine ⟨VG g sh goal,?_,?_,?_,?_,?_⟩
 . intro v hv;rcases hD.2 v hv with h | h | h<;>omega
 . intro v hv;constructor
   . intro e;rcases hD.2 v hv with h | h | h
     . omega
     . exact h.2
     . omega
   . rintro rfl;have:=hk v hv (.inl rfl);rw[if_pos rfl] at this;exact this
 . intro v hv h1;rcases hD.2 v hv with h | h | h
   . omega
   . omega
   . exact h.2.2
 . intro v hv hs w hw h0;have hr:=F9 hg hv hw;rcases Int.lt_or_le ((Dv g sh goal).getD w.toNat 0) ((g.length:Int) - 1) with h4 | h4
   . exact hN v hv hs w hw h0 (.inl h4)
   . have hb:∀u,u<g.length->(Dv g sh goal).getD u 0<=(g.length:Int) - 1:=λ u hu=>by
       rcases hD.2 u hu with h | h | h<;>omega
     have Xv:=hb w.toNat (by omega);have RQ:=hb v hv;refine ⟨?_,by omega⟩;rcases Int.lt_or_le ((Dv g sh goal).getD v 0) 0 with h5 | h5
     . exfalso;obtain ⟨l,h6,h7,h8⟩:=DP.chain hg hD (g.length - 1) w.toNat (by omega) (by omega);have:=Aim ((v:Int)::l) ((List.range g.length).map (λ j=>((j:Nat):Int))) (by
         rw[List.nodup_cons];refine ⟨λ hm=>?_,h6⟩;have:=h8 _ hm;simp only[Ab] at this;omega) (λ x hx=>by
         rw[AN];rcases AE.1 hx with rfl | hx
         . exact ⟨v,List.mem_range.2 hv,rfl⟩
         . have:=h8 x hx;exact ⟨x.toNat,List.mem_range.2 (by omega),by omega⟩)
       simp only[Aq,A6,List.length_range] at this;omega
     . exact h5
 . intro v hv hs;have:=hk v hv (.inr hs);rw[if_neg (λ e=>by rw[e,ho] at hs;cases hs)] at this;exact this
def F5(o:List Int)(b w:Int):Int:=if 0<=o.getD w.toNat 0/\(b<0∨o.getD w.toNat 0<o.getD b.toNat 0) then w else b
def F4(o row:List Int):Int:=row.foldl (F5 o) (-1)
def Jo(o row:List Int)(m:Int):Int:=(row.find? λ w=>decide (o.getD w.toNat 0=m)).getD (-1)
theorem TH(o:List Int)(m:Int):∀(row:List Int) (b:Int),0<=b->o.getD b.toNat 0=m->(∀w∈row,0<=o.getD w.toNat 0->m<=o.getD w.toNat 0)->row.foldl (F5 o) b=b
 | [],_,_,_,_=>rfl
 | w::row,b,hb,he,h=>by
   have e:F5 o b w=b:=by
     unfold F5;rw[if_neg];rintro ⟨h1,h2⟩;have:=h w (by simp) h1;omega
   rw[Bf,e];exact TH o m row b hb he (λ x hx=>h x (by simp[hx]))
theorem TL(o:List Int)(m:Int)(hm:0<=m):∀(row:List Int) (b:Int),(∀w∈row,0<=w)->(b=-1∨(0<=b/\m<o.getD b.toNat 0))->(∀w∈row,0<=o.getD w.toNat 0->m<=o.getD w.toNat 0)->(∃w∈row,o.getD w.toNat 0=m)->row.foldl (F5 o) b=Jo o row m
 | [],_,_,_,_,h=>by obtain ⟨w,hw,_⟩:=h;simp at hw
 | w::row,b,hp,hb,h,hx=>by
   have hw:=h w (by simp);rw[Bf];unfold Jo;by_cases c:o.getD w.toNat 0=m
   . have e:F5 o b w=w:=by
       unfold F5;rw[if_pos ⟨by omega,by omega⟩]
     rw[e,TH o m row w (hp w (by simp)) c (λ x hx=>h x (by simp[hx]))];rw[List.find?_cons,Ag c];rfl
   . have H4:∃x∈row,o.getD x.toNat 0=m:=by
       obtain ⟨x,h1,h2⟩:=hx;rcases AE.1 h1 with rfl | h1
       . exact absurd h2 c
       . exact ⟨x,h1,h2⟩
     have TZ:F5 o b w=-1∨(0<=F5 o b w/\m<o.getD (F5 o b w).toNat 0):=by
       unfold F5;split
       . rename_i h1;exact .inr ⟨hp w (by simp),by omega⟩
       . exact hb
     rw[TL o m hm row _ (λ x hx=>hp x (by simp[hx])) TZ (λ x hx=>h x (by simp[hx])) H4];unfold Jo;rw[List.find?_cons,Ah c]
theorem HK(o:List Int):∀(row:List Int) (b:Int),row.foldl (F5 o) b=b∨(row.foldl (F5 o) b∈row/\0<=o.getD (row.foldl (F5 o) b).toNat 0)
 | [],_=> .inl rfl
 | w::row,b=>by
   rw[Bf];rcases HK o row (F5 o b w) with h | h
   . rw[h];unfold F5;split
     . rename_i h1;exact .inr ⟨by simp,h1.1⟩
     . exact .inl rfl
   . exact .inr ⟨by simp[h.1],h.2⟩
theorem DS.Amt{g:List (List Int)}(hg:DI g){sh:List Bool}{goal:Nat}{o:List Int}(ho:DS g sh goal o){v:Nat}(hv:v<g.length)(h1:1<=o.getD v 0):
   F4 o (g.getD v [])=Jo o (g.getD v []) (o.getD v 0 - 1):=by
 have hs:sh.getD v false=false:=by
   cases e:sh.getD v false
   . rfl
   . have:=ho.shut v hv e;omega
 exact TL o _ (by omega) _ _ (λ w hw=>(F9 hg hv hw).1) (.inl rfl) (λ w hw h0=>by have:=ho.next v hv hs w hw h0;omega) (ho.prev v hv h1)
theorem Ajq{o row:List Int}{m:Int}(h:∃w∈row,o.getD w.toNat 0=m):Jo o row m∈row/\o.getD (Jo o row m).toNat 0=m:=by
 unfold Jo;obtain ⟨w,hw,he⟩:=h;cases c:row.find? λ w=>decide (o.getD w.toNat 0=m) with
 | none=>rw[List.find?_eq_none] at c;exact absurd (Ag he) (c w hw)
 | some x=>exact ⟨List.mem_of_find?_eq_some c,by simpa using List.find?_some c⟩
def M5(g:List (List Int))(o:List Int):Nat->Int->List Int
 | 0,_=>[]
 | f+1,v=>v::M5 g o f (Jo o (g.getD v.toNat []) (o.getD v.toNat 0 - 1))
def E3(g:List (List Int))(sh:List Bool)(v:Nat):List Int:=
 if sh.getD v false=true then []
 else
   let o:=Dv g sh v
   let b:=F4 o (g.getD v [])
   if b<0 then [] else (v:Int)::M5 g o (o.getD b.toNat 0).toNat b
theorem IK(g:List (List Int))(o:List Int):∀(f:Nat) (v:Int),(M5 g o f v).length=f
 | 0,_=>rfl
 | f+1,v=>by rw[M5,Aq,IK]
def Ik(Amt w:List Int):List Int:=if 0<w.length/\(Amt.length=0∨w.length<Amt.length) then w else Amt
def DV(g:List (List Int))(sh:List Bool):List Int:=((List.range g.length).map (E3 g sh)).foldl Ik []
def JH(d:List Int):Nat:=d.countP λ x=>decide (x<0)
theorem SD{d:List Int}{v:Nat}{x:Int}(hv:v<d.length)(h:d.getD v 0<0)(hx:0<=x):JH (d.set v x)+1=JH d:=by
 have e:d.getD v 0=d[v]:=getD_eq hv;rw[e] at h;have hp:0<JH d:=by
   unfold JH;rw[List.countP_pos_iff];exact ⟨d[v],AW hv,Ag h⟩
 have h2:JH (d.set v x)=JH d - 1:=by
   unfold JH;rw[List.countP_set (h:=hv),if_pos (Ag h),if_neg (by simpa using hx)];rfl
 omega
structure BF(g:List (List Int))(sh:List Bool)(goal:Nat)(w:Int)(v:Nat)(d q:List Int):Prop where
 len:d.length=g.length
 lo:∀u,u<g.length->-1<=d.getD u 0
 zero:∀u,u<g.length->(d.getD u 0=0↔u=goal)
 prev:∀u,u<g.length->1<=d.getD u 0->∃y∈g.getD u [],d.getD y.toNat 0=d.getD u 0 - 1
 shut:∀u,u<g.length->sh.getD u false=true->d.getD u 0=-1
 qin:∀x∈q,0<=x/\x<(g.length:Int)/\0<=d.getD x.toNat 0
 sorted:q.Pairwise λ x y=>d.getD x.toNat 0<=d.getD y.toNat 0
 top:∀x∈q,∀u,u<g.length->d.getD u 0<=d.getD x.toNat 0+1
 done:∀y:Int,0<=y->y<(g.length:Int)->0<=d.getD y.toNat 0->y∉q->∀u,u<g.length->(y=w->u<v)->sh.getD u false=false->y∈g.getD u []->0<=d.getD u 0/\d.getD u 0<=d.getD y.toNat 0+1
 bnd:∀u,u<g.length->d.getD u 0+(JH d:Nat)<=(g.length:Int) - 1
 Aig:q.length+JH d<=g.length
 cur:0<=w->w<(g.length:Int)/\0<=d.getD w.toNat 0/\(∀u,u<g.length->d.getD u 0<=d.getD w.toNat 0+1)/\∀x∈q,d.getD w.toNat 0<=d.getD x.toNat 0
theorem BF.init{g:List (List Int)}{sh:List Bool}{goal:Nat}(F3:goal<g.length)(ho:sh.getD goal false=false):BF g sh goal (-1) 0 ((List.replicate g.length (-1)).set goal 0) [(goal:Int)]:=by
 have hz:∀u,u<g.length->((List.replicate g.length (-1:Int)).set goal 0).getD u 0=if u=goal then 0 else -1:=λ u hu=>by
   rw[D7];by_cases e:goal=u
   . rw[if_pos ⟨e,by simpa using F3⟩,if_pos e.symm]
   . rw[if_neg (λ h=>e h.1),if_neg (λ h=>e h.symm)];simp[List.getD,hu]
 have hr:JH (List.replicate g.length (-1))=g.length:=by
   unfold JH;rw[List.countP_replicate];simp
 have hn:JH ((List.replicate g.length (-1)).set goal 0)+1=g.length:=by
   rw[SD (by simpa using F3) (by simp[List.getD,F3]) (by omega),hr]
 refine ⟨by simp,λ u hu=>?_,λ u hu=>?_,λ u hu h=>?_,λ u hu h=>?_,λ x hx=>?_,by simp,λ x hx u hu=>?_,λ y hy Xu hy3 hy4 u hu=>?_,λ u hu=>?_,by simp only[BO];omega,λ h=>by omega⟩
 . rw[hz u hu];split<;>omega
 . rw[hz u hu];split<;>simp_all
 . rw[hz u hu] at h;split at h<;>omega
 . rw[hz u hu,if_neg];rintro rfl;rw[ho] at h;cases h
 . rw[Av] at hx;subst hx;rw[show ((goal:Nat):Int).toNat=goal by omega,hz goal F3,if_pos rfl];omega
 . rw[Av] at hx;subst hx;rw[show ((goal:Nat):Int).toNat=goal by omega,hz goal F3,if_pos rfl,hz u hu];split<;>omega
 . rw[hz _ (by omega)] at hy3;split at hy3
   . rename_i e;exact absurd (Av.2 (by omega)) hy4
   . omega
 . rw[hz u hu];split<;>omega
theorem BF.pop{g:List (List Int)}{sh:List Bool}{goal:Nat}{d q:List Int}{w:Int}{w0:Int}{v:Nat}(h:BF g sh goal w0 v d (w::q))(hv:w0<0∨v=g.length):BF g sh goal w 0 d q:=by
 have hw:=h.qin w (by simp);refine ⟨h.len,h.lo,h.zero,h.prev,h.shut,λ x hx=>h.qin x (by simp[hx]),(BH.1 h.sorted).2,λ x hx=>h.top x (by simp[hx]),?_,h.bnd,by have:=h.Aig;simp only[Aq] at this;omega,λ _=>⟨hw.2.1,hw.2.2,h.top w (by simp),λ x hx=>(BH.1 h.sorted).1 x hx⟩⟩;intro y hy Xu hy3 hy4 u hu hc hs hm;by_cases e:y=w
 . have:=hc e;omega
 . refine h.done y hy Xu hy3 (λ hx=>?_) u hu (λ e2=>by omega) hs hm;rcases AE.1 hx with h1 | h1
   . exact e h1
   . exact hy4 h1
theorem BF.skip{g:List (List Int)}{sh:List Bool}{goal:Nat}{d q:List Int}{w:Int}{v:Nat}(h:BF g sh goal w v d q)(Ql:0<=w)(hc:0<=d.getD v 0∨sh.getD v false=true∨w∉g.getD v []):BF g sh goal w (v+1) d q:=by
 refine ⟨h.len,h.lo,h.zero,h.prev,h.shut,h.qin,h.sorted,h.top,?_,h.bnd,h.Aig,h.cur⟩;intro y hy Xu hy3 hy4 u hu hv hs hm;by_cases e:u=v
 . subst e;by_cases e2:y=w
   . subst e2;rcases hc with hc | hc | hc
     . exact ⟨hc,(h.cur Ql).2.2.1 u hu⟩
     . rw[hs] at hc;cases hc
     . exact absurd hm hc
   . exact h.done y hy Xu hy3 hy4 u hu (λ e3=>absurd e3 e2) hs hm
 . exact h.done y hy Xu hy3 hy4 u hu (λ e3=>by have:=hv e3;omega) hs hm
theorem BF.push{g:List (List Int)}{sh:List Bool}{goal:Nat}{d q:List Int}{w:Int}{v:Nat}(h:BF g sh goal w v d q)(Ql:0<=w)(hv:v<g.length)(hd:d.getD v 0<0)(hs:sh.getD v false=false)(hm:w∈g.getD v []):
   BF g sh goal w (v+1) (d.set v (d.getD w.toNat 0+1)) (q++[(v:Int)]):=by
 obtain ⟨hc1,Xy,hc3,hc4⟩:=h.cur Ql;have hl:=h.len;have E9:∀u,(d.set v (d.getD w.toNat 0+1)).getD u 0=if u=v then d.getD w.toNat 0+1 else d.getD u 0:=λ u=>by
   rw[D7];by_cases e:v=u
   . rw[if_pos ⟨e,by omega⟩,if_pos e.symm]
   . rw[if_neg (λ h=>e h.1),if_neg (λ h=>e h.symm)]
 have Dn:∀y:Int,0<=d.getD y.toNat 0->(d.set v (d.getD w.toNat 0+1)).getD y.toNat 0=d.getD y.toNat 0:=λ y hy=>by
   rw[E9,if_neg];intro e;rw[e] at hy;omega
 have hn:=SD (d:=d) (v:=v) (x:=d.getD w.toNat 0+1) (by omega) hd (by omega);refine ⟨by simpa using hl,λ u hu=>?_,λ u hu=>?_,λ u hu h1=>?_,λ u hu h1=>?_,λ x hx=>?_,?_,λ x hx u hu=>?_,?_,λ u hu=>?_,?_,λ _=>⟨hc1,?_,λ u hu=>?_,λ x hx=>?_⟩⟩
 . rw[E9];have:=h.lo u hu;split<;>omega
 . rw[E9];by_cases e:u=v
   . subst e;rw[if_pos rfl];have:=h.zero u hu;constructor
     . intro h1;omega
     . intro h1;have:=this.2 h1;omega
   . rw[if_neg e];exact h.zero u hu
 . rw[E9] at h1;by_cases e:u=v
   . subst e;exact ⟨w,hm,by rw[Dn w Xy,E9,if_pos rfl];omega⟩
   . rw[if_neg e] at h1;obtain ⟨y,hy,Xu⟩:=h.prev u hu h1;exact ⟨y,hy,by rw[Dn y (by omega),E9,if_neg e];exact Xu⟩
 . rw[E9,if_neg]
   . exact h.shut u hu h1
   . rintro rfl;rw[hs] at h1;cases h1
 . rcases Au.1 hx with hx | hx
   . have:=h.qin x hx;exact ⟨this.1,this.2.1,by rw[Dn x this.2.2];exact this.2.2⟩
   . rw[Av] at hx;subst hx;exact ⟨by omega,by omega,by rw[E9,if_pos (by omega)];omega⟩
 . rw[Bp];refine ⟨?_,by simp,?_⟩
   . refine h.sorted.imp_of_mem λ {a b} ha hb WW=>?_;rw[Dn a (h.qin a ha).2.2,Dn b (h.qin b hb).2.2];exact WW
   . intro a ha b hb;rw[Av] at hb;subst hb;rw[Dn a (h.qin a ha).2.2,E9,if_pos (by omega)];have:=hc3 a.toNat (by have:=h.qin a ha;omega);exact this
 . rcases Au.1 hx with hx | hx
   . have h1:=h.qin x hx;rw[Dn x h1.2.2,E9];have:=hc4 x hx;have:=h.top x hx u hu;split<;>omega
   . rw[Av] at hx;subst hx;rw[E9,E9,if_pos (show ((v:Nat):Int).toNat=v by omega)];have:=hc3 u hu;split<;>omega
 . intro y hy Xu hy3 hy4 u hu hc hsu hmu;have hyv:y≠(v:Int):=λ e=>hy4 (by simp[e]);have Avd:y.toNat≠v:=by omega
   rw[E9,if_neg Avd] at hy3;have hyq:y∉q:=λ e=>hy4 (by simp[e]);rw[E9,E9,if_neg Avd];by_cases e:u=v
   . subst e;rw[if_pos rfl];by_cases e2:y=w
     . subst e2;omega
     . have:=h.done y hy Xu hy3 hyq u hu (λ e3=>absurd e3 e2) hsu hmu;omega
   . rw[if_neg e];exact h.done y hy Xu hy3 hyq u hu (λ e3=>by have:=hc e3;omega) hsu hmu
 . rw[E9];have h1:=h.bnd u hu;have h2:=h.bnd w.toNat (by omega);split<;>omega
 . have:=h.Aig;simp only[At,BO];omega
 . rw[Dn w Xy];exact Xy
 . rw[Dn w Xy,E9];have:=hc3 u hu;split<;>omega
 . rw[Dn w Xy];rcases Au.1 hx with hx | hx
   . rw[Dn x (h.qin x hx).2.2];exact hc4 x hx
   . rw[Av] at hx;subst hx;rw[E9,if_pos (by omega)];omega
theorem BF.end{g:List (List Int)}(hg:DI g){sh:List Bool}{goal:Nat}{d:List Int}{w:Int}{v:Nat}(h:BF g sh goal w v d [])(hv:w<0∨v=g.length):DS g sh goal d:=
 ⟨h.len,h.lo,h.zero,h.prev,λ u hu hs y hy h0=>by
   have hr:=F9 hg hu hy;exact h.done y (by omega) (by omega) h0 (by simp) u hu (λ e=>by omega) hs hy,h.shut⟩
theorem Acn{g:List (List Int)}(hg:DI g){u:Nat}(hu:u<g.length){i j:Nat}(hi:i<j)(hj:j<(g.getD u []).length):(g.getD u []).getD i 0<(g.getD u []).getD j 0:=by
 induction j with
 | zero=>omega
 | succ j ih=>
   have h1:=hg.2 u hu (j+1) hj;unfold IX at h1;have h2:=h1.2.2.2 (by omega);rw[show j+1 - 1=j by omega] at h2;by_cases e:i=j
   . subst e;exact h2
   . have:=ih (by omega) (by omega);omega
def Df:List CX->Int
 | []=>0
 | s::r=>s.Ch+Df r
theorem D0(l:List CX)(s:CX):Df (l++[s])=Df l+s.Ch:=by
 induction l with
 | nil=>simp[Df]
 | cons x r ih=>simp only[AR,Df,ih];omega
def Lh(nb:Nat)(b:Int)(s:CX):Prop:=0<=s.Ip/\s.Ip<(nb:Int)/\0<=s.out/\s.out<(nb:Int)/\1<=s.Ch/\s.Ch<=4/\s.base=b
instance (nb:Nat) (b:Int) (s:CX):Decidable (Lh nb b s):=by unfold Lh;exact inferInstance
def Qi(x:Int)(s:CX):Bool:=s.Cy&&(decide (s.base<=x)&&decide (x<s.base+s.Ch))
def Dw(nb:Nat)(l:List CX):Prop:=∀i,i<l.length->Lh nb (nb+Df (l.take i)) (l.getD i B8)
instance (nb:Nat) (l:List CX):Decidable (Dw nb l):=by unfold Dw;exact inferInstance
def GA(sp:List CX)(l:List Int):Prop:=∀i,i<l.length->sp.any (Qi (l.getD i 0))=true/\l.getD i 0∉l.take i
instance (sp:List CX) (l:List Int):Decidable (GA sp l):=by unfold GA;exact inferInstance
def validN(n:Nt):Prop:=HS n/\n.spurs.length<=6/\E7 n/\n.BW.length<=8/\HJ n.cq n.ca n.cd n.cp/\Dw n.blocks.length n.spurs/\GA n.spurs n.BW/\0<(n.spurs.filter CX.Cy).length
instance (n:Nt):Decidable (validN n):=by unfold validN;exact inferInstance
theorem IM(nb:Nat)(l:List CX)(k:Nat)(hk:k<=l.length)(h:∀j,j<k->Lh nb (nb+Df (l.take j)) (l.getD j B8)):0<=Df (l.take k)/\Df (l.take k)<=4*k:=by
 induction k with
 | zero=>simp[Df]
 | succ k ih=>
   have h1:=ih (by omega) (λ j hj=>h j (by omega));have h2:=h k (by omega);rw[Cr l k B8 (by omega),D0];obtain ⟨_,_,_,_,h5,h6,_⟩:=h2;omega
def JF(n:Nt):Prop:=n.blocks.length<=10000000/\Sb n.next/\n.spurs.length<=10000000/\n.BW.length<=10000000
theorem Ac3(n:Nt)(hsm:JF n):BV prog 46 [.agg n.cs] [] λ h r=>h=[]/\r= .p (.bool (decide (validN n))):=by
 have hB:=Agt n hsm.1 hsm.2.1;have hN:=Ait n hsm.1 hsm.2.2.1;have hC:=Uw n.cq n.ca n.cd n.cp;obtain ⟨_,_,Lk,Ia⟩:=hsm;refine BX func46 rfl Alc (by simp[Tryz.f46]) ?_;simp only[go_sem,Nt.cs];refine Cq ((hB)) ?_;cases d1:decide (HS n)
 . simp only[go_sem,d1];rw[Ah (λ hp=>Ae d1 hp.1)]
 cases d2:decide (6<(n.spurs.length:Int));rotate_left
 . simp only[go_sem,Nt.cs,Cm,d1,d2];rw[Ah (λ hp=>by have:=hp.2.1;have:=Ad d2;omega)]
 simp only[go_sem,Nt.cs,Cm,d1,d2];refine Cq ((hN)) ?_;cases d3:decide (E7 n)
 . simp only[go_sem,d3];rw[Ah (λ hp=>Ae d3 hp.2.2.1)]
 cases d4:decide (8<(n.BW.length:Int));rotate_left
 . simp only[go_sem,Nt.cs,BS,d3,d4];rw[Ah (λ hp=>by have:=hp.2.2.2.1;have:=Ad d4;omega)]
 simp only[go_sem,Nt.cs,BS,d3,d4];refine Cq ((hC)) ?_;cases d5:decide (HJ n.cq n.ca n.cd n.cp)
 . simp only[go_sem,d5];rw[Ah (λ hp=>Ae d5 hp.2.2.2.2.1)]
 simp only[go_sem,Nt.cs,Ce,d5];clear hB hN hC;have e1:=Ad d1;have e2:=Ae d2;have e3:=Ad d3;have e4:=Ae d4;have e5:=Ad d5;clear d1 d2 d3 d4 d5;have WS:n.blocks.length<=24:=e1.2.1;refine B3 (λ i:Nat=>⟨[(1,.ptr 1 0),(3,.p (.int .i64 ((n.blocks.length:Int)+Df (n.spurs.take i)))),(4,.p (.int .i64 (((n.spurs.take i).filter CX.Cy).length:Nat))),(5,.p (.int .i64 (i:Nat)))],[(1,.box (Nt.cs n))],163⟩)
   (λ i=>i<=n.spurs.length/\∀j,j<i->Lh n.blocks.length (n.blocks.length+Df (n.spurs.take j)) (n.spurs.getD j B8)) (λ i=>n.spurs.length - i) 0 ⟨AG _,λ j hj=>absurd hj (A3 _)⟩ (Wk.forget (by simp[ZF,Nt.cs,Df])) ?_
 rintro i m ⟨hi,DZ⟩ ih;simp only[go_sem,Nt.cs,Cm];refine Cv (λ h2=>?_) (λ h2=>?_)
 . have Cj:i<n.spurs.length:=by simp at h2;omega
   have hw:=Cf i (by omega);have hg:=FH n.spurs i Cj;have DH:(0:Int)<=(i:Int)/\(i:Int)<(n.spurs.length:Int):=by omega
   have Ae7:=IM n.blocks.length n.spurs i hi DZ;have Jp:¬Lh n.blocks.length (n.blocks.length+Df (n.spurs.take i)) (n.spurs.getD i B8)->decide (validN n)=false:=λ h=>Ah (λ hp=>h (hp.2.2.2.2.2.1 i Cj));have Nu:Lh n.blocks.length (n.blocks.length+Df (n.spurs.take i)) (n.spurs.getD i B8)->∀j,j<i+1->Lh n.blocks.length (n.blocks.length+Df (n.spurs.take j)) (n.spurs.getD j B8):=λ h j hj=>by
     rcases AF.1 hj with h3 | rfl
     . exact DZ j h3
     . exact h
   have Ul:=Cr n.spurs i B8 Cj;have Ov:((n.spurs.take i).filter CX.Cy).length<=i:=by
     refine Bs (List.length_filter_le _ _) ?_;simp;omega
   generalize n.spurs.getD i B8=s at*;obtain ⟨nm,dp,Ip,out,sl,bs⟩:=s;simp only[Lh] at Jp Nu;generalize hS:Df (n.spurs.take i)=S at*;generalize hD:((n.spurs.take i).filter CX.Cy).length=dn at*;cases c1:decide (Ip<0);rotate_left
   . simp only[go_sem,Nt.cs,Cm,Ce,Ab,hg,DH,c1];rw[Jp (λ hp=>by have:=Ad c1;omega)]
   cases c2:decide ((n.blocks.length:Int)<=Ip);rotate_left
   . simp only[go_sem,Nt.cs,Cm,Ce,Ab,hg,DH,c1,c2];rw[Jp (λ hp=>by have:=Ad c2;omega)]
   cases c3:decide (out<0);rotate_left
   . simp only[go_sem,Nt.cs,Cm,Ce,Ab,hg,DH,c1,c2,c3];rw[Jp (λ hp=>by have:=Ad c3;omega)]
   cases c4:decide ((n.blocks.length:Int)<=out);rotate_left
   . simp only[go_sem,Nt.cs,Cm,Ce,Ab,hg,DH,c1,c2,c3,c4];rw[Jp (λ hp=>by have:=Ad c4;omega)]
   cases c5:decide (sl<1);rotate_left
   . simp only[go_sem,Nt.cs,Cm,Ce,Ab,hg,DH,c1,c2,c3,c4,c5];rw[Jp (λ hp=>by have:=Ad c5;omega)]
   cases c6:decide (4<sl);rotate_left
   . simp only[go_sem,Nt.cs,Cm,Ce,Ab,hg,DH,c1,c2,c3,c4,c5,c6];rw[Jp (λ hp=>by have:=Ad c6;omega)]
   cases c7:decide (bs=(n.blocks.length:Int)+S)
   . simp only[go_sem,Nt.cs,Cm,Ce,Ab,hg,DH,c1,c2,c3,c4,c5,c6,c7];rw[Jp (λ hp=>by have:=Ae c7;omega)]
   have r7:1<=sl/\sl<=4:=by have:=Ae c5;have:=Ae c6;omega
   have r5:IntKind.i64.wrap ((n.blocks.length:Int)+S+sl)=(n.blocks.length:Int)+S+sl:=by rw[BY]<;>omega
   have Q8:=Nu (by have:=Ae c1;have:=Ae c2;have:=Ae c3;have:=Ae c4;have:=Ad c7;omega);have hwd:=Cf dn (by omega);cases dp
   . simp only[go_sem,Nt.cs,Cm,Ce,Ab,hg,DH,c1,c2,c3,c4,c5,c6,c7,r5,hw];refine ih (i+1) _ ⟨Cj,Q8⟩ (by omega) ?_
     (refine Wk.forget ?_;simp[ZF,Nt.cs,Ul,D0,hS,hD,Int.add_assoc];done)
   . simp only[go_sem,Nt.cs,Cm,Ce,Ab,hg,DH,c1,c2,c3,c4,c5,c6,c7,r5,hw,hwd];refine ih (i+1) _ ⟨Cj,Q8⟩ (by omega) ?_
     (refine Wk.forget ?_;simp[ZF,Nt.cs,Ul,D0,hS,hD,Int.add_assoc];done)
 have:i=n.spurs.length:=by simp at h2;omega
 subst this;have Fs:Dw n.blocks.length n.spurs:=DZ;rw[Aw];have Ba5:∀k,k<n.spurs.length->0<=(n.spurs.getD k B8).base/\(n.spurs.getD k B8).base<=1000/\1<=(n.spurs.getD k B8).Ch/\(n.spurs.getD k B8).Ch<=4:=λ k hk=>by
   have h3:=Fs k hk;have h4:=IM n.blocks.length n.spurs k (by omega) (λ j hj=>Fs j (by omega));obtain ⟨_,_,_,_,h5,h6,h7⟩:=h3;omega
 clear ih DZ;generalize hD:(n.spurs.filter CX.Cy).length=dn;simp only[go_sem];refine B3 (λ i:Nat=>⟨[(1,.ptr 1 0),(4,.p (.int .i64 (dn:Nat))),(7,.p (.int .i64 (i:Nat)))],[(1,.box (Nt.cs n))],163⟩)
   (λ i=>i<=n.BW.length/\∀j,j<i->n.spurs.any (Qi (n.BW.getD j 0))=true/\n.BW.getD j 0∉n.BW.take j) (λ i=>n.BW.length - i) 0 ⟨AG _,λ j hj=>absurd hj (A3 _)⟩ (Wk.forget (by simp[ZF,Nt.cs])) ?_
 rintro i m2 ⟨EG,DZ⟩ ih;simp only[go_sem,Nt.cs,BS];refine Cv (λ h3=>?_) (λ h3=>?_);rotate_left
 . simp only[go_sem];have:i=n.BW.length:=by simp at h3;omega
   subst this;have hv:decide (validN n)=decide (0<(dn:Int)):=by
     by_cases hdn:0<dn
     . rw[Ag (show validN n from ⟨e1,by omega,e3,by omega,e5,Fs,DZ,by rw[hD];exact hdn⟩),Ag (by omega)]
     . rw[Ah (λ hp:validN n=>hdn (by have:=hp.2.2.2.2.2.2.2;rw[hD] at this;exact this)),Ah (by omega)]
   rw[hv];try simp
 have Cj:i<n.BW.length:=by simp at h3;omega
 have hw:=Cf i (by omega);have hgr:=Cg n.BW i Cj;have DH:(0:Int)<=(i:Int)/\(i:Int)<(n.BW.length:Int):=by omega
 have Jp:¬(n.spurs.any (Qi (n.BW.getD i 0))=true/\n.BW.getD i 0∉n.BW.take i)->decide (validN n)=false:=λ h=>Ah (λ hp=>h (hp.2.2.2.2.2.2.1 i Cj));have Nu:(n.spurs.any (Qi (n.BW.getD i 0))=true/\n.BW.getD i 0∉n.BW.take i)->∀j,j<i+1->n.spurs.any (Qi (n.BW.getD j 0))=true/\n.BW.getD j 0∉n.BW.take j:=λ h j hj=>by
   rcases AF.1 hj with h3 | rfl
   . exact DZ j h3
   . exact h
 generalize n.BW.getD i 0=x at hgr Jp Nu;simp only[go_sem];refine B3 (λ k:Nat=>⟨[(1,.ptr 1 0),(4,.p (.int .i64 (dn:Nat))),(7,.p (.int .i64 (i:Nat))),(8,.p (.bool ((n.spurs.take k).any (Qi x)))),(9,.p (.int .i64 (k:Nat)))],[(1,.box (Nt.cs n))],163⟩)
   (λ k=>k<=n.spurs.length) (λ k=>n.spurs.length - k) 0 (AG _) (Wk.forget (by simp[ZF,Nt.cs])) ?_
 rintro k m3 hk JL;simp only[go_sem,Nt.cs,Cm];refine Cv (λ h4=>?_) (λ h4=>?_)
 . have Qp:k<n.spurs.length:=by simp at h4;omega
   have HG:=Cf k (by omega);have Ou:=FH n.spurs k Qp;have Ho:(0:Int)<=(k:Int)/\(k:Int)<(n.spurs.length:Int):=by omega
   have hb:=Ba5 k Qp;have Ul:=Cr n.spurs k B8 Qp;generalize n.spurs.getD k B8=s at*;obtain ⟨nm,dp,Ip,out,sl,bs⟩:=s;simp only at hb;have r5:IntKind.i64.wrap (bs+sl)=bs+sl:=by rw[BY]<;>omega
   have han:(n.spurs.take (k+1)).any (Qi x)=((n.spurs.take k).any (Qi x)||(dp&&(decide (bs<=x)&&decide (x<bs+sl)))):=by
     rw[Ul,List.any_append];simp[Qi]
   generalize (n.spurs.take k).any (Qi x)=ok at*;simp only[go_sem,Nt.cs,Cm,Ab,Ou,Ho];refine CE mixed (p:=[(0,0),(1,0),(2,0),(3,0),(4,0),(5,0),(6,0),(7,0),(8,0),(9,0),(10,0),(11,0),(12,0),(13,0),(14,0),(15,0),(16,0),(17,0),(18,0),(19,0),(20,0),(21,0),(22,0),(23,0),(24,0),(25,0),(26,0),(27,0),(28,0)]) (by kernel_rfl) (by simp[C5,get]) ?_;cases ok;rotate_left
   . simp only[go_sem,Nt.cs,HG];refine JL (k+1) _ Qp (by omega) ?_
     (refine Wk.forget ?_;simp[ZF,Nt.cs,han];done)
   cases dp
   . simp only[go_sem,Nt.cs,HG];refine JL (k+1) _ Qp (by omega) ?_
     (refine Wk.forget ?_;simp[ZF,Nt.cs,han];done)
   cases c1:decide (bs<=x)
   . simp only[go_sem,Nt.cs,BS,Ab,hgr,DH,c1,HG];refine JL (k+1) _ Qp (by omega) ?_
     (refine Wk.forget ?_;simp[ZF,Nt.cs,han,c1];done)
   cases c2:decide (x<bs+sl)
   . simp only[go_sem,Nt.cs,BS,Ab,hgr,DH,c1,r5,c2,HG];refine JL (k+1) _ Qp (by omega) ?_
     (refine Wk.forget ?_;simp[ZF,Nt.cs,han,c1,c2];done)
   . simp only[go_sem,Nt.cs,BS,Ab,hgr,DH,c1,r5,c2,HG];refine JL (k+1) _ Qp (by omega) ?_
     (refine Wk.forget ?_;simp[ZF,Nt.cs,han,c1,c2];done)
 have:k=n.spurs.length:=by simp at h4;omega
 subst this;rw[Aw];simp only[go_sem];refine CE mixed (p:=[(0,0),(1,0),(2,0),(3,0),(4,0),(5,0),(6,0),(7,0),(8,0),(9,0),(10,0),(11,0),(12,2),(13,0)]) (by kernel_rfl) (by simp[C5,get]) ?_;cases ho:n.spurs.any (Qi x)
 . simp only[go_sem,ho];rw[Jp (λ hp=>by rw[ho] at hp;cases hp.1)]
 simp only[go_sem,Nt.cs,BS,Ab,hgr,DH,ho,Od];refine ⟨⟨by omega,by simp[Ly,BT]⟩,?_⟩;refine Gq ((S7 (n.BW.take i) x (by simp;omega))) ?_;cases hh:decide (x∈n.BW.take i)
 . simp only[go_sem,hh,hw];refine ih (i+1) _ ⟨Cj,Nu ⟨ho,Ae hh⟩⟩ (by omega) ?_
   (refine Wk.forget ?_;simp[ZF,Nt.cs];done)
 . simp only[go_sem,hh];rw[Jp (λ hp=>hp.2 (Ad hh))]
theorem any_take_succ{α:Type}(p:α->Bool)(l:List α)(k:Nat)(x:α)(h:k<l.length):(l.take (k+1)).any p=((l.take k).any p||p (l.getD k x)):=by
 rw[Cr l k x h,List.any_append];simp
theorem QF(l:List Int)(i:Nat):((BT l)[i]?.getD []).tail=[]:=by
 unfold BT;rw[AP];cases l[i]?<;>rfl
theorem Apl(g:List (List Int))(sh:List Bool)(goal:Nat)(hg:DI g)(Jn:sh.length=g.length)(F3:goal<g.length):
   BV prog 123 [.p (.sl (Cw g)),.p (.sl (CW sh)),.p (.int .i64 (goal:Nat))] [] λ h r=>h=[]/\r= .p (.sl (BT (Dv g sh goal))):=by
 have hlen:=hg.1;refine BX func123 rfl Afh (by simp[Tryz.f123]) ?_;simp only[go_sem,Ca];refine ⟨by omega,?_⟩;refine B3 (λ q:Nat×List Int=>⟨[(0,.p (.sl (Cw g))),(1,.p (.sl (CW sh))),(2,.p (.int .i64 (goal:Nat))),(7,.ref 14 0 g.length g.length),(8,.p (.int .i64 (q.1:Nat)))],[(14,.arr 3 1 (BT q.2))],82⟩)
   (λ q=>q.1<=g.length/\q.2.length=g.length/\∀j,j<q.1->q.2.getD j 0=-1) (λ q=>g.length - q.1) (0,List.replicate g.length 0) ⟨AG _,by simp,λ j hj=>absurd hj (A3 _)⟩ (Wk.forget (by simp[ZF,BT])) ?_
 rintro ⟨i,o⟩ m ⟨hi,ho,hm⟩ ih;simp only at hi ho hm;simp only[go_sem,Ca];refine Cv (λ h2=>?_) (λ h2=>?_)
 . have Cj:i<g.length:=by simp at h2;omega
   have hw:=Cf i (by omega);have DH:(0:Int)<=(i:Int)/\(i:Int)<(g.length:Int):=by omega
   simp only[go_sem,BS,ho,Ab,DH,hw];refine ih (i+1,o.set i (-1)) _ ⟨Cj,by simpa using ho,λ j hj=>?_⟩ (by simp only;omega) ?_
   . rw[D7];by_cases e:i=j
     . rw[if_pos ⟨e,by omega⟩]
     . rw[if_neg (λ h=>e h.1)];exact hm j (by omega)
   . (refine Wk.forget ?_;simp[ZF,C9,QF];done)
 have hie:i=g.length:=by simp at h2;omega
 subst hie;have hoe:o=List.replicate g.length (-1):=by
   refine List.ext_getElem (by simp[ho]) λ j h3 h4=>?_;have:=hm j (by omega);rw[getD_eq h3] at this
   simpa using this
 subst hoe;clear ih hm;have Azw:=Hj sh goal (by omega);have hg0:(0:Int)<=(goal:Int)/\(goal:Int)<(g.length:Int):=by omega
 simp only[go_sem,Hi,Jn,Ab,Azw,hg0];cases hs:sh.getD goal false;rotate_left
 . simp only[go_sem,hs];refine BU ?_;simp only[go_sem];unfold Dv;rw[if_pos hs];simp[BT]
 simp only[go_sem,hs,BS,List.length_replicate,Ab,hg0];have hdv:Dv g sh goal=Jw g sh (g.length - 1) 1 ((List.replicate g.length (-1)).set goal 0):=by unfold Dv;rw[if_neg (by rw[hs];simp)]
 refine B3 (λ q:Nat×List Int=>⟨[(0,.p (.sl (Cw g))),(1,.p (.sl (CW sh))),(7,.ref 14 0 g.length g.length),(9,.p (.int .i64 (q.1:Nat)))],[(14,.arr 3 1 (BT q.2))],82⟩)
   (λ q=>1<=q.1/\q.1<=24/\q.2.length=g.length/\Jw g sh (g.length - q.1) q.1 q.2=Dv g sh goal) (λ q=>g.length - q.1) (1,(List.replicate g.length (-1)).set goal 0) ⟨Ai _,by omega,by simp,hdv.symm⟩ (Wk.forget (by simp[ZF,C9,QF])) ?_
 rintro ⟨d,o⟩ m2 ⟨Vh,Ba3,ho,he⟩ ih;simp only at Vh Ba3 ho he;simp only[go_sem,Ca];refine Cv (λ h3=>?_) (λ h3=>?_);rotate_left
 . simp only[go_sem];refine BU ?_;simp only[go_sem];have:g.length - d=0:=by simp at h3;omega
   rw[this] at he;simp only[Jw] at he;rw[<-he,AV (by rw[BS];omega)];try simp[BS,ho]
 have hdt:d<g.length:=by simp at h3;omega
 have hwd:=Cf d (by omega);have hwp:IntKind.i64.wrap ((d:Int) - 1)=(d:Int) - 1:=by rw[BY]<;>omega
 rw[show g.length - d=(g.length - (d+1))+1 by omega] at he;simp only[Jw] at he;generalize hT:IL g sh d g.length 0 o=T at he;simp only[go_sem];refine B3 (λ q:Nat×List Int=>⟨[(0,.p (.sl (Cw g))),(1,.p (.sl (CW sh))),(7,.ref 14 0 g.length g.length),(9,.p (.int .i64 (d:Nat))),(10,.p (.int .i64 (q.1:Nat)))],[(14,.arr 3 1 (BT q.2))],82⟩)
   (λ q=>q.1<=g.length/\q.2.length=g.length/\IL g sh d (g.length - q.1) q.1 q.2=T) (λ q=>g.length - q.1) (0,o) ⟨AG _,ho,hT⟩ (Wk.forget (by simp[ZF])) ?_
 rintro ⟨v,o1⟩ m3 ⟨hv,ho1,he1⟩ ih1;simp only at hv ho1 he1;simp only[go_sem,Ca];refine Cv (λ h4=>?_) (λ h4=>?_);rotate_left
 . have:g.length - v=0:=by simp at h4;omega
   rw[this] at he1;simp only[IL] at he1;simp only[go_sem,hwd];refine ih (d+1,o1) _ ⟨by omega,by omega,ho1,by rw[he1];exact he⟩ (by simp only;omega) ?_
   (refine Wk.forget ?_;simp[ZF];done)
 have hvt:v<g.length:=by simp at h4;omega
 have hwv:=Cf v (by omega);rw[show g.length - v=(g.length - (v+1))+1 by omega] at he1;simp only[IL] at he1;have hgs:=Hj sh v (by omega);have hgo:=Cg o1 v (by omega);have WH:(0:Int)<=(v:Int)/\(v:Int)<(g.length:Int):=by omega
 cases c1:sh.getD v false;rotate_left
 . simp only[go_sem,Hi,BS,Jn,ho1,Ab,hgs,hgo,WH,c1,hwv];refine ih1 (v+1,o1) _ ⟨hvt,ho1,?_⟩ (by simp only;omega) ?_
   . rw[<-he1];unfold JY;rw[if_pos (.inl c1)]
   . (refine Wk.forget ?_;simp[ZF];done)
 cases c2:decide (0<=o1.getD v 0);rotate_left
 . simp only[go_sem,Hi,BS,Jn,ho1,Ab,hgs,hgo,WH,c1,c2,hwv];refine ih1 (v+1,o1) _ ⟨hvt,ho1,?_⟩ (by simp only;omega) ?_
   . rw[<-he1];unfold JY;rw[if_pos (.inr (Ad c2))]
   . (refine Wk.forget ?_;simp[ZF];done)
 simp only[go_sem,Hi,BS,Jn,ho1,Ab,hgs,hgo,WH,c1,c2];have II:JY g sh d v o1=if (g.getD v []).any (λ w=>decide (o1.getD w.toNat 0=(d:Int) - 1))=true then o1.set v d else o1:=by
   unfold JY;rw[if_neg (by
     rintro (h | h)
     . rw[c1] at h;cases h
     . exact Ae c2 h)]
 rw[II] at he1;have CS:∀k,k<(g.getD v []).length->∃w:Nat,(g.getD v []).getD k 0=(w:Int)/\w<g.length/\w≠v:=λ k hk=>Ai5 hg hvt hk;have hrl:(g.getD v []).length<=24:=by
   have hP:=hg.2 v hvt;have key:∀k,k<=(g.getD v []).length->∀j,j<k->(j:Int)<=(g.getD v []).getD j 0:=by
     intro k
     induction k with
     | zero=>intro _ j hj;omega
     | succ k ihk=>
       intro hk j hj;rcases AF.1 hj with h5 | rfl
       . exact ihk (by omega) j h5
       . have h6:=hP j (by omega);unfold IX at h6;rcases j with _ | j
         . exact h6.1
         . have h7:=ihk (by omega) j (by omega);have h8:=h6.2.2.2 (by omega);rw[show j+1 - 1=j from rfl] at h8;omega
   rcases BQ (g.getD v []).length with h5 | h5
   . omega
   . have h6:=key _ (Ai _) ((g.getD v []).length - 1) (by omega);obtain ⟨w,h7,h8,_⟩:=CS ((g.getD v []).length - 1) (by omega);omega
 have hgv:=H8 g v hvt;generalize g.getD v []=row at*;clear II c1 c2 hgs hgo;refine B3 (λ k:Nat=>⟨[(0,.p (.sl (Cw g))),(1,.p (.sl (CW sh))),(7,.ref 14 0 g.length g.length),(9,.p (.int .i64 (d:Nat))),(10,.p (.int .i64 (v:Nat))),(11,.p (.int .i64 (k:Nat)))],
     [(14,.arr 3 1 (BT (if (row.take k).any (λ w=>decide (o1.getD w.toNat 0=(d:Int) - 1))=true then o1.set v d else o1)))],82⟩)
   (λ k=>k<=row.length) (λ k=>row.length - k) 0 (AG _) (Wk.forget (by simp[ZF])) ?_
 rintro k m4 hk JL;simp only[go_sem,Ca,BS,Ab,hgv,WH];refine Cv (λ h5=>?_) (λ h5=>?_);rotate_left
 . have:k=row.length:=by simp at h5;omega
   subst this;rw[Aw];clear JL;generalize row.any (λ w=>decide (o1.getD w.toNat 0=(d:Int) - 1))=an at*;simp only[go_sem,hwv];refine ih1 (v+1,if an=true then o1.set v d else o1) _ ⟨hvt,?_,he1⟩ (by simp only;omega) ?_
   . simp only;split<;>simp[ho1]
   . (refine Wk.forget ?_;simp[ZF];done)
 have Qp:k<row.length:=by simp at h5;omega
 have HG:=Cf k (by omega);obtain ⟨w,hw,hwl,Az4⟩:=CS k Qp;have Ou:=Cg row k Qp;rw[hw] at Ou;have Ho:(0:Int)<=(k:Int)/\(k:Int)<(row.length:Int):=by omega
 have Ql:(0:Int)<=(w:Int)/\(w:Int)<(g.length:Int):=by omega
 have Ul:=any_take_succ (λ w=>decide (o1.getD w.toNat 0=(d:Int) - 1)) row k 0 Qp;rw[hw] at Ul;simp only[Ab] at Ul;generalize (row.take k).any (λ w=>decide (o1.getD w.toNat 0=(d:Int) - 1))=an at*;have ZN:(if an=true then o1.set v d else o1).length=g.length:=by split<;>simp[ho1]
 have hgw:=Cg (if an=true then o1.set v d else o1) w (by omega);have Azv:(if an=true then o1.set v d else o1).getD w 0=o1.getD w 0:=by
   split
   . rw[D7,if_neg (λ h=>Az4 h.1.symm)]
   . rfl
 rw[Azv] at hgw;have E9:(if an=true then o1.set v d else o1).set v d=o1.set v d:=by split<;>simp
 generalize hq:(if an=true then o1.set v d else o1)=q at*;simp only[go_sem,Ca,BS,Ab,hgv,WH,Ou,Ho,ZN,hgw,Ql,hwp];cases c3:decide (o1.getD w 0=(d:Int) - 1)
 . simp only[go_sem,c3,HG];refine JL (k+1) _ Qp (by omega) ?_;rw[Ul,c3,Bool.or_false,hq]
   (refine Wk.forget ?_;simp[ZF];done)
 . simp only[go_sem,c3,HG,BS,ZN,Ab,WH];refine JL (k+1) _ Qp (by omega) ?_;rw[Ul,c3,Bool.or_true,if_pos rfl,<-E9,C9]
   (refine Wk.forget ?_;simp[ZF,QF];done)
theorem Agl(g:List (List Int))(sh:List Bool)(hg:Sb g):BV prog 68 [.p (.sl (Cw g)),.p (.sl (CW sh))] [] λ h r=>h=[]/\r= .p (.int .i64 (if DI g then (if sh.length=g.length then 0 else 19) else 20)):=by
 refine BX func68 rfl Aku (by simp[Tryz.f68]) ?_;simp only[go_sem];refine Cq ((Ac4 g hg)) ?_;cases c1:decide (DI g)
 . simp only[go_sem,c1];rw[if_neg (Ae c1)]
 simp only[go_sem,c1,Hi,Ca];rw[if_pos (Ad c1)];cases c2:decide ((sh.length:Int)=(g.length:Int))
 . simp only[go_sem,c2];rw[if_neg (λ h=>Ae c2 (by omega))]
 . simp only[go_sem,c2];rw[if_pos (by have:=Ad c2;omega)]
theorem MU{g:List (List Int)}(hg:DI g)(sh:List Bool){goal:Nat}(F3:goal<g.length){v:Nat}(hv:v<g.length):-1<=(Dv g sh goal).getD v 0/\(Dv g sh goal).getD v 0<=24:=by
 rcases (Am4 hg sh goal F3).2 v hv with h | h | h<;>omega
theorem KL{g:List (List Int)}(hg:DI g){u:Nat}(hu:u<g.length):(g.getD u []).length<=24:=by
 have hP:=hg.2 u hu;have key:∀k,k<=(g.getD u []).length->∀j,j<k->(j:Int)<=(g.getD u []).getD j 0:=by
   intro k
   induction k with
   | zero=>intro _ j hj;omega
   | succ k ihk=>
     intro hk j hj;rcases AF.1 hj with h5 | rfl
     . exact ihk (by omega) j h5
     . have h6:=hP j (by omega);unfold IX at h6;rcases j with _ | j
       . exact h6.1
       . have h7:=ihk (by omega) j (by omega);have h8:=h6.2.2.2 (by omega);rw[show j+1 - 1=j from rfl] at h8;omega
 have hl:=hg.1;rcases BQ (g.getD u []).length with h5 | h5
 . omega
 . have h6:=key _ (Ai _) ((g.getD u []).length - 1) (by omega);obtain ⟨w,h7,h8,_⟩:=Ai5 hg hu (k:=(g.getD u []).length - 1) (by omega);omega
def cellsV(n:Nt):Int:=(n.blocks.length:Int)+Df n.spurs
theorem UD{nb:Nat}{l:List CX}(h:Dw nb l):∀(k i:Nat),i+k<=l.length->Df (l.take i)<=Df (l.take (i+k))
 | 0,_,_=>Int.le_refl _
 | k+1,i,hk=>by
   have h1:=UD h k i (by omega);have h2:=h (i+k) (by omega);obtain ⟨_,_,_,_,h5,_,_⟩:=h2;rw[show i+(k+1)=(i+k)+1 by omega,Cr l (i+k) B8 (by omega),D0];omega
theorem XS{nb:Nat}{l:List CX}(h:Dw nb l){i:Nat}(hi:i<l.length):
   (nb:Int)<=(l.getD i B8).base/\(l.getD i B8).base+(l.getD i B8).Ch<=(nb:Int)+Df l/\(l.getD i B8).base=(nb:Int)+Df (l.take i):=by
 obtain ⟨_,_,_,_,h5,h6,h7⟩:=h i hi;have h1:=IM nb l i (by omega) (λ j hj=>h j (by omega));have h2:=UD h (l.length - (i+1)) (i+1) (by omega);rw[show i+1+(l.length - (i+1))=l.length by omega,Aw,Cr l i B8 hi,D0] at h2;omega
theorem R4{nb:Nat}{l:List CX}(h:Dw nb l):0<=Df l/\Df l<=4*l.length:=by
 have:=IM nb l l.length (Ai _) h;rw[Aw] at this;exact this
theorem Amg(n:Nt)(hn:validN n):BV prog 49 [.agg n.cs] [] λ h r=>h=[]/\r= .p (.int .i64 (cellsV n)):=by
 obtain ⟨e1,e2,e3,e4,e5,Fs,e7,e8⟩:=hn;have WS:=e1.2.1;refine BX func49 rfl Al9 (by simp[Tryz.f49]) ?_;simp only[go_sem,Nt.cs,Ce];refine B3 (λ i:Nat=>⟨[(1,.ptr 1 0),(3,.p (.int .i64 ((n.blocks.length:Int)+Df (n.spurs.take i)))),(4,.p (.int .i64 (i:Nat)))],[(1,.box (Nt.cs n))],24⟩)
   (λ i=>i<=n.spurs.length) (λ i=>n.spurs.length - i) 0 (AG _) (Wk.forget (by simp[ZF,Nt.cs,Df])) ?_
 rintro i m hi ih;simp only[go_sem,Nt.cs,Cm];refine Cv (λ h2=>?_) (λ h2=>?_)
 . have Cj:i<n.spurs.length:=by simp at h2;omega
   have hw:=Cf i (by omega);have hg:=FH n.spurs i Cj;have DH:(0:Int)<=(i:Int)/\(i:Int)<(n.spurs.length:Int):=by omega
   have hr:=IM n.blocks.length n.spurs (i+1) Cj (λ j hj=>Fs j (by omega));have Ul:Df (n.spurs.take (i+1))=Df (n.spurs.take i)+(n.spurs.getD i B8).Ch:=by rw[Cr n.spurs i B8 Cj,D0]
   rw[Ul] at hr;have r5:IntKind.i64.wrap ((n.blocks.length:Int)+Df (n.spurs.take i)+(n.spurs.getD i B8).Ch)=(n.blocks.length:Int)+Df (n.spurs.take i)+(n.spurs.getD i B8).Ch:=by rw[BY]<;>omega
   simp only[go_sem,Nt.cs,Cm,Ab,hg,DH,r5,hw];refine ih (i+1) _ Cj (by omega) ?_
   (refine Wk.forget ?_;simp[ZF,Nt.cs,Ul,Int.add_assoc];done)
 . simp only[go_sem];have:i=n.spurs.length:=by simp at h2;omega
   subst this;rw[Aw];rfl
def L0(sh:List Bool)(s:CX):Bool:=!sh.getD s.Ip.toNat false&&(!sh.getD s.out.toNat false&&(List.range s.Ch.toNat).all λ j=>!sh.getD (s.base.toNat+j) false)
theorem Aod(n:Nt)(hn:validN n)(sh:List Bool)(Jn:(sh.length:Int)=cellsV n)(s:Nat)(hs:s<n.spurs.length):
   BV prog 87 [.agg n.cs,.p (.sl (CW sh)),.p (.int .i64 (s:Nat))] [] λ h r=>h=[]/\r= .p (.bool (L0 sh (n.spurs.getD s B8))):=by
 obtain ⟨e1,e2,e3,e4,e5,Fs,e7,e8⟩:=hn;have WS:=e1.2.1;obtain ⟨i1,i2,i3,i4,i5,i6,i7⟩:=Fs s hs;obtain ⟨r1,r2,r3⟩:=XS Fs hs;have DZ:=R4 Fs;have hg:=FH n.spurs s hs;have hs0:(0:Int)<=(s:Int)/\(s:Int)<(n.spurs.length:Int):=by omega
 unfold cellsV at Jn;refine BX func87 rfl Akn (by simp[Tryz.f87]) ?_;simp only[go_sem,Nt.cs,Cm,Ab,hg,hs0];generalize n.spurs.getD s B8=sp at*;clear hg;obtain ⟨nm,dp,Ip,out,sl,bs⟩:=sp;simp only at i1 i2 i3 i4 i5 i6 i7 r1 r2 r3;obtain ⟨a,rfl⟩:∃a:Nat,Ip=(a:Int):=⟨Ip.toNat,by omega⟩;obtain ⟨b,rfl⟩:∃b:Nat,out=(b:Int):=⟨out.toNat,by omega⟩;obtain ⟨c,rfl⟩:∃c:Nat,bs=(c:Int):=⟨bs.toNat,by omega⟩;obtain ⟨d,rfl⟩:∃d:Nat,sl=(d:Int):=⟨sl.toNat,by omega⟩;have ha:=Hj sh a (by omega);have hb:=Hj sh b (by omega);have ha0:(0:Int)<=(a:Int)/\(a:Int)<(sh.length:Int):=by omega
 have hb0:(0:Int)<=(b:Int)/\(b:Int)<(sh.length:Int):=by omega
 have hO:L0 sh ⟨nm,dp,a,b,d,c⟩=(!sh.getD a false&&(!sh.getD b false&&(List.range d).all λ j=>!sh.getD (c+j) false)):=by simp[L0]
 cases c1:sh.getD a false;rotate_left
 . simp only[go_sem,Hi,Ab,ha,ha0,c1];rw[hO,c1];simp
 cases c2:sh.getD b false;rotate_left
 . simp only[go_sem,Hi,Ab,ha,ha0,c1,hb,hb0,c2];rw[hO,c1,c2];simp
 simp only[go_sem,Hi,Ab,ha,ha0,c1,hb,hb0,c2];rw[hO,c1,c2];refine B3 (λ j:Nat=>⟨[(1,.p (.sl (CW sh))),(7,.ptr 7 0),(8,.p (.int .i64 ((c+j:Nat):Int)))],[(7,.box [.p (.str nm),.p (.bool dp),.p (.int .i64 (a:Nat)),.p (.int .i64 (b:Nat)),.p (.int .i64 (d:Nat)),.p (.int .i64 (c:Nat))])],41⟩)
   (λ j=>j<=d/\∀u,u<j->sh.getD (c+u) false=false) (λ j=>d - j) 0 ⟨AG _,λ u hu=>absurd hu (A3 _)⟩ (Wk.forget (by simp[ZF])) ?_
 rintro j m ⟨hj,Ar8⟩ ih;have hwe:IntKind.i64.wrap ((c:Int)+(d:Int))=(c:Int)+(d:Int):=by rw[BY]<;>omega
 simp only[go_sem,hwe];refine Cv (λ h2=>?_) (λ h2=>?_)
 . have hjt:j<d:=by simp at h2;omega
   have hw:=Cf (c+j) (by omega);have hgj:=Hj sh (c+j) (by omega);have hj0:(0:Int)<=((c+j:Nat):Int)/\((c+j:Nat):Int)<(sh.length:Int):=by omega
   simp only[go_sem,Hi,Ab,hgj,hj0];cases c3:sh.getD (c+j) false
   . simp only[go_sem,c3,hw];refine ih (j+1) _ ⟨hjt,λ u hu=>?_⟩ (by omega) ?_
     . rcases AF.1 hu with h5 | rfl
       . exact Ar8 u h5
       . exact c3
     . (refine Wk.forget ?_;simp[ZF,Nat.add_assoc];done)
   . simp only[go_sem,c3];have hex:((List.range d).all λ j=>!sh.getD (c+j) false)=false:=by
       rw[List.all_eq_false];exact ⟨j,List.mem_range.2 hjt,by rw[c3];simp⟩
     rw[hex]
 . simp only[go_sem];have:j=d:=by simp at h2;omega
   subst this;have JU:((List.range j).all λ j=>!sh.getD (c+j) false)=true:=by
     rw[AB];intro u hu;rw[Ar8 u (List.mem_range.1 hu)];rfl
   rw[JU]
def slotsV(sh:List Bool):List CX->Int
 | []=>0
 | s::r=>(if s.Cy&&L0 sh s then s.Ch else 0)+slotsV sh r
theorem LI(sh:List Bool)(l:List CX)(s:CX):slotsV sh (l++[s])=slotsV sh l+(if s.Cy&&L0 sh s then s.Ch else 0):=by
 induction l with
 | nil=>simp[slotsV]
 | cons x r ih=>simp only[AR,slotsV,ih];omega
theorem Sc(sh:List Bool){nb:Nat}{l:List CX}(h:Dw nb l):∀k,k<=l.length->0<=slotsV sh (l.take k)/\slotsV sh (l.take k)<=4*k
 | 0,_=>by simp[slotsV]
 | k+1,hk=>by
   have h1:=Sc sh h k (by omega);obtain ⟨_,_,_,_,h5,h6,_⟩:=h k (by omega);rw[Cr l k B8 (by omega),LI];split<;>omega
theorem Ahz(n:Nt)(hn:validN n)(sh:List Bool)(Jn:(sh.length:Int)=cellsV n):
   BV prog 48 [.agg n.cs,.p (.sl (CW sh))] [] λ h r=>h=[]/\r= .p (.int .i64 (slotsV sh n.spurs)):=by
 have hO:=λ s hs=>Aod n hn sh Jn s hs;obtain ⟨e1,e2,e3,e4,e5,Fs,e7,e8⟩:=hn;refine BX func48 rfl Ala (by simp[Tryz.f48]) ?_;simp only[go_sem,Nt.cs];refine B3 (λ i:Nat=>⟨[(1,.p (.sl (CW sh))),(2,.ptr 2 0),(5,.p (.int .i64 (slotsV sh (n.spurs.take i)))),(6,.p (.int .i64 (i:Nat)))],[(2,.box (Nt.cs n))],35⟩)
   (λ i=>i<=n.spurs.length) (λ i=>n.spurs.length - i) 0 (AG _) (Wk.forget (by simp[ZF,Nt.cs,slotsV])) ?_
 rintro i m hi ih;simp only[go_sem,Nt.cs,Cm];refine Cv (λ h2=>?_) (λ h2=>?_)
 . have Cj:i<n.spurs.length:=by simp at h2;omega
   have hw:=Cf i (by omega);have hg:=FH n.spurs i Cj;have DH:(0:Int)<=(i:Int)/\(i:Int)<(n.spurs.length:Int):=by omega
   have hr:=Sc sh Fs i hi;have Ul:slotsV sh (n.spurs.take (i+1))=slotsV sh (n.spurs.take i)+(if (n.spurs.getD i B8).Cy&&L0 sh (n.spurs.getD i B8) then (n.spurs.getD i B8).Ch else 0):=by rw[Cr n.spurs i B8 Cj,LI]
   have hOi:=hO i Cj;obtain ⟨_,_,_,_,i5,i6,_⟩:=Fs i Cj;generalize n.spurs.getD i B8=s at*;have r5:IntKind.i64.wrap (slotsV sh (n.spurs.take i)+s.Ch)=slotsV sh (n.spurs.take i)+s.Ch:=by rw[BY]<;>omega
   generalize slotsV sh (n.spurs.take i)=S at*;cases c1:s.Cy
   . simp only[go_sem,Nt.cs,Cm,Ab,hg,DH,c1,hw];refine ih (i+1) _ Cj (by omega) ?_
     (refine Wk.forget ?_;simp[ZF,Nt.cs,Ul,c1];done)
   simp only[go_sem,Nt.cs,Cm,Ab,hg,DH,c1];refine Cq ((hOi)) ?_;cases c2:L0 sh s
   . simp only[go_sem,c2,hw];refine ih (i+1) _ Cj (by omega) ?_
     (refine Wk.forget ?_;simp[ZF,Nt.cs,Ul,c1,c2];done)
   . simp only[go_sem,Nt.cs,Cm,Ab,hg,DH,c1,c2,r5,hw];refine ih (i+1) _ Cj (by omega) ?_
     (refine Wk.forget ?_;simp[ZF,Nt.cs,Ul,c1,c2];done)
 . simp only[go_sem];have:i=n.spurs.length:=by simp at h2;omega
   subst this;rw[Aw]
theorem DU{n:Nt}(hn:validN n):DI n.next/\Sb n.next/\n.next.length=n.blocks.length:=by
 obtain ⟨⟨h1,h2,h3,h4⟩,_⟩:=hn;refine ⟨⟨by omega,λ i hi=>?_⟩,⟨by omega,λ r hr=>?_⟩,h3⟩
 . rw[h3];exact (h4 i (by omega)).2.2
 . obtain ⟨i,hi,rfl⟩:=AA.1 hr;have:=(h4 i (by omega)).2.1;rw[getD_eq hi] at this;omega
theorem IN{n:Nt}(hn:validN n):JF n:=by
 have hg:=DU hn;obtain ⟨⟨h1,h2,h3,h4⟩,h5,h6,h7,_⟩:=hn;exact ⟨by omega,hg.2.1,by omega,by omega⟩
def QU(s:CX):List Int:=if s.Cy=true then (List.range s.Ch.toNat).map (λ j=>s.base+((j:Nat):Int)) else []
def Gl(l:List CX):List Int:=l.flatMap QU
theorem Nl(l:List CX)(s:CX):Gl (l++[s])=Gl l++QU s:=by simp[Gl]
theorem UJ{s:CX}{x:Int}:x∈QU s↔Qi x s=true:=by
 unfold QU Qi;by_cases h:s.Cy=true
 . rw[if_pos h,h];simp only[AN,List.mem_range,Bz,Ar,Ao];constructor
   . rintro ⟨j,hj,rfl⟩;omega
   . rintro ⟨h1,h2⟩;exact ⟨(x - s.base).toNat,by omega,by omega⟩
 . have h2:s.Cy=false:=by simpa using h
   rw[if_neg h,h2];simp
theorem XW(s:CX):(QU s).Nodup:=by
 unfold QU;split
 . rw[List.nodup_iff_pairwise_ne,List.pairwise_map];exact (List.pairwise_lt_range).imp λ h=>by omega
 . exact List.nodup_nil
theorem QT{nb:Nat}{l:List CX}(h:Dw nb l):∀k,k<=l.length->(Gl (l.take k)).Nodup/\∀x∈Gl (l.take k),x<(nb:Int)+Df (l.take k)
 | 0,_=>by simp[Gl]
 | k+1,hk=>by
   obtain ⟨h1,h2⟩:=QT h k (by omega);have hs:=h k (by omega);rw[Cr l k B8 (by omega),Nl,D0];generalize l.getD k B8=s at*;obtain ⟨_,_,_,_,h5,h6,h7⟩:=hs;have hm:∀x∈QU s,s.base<=x/\x<s.base+s.Ch:=λ x hx=>by
     have:=UJ.1 hx;unfold Qi at this;simp at this;exact ⟨this.2.1,this.2.2⟩
   refine ⟨?_,λ x hx=>?_⟩
   . rw[Bn];refine ⟨h1,XW s,λ x hx y hy e=>?_⟩;have h8:=h2 x hx;have h9:=hm y hy;omega
   . rcases Au.1 hx with hx | hx
     . have:=h2 x hx;omega
     . have:=hm x hx;omega
theorem Ak7(c k:Nat):(List.replicate c false).getD k false=false:=by
 simp only[List.getD,Bw];split<;>rfl
theorem Ad7(c:Nat)(s:CX):L0 (List.replicate c false) s=true:=by
 unfold L0;simp only[Ak7];simp
theorem QS{nb:Nat}{l:List CX}(h:Dw nb l)(c:Nat):∀k,k<=l.length->slotsV (List.replicate c false) (l.take k)=((Gl (l.take k)).length:Int)
 | 0,_=>by simp[slotsV,Gl]
 | k+1,hk=>by
   have h1:=QS h c k (by omega);have hs:=h k (by omega);rw[Cr l k B8 (by omega),LI,Nl,At,h1,Ad7];obtain ⟨_,_,_,_,h5,h6,h7⟩:=hs;generalize l.getD k B8=s at*;unfold QU;cases hd:s.Cy
   . simp
   . simp;omega
theorem Aeh{nb:Nat}{l:List CX}(h:Dw nb l)(c:Nat){rb:List Int}(hr:(rb.length:Int)<slotsV (List.replicate c false) l):∃s∈l,∃j:Nat,s.Cy=true/\(j:Int)<s.Ch/\s.base+(j:Int)∉rb:=by
 have h1:=QS h c l.length (Ai _);have h2:=(QT h l.length (Ai _)).1;rw[Aw] at h1 h2;have Dn:¬∀x∈Gl l,x∈rb:=λ hh=>by have:=Aim _ rb h2 hh;omega
 have:∃x,x∈Gl l/\x∉rb:=Classical.byContradiction λ hc=>Dn λ x hx=>Classical.byContradiction λ H4=>hc ⟨x,hx,H4⟩;obtain ⟨x,hx,H4⟩:=this;obtain ⟨s,hs,Hn⟩:=Bl.1 hx;have h3:=UJ.1 Hn;unfold Qi at h3;simp at h3;exact ⟨s,hs,(x - s.base).toNat,h3.1,by omega,by rw[show s.base+(((x - s.base).toNat:Nat):Int)=x by omega];exact H4⟩
def RP(b i:Nat)(r:List Int):Prop:=r.Pairwise (· < ·)/\(∀x∈r,0<=x/\x<(b:Int)/\x≠(i:Int))/\r.length<=4/\(1<b->(((i+1) % b:Nat):Int)∈r)
theorem RP.row{b i:Nat}{r:List Int}(h:RP b i r):Iv b i r:=by
 intro k hk;obtain ⟨h1,h2,_,_⟩:=h;have h3:=h2 _ (CJ r k 0 hk);refine ⟨h3.1,h3.2.1,h3.2.2,λ Ho=>?_⟩;rw[getD_eq hk,getD_eq (show k - 1<r.length by omega)];exact List.pairwise_iff_getElem.1 h1 (k - 1) k (by omega) hk (by omega)
theorem RP.ins{b i:Nat}{r:List Int}{x:Int}(h:RP b i r)(h0:0<=x)(hb:x<(b:Int))(hi:x≠(i:Int))(hn:x∉r)(hl:r.length<4):RP b i (Kg r x):=by
 obtain ⟨h1,h2,h3,h4⟩:=h;refine ⟨Ajf r x h1 hn,λ y hy=>?_,by rw[Aje];omega,λ RD=>(SQ r x _).2 (.inr (h4 RD))⟩;rcases (SQ r x y).1 hy with rfl | hy
 . exact ⟨h0,hb,hi⟩
 . exact h2 y hy
theorem Kw(l:List (List Int))(i:Nat):((Cw l)[i]?.getD []).tail=[]:=by
 unfold Cw;rw[AP];cases l[i]?<;>rfl
theorem Ao5(l:List Int)(at_ b:Nat)(bl:List EH)(nx:List (List Int))(Ij:at_<1000000)(RD:1<=b)(hb:b<=10)(Xz:bl.length=b)(Xw:nx.length=b)(Ba1:∀i,i<b->nx.getD i []=[]):
   BV prog 57 [.ptr 1000000 0,.ptr 1000001 0]
     [(1000000,.box (C7 l at_)),(1000001,.box [.ref 1000002 0 b b,.ref 1000003 0 b b,.cl [],.cl [],.p (.int .i64 0),.p (.int .i64 0),.p (.int .i64 0),.p (.int .i64 0)]),(1000002,.arr 76 3 (C0 bl)),(1000003,.arr 22 1 (Cw nx))]
     λ h r=>∃at2 nx2,at2<=at_+20/\nx2.length=b/\(∀i,i<b->RP b i (nx2.getD i []))/\r= .De []/\
       h=[(1000000,.box (C7 l at2)),(1000001,.box [.ref 1000002 0 b b,.ref 1000003 0 b b,.cl [],.cl [],.p (.int .i64 0),.p (.int .i64 0),.p (.int .i64 0),.p (.int .i64 0)]),(1000002,.arr 76 3 (C0 bl)),(1000003,.arr 22 1 (Cw nx2))]:=by
 refine BX func57 rfl Al4 (by simp[Tryz.f57]) ?_;simp only[go_sem,C7];refine ⟨by rw[Ce];exact Xz.symm,?_⟩;refine B3 (λ q:Nat×List (List Int)=>⟨[(0,.ptr 1000000 0),(1,.ptr 1000001 0),(4,.p (.int .i64 (b:Nat))),(5,.p (.int .i64 (q.1:Nat)))],
     [(1000000,.box [.p (.sl (BT l)),.p (.int .i64 (at_:Nat))]),(1000001,.box [.ref 1000002 0 b b,.ref 1000003 0 b b,.cl [],.cl [],.p (.int .i64 0),.p (.int .i64 0),.p (.int .i64 0),.p (.int .i64 0)]),(1000002,.arr 76 3 (C0 bl)),(1000003,.arr 22 1 (Cw q.2))],98⟩)
   (λ q=>q.1<=b/\q.2.length=b/\(∀j,j<q.1->RP b j (q.2.getD j []))/\(∀j,q.1<=j->j<b->q.2.getD j []=[])) (λ q=>b - q.1) (0,nx) ⟨AG _,Xw,λ j hj=>absurd hj (A3 _),λ j _ hj=>Ba1 j hj⟩ (Wk.forget (by simp[ZF,Cw])) ?_
 rintro ⟨i,g⟩ m ⟨hi,hgl,Ajy,Ajl⟩ ih;simp only at hi hgl Ajy Ajl;cases c1:decide ((i:Int)<(b:Int));rotate_left
 . cases c2:decide (1<(b:Int));rotate_left
   . have hib:i<b:=by have:=Ad c1;omega
     have TZ:1<b:=by have:=Ad c2;omega
     have hw:=Cf i (by omega);have YA:((i+1:Nat):Int).tmod (b:Int)=(((i+1) % b:Nat):Int):=by rw[Int.tmod_eq_emod_of_nonneg (by omega)];omega
     have Dn:¬(b:Int)=0:=by omega
     have DH:(0:Int)<=(i:Int)/\(i:Int)<(b:Int):=by omega
     simp only[go_sem,c1,c2];refine CE mixed (p:=[(0,0),(1,0),(2,0),(3,0),(4,0),(5,0),(6,0),(7,0),(8,0),(9,1),(10,0),(11,3)]) (by kernel_rfl) (by simp[C5,get]) ?_;simp only[go_sem,hw,YA,Dn,Ca,hgl,Ab,DH];refine ih (i+1,g.set i [(((i+1) % b:Nat):Int)]) _ ⟨hib,by simpa using hgl,λ j hj=>?_,λ j hj hjb=>?_⟩ (by simp only;omega) ?_
     . rw[D7];by_cases e:i=j
       . subst e;rw[if_pos ⟨rfl,by omega⟩];have hm:(i+1) % b<b:=Nat.mod_lt _ (by omega);have RA:(i+1) % b≠i:=by
           intro h;rcases Nat.lt_or_ge (i+1) b with h5 | h5
           . rw[Nat.mod_eq_of_lt h5] at h;omega
           . have:i+1=b:=by omega
             rw[this,Nat.mod_self] at h;omega
         refine ⟨List.pairwise_singleton _ _,λ x hx=>?_,by simp,λ _=>by simp⟩;rw[Av] at hx;subst hx;omega
       . rw[if_neg (λ h=>e h.1)];exact Ajy j (by omega)
     . rw[D7,if_neg (by omega)];exact Ajl j (by omega) hjb
     . (refine Wk.forget ?_;simp[ZF,Mr,Kw,BT];done)
   . have hb0:b=1:=by have:=Ae c2;omega
     have Nr:i=0:=by have:=Ad c1;omega
     have hRP:∀u,u<b->RP b u (g.getD u []):=λ u hu=>by
       rw[Ajl u (by omega) hu];exact ⟨List.Pairwise.nil,λ x hx=>absurd hx (by simp),by simp,λ h=>absurd h (by omega)⟩
     simp only[go_sem,c1,c2];refine Cq ((Da l at_ 4 (by omega) (CF _ (by omega) (by omega)))) ?_;obtain ⟨k0,Ho,hk4⟩:=CU l at_ 4 (by omega);simp only[go_sem,C7,Ho];refine B3 (λ q:Nat×Nat×List (List Int)=>⟨[(0,.ptr 1000000 0),(1,.ptr 1000001 0),(4,.p (.int .i64 (b:Nat))),(6,.p (.int .i64 (q.1:Nat)))],
         [(1000000,.box [.p (.sl (BT l)),.p (.int .i64 (q.2.1:Nat))]),(1000001,.box [.ref 1000002 0 b b,.ref 1000003 0 b b,.cl [],.cl [],.p (.int .i64 0),.p (.int .i64 0),.p (.int .i64 0),.p (.int .i64 0)]),(1000002,.arr 76 3 (C0 bl)),(1000003,.arr 22 1 (Cw q.2.2))],98⟩)
       (λ q=>q.1<=3/\q.2.1<=at_+1+3*(3 - q.1)/\q.2.2.length=b/\∀i,i<b->RP b i (q.2.2.getD i [])) (λ q=>q.1) (k0,at_+1,g) ⟨by simp only;omega,by simp only;omega,hgl,hRP⟩ (Wk.forget (by simp[ZF,Cw])) ?_
     rintro ⟨k,a,g2⟩ m2 ⟨hk3,JU,EI,Hf⟩ JL;simp only at hk3 JU EI Hf;cases d1:decide (0<(k:Int))
     . simp only[go_sem,d1];refine CR ?_;simp only[go_sem];refine ⟨a,g2,by omega,EI,Hf,?_⟩;first | exact ⟨rfl,rfl⟩ | rfl | simp
     cases d2:decide (2<(b:Int))
     . simp only[go_sem,d1,d2];refine CR ?_;simp only[go_sem];refine ⟨a,g2,by omega,EI,Hf,?_⟩;first | exact ⟨rfl,rfl⟩ | rfl | simp
     have hkp:1<=k:=by have:=Ad d1;omega
     obtain ⟨k,rfl⟩:∃j,k=j+1:=⟨k - 1,by omega⟩;have HG:=Hz k (by omega);have hb3:2<b:=by have:=Ad d2;omega
     have hbz:(0:Int)<(b:Int):=by omega
     obtain ⟨ii,hii,Azt⟩:=CU l a b hbz;obtain ⟨jj,hjj,Azs⟩:=CU l (a+1) b hbz;have JM:(0:Int)<=(ii:Int)/\(ii:Int)<(b:Int):=by omega
     have Hw:=H8 g2 ii (by omega);have hRl:=(Hf ii (by omega)).2.2.1;simp only[go_sem,d1,d2];refine Cq ((Da l a b (by omega) (CF _ (by omega) (by omega)))) ?_;simp only[go_sem,C7,hii];refine Cq ((Da l (a+1) b (by omega) (CF _ (by omega) (by omega)))) ?_;simp only[go_sem,C7,hjj];refine Cq ((Da l (a+1+1) 3 (by omega) (CF _ (by omega) (by omega)))) ?_;simp only[go_sem,C7];have SZ:(((ii:Int)+2)).tmod (b:Int)=(((ii+2) % b:Nat):Int):=by
       rw[show (ii:Int)+2=((ii+2:Nat):Int) by omega,Int.tmod_eq_emod_of_nonneg (by omega)];exact (Int.natCast_emod _ _).symm
     have hwi:IntKind.i64.wrap ((ii:Int)+2)=(ii:Int)+2:=by rw[BY]<;>omega
     have Ak1:¬(b:Int)=0:=by omega
     have RA:(ii+2) % b<b:=Nat.mod_lt _ (by omega);cases d3:decide (0<L2 l (a+1+1) 3)
     . skip
       have hJ0:(0:Int)<=((jj:Nat):Int)/\((jj:Nat):Int)<(b:Int):=by omega
       cases d4:decide ((ii:Int)=((jj:Nat):Int));rotate_left
       . simp only[go_sem,d3,HG,d4,HG];refine JL (k,a+1+1+1,g2) _ ⟨by simp only;omega,by simp only;omega,EI,Hf⟩ (by simp only;omega) ?_
         (refine Wk.forget ?_;simp[ZF];done)
       simp only[go_sem,d3,HG,d4,Ca,EI,Ab,Hw,JM];refine Cq ((S7 (g2.getD ii []) ((jj:Nat):Int) (by omega))) ?_;cases d5:decide (((jj:Nat):Int)∈g2.getD ii []);rotate_left
       . simp only[go_sem,d5,HG];refine JL (k,a+1+1+1,g2) _ ⟨by simp only;omega,by simp only;omega,EI,Hf⟩ (by simp only;omega) ?_
         (refine Wk.forget ?_;simp[ZF];done)
       cases d6:decide (((g2.getD ii []).length:Int)<4)
       . simp only[go_sem,d5,Ca,BS,EI,Ab,Hw,JM,d6,HG];refine JL (k,a+1+1+1,g2) _ ⟨by simp only;omega,by simp only;omega,EI,Hf⟩ (by simp only;omega) ?_
         (refine Wk.forget ?_;simp[ZF];done)
       simp only[go_sem,d5,Ca,BS,EI,Ab,Hw,JM,d6];refine CE mixed (p:=[(0,0),(1,0),(2,0),(3,0),(4,0),(5,0),(6,0),(7,0),(8,0),(9,0),(10,0),(11,0),(12,0),(13,2),(14,0),(15,3)]) (by kernel_rfl) (by simp[C5,get]) ?_;simp only[go_sem,Ca,BS,EI,Ab,Hw,JM];refine Gq ((MJ (g2.getD ii []) ((jj:Nat):Int) (by omega))) ?_;simp only[go_sem,Ca,EI,Ab,JM,HG];refine JL (k,a+1+1+1,g2.set ii (Kg (g2.getD ii []) ((jj:Nat):Int))) _ ⟨by simp only;omega,by simp only;omega,by simpa using EI,λ u hu=>?_⟩ (by simp only;omega) ?_
       . rw[D7];by_cases e:ii=u
         . subst e;rw[if_pos ⟨rfl,by omega⟩];exact (Hf ii hu).ins hJ0.1 hJ0.2 (λ h=>Ae d4 h.symm) (Ae d5) (by have:=Ad d6;omega)
         . rw[if_neg (λ h=>e h.1)];exact Hf u hu
       . (refine Wk.forget ?_;simp[ZF,Mr,Kw];done)
     . generalize (ii+2) % b=J at SZ RA;have hJ0:(0:Int)<=((J:Nat):Int)/\((J:Nat):Int)<(b:Int):=by omega
       cases d4:decide ((ii:Int)=((J:Nat):Int));rotate_left
       . simp only[go_sem,d3,hwi,SZ,Ak1,d4,HG];refine JL (k,a+1+1+1,g2) _ ⟨by simp only;omega,by simp only;omega,EI,Hf⟩ (by simp only;omega) ?_
         (refine Wk.forget ?_;simp[ZF];done)
       simp only[go_sem,d3,hwi,SZ,Ak1,d4,Ca,EI,Ab,Hw,JM];refine Cq ((S7 (g2.getD ii []) ((J:Nat):Int) (by omega))) ?_;cases d5:decide (((J:Nat):Int)∈g2.getD ii []);rotate_left
       . simp only[go_sem,d5,HG];refine JL (k,a+1+1+1,g2) _ ⟨by simp only;omega,by simp only;omega,EI,Hf⟩ (by simp only;omega) ?_
         (refine Wk.forget ?_;simp[ZF];done)
       cases d6:decide (((g2.getD ii []).length:Int)<4)
       . simp only[go_sem,d5,Ca,BS,EI,Ab,Hw,JM,d6,HG];refine JL (k,a+1+1+1,g2) _ ⟨by simp only;omega,by simp only;omega,EI,Hf⟩ (by simp only;omega) ?_
         (refine Wk.forget ?_;simp[ZF];done)
       simp only[go_sem,d5,Ca,BS,EI,Ab,Hw,JM,d6];refine CE mixed (p:=[(0,0),(1,0),(2,0),(3,0),(4,0),(5,0),(6,0),(7,0),(8,0),(9,0),(10,0),(11,0),(12,0),(13,2),(14,0),(15,3)]) (by kernel_rfl) (by simp[C5,get]) ?_;simp only[go_sem,Ca,BS,EI,Ab,Hw,JM];refine Gq ((MJ (g2.getD ii []) ((J:Nat):Int) (by omega))) ?_;simp only[go_sem,Ca,EI,Ab,JM,HG];refine JL (k,a+1+1+1,g2.set ii (Kg (g2.getD ii []) ((J:Nat):Int))) _ ⟨by simp only;omega,by simp only;omega,by simpa using EI,λ u hu=>?_⟩ (by simp only;omega) ?_
       . rw[D7];by_cases e:ii=u
         . subst e;rw[if_pos ⟨rfl,by omega⟩];exact (Hf ii hu).ins hJ0.1 hJ0.2 (λ h=>Ae d4 h.symm) (Ae d5) (by have:=Ad d6;omega)
         . rw[if_neg (λ h=>e h.1)];exact Hf u hu
       . (refine Wk.forget ?_;simp[ZF,Mr,Kw];done)
 . have hie:i=b:=by have:=Ae c1;omega
   have hRP:∀u,u<b->RP b u (g.getD u []):=λ u hu=>Ajy u (by omega);simp only[go_sem,c1,c1];refine Cq ((Da l at_ 4 (by omega) (CF _ (by omega) (by omega)))) ?_;obtain ⟨k0,Ho,hk4⟩:=CU l at_ 4 (by omega);simp only[go_sem,C7,Ho];refine B3 (λ q:Nat×Nat×List (List Int)=>⟨[(0,.ptr 1000000 0),(1,.ptr 1000001 0),(4,.p (.int .i64 (b:Nat))),(6,.p (.int .i64 (q.1:Nat)))],
       [(1000000,.box [.p (.sl (BT l)),.p (.int .i64 (q.2.1:Nat))]),(1000001,.box [.ref 1000002 0 b b,.ref 1000003 0 b b,.cl [],.cl [],.p (.int .i64 0),.p (.int .i64 0),.p (.int .i64 0),.p (.int .i64 0)]),(1000002,.arr 76 3 (C0 bl)),(1000003,.arr 22 1 (Cw q.2.2))],98⟩)
     (λ q=>q.1<=3/\q.2.1<=at_+1+3*(3 - q.1)/\q.2.2.length=b/\∀i,i<b->RP b i (q.2.2.getD i [])) (λ q=>q.1) (k0,at_+1,g) ⟨by simp only;omega,by simp only;omega,hgl,hRP⟩ (Wk.forget (by simp[ZF,Cw])) ?_
   rintro ⟨k,a,g2⟩ m2 ⟨hk3,JU,EI,Hf⟩ JL;simp only at hk3 JU EI Hf;cases d1:decide (0<(k:Int))
   . simp only[go_sem,d1];refine CR ?_;simp only[go_sem];refine ⟨a,g2,by omega,EI,Hf,?_⟩;first | exact ⟨rfl,rfl⟩ | rfl | simp
   cases d2:decide (2<(b:Int))
   . simp only[go_sem,d1,d2];refine CR ?_;simp only[go_sem];refine ⟨a,g2,by omega,EI,Hf,?_⟩;first | exact ⟨rfl,rfl⟩ | rfl | simp
   have hkp:1<=k:=by have:=Ad d1;omega
   obtain ⟨k,rfl⟩:∃j,k=j+1:=⟨k - 1,by omega⟩;have HG:=Hz k (by omega);have hb3:2<b:=by have:=Ad d2;omega
   have hbz:(0:Int)<(b:Int):=by omega
   obtain ⟨ii,hii,Azt⟩:=CU l a b hbz;obtain ⟨jj,hjj,Azs⟩:=CU l (a+1) b hbz;have JM:(0:Int)<=(ii:Int)/\(ii:Int)<(b:Int):=by omega
   have Hw:=H8 g2 ii (by omega);have hRl:=(Hf ii (by omega)).2.2.1;simp only[go_sem,d1,d2];refine Cq ((Da l a b (by omega) (CF _ (by omega) (by omega)))) ?_;simp only[go_sem,C7,hii];refine Cq ((Da l (a+1) b (by omega) (CF _ (by omega) (by omega)))) ?_;simp only[go_sem,C7,hjj];refine Cq ((Da l (a+1+1) 3 (by omega) (CF _ (by omega) (by omega)))) ?_;simp only[go_sem,C7];have SZ:(((ii:Int)+2)).tmod (b:Int)=(((ii+2) % b:Nat):Int):=by
     rw[show (ii:Int)+2=((ii+2:Nat):Int) by omega,Int.tmod_eq_emod_of_nonneg (by omega)];exact (Int.natCast_emod _ _).symm
   have hwi:IntKind.i64.wrap ((ii:Int)+2)=(ii:Int)+2:=by rw[BY]<;>omega
   have Ak1:¬(b:Int)=0:=by omega
   have RA:(ii+2) % b<b:=Nat.mod_lt _ (by omega);cases d3:decide (0<L2 l (a+1+1) 3)
   . skip
     have hJ0:(0:Int)<=((jj:Nat):Int)/\((jj:Nat):Int)<(b:Int):=by omega
     cases d4:decide ((ii:Int)=((jj:Nat):Int));rotate_left
     . simp only[go_sem,d3,HG,d4,HG];refine JL (k,a+1+1+1,g2) _ ⟨by simp only;omega,by simp only;omega,EI,Hf⟩ (by simp only;omega) ?_
       (refine Wk.forget ?_;simp[ZF];done)
     simp only[go_sem,d3,HG,d4,Ca,EI,Ab,Hw,JM];refine Cq ((S7 (g2.getD ii []) ((jj:Nat):Int) (by omega))) ?_;cases d5:decide (((jj:Nat):Int)∈g2.getD ii []);rotate_left
     . simp only[go_sem,d5,HG];refine JL (k,a+1+1+1,g2) _ ⟨by simp only;omega,by simp only;omega,EI,Hf⟩ (by simp only;omega) ?_
       (refine Wk.forget ?_;simp[ZF];done)
     cases d6:decide (((g2.getD ii []).length:Int)<4)
     . simp only[go_sem,d5,Ca,BS,EI,Ab,Hw,JM,d6,HG];refine JL (k,a+1+1+1,g2) _ ⟨by simp only;omega,by simp only;omega,EI,Hf⟩ (by simp only;omega) ?_
       (refine Wk.forget ?_;simp[ZF];done)
     simp only[go_sem,d5,Ca,BS,EI,Ab,Hw,JM,d6];refine CE mixed (p:=[(0,0),(1,0),(2,0),(3,0),(4,0),(5,0),(6,0),(7,0),(8,0),(9,0),(10,0),(11,0),(12,0),(13,2),(14,0),(15,3)]) (by kernel_rfl) (by simp[C5,get]) ?_;simp only[go_sem,Ca,BS,EI,Ab,Hw,JM];refine Gq ((MJ (g2.getD ii []) ((jj:Nat):Int) (by omega))) ?_;simp only[go_sem,Ca,EI,Ab,JM,HG];refine JL (k,a+1+1+1,g2.set ii (Kg (g2.getD ii []) ((jj:Nat):Int))) _ ⟨by simp only;omega,by simp only;omega,by simpa using EI,λ u hu=>?_⟩ (by simp only;omega) ?_
     . rw[D7];by_cases e:ii=u
       . subst e;rw[if_pos ⟨rfl,by omega⟩];exact (Hf ii hu).ins hJ0.1 hJ0.2 (λ h=>Ae d4 h.symm) (Ae d5) (by have:=Ad d6;omega)
       . rw[if_neg (λ h=>e h.1)];exact Hf u hu
     . (refine Wk.forget ?_;simp[ZF,Mr,Kw];done)
   . generalize (ii+2) % b=J at SZ RA;have hJ0:(0:Int)<=((J:Nat):Int)/\((J:Nat):Int)<(b:Int):=by omega
     cases d4:decide ((ii:Int)=((J:Nat):Int));rotate_left
     . simp only[go_sem,d3,hwi,SZ,Ak1,d4,HG];refine JL (k,a+1+1+1,g2) _ ⟨by simp only;omega,by simp only;omega,EI,Hf⟩ (by simp only;omega) ?_
       (refine Wk.forget ?_;simp[ZF];done)
     simp only[go_sem,d3,hwi,SZ,Ak1,d4,Ca,EI,Ab,Hw,JM];refine Cq ((S7 (g2.getD ii []) ((J:Nat):Int) (by omega))) ?_;cases d5:decide (((J:Nat):Int)∈g2.getD ii []);rotate_left
     . simp only[go_sem,d5,HG];refine JL (k,a+1+1+1,g2) _ ⟨by simp only;omega,by simp only;omega,EI,Hf⟩ (by simp only;omega) ?_
       (refine Wk.forget ?_;simp[ZF];done)
     cases d6:decide (((g2.getD ii []).length:Int)<4)
     . simp only[go_sem,d5,Ca,BS,EI,Ab,Hw,JM,d6,HG];refine JL (k,a+1+1+1,g2) _ ⟨by simp only;omega,by simp only;omega,EI,Hf⟩ (by simp only;omega) ?_
       (refine Wk.forget ?_;simp[ZF];done)
     simp only[go_sem,d5,Ca,BS,EI,Ab,Hw,JM,d6];refine CE mixed (p:=[(0,0),(1,0),(2,0),(3,0),(4,0),(5,0),(6,0),(7,0),(8,0),(9,0),(10,0),(11,0),(12,0),(13,2),(14,0),(15,3)]) (by kernel_rfl) (by simp[C5,get]) ?_;simp only[go_sem,Ca,BS,EI,Ab,Hw,JM];refine Gq ((MJ (g2.getD ii []) ((J:Nat):Int) (by omega))) ?_;simp only[go_sem,Ca,EI,Ab,JM,HG];refine JL (k,a+1+1+1,g2.set ii (Kg (g2.getD ii []) ((J:Nat):Int))) _ ⟨by simp only;omega,by simp only;omega,by simpa using EI,λ u hu=>?_⟩ (by simp only;omega) ?_
     . rw[D7];by_cases e:ii=u
       . subst e;rw[if_pos ⟨rfl,by omega⟩];exact (Hf ii hu).ins hJ0.1 hJ0.2 (λ h=>Ae d4 h.symm) (Ae d5) (by have:=Ad d6;omega)
       . rw[if_neg (λ h=>e h.1)];exact Hf u hu
     . (refine Wk.forget ?_;simp[ZF,Mr,Kw];done)
def Aa1(i:Nat):List UInt8:=if i<10 then [UInt8.ofNat (48+i)] else [UInt8.ofNat (48+i / 10),UInt8.ofNat (48+i % 10)]
theorem Am6(i:Nat)(h:i<100):EP i=Aa1 i:=by
 unfold Aa1;by_cases h1:i<10
 . rw[if_pos h1,Ek i h1]
 . rw[if_neg h1,H9 i h1,Ek (i / 10) (by omega)];rfl
theorem Am5:∀i,i<24->∀j,j<24->Aa1 i=Aa1 j->i=j:=by decide
theorem Aom:∀i,i<24->CG (98::Aa1 i)=true:=by decide
theorem Aol:∀i,i<24->CG (115::Aa1 i)=true:=by decide
structure Xm(n:Nt):Prop where
 nb:1<=n.blocks.length/\n.blocks.length<=10
 bl:∀i,i<n.blocks.length->(n.blocks.getD i DB).name=98::EP i/\T2 (n.blocks.getD i DB)
 nl:n.next.length=n.blocks.length
 nx:∀i,i<n.blocks.length->RP n.blocks.length i (n.next.getD i [])
 ns:3<=n.spurs.length/\n.spurs.length<=5
 sp:∀i,i<n.spurs.length->(n.spurs.getD i B8).name=115::EP i/\(i=0->(n.spurs.getD i B8).Cy=true)/\(i=1∨i=2->(n.spurs.getD i B8).Cy=false)
 ss:Dw n.blocks.length n.spurs
 rl:n.BW.length<=3
 rb:GA n.spurs n.BW
 cf:HJ n.cq n.ca n.cd n.cp
theorem NU{n:Nt}(i:Nat)(hi:i<(C2 n).length):(C2 n).getD i []=if i<n.blocks.length then (n.blocks.getD i DB).name else (n.spurs.getD (i - n.blocks.length) B8).name:=by
 have hl:(C2 n).length=n.blocks.length+n.spurs.length:=by simp[C2]
 have EG:i<n.blocks.length+n.spurs.length:=by omega
 rw[getD_eq hi];unfold C2 at hi ⊢;by_cases h:i<n.blocks.length
 . rw[if_pos h,List.getElem_append_left (by simpa using h),List.getElem_map,getD_eq h]
 . rw[if_neg h,List.getElem_append_right (by simpa using h),List.getElem_map,getD_eq (show i - n.blocks.length<n.spurs.length by omega)];simp
theorem Xm.valid{n:Nt}(h:Xm n):validN n:=by
 obtain ⟨nb,bl,nl,nx,ns,sp,ss,rl,rb,cf⟩:=h;refine ⟨⟨nb.1,by omega,nl,λ i hi=>⟨(bl i hi).2,(nx i hi).2.2.1,(nx i hi).row⟩⟩,by omega,λ i hi=>?_,by omega,cf,ss,rb,?_⟩
 . have hl:(C2 n).length=n.blocks.length+n.spurs.length:=by simp[C2]
   have key:∀j,j<(C2 n).length->∃c d,(C2 n).getD j []=c::Aa1 d/\d<24/\((j<n.blocks.length/\c=98/\d=j)∨(n.blocks.length<=j/\c=115/\d=j - n.blocks.length)):=by
     intro j hj;rw[NU j hj];by_cases h1:j<n.blocks.length
     . rw[if_pos h1,(bl j h1).1,Am6 j (by omega)];exact ⟨98,j,rfl,by omega,.inl ⟨h1,rfl,rfl⟩⟩
     . rw[if_neg h1,(sp (j - n.blocks.length) (by omega)).1,Am6 _ (by omega)];exact ⟨115,j - n.blocks.length,rfl,by omega,.inr ⟨by omega,rfl,rfl⟩⟩
   obtain ⟨c,d,h1,h2,h3⟩:=key i hi;refine ⟨?_,λ k hk=>?_⟩
   . rw[h1];rcases h3 with ⟨_,rfl,_⟩ | ⟨_,rfl,_⟩
     . exact Aom d h2
     . exact Aol d h2
   . obtain ⟨c2,d2,h4,h5,h6⟩:=key k (by omega);rw[h1,h4];intro he;rw[List.cons.injEq] at he;have hd:=Am5 d h2 d2 h5 he.2;rcases h3 with ⟨_,rfl,rfl⟩ | ⟨_,rfl,rfl⟩<;>rcases h6 with ⟨_,rfl,rfl⟩ | ⟨_,rfl,rfl⟩
     . omega
     . exact absurd he.1 (by decide)
     . exact absurd he.1 (by decide)
     . omega
 . have h0:=(sp 0 (by omega)).2.1 rfl;rw[List.length_filter_pos_iff];exact ⟨_,CJ n.spurs 0 B8 (by omega),h0⟩
theorem HH{α:Type}(l:List α)(x y:α)(i:Nat):(l++[x]).getD i y=if i<l.length then l.getD i y else if i=l.length then x else y:=by
 simp only[List.getD];by_cases h:i<l.length
 . rw[if_pos h,AX h]
 . rw[if_neg h,Bg (by omega)];by_cases h2:i=l.length
   . rw[if_pos h2,h2];simp
   . rw[if_neg h2];have:1<=i - l.length:=by omega
     obtain ⟨m,hm⟩:∃m,i - l.length=m+1:=⟨i - l.length - 1,by omega⟩;rw[hm];simp
def Atl(bl:List EH):Prop:=∀i,i<bl.length->(bl.getD i DB).name=98::EP i/\T2 (bl.getD i DB)
theorem Agu{bl:List EH}(h:Atl bl)(x y:Int)(hx:-4<=x/\x<=4)(hy:-4<=y/\y<=4):Atl (bl++[⟨98::EP bl.length,x,y⟩]):=by
 intro i hi;rw[HH];by_cases h1:i<bl.length
 . rw[if_pos h1];exact h i h1
 . have h2:i=bl.length:=by simp at hi;omega
   rw[if_neg h1,if_pos h2,h2];exact ⟨rfl,by unfold T2;simp only;omega⟩
def XU(nb:Nat)(l:List CX):Prop:=∀i,i<l.length->(l.getD i B8).name=115::EP i/\(i=0->(l.getD i B8).Cy=true)/\(i=1∨i=2->(l.getD i B8).Cy=false)/\Lh nb (nb+Df (l.take i)) (l.getD i B8)
theorem Wc{sp:List CX}{rb:List Int}{x:Int}(h:GA sp rb)(h1:sp.any (Qi x)=true)(h2:x∉rb):GA sp (rb++[x]):=by
 intro i hi;rw[HH];by_cases h3:i<rb.length
 . rw[if_pos h3,List.take_append_of_le_length (by omega)];exact h i h3
 . have h4:i=rb.length:=by simp at hi;omega
   subst h4;rw[if_neg h3,if_pos rfl,List.take_left' rfl];exact ⟨h1,h2⟩
theorem XU.spurs{nb:Nat}{l:List CX}(h:XU nb l):Dw nb l:=λ i hi=>(h i hi).2.2.2
theorem XU.rng{nb:Nat}{l:List CX}(h:XU nb l):0<=Df l/\Df l<=4*l.length:=R4 h.spurs
theorem XU.snoc{nb:Nat}{l:List CX}(h:XU nb l)(dp:Bool)(x y z:Int)(hx:0<=x/\x<(nb:Int))(hy:0<=y/\y<(nb:Int))(hz:1<=z/\z<=4)(h0:l.length=0->dp=true)(h1:l.length=1∨l.length=2->dp=false):
   XU nb (l++[⟨115::EP l.length,dp,x,y,z,(nb:Int)+Df l⟩]):=by
 intro i hi;rw[HH];by_cases h2:i<l.length
 . rw[if_pos h2,List.take_append_of_le_length (by omega)];exact h i h2
 . have h3:i=l.length:=by simp at hi;omega
   subst h3;rw[if_neg h2,if_pos rfl,List.take_left' rfl];exact ⟨rfl,h0,h1,hx.1,hx.2,hy.1,hy.2,hz.1,hz.2,rfl⟩
def Nt.os(n:Nt):List D:=[.ref 0 0 n.blocks.length n.blocks.length,.ref 1 0 n.next.length n.next.length,.ref 2 0 n.spurs.length n.spurs.length,.ref 3 0 n.BW.length n.BW.length,.p (.int .i64 n.cq),.p (.int .i64 n.ca),.p (.int .i64 n.cd),.p (.int .i64 n.cp)]
theorem Air(R:Nt->Int->Prop)(hR:∀n:Nt,validN n->BV prog 21 [.agg n.cs] [] λ h r=>h=[]/\∃(o:List Int) (sl cap:Int),r= .De [.agg [.p (.int .i64 (o.length:Nat)),.p (.sl (BT o)),.p (.int .i64 sl),.p (.int .i64 cap)],.p (.int .i64 0)]/\cap<=sl/\sl=slotsV (List.replicate (cellsV n).toNat false) n.spurs/\R n cap)
   (l:List Int) (at_ JI:Nat) (Ij:at_<100000) (RR:1<=JI) (RA:JI<=10):
   BV prog 24 [.ptr 1000000 0,.p (.int .i64 (JI:Nat))] [(1000000,.box (C7 l at_))]
     λ h r=>∃at2 n,at2<=at_+200/\(Xm n/\∃cap,R {n with BW:=[]} cap/\(n.BW.length=0∨(n.BW.length:Int)<=cap))/\h=[(1000000,.box (C7 l at2)),(0,.arr 76 3 (C0 n.blocks)),(1,.arr 22 1 (Cw n.next)),(2,.arr 68 6 (CY n.spurs)),(3,.arr 3 1 (BT n.BW))]/\r= .agg n.os:=by
 refine BX func24 rfl Alo (by simp[Tryz.f24]) ?_;simp only[go_sem,C7];refine Cq ((Da l at_ JI (by omega) (CF _ (by omega) (by omega)))) ?_;obtain ⟨k0,Ho,Qq⟩:=CU l at_ JI (by omega);have Avf:IntKind.i64.wrap (1+(k0:Int))=((k0+1:Nat):Int):=by rw[BY]<;>omega
 simp only[go_sem,C7,Ho,Avf];refine B3 (λ q:Nat×Nat×List EH=>⟨[(0,.ptr 1000000 0),(4,.ptr 4 0),(5,.ptr 5 0),(6,.p (.int .i64 (q.1:Nat)))],
     [(1000000,.box [.p (.sl (BT l)),.p (.int .i64 (q.2.1:Nat))]),(4,.box [.cl [],.cl [],.cl [],.cl [],.p (.int .i64 0),.p (.int .i64 0),.p (.int .i64 0),.p (.int .i64 0)]),
      (5,.box [.ref 43 0 q.2.2.length q.2.2.length,.ref 48 0 q.2.2.length q.2.2.length,.cl [],.cl [],.p (.int .i64 0),.p (.int .i64 0),.p (.int .i64 0),.p (.int .i64 0)]),(43,.arr 76 3 (C0 q.2.2)),(48,.arr 22 1 (Cw (List.replicate q.2.2.length [])))],191⟩)
   (λ q=>q.1+q.2.2.length=k0+1/\q.2.1=at_+1+2*q.2.2.length/\Atl q.2.2) (λ q=>q.1) (k0+1,at_+1,[]) ⟨by simp,by simp,λ i hi=>by simp at hi⟩
   ((Wk.G6 (id:=5) (j:=0) (q:=43) (sz:=3) 76 rfl rfl rfl (by decide)).trans ((Wk.G6 (id:=5) (j:=1) (q:=48) (sz:=1) 22 rfl rfl rfl (by decide)).trans (Wk.forget (by simp[ZF,C0,Cw])))) ?_
 rintro ⟨k,a,bl⟩ m ⟨hk,ha,Xz⟩ ih;simp only at hk ha Xz;cases c1:decide (0<(k:Int));rotate_left
 . obtain ⟨k,rfl⟩:∃j,k=j+1:=⟨k - 1,by have:=Ad c1;omega⟩;have HG:=Hz k (by omega);obtain ⟨x,hx,hx9⟩:=CU l a 9 (by omega);obtain ⟨y,hy,hy9⟩:=CU l (a+1) 9 (by omega);have hwx:IntKind.i64.wrap ((x:Int) - 4)=(x:Int) - 4:=by rw[BY]<;>omega
   have hwy:IntKind.i64.wrap ((y:Int) - 4)=(y:Int) - 4:=by rw[BY]<;>omega
   have Xx:=Jc 15 bl.length (by omega);simp only[go_sem,c1,Ce];refine Di [(5,.box [.ref 43 0 bl.length bl.length,.ref 48 0 bl.length bl.length,.cl [],.cl [],.p (.int .i64 0),.p (.int .i64 0),.p (.int .i64 0),.p (.int .i64 0)])] mixed (p:=[(0,0),(1,0),(2,0),(5,0),(8,0),(3,2),(4,0),(6,2),(7,0),(9,2),(10,0),(11,0),(12,1),(13,2),(14,0),(15,3)]) (by kernel_rfl) (by simp[C5,get]) ?_;simp only[go_sem];refine Gq ((MV bl.length (by omega))) ?_;simp only[go_sem];refine ⟨by unfold maxLen;omega,?_⟩;refine Gq ((Da l a 9 (by omega) (CF _ (by omega) (by omega)))) ?_;simp only[go_sem,C7,hx,hwx];refine Gq ((Da l (a+1) 9 (by omega) (CF _ (by omega) (by omega)))) ?_;simp only[go_sem,C7,hy,hwy,Ce];refine ⟨⟨EN _ _ rfl,by omega⟩,?_⟩;(try simp only[go_sem]);refine Anj rfl Ahm Anu rfl rfl ?_;simp only[go_sem,Ca,List.length_replicate];refine ⟨⟨EN _ _ rfl,by omega⟩,?_⟩;simp only[go_sem,HG];refine ih (k,a+1+1,bl++[⟨98::EP bl.length,(x:Int) - 4,(y:Int) - 4⟩]) _ ⟨by simp;omega,by simp;omega,Agu Xz _ _ (by omega) (by omega)⟩ (by simp only;omega) ?_
   (refine Wk.forget ?_;simp[ZF,VB,Ce,Cw,BT,List.replicate_succ'];done)
 have hkz:k=0:=by have:=Ae c1;omega
 subst hkz;have hnb:bl.length=k0+1:=by omega
 clear ih Avf;simp only[go_sem,c1,Ce];refine DY (Ao5 l a bl.length bl (List.replicate bl.length []) (by omega) (by omega) (by omega) rfl (by simp) (λ i hi=>by simp[List.getD,hi])) ?_;rintro h' r ⟨a2,nx,ha2,O8,Xw,rfl,rfl⟩;have Azm:1<=bl.length/\bl.length<=10:=by omega
 have ha3:a2<=at_+100:=by omega
 clear hk ha hnb Ho Qq ha2;simp only[go_sem,C7,Ce];refine Cq ((Da l a2 3 (by omega) (CF _ (by omega) (by omega)))) ?_;obtain ⟨k3,hk3,hk4⟩:=CU l a2 3 (by omega);have Ave:IntKind.i64.wrap (3+(k3:Int))=((k3+3:Nat):Int):=by rw[BY]<;>omega
 simp only[go_sem,C7,hk3,Ave];refine B3 (λ q:Nat×Nat×List CX=>⟨[(0,.ptr 1000000 0),(4,.ptr 4 0),(5,.ptr 5 0),(8,.p (.int .i64 ((bl.length:Int)+Df q.2.2))),(9,.p (.int .i64 (q.1:Nat)))],
     [(1000000,.box [.p (.sl (BT l)),.p (.int .i64 (q.2.1:Nat))]),(4,.box [.cl [],.cl [],.cl [],.cl [],.p (.int .i64 0),.p (.int .i64 0),.p (.int .i64 0),.p (.int .i64 0)]),
      (5,.box [.ref 43 0 bl.length bl.length,.ref 48 0 bl.length bl.length,.ref 102 0 q.2.2.length q.2.2.length,.cl [],.p (.int .i64 0),.p (.int .i64 0),.p (.int .i64 0),.p (.int .i64 0)]),(43,.arr 76 3 (C0 bl)),(48,.arr 22 1 (Cw nx)),(102,.arr 68 6 (CY q.2.2))],191⟩)
   (λ q=>q.1+q.2.2.length=k3+3/\q.2.1<=a2+1+4*q.2.2.length/\XU bl.length q.2.2) (λ q=>q.1) (k3+3,a2+1,[]) ⟨by simp,by simp,λ i hi=>by simp at hi⟩
   ((Wk.G6 (id:=5) (j:=2) (q:=102) (sz:=6) 68 rfl rfl rfl (by decide)).trans (Wk.forget (by simp[ZF,CY,Df]))) ?_
 rintro ⟨k,a,sp⟩ m2 ⟨hk,ha,Fs⟩ ih;simp only at hk ha Fs;have hsr:=Fs.rng;cases c2:decide (0<(k:Int));rotate_left
 . obtain ⟨k,rfl⟩:∃j,k=j+1:=⟨k - 1,by have:=Ad c2;omega⟩;have HG:=Hz k (by omega);have Xx:=Jc 15 sp.length (by omega);have hbz:(0:Int)<(bl.length:Int):=by omega
   by_cases DH:sp.length=0
   . have Nr:((sp.length:Nat):Int)=0:=by omega
     have hd:decide (((sp.length:Nat):Int)=0)=true:=Ag Nr;simp only[go_sem,c2,Cm];refine Di [(5,.box [.ref 43 0 bl.length bl.length,.ref 48 0 bl.length bl.length,.ref 102 0 sp.length sp.length,.cl [],.p (.int .i64 0),.p (.int .i64 0),.p (.int .i64 0),.p (.int .i64 0)]),(43,.arr 76 3 (C0 bl))] mixed (p:=[(0,0),(3,0),(4,0),(14,0),(15,0),(16,0),(17,0),(19,0),(20,0),(21,0),(22,0),(24,0),(27,0),(29,1),(1,2),(2,0),(5,0),(6,0),(7,0),(8,0),(9,0),(10,2),(11,0),(12,0),(13,0),(18,2),(23,2),(25,2),(26,0),(28,0),(30,3)]) (by kernel_rfl) (by simp[C5,get]) ?_;simp only[go_sem,hd,Ce];refine Gq ((MV sp.length (by omega))) ?_;simp only[go_sem,hd,Ce];refine ⟨by unfold maxLen;omega,?_⟩;obtain ⟨x,hx,hxb⟩:=CU l a bl.length hbz;obtain ⟨y,hy,hyb⟩:=CU l (a+1) bl.length hbz;obtain ⟨z,hz,hzb⟩:=CU l (a+1+1) 3 (by omega);have hwz:IntKind.i64.wrap (1+(z:Int))=1+(z:Int):=by rw[BY]<;>omega
     have r5:IntKind.i64.wrap ((bl.length:Int)+Df sp+(1+(z:Int)))=(bl.length:Int)+Df sp+(1+(z:Int)):=by rw[BY]<;>omega
     refine Gq ((Da l a bl.length (by omega) (CF _ (by omega) (by omega)))) ?_;simp only[go_sem,C7,hx];refine Gq ((Da l (a+1) bl.length (by omega) (CF _ (by omega) (by omega)))) ?_;simp only[go_sem,C7,hy];refine Gq ((Da l (a+1+1) 3 (by omega) (CF _ (by omega) (by omega)))) ?_;simp only[go_sem,C7,hz,hwz,r5,Cm];refine ⟨⟨EN _ _ rfl,by omega⟩,?_⟩;simp only[go_sem,HG];refine ih (k,a+1+1+1,sp++[⟨115::EP sp.length,true,(x:Int),(y:Int),1+(z:Int),(bl.length:Int)+Df sp⟩]) _ ⟨by simp;omega,by simp;omega,Fs.snoc _ _ _ _ (by omega) (by omega) (by omega) (λ _=>rfl) (λ h=>by omega)⟩ (by simp only;omega) ?_
     (refine Wk.forget ?_;simp[ZF,MQ,Cm,D0,Int.add_assoc];done)
   by_cases EG:sp.length<=2
   . have hd:decide (((sp.length:Nat):Int)=0)=false:=Ah (by omega);have I8:decide (2<((sp.length:Nat):Int))=false:=Ah (by omega);simp only[go_sem,c2,Cm];refine Di [(5,.box [.ref 43 0 bl.length bl.length,.ref 48 0 bl.length bl.length,.ref 102 0 sp.length sp.length,.cl [],.p (.int .i64 0),.p (.int .i64 0),.p (.int .i64 0),.p (.int .i64 0)]),(43,.arr 76 3 (C0 bl))] mixed (p:=[(0,0),(3,0),(4,0),(14,0),(15,0),(16,0),(17,0),(19,0),(20,0),(21,0),(22,0),(24,0),(27,0),(29,1),(1,2),(2,0),(5,0),(6,0),(7,0),(8,0),(9,0),(10,2),(11,0),(12,0),(13,0),(18,2),(23,2),(25,2),(26,0),(28,0),(30,3)]) (by kernel_rfl) (by simp[C5,get]) ?_;simp only[go_sem,hd,I8,Ce];refine Gq ((MV sp.length (by omega))) ?_;simp only[go_sem,hd,I8,Ce];refine ⟨by unfold maxLen;omega,?_⟩;obtain ⟨x,hx,hxb⟩:=CU l a bl.length hbz;obtain ⟨y,hy,hyb⟩:=CU l (a+1) bl.length hbz;obtain ⟨z,hz,hzb⟩:=CU l (a+1+1) 3 (by omega);have hwz:IntKind.i64.wrap (1+(z:Int))=1+(z:Int):=by rw[BY]<;>omega
     have r5:IntKind.i64.wrap ((bl.length:Int)+Df sp+(1+(z:Int)))=(bl.length:Int)+Df sp+(1+(z:Int)):=by rw[BY]<;>omega
     refine Gq ((Da l a bl.length (by omega) (CF _ (by omega) (by omega)))) ?_;simp only[go_sem,C7,hx];refine Gq ((Da l (a+1) bl.length (by omega) (CF _ (by omega) (by omega)))) ?_;simp only[go_sem,C7,hy];refine Gq ((Da l (a+1+1) 3 (by omega) (CF _ (by omega) (by omega)))) ?_;simp only[go_sem,C7,hz,hwz,r5,Cm];refine ⟨⟨EN _ _ rfl,by omega⟩,?_⟩;simp only[go_sem,HG];refine ih (k,a+1+1+1,sp++[⟨115::EP sp.length,false,(x:Int),(y:Int),1+(z:Int),(bl.length:Int)+Df sp⟩]) _ ⟨by simp;omega,by simp;omega,Fs.snoc _ _ _ _ (by omega) (by omega) (by omega) (λ h=>by omega) (λ _=>rfl)⟩ (by simp only;omega) ?_
     (refine Wk.forget ?_;simp[ZF,MQ,Cm,D0,Int.add_assoc];done)
   . have hd:decide (((sp.length:Nat):Int)=0)=false:=Ah (by omega);have I8:decide (2<((sp.length:Nat):Int))=true:=Ag (by omega);simp only[go_sem,c2,Cm];refine Di [(5,.box [.ref 43 0 bl.length bl.length,.ref 48 0 bl.length bl.length,.ref 102 0 sp.length sp.length,.cl [],.p (.int .i64 0),.p (.int .i64 0),.p (.int .i64 0),.p (.int .i64 0)]),(43,.arr 76 3 (C0 bl))] mixed (p:=[(0,0),(3,0),(4,0),(14,0),(15,0),(16,0),(17,0),(19,0),(20,0),(21,0),(22,0),(24,0),(27,0),(29,1),(1,2),(2,0),(5,0),(6,0),(7,0),(8,0),(9,0),(10,2),(11,0),(12,0),(13,0),(18,2),(23,2),(25,2),(26,0),(28,0),(30,3)]) (by kernel_rfl) (by simp[C5,get]) ?_;simp only[go_sem,hd,I8,Ce];refine Gq ((MV sp.length (by omega))) ?_;simp only[go_sem,hd,I8,Ce];refine ⟨by unfold maxLen;omega,?_⟩;refine Gq ((Da l a 2 (by omega) (CF _ (by omega) (by omega)))) ?_;simp only[go_sem,C7,hd,I8];obtain ⟨x,hx,hxb⟩:=CU l (a+1) bl.length hbz;obtain ⟨y,hy,hyb⟩:=CU l ((a+1)+1) bl.length hbz;obtain ⟨z,hz,hzb⟩:=CU l ((a+1)+1+1) 3 (by omega);have hwz:IntKind.i64.wrap (1+(z:Int))=1+(z:Int):=by rw[BY]<;>omega
     have r5:IntKind.i64.wrap ((bl.length:Int)+Df sp+(1+(z:Int)))=(bl.length:Int)+Df sp+(1+(z:Int)):=by rw[BY]<;>omega
     refine Gq ((Da l (a+1) bl.length (by omega) (CF _ (by omega) (by omega)))) ?_;simp only[go_sem,C7,hx];refine Gq ((Da l ((a+1)+1) bl.length (by omega) (CF _ (by omega) (by omega)))) ?_;simp only[go_sem,C7,hy];refine Gq ((Da l ((a+1)+1+1) 3 (by omega) (CF _ (by omega) (by omega)))) ?_;simp only[go_sem,C7,hz,hwz,r5,Cm];refine ⟨⟨EN _ _ rfl,by omega⟩,?_⟩;simp only[go_sem,HG];refine ih (k,(a+1)+1+1+1,sp++[⟨115::EP sp.length,(decide (L2 l a 2=0)),(x:Int),(y:Int),1+(z:Int),(bl.length:Int)+Df sp⟩]) _ ⟨by simp;omega,by simp;omega,Fs.snoc _ _ _ _ (by omega) (by omega) (by omega) (λ h=>by omega) (λ h=>by omega)⟩ (by simp only;omega) ?_
     (refine Wk.forget ?_;simp[ZF,MQ,Cm,D0,Int.add_assoc];done)
 have Azp:k=0:=by have:=Ae c2;omega
 subst Azp;have hns:3<=sp.length/\sp.length<=5:=by omega
 have ha4:a<=at_+130:=by omega
 clear ih hk ha Ave hk3;obtain ⟨q1,Ve,hq1b⟩:=CU l a 4 (by omega);obtain ⟨q2,hq2,hq2b⟩:=CU l (a+1) 3 (by omega);obtain ⟨q3,hq3,hq3b⟩:=CU l (a+1+1) 3 (by omega);obtain ⟨q4,hq4,hq4b⟩:=CU l (a+1+1+1) 8 (by omega);obtain ⟨q5,hq5,hq5b⟩:=CU l (a+1+1+1+1) 3 (by omega);have Qk:IntKind.i64.wrap (1+(q1:Int))=1+(q1:Int):=by rw[BY]<;>omega
 have hw4:IntKind.i64.wrap (1+(q4:Int))=1+(q4:Int):=by rw[BY]<;>omega
 have hw5:IntKind.i64.wrap (1+(q5:Int))=((q5+1:Nat):Int):=by rw[BY]<;>omega
 have hP:∀rb:List Int,rb.length<=3->GA sp rb->Xm ⟨bl,nx,sp,rb,1+q1,q2,q3,1+q4⟩:=λ rb Ia LB=>
   ⟨Azm,Xz,O8,Xw,hns,λ i hi=>⟨(Fs i hi).1,(Fs i hi).2.1,(Fs i hi).2.2.1⟩,Fs.spurs,Ia,LB,by unfold HJ;simp only;omega⟩
 have hF:BV prog 21 [.agg [.p (.sl (C0 bl)),.p (.sl (Cw nx)),.p (.sl (CY sp)),.p (.sl []),.p (.int .i64 (1+q1)),.p (.int .i64 q2),.p (.int .i64 q3),.p (.int .i64 (1+q4))]] [] _:=
   hR ⟨bl,nx,sp,[],1+q1,q2,q3,1+q4⟩ (hP [] (by simp) (λ i hi=>by simp at hi)).valid
 have e1:=VA bl bl.length (Ai _);have e2:=VD nx bl.length (by omega);have e3:=Vy sp sp.length (Ai _);simp only[go_sem,c2];refine Cq ((Da l a 4 (by omega) (CF _ (by omega) (by omega)))) ?_;simp only[go_sem,C7,Ve,Qk];refine Cq ((Da l (a+1) 3 (by omega) (CF _ (by omega) (by omega)))) ?_;simp only[go_sem,C7,hq2];refine Cq ((Da l (a+1+1) 3 (by omega) (CF _ (by omega) (by omega)))) ?_;simp only[go_sem,C7,hq3];refine Cq ((Da l (a+1+1+1) 8 (by omega) (CF _ (by omega) (by omega)))) ?_;simp only[go_sem,C7,hq4,hw4,Ce,Ca,O8,Cm,e1,e2,e3];refine Aqi rfl rfl hF (by simp[KC,TR,ev,get,Ce,Ca,O8,Cm,e1,e2,e3]) ?_;rintro h' r ⟨rfl,o,slv,cap,rfl,Ii,Azd,hRc⟩;refine ⟨rfl,?_⟩;simp only[go_sem];refine Cq ((Da l (a+1+1+1+1) 3 (by omega) (CF _ (by omega) (by omega)))) ?_;simp only[go_sem,C7,hq5,hw5];refine B3 (λ q:Nat×Nat×List Int=>⟨[(0,.ptr 1000000 0),(4,.ptr 4 0),(5,.ptr 5 0),(12,.ptr 12 0),(14,.p (.int .i64 (q.1:Nat)))],
     [(1000000,.box [.p (.sl (BT l)),.p (.int .i64 (q.2.1:Nat))]),(4,.box [.cl [],.cl [],.cl [],.cl [],.p (.int .i64 0),.p (.int .i64 0),.p (.int .i64 0),.p (.int .i64 0)]),
      (5,.box [.ref 43 0 bl.length bl.length,.ref 48 0 bl.length bl.length,.ref 102 0 sp.length sp.length,.ref 188 0 q.2.2.length q.2.2.length,.p (.int .i64 (1+q1)),.p (.int .i64 q2),.p (.int .i64 q3),.p (.int .i64 (1+q4))]),
      (12,.box [.p (.int .i64 (o.length:Nat)),.PU,.p (.int .i64 slv),.p (.int .i64 cap)]),(43,.arr 76 3 (C0 bl)),(48,.arr 22 1 (Cw nx)),(102,.arr 68 6 (CY sp)),(188,.arr 3 1 (BT q.2.2))],191⟩)
   (λ q=>q.1+q.2.2.length<=q5+1/\q.2.1+q.1<=a+10/\GA sp q.2.2/\(q.2.2.length=0∨(q.2.2.length:Int)<=cap)) (λ q=>q.1) (q5+1,a+1+1+1+1+1,[]) ⟨by simp,by simp only;omega,λ i hi=>by simp at hi,.inl rfl⟩
   ((Wk.G6 (id:=5) (j:=3) (q:=188) (sz:=1) 3 rfl rfl rfl (by decide)).trans (Wk.forget (by simp[ZF,BT]))) ?_
 rintro ⟨k,b,rb⟩ m3 ⟨hk,hb,Vd,hrc⟩ ih;simp only at hk hb Vd hrc;have e4:=MS rb rb.length (Ai _);cases c3:decide (0<(k:Int))
 . simp only[go_sem,c3];refine CR ?_;simp only[go_sem,Ce,Ca,O8,Cm,BS];refine ⟨b,⟨bl,nx,sp,rb,1+q1,q2,q3,1+q4⟩,by omega,⟨hP rb (by omega) Vd,cap,hRc,hrc⟩,?_⟩;simp[Nt.os,C7,O8]
 cases c4:decide ((rb.length:Int)<cap)
 . simp only[go_sem,c3,c4,BS];refine CR ?_;simp only[go_sem,Ce,Ca,O8,Cm,BS];refine ⟨b,⟨bl,nx,sp,rb,1+q1,q2,q3,1+q4⟩,by omega,⟨hP rb (by omega) Vd,cap,hRc,hrc⟩,?_⟩;simp[Nt.os,C7,O8]
 simp only[go_sem,c3,c4,BS];have hrl:rb.length<=3:=by omega
 have hss:=Fs.spurs;refine B3 (λ q:Nat×List Int=>⟨[(0,.ptr 1000000 0),(4,.ptr 4 0),(5,.ptr 5 0),(12,.ptr 12 0),(14,.p (.int .i64 (k:Nat))),(15,.ref 177 0 q.2.length q.2.length),(16,.p (.int .i64 (q.1:Nat)))],
     [(1000000,.box [.p (.sl (BT l)),.p (.int .i64 (b:Nat))]),(4,.box [.cl [],.cl [],.cl [],.cl [],.p (.int .i64 0),.p (.int .i64 0),.p (.int .i64 0),.p (.int .i64 0)]),
      (5,.box [.ref 43 0 bl.length bl.length,.ref 48 0 bl.length bl.length,.ref 102 0 sp.length sp.length,.ref 188 0 rb.length rb.length,.p (.int .i64 (1+q1)),.p (.int .i64 q2),.p (.int .i64 q3),.p (.int .i64 (1+q4))]),
      (12,.box [.p (.int .i64 (o.length:Nat)),.PU,.p (.int .i64 slv),.p (.int .i64 cap)]),(43,.arr 76 3 (C0 bl)),(48,.arr 22 1 (Cw nx)),(102,.arr 68 6 (CY sp)),(188,.arr 3 1 (BT rb)),(177,.arr 3 1 (BT q.2))],191⟩)
   (λ q=>q.1<=sp.length/\q.2.length<=4*q.1/\(∀x∈q.2,sp.any (Qi x)=true/\x∉rb)/\∀u,u<q.1->∀j:Nat,(sp.getD u B8).Cy=true->(j:Int)<(sp.getD u B8).Ch->(sp.getD u B8).base+(j:Int)∈rb∨(sp.getD u B8).base+(j:Int)∈q.2)
   (λ q=>sp.length - q.1) (0,[]) ⟨AG _,by simp,λ x hx=>by simp at hx,λ u hu=>absurd hu (A3 _)⟩
   ((Wk.nil (t:=15) (q:=177) (sz:=1) 3 rfl rfl (by decide)).trans (Wk.forget (by simp[ZF,BT]))) ?_
 rintro ⟨i,fr⟩ m4 ⟨hi,Ov,hfr,At6⟩ ih4;simp only at hi Ov hfr At6;cases c5:decide ((i:Int)<(sp.length:Int));rotate_left
 . have hit:i<sp.length:=by have:=Ad c5;omega
   have hwi:=Cf i (by omega);have hgs:=FH sp i hit;have DH:(0:Int)<=(i:Int)/\(i:Int)<(sp.length:Int):=by omega
   have Ft:=CJ sp i B8 hit;obtain ⟨_,_,_,_,g5,g6,g7⟩:=hss i hit;obtain ⟨g8,g9,_⟩:=XS hss hit;generalize hse:sp.getD i B8=s at*;simp only[go_sem,c5,Cm];refine B3 (λ q:Nat×List Int=>⟨[(0,.ptr 1000000 0),(4,.ptr 4 0),(5,.ptr 5 0),(12,.ptr 12 0),(14,.p (.int .i64 (k:Nat))),(15,.ref 177 0 q.2.length q.2.length),(16,.p (.int .i64 (i:Nat))),(17,.p (.int .i64 (q.1:Nat)))],
       [(1000000,.box [.p (.sl (BT l)),.p (.int .i64 (b:Nat))]),(4,.box [.cl [],.cl [],.cl [],.cl [],.p (.int .i64 0),.p (.int .i64 0),.p (.int .i64 0),.p (.int .i64 0)]),
      (5,.box [.ref 43 0 bl.length bl.length,.ref 48 0 bl.length bl.length,.ref 102 0 sp.length sp.length,.ref 188 0 rb.length rb.length,.p (.int .i64 (1+q1)),.p (.int .i64 q2),.p (.int .i64 q3),.p (.int .i64 (1+q4))]),
      (12,.box [.p (.int .i64 (o.length:Nat)),.PU,.p (.int .i64 slv),.p (.int .i64 cap)]),(43,.arr 76 3 (C0 bl)),(48,.arr 22 1 (Cw nx)),(102,.arr 68 6 (CY sp)),(188,.arr 3 1 (BT rb)),(177,.arr 3 1 (BT q.2))],191⟩)
     (λ q=>q.1<=4/\(q.1:Int)<=s.Ch/\q.2.length<=4*i+q.1/\(∀x∈q.2,sp.any (Qi x)=true/\x∉rb)/\(∀u,u<i->∀j:Nat,(sp.getD u B8).Cy=true->(j:Int)<(sp.getD u B8).Ch->(sp.getD u B8).base+(j:Int)∈rb∨(sp.getD u B8).base+(j:Int)∈q.2)/\∀j:Nat,j<q.1->s.base+(j:Int)∈rb∨s.base+(j:Int)∈q.2)
     (λ q=>4 - q.1) (0,fr) ⟨by simp,by simp only;omega,by simp only;omega,hfr,At6,λ j hj=>absurd hj (A3 _)⟩ (Wk.forget (by simp[ZF,BT])) ?_
   rintro ⟨j,f2⟩ m5 ⟨hj4,hjs,Ba0,hf2,Abh,hcj⟩ ih5;simp only at hj4 hjs Ba0 hf2 Abh hcj;have Yw:(¬((j:Int)<s.Ch)∨s.Cy=false)->∀u,u<i+1->∀j:Nat,(sp.getD u B8).Cy=true->(j:Int)<(sp.getD u B8).Ch->(sp.getD u B8).base+(j:Int)∈rb∨(sp.getD u B8).base+(j:Int)∈f2:=by
     intro hx u hu v hd hv;rcases AF.1 hu with h5 | rfl
     . exact Abh u h5 v hd hv
     . rw[hse] at hd hv ⊢;rcases hx with hx | hx
       . exact hcj v (by omega)
       . rw[hx] at hd;cases hd
   cases c6:decide ((j:Int)<s.Ch)
   . simp only[go_sem,Cm,Ab,hgs,DH,c6,hwi];refine ih4 (i+1,f2) _ ⟨hit,by simp only;omega,hf2,Yw (.inl (Ae c6))⟩ (by simp only;omega) ?_
     (refine Wk.forget ?_;simp[ZF];done)
   cases c7:s.Cy
   . simp only[go_sem,Cm,Ab,hgs,DH,c6,c7,hwi];refine ih4 (i+1,f2) _ ⟨hit,by simp only;omega,hf2,Yw (.inr c7)⟩ (by simp only;omega) ?_
     (refine Wk.forget ?_;simp[ZF];done)
   have hjt:=Ad c6;have hwj:=Cf j (by omega);have hwx:IntKind.i64.wrap (s.base+(j:Int))=s.base+(j:Int):=by rw[BY]<;>omega
   have Q9:sp.any (Qi (s.base+(j:Int)))=true:=by
     rw[Bd];exact ⟨s,Ft,by unfold Qi;rw[c7];simp;omega⟩
   simp only[go_sem,Cm,Ab,hgs,DH,c6,c7,hwx,BS,e4];refine Om rfl rfl ?_;simp only[go_sem,Je];refine TO (Ap7 rb (s.base+(j:Int)) (by omega)) ?_;rintro h' r ⟨rfl,rfl⟩;simp only[go_sem];cases c8:decide (s.base+(j:Int)∈rb);rotate_left
   . simp only[go_sem,c8,hwj];refine ih5 (j+1,f2) _ ⟨by simp only;omega,by simp only;omega,by simp only;omega,hf2,Abh,λ v hv=>?_⟩ (by simp only;omega) ?_
     . rcases AF.1 hv with h5 | rfl
       . exact hcj v h5
       . exact .inl (Ad c8)
     . (refine Wk.forget ?_;simp[ZF];done)
   . simp only[go_sem,c8,BS];refine ⟨⟨EN _ _ rfl,by omega⟩,?_⟩;simp only[go_sem,hwj];refine ih5 (j+1,f2++[s.base+(j:Int)]) _ ⟨by simp only;omega,by simp only;omega,by simp;omega,λ x hx=>?_,λ u hu v hd hv=>?_,λ v hv=>?_⟩ (by simp only;omega) ?_
     . rcases Au.1 hx with hx | hx
       . exact hf2 x hx
       . rw[Av] at hx;subst hx;exact ⟨Q9,Ae c8⟩
     . rcases Abh u hu v hd hv with h5 | h5
       . exact .inl h5
       . exact .inr (BL _ h5)
     . rcases AF.1 hv with h5 | rfl
       . rcases hcj v h5 with h6 | h6
         . exact .inl h6
         . exact .inr (BL _ h6)
       . exact .inr (by simp)
     . (refine Wk.forget ?_;simp[ZF,Fo,BS];done)
 have hie:i=sp.length:=by have:=Ae c5;omega
 subst hie;obtain ⟨s,hs,j,hd,hj,Asx⟩:=Aeh hss _ (rb:=rb) (by have:=Ad c4;rw[Azd] at Ii;exact Int.lt_of_lt_of_le this Ii);obtain ⟨u,hu,rfl⟩:=AA.1 hs;have Aw9:0<fr.length:=by
   have h5:=At6 u hu j (by rw[getD_eq hu];exact hd) (by rw[getD_eq hu];exact hj);rw[getD_eq hu] at h5;exact List.length_pos_of_mem (h5.resolve_left Asx)
 obtain ⟨v,hv,Uk⟩:=CU l b fr.length (by omega);have hkp:1<=k:=by have:=Ad c3;omega
 obtain ⟨k,rfl⟩:∃j,k=j+1:=⟨k - 1,by omega⟩;have HG:=Hz k (by omega);have hgv:=Cg fr v (by omega);have WH:(0:Int)<=(v:Int)/\(v:Int)<(fr.length:Int):=by omega
 have hx:=hfr _ (CJ fr v 0 (by omega));simp only[go_sem,c5,Cm];refine Di [(5,.box [.ref 43 0 bl.length bl.length,.ref 48 0 bl.length bl.length,.ref 102 0 sp.length sp.length,.ref 188 0 rb.length rb.length,.p (.int .i64 (1+q1)),.p (.int .i64 q2),.p (.int .i64 q3),.p (.int .i64 (1+q4))]),(177,.arr 3 1 (BT fr))] mixed (p:=[(0,0),(1,0),(2,0),(3,0),(4,0),(5,0),(6,2),(7,0),(8,0),(9,1),(10,2),(11,0),(12,3)]) (by kernel_rfl) (by simp[C5,get]) ?_;simp only[go_sem,BS];refine Gq ((Da l b fr.length (by omega) (CF _ (by omega) (by omega)))) ?_;simp only[go_sem,C7,hv,BS,Ab,hgv,WH];refine ⟨⟨EN _ _ rfl,by omega⟩,?_⟩;simp only[go_sem,HG];refine ih (k,b+1,rb++[fr.getD v 0]) _ ⟨by simp;omega,by simp only;omega,Wc Vd hx.1 hx.2,.inr (by have:=Ad c4;simp;omega)⟩ (by simp only;omega) ?_
 (refine Wk.forget ?_;simp[ZF,Fo,BS];done)
theorem Aok (R:Nt->Prop) (CC:∀(l:List Int) (at_ JI:Nat),at_<100000->1<=JI->JI<=10->BV prog 24 [.ptr 1000000 0,.p (.int .i64 (JI:Nat))] [(1000000,.box (C7 l at_))]
     λ h r=>∃at2 n,at2<=at_+200/\R n/\h=[(1000000,.box (C7 l at2)),(0,.arr 76 3 (C0 n.blocks)),(1,.arr 22 1 (Cw n.next)),(2,.arr 68 6 (CY n.spurs)),(3,.arr 3 1 (BT n.BW))]/\r= .agg n.os)
   (l:List Int) (at_ JI:Nat) (Ij:at_<100000) (RR:1<=JI) (RA:JI<=10):
   BV prog 24 [.ptr 1000000 0,.p (.int .i64 (JI:Nat))] [(1000000,.box (C7 l at_))]
     λ h r=>∃at2 n,at2<=at_+200/\R n/\h=[(1000000,.box (C7 l at2))]/\r= .agg n.cs:=by
 refine (CC l at_ JI Ij RR RA).seal ?_;rintro h' r ⟨at2,n,h1,h2,rfl,rfl⟩;refine M3 ?_;have e1:=VA n.blocks n.blocks.length (Ai _);have e2:=VD n.next n.next.length (Ai _)
 have e3:=Vy n.spurs n.spurs.length (Ai _);have e4:=MS n.BW n.BW.length (Ai _);unfold Nt.os C7;simp only[go_sem,Ce,Ca,Cm,BS,e1,e2,e3,e4,Rs.all,NN,AD,Bi];exact ⟨at2,n,h1,h2,by simp[Nt.cs]⟩
def T0(n:Nt)(x:Int):List UInt8:=(n.blocks.getD x.toNat DB).name
def KA(b:EH):Dc:=⟨1,0,[b.name],[b.x,b.y]⟩
def KW(n:Nt)(i:Nat)(x:Int):Dc:=⟨2,0,[(n.blocks.getD i DB).name,T0 n x],[]⟩
def Uh(n:Nt)(i:Nat):List Dc:=(n.next.getD i []).map (KW n i)
def F8(n:Nt)(s:CX):Dc:=⟨if s.Cy then 4 else 3,0,[s.name,T0 n s.Ip,T0 n s.out],[s.Ch]⟩
def Rv(x:Int)(s:CX):Bool:=decide (s.base<=x)&&decide (x<s.base+s.Ch)
def LO(r:Int)(s:CX):Dc:=⟨5,0,[s.name],[r - s.base+1]⟩
def Wd(n:Nt)(r:Int)(k:Nat):List Dc:=((n.spurs.take k).filter (Rv r)).map (LO r)
def GS(n:Nt):List Dc:=n.blocks.map KA
def Gx(n:Nt)(i:Nat):List Dc:=(List.range i).flatMap (Uh n)
def Jd(n:Nt):List Dc:=n.spurs.map (F8 n)
def Hk(n:Nt)(i:Nat):List Dc:=(n.BW.take i).flatMap λ r=>Wd n r n.spurs.length
def Gy(n:Nt):List Dc:=GS n++Gx n n.blocks.length++Jd n++Hk n n.BW.length++[⟨6,0,[],[n.cq,n.ca,n.cd,n.cp]⟩]
def Ec:Nat->List Dc->List Dc
 | _,[]=>[]
 | i,x::r=>⟨x.word,(i:Int)+1,x.names,x.B2⟩::Ec (i+1) r
def Dy(n:Nt):List Dc:=Ec 0 (Gy n)
theorem J7:∀(i:Nat) (l:List Dc),(Ec i l).length=l.length
 | _,[]=>rfl
 | i,_::r=>by simp[Ec,J7 (i+1) r]
theorem Oh(n:Nt)(i:Nat):Gx n (i+1)=Gx n i++Uh n i:=by simp[Gx,List.range_succ,List.flatMap_append]
theorem Og(n:Nt)(i:Nat)(h:i<n.BW.length):Hk n (i+1)=Hk n i++Wd n (n.BW.getD i 0) n.spurs.length:=by
 unfold Hk;rw[Cr n.BW i 0 h,List.flatMap_append];simp
theorem Yb:∀(i:Nat) (a b:List Dc),Ec i (a++b)=Ec i a++Ec (i+a.length) b
 | _,[],_=>by simp[Ec]
 | i,x::r,b=>by simp only[AR,Ec,Yb (i+1) r b,Aq];rw[show i+1+r.length=i+(r.length+1) by omega]
theorem H5{α β:Type}(f:α->List β)(k:Nat):∀l:List α,(∀x∈l,(f x).length<=k)->(l.flatMap f).length<=l.length*k
 | [],_=>by simp
 | x::r,h=>by
   have h1:=h x (by simp);have h2:=H5 f k r (λ y hy=>h y (by simp[hy]));simp only[List.flatMap_cons,At,Aq,Bc,Nat.one_mul];omega
theorem Ms(n:Nat):Lib.decDigits n=EP n:=by
 induction n using Nat.strongRecOn with
 | ind n ih=>
   rw[Lib.decDigits,EP];by_cases h:n<10
   . rw[dif_pos h,dif_pos h]
   . rw[dif_neg h,dif_neg h,ih (n / 10) (by omega)]
theorem Adp(n:Int):Lib.itoa n=Pz n:=by
 unfold Lib.itoa Pz;by_cases h:n<0
 . rw[if_pos h,if_pos h,Ms,show n.natAbs=(-n).toNat by omega]
 . rw[if_neg h,if_neg h,Ms]
theorem X2:∀(ns l:List (List UInt8)) (d:Dc),(∀s∈ns,CG s=true)->rd ns.length (ns++l) d=rd 0 l {d with names:=d.names++ns}
 | [],l,d,_=>by simp
 | s::r,l,d,h=>by
   have h1:=X2 r l {d with names:=d.names++[s]} (λ x hx=>h x (by simp[hx]));simp only[Aq,AR,rd,h s (by simp),AL];rw[h1];simp
theorem Aax:∀(ks:List Int) (d:Dc),(∀n∈ks,-9999<=n/\n<=9999)->rd 0 (ks.map Pz) d=({d with B2:=d.B2++ks},0)
 | [],d,_=>by simp[rd]
 | n::r,d,h=>by
   have h0:=h n (by simp);have hn:=Ad9 n (by omega) (by omega);rw[if_pos h0] at hn;have h1:=Aax r {d with B2:=d.B2++[n]} (λ x hx=>h x (by simp[hx]));simp only[AD,rd,hn,AL];rw[h1];simp
def ED(x:Dc):List (List UInt8):=(Et x.word.toNat).word::x.names++x.B2.map Pz
theorem ZU(j:Nat)(h1:1<=j)(h2:j<7):Lf (Et j).word=(j:Int):=by
 rcases j with _ | _ | _ | _ | _ | _ | _ | j
 . omega
 all_goals first | omega | decide
theorem GI(x:Dc):CP x=true↔(1<=x.word/\x.word<=6)/\(x.B2.length:Int)=(CA x.word).2/\((x.names.length:Int)=(CA x.word).1∨((CA x.word).1<(x.names.length:Int)/\x.word=2))/\
   (∀s∈x.names,CG s=true)/\∀n∈x.B2,-9999<=n/\n<=9999:=by
 unfold CP;simp only[Ar,Bool.or_eq_true,Ao,AB,Bool.not_eq_true',Bool.or_eq_false_iff,decide_eq_false_iff_not,Int.not_lt]
theorem Ad8(x:Dc)(h:CP x=true):P8 x.line (ED x)=(x,0):=by
 obtain ⟨h1,h2,h3,h4,h5⟩:=(GI x).1 h;obtain ⟨word,line,names,B2⟩:=x;simp only at h1 h2 h3 h4 h5;obtain ⟨j,rfl⟩:∃j:Nat,word=(j:Int):=⟨word.toNat,by omega⟩;obtain ⟨_,_,_,hs4,hs5⟩:=Tb j (by omega) (by omega);have hw:=ZU j (by omega) (by omega);simp only[ED,P8,Ab,AR];rw[hw,if_neg (by omega),if_neg (by simp;omega)];have hk:(names++B2.map Pz).length - (CA j).2.toNat=names.length:=by simp;omega
 rw[hk,X2 names _ _ h4,Aax _ _ h5];simp
def Ph:List Dc->List Ln->List Ln×Int
 | [],acc=>(acc,0)
 | x::r,acc=>if CP x then Ph r (acc++[⟨x.line,ED x⟩]) else ([],20)
theorem YJ:∀(d:List Dc) (acc:List Ln),(∀x∈d,CP x=true)->Ph d acc=(acc++d.map λ x=>⟨x.line,ED x⟩,0)
 | [],acc,_=>by simp[Ph]
 | x::r,acc,h=>by
   simp only[Ph,h x (by simp),AL];rw[YJ r _ (λ y hy=>h y (by simp[hy]))];simp
theorem QZ:∀(d acc:List Dc),(∀x∈d,CP x=true)->parseV (d.map λ x=>⟨x.line,ED x⟩) acc=(acc++d,0,0)
 | [],acc,_=>by simp[parseV]
 | x::r,acc,h=>by
   simp only[AD,parseV,Ad8 x (h x (by simp)),AL];rw[QZ r _ (λ y hy=>h y (by simp[hy]))];simp
def Anz(d:List Dc):Prop:=d.length<=2000000/\∀x∈d,x.names.length<=2000000/\x.B2.length<=2000000
theorem Td(k:Nat):∀(d:List Dc) (acc:List Ln),(∀x∈d,x.names.length<=k/\x.B2.length<=k)->(∀x∈acc,x.fs.length<=1+2*k)->(Ph d acc).1.length<=acc.length+d.length/\∀x∈(Ph d acc).1,x.fs.length<=1+2*k
 | [],acc,_,h=>by simpa [Ph] using h
 | x::r,acc,hd,h=>by
   simp only[Ph];split
   . have hx:=hd x (by simp);have ih:=Td k r (acc++[⟨x.line,ED x⟩]) (λ y hy=>hd y (by simp[hy])) (λ y hy=>by
       rcases Au.1 hy with h1 | h1
       . exact h y h1
       . simp only[Av] at h1;subst h1;simp[ED];omega)
     simp only[At,Aq,Az] at ih ⊢;exact ⟨by omega,ih.2⟩
   . simp
theorem Ya:∀(i:Nat) (l:List Dc) (x:Dc),x∈Ec i l->∃y∈l,x.names=y.names/\x.B2=y.B2
 | _,[],x,h=>by simp[Ec] at h
 | i,y::r,x,h=>by
   simp only[Ec,AE] at h;rcases h with rfl | h
   . exact ⟨y,by simp,rfl,rfl⟩
   . obtain ⟨z,hz,h1⟩:=Ya (i+1) r x h;exact ⟨z,by simp[hz],h1⟩
theorem Y6(n:Nt)(hn:validN n):Anz (Dy n):=by
 obtain ⟨⟨RD,WS,O8,Me⟩,hs6,N2,hr8,hcf,Fs,Vd,hdp⟩:=hn;have S2:(Gx n n.blocks.length).length<=n.blocks.length*4:=by
   have:=H5 (Uh n) 4 (List.range n.blocks.length) (λ i hi=>by
     have:=(Me i (List.mem_range.1 hi)).2.1;simp only[Uh,A6];omega)
   simpa [Gx] using this
 have hl4:(Hk n n.BW.length).length<=n.BW.length*6:=by
   have:=H5 (λ r=>Wd n r n.spurs.length) 6 (n.BW.take n.BW.length) (λ r _=>by
     simp only[Wd,A6];exact Bs (List.length_filter_le _ _) (by simp;omega))
   simpa [Hk] using this
 have Ft:∀x∈Gy n,x.names.length<=3/\x.B2.length<=4:=by
   intro x hx;simp only[Gy,Au,Av] at hx;rcases hx with (((hx | hx) | hx) | hx) | rfl
   . obtain ⟨b,_,rfl⟩:=AN.1 hx;simp[KA]
   . obtain ⟨i,_,hx⟩:=Bl.1 hx;obtain ⟨y,_,rfl⟩:=AN.1 hx;simp[KW]
   . obtain ⟨b,_,rfl⟩:=AN.1 hx;simp[F8]
   . obtain ⟨r,_,hx⟩:=Bl.1 hx;obtain ⟨y,_,rfl⟩:=AN.1 hx;simp[LO]
   . simp
 refine ⟨?_,λ x hx=>?_⟩
 . have:(Gy n).length<=2000000:=by
     simp only[Gy,At,GS,Jd,A6,Aq,Az];omega
   simpa [Dy,J7] using this
 . obtain ⟨y,hy,h1,h2⟩:=Ya 0 _ x hx;have:=Ft y hy;rw[h1,h2];omega
theorem Sa(c:UInt8)(t:List UInt8):∀s:List UInt8,CN c (s++c::t)=CN c s++CN c t
 | []=>by simp[CN]
 | b::r=>by
   have ih:=Sa c t r;simp only[AR,CN];split
   . rw[ih];rfl
   . rw[ih];cases hs:CN c r with
     | nil=>exact (UH c r hs).elim
     | cons x xs=>rfl
def GM(s:List UInt8):Bool:=decide (s≠[])&&(decide (s.length<=12)&&s.all λ b=>Hq b.toNat)
def Ff:Int->List Ln->Bool
 | _,[]=>true
 | last,x::r=>decide (last<x.num)&&(decide (x.fs≠[])&&(x.fs.all GM&&Ff x.num r))
def Fp:List (List UInt8)->List UInt8
 | []=>[]
 | x::r=>x++r.flatMap λ y=>32::y
def Fy:Nat->List Ln->List UInt8
 | _,[]=>[]
 | k,x::r=>List.replicate (x.num.toNat - k) 10++(Fp x.fs++10::Fy (x.num.toNat+1) r)
def OZ(l:List Ln):List UInt8×Int:=if Ff 0 l then (if 6000<(Fy 1 l).length then ([],1) else (Fy 1 l,0)) else ([],20)
def PW:List (List UInt8)->Nat
 | []=>0
 | s::r=>s.length+1+PW r
def Xr:List Ln->Nat
 | []=>0
 | x::r=>PW x.fs+Xr r
def G7:Int->List Ln->Int
 | k,[]=>k
 | _,x::r=>G7 x.num r
theorem I9{last:Int}{x:Ln}{r:List Ln}:Ff last (x::r)=true↔last<x.num/\x.fs≠[]/\(∀s∈x.fs,GM s=true)/\Ff x.num r=true:=by
 simp only[Ff,Ar,Ao,AB]
theorem IF{s:List UInt8}:GM s=true↔s≠[]/\s.length<=12/\∀b∈s,Hq b.toNat=true:=by
 simp only[GM,Ar,Ao,AB]
theorem Akd(r:List (List UInt8)):(r.flatMap λ y=>32::y).length=PW r:=by
 induction r with
 | nil=>rfl
 | cons x r ih=>simp[PW,ih];omega
theorem Nz:∀fs:List (List UInt8),fs≠[]->(Fp fs).length+1=PW fs
 | [],h=>(h rfl).elim
 | x::r,_=>by simp only[Fp,PW,At,Akd];omega
theorem Anv:∀fs:List (List UInt8),fs≠[]->1<=PW fs
 | [],h=>(h rfl).elim
 | x::r,_=>by simp only[PW];omega
theorem PV:∀(l:List Ln) (k:Nat),Ff k l=true->((Fy (k+1) l).length:Int)+k+l.length=Xr l+G7 k l/\(l.length:Int)<=Xr l/\(k:Int)<=G7 k l
 | [],k,_=>by simp[Fy,Xr,G7]
 | x::r,k,h=>by
   obtain ⟨h1,h2,h3,h4⟩:=I9.1 h;obtain ⟨n,hn⟩:∃n:Nat,x.num=(n:Int):=⟨x.num.toNat,by omega⟩;rw[hn] at h4 h1;obtain ⟨h5,h6,h7⟩:=PV r n h4;have h8:=Nz x.fs h2;have h9:=Anv x.fs h2;simp only[Fy,Xr,G7,hn,At,Aq,List.length_replicate,Ab];omega
theorem Ado(l:List Ln)(h:Ff 0 l=true):(6000<(Fy 1 l).length)↔((6000:Int) - min (G7 0 l) 6001<(Xr l:Int) - l.length):=by
 obtain ⟨h1,h2,h3⟩:=PV l 0 h;simp only[A0] at h1;have h4:((0:Nat):Int)=0:=rfl;rw[h4] at h1 h3;omega
theorem Xk{b:UInt8}(h:Hq b.toNat=true):¬(b.toNat:Int)=35/\¬(b.toNat:Int)=32/\¬(b.toNat:Int)=9/\b≠10/\b≠35:=by
 unfold Hq at h;simp only[Ar,Ao,Bool.not_eq_true',decide_eq_false_iff_not] at h;refine ⟨by omega,by omega,by omega,?_,?_⟩
 . rintro rfl;simp at h
 . rintro rfl;simp at h
theorem Akc:∀(s t cur:List UInt8) (acc:List (List UInt8)),(∀b∈s,Hq b.toNat=true)->cur.length+s.length<=12->HQ (s++t) (some cur) acc=HQ t (some (cur++s)) acc
 | [],t,cur,acc,_,_=>by simp
 | b::r,t,cur,acc,h,hl=>by
   have hb:=h b (by simp);obtain ⟨h1,h2,h3,_,_⟩:=Xk hb;simp only[Aq] at hl;simp only[AR,HQ,h1,h2,h3,hb,AL,A7,or_self,AY];rw[if_neg (by omega),Akc r t (cur++[b]) acc (λ x hx=>h x (by simp[hx])) (by simp;omega)];simp
theorem YK(s t:List UInt8)(acc:List (List UInt8))(h:GM s=true):HQ (s++t) none acc=HQ t (some s) acc:=by
 obtain ⟨h1,h2,h3⟩:=IF.1 h;cases s with
 | nil=>exact (h1 rfl).elim
 | cons b r=>
   obtain ⟨h4,h5,h6,_,_⟩:=Xk (h3 b (by simp));rw[List.cons_append,Ael _ _ _ h4 h5 h6,<-List.cons_append,Akc _ _ _ _ h3 (by simpa using h2)];simp
theorem YL:∀(r:List (List UInt8)) (s:List UInt8) (acc:List (List UInt8)),(∀y∈r,GM y=true)->HQ (r.flatMap λ y=>32::y) (some s) acc=(acc++s::r,0)
 | [],s,acc,_=>by simp[HQ]
 | y::r,s,acc,h=>by
   have h0:((32:UInt8).toNat:Int)=32:=rfl;simp only[List.flatMap_cons,AR,HQ,h0];rw[if_neg (by decide),if_pos (Or.inl trivial),YK _ _ _ (h y (by simp)),YL r y _ (λ x hx=>h x (by simp[hx]))];simp
theorem Aek:∀fs:List (List UInt8),fs≠[]->(∀s∈fs,GM s=true)->HQ (Fp fs) none []=(fs,0)
 | [],h,_=>(h rfl).elim
 | x::r,_,h=>by
   simp only[Fp];rw[YK _ _ _ (h x (by simp)),YL r x [] (λ y hy=>h y (by simp[hy]))];simp
theorem UG(c:UInt8):∀w:List UInt8,c∉w->CN c w=[w]
 | [],_=>rfl
 | b::r,h=>by
   have h1:b≠c:=λ e=>h (by simp[e]);simp only[CN,if_neg h1,UG c r (λ e=>h (by simp[e]))]
theorem Z4(c:UInt8)(w t:List UInt8)(h:c∉w):CN c (w++c::t)=w::CN c t:=by
 rw[Sa,UG c w h];rfl
theorem l5{b:UInt8}:∀{fs:List (List UInt8)},b∈Fp fs->b=32∨∃s∈fs,b∈s
 | [],h=>by simp[Fp] at h
 | x::r,h=>by
   simp only[Fp,Au,Bl,AE] at h;rcases h with h | ⟨y,hy,h | h⟩
   . exact .inr ⟨x,by simp,h⟩
   . exact .inl h
   . exact .inr ⟨y,by simp[hy],h⟩
theorem Ahf{fs:List (List UInt8)}(h:∀s∈fs,GM s=true):(10:UInt8)∉Fp fs/\(35:UInt8)∉Fp fs:=by
 constructor<;>intro hm;all_goals
   rcases l5 hm with h1 | ⟨s,hs,h1⟩
   . cases h1
   . have h2:=Xk ((IF.1 (h s hs)).2.2 _ h1);first | exact h2.2.2.2.1 rfl | exact h2.2.2.2.2 rfl
theorem Sf:∀(n:Nat) (t:List UInt8) (k:Nat) (acc:List Ln),IP (CN 10 (List.replicate n 10++t)) k acc=IP (CN 10 t) (k+n) acc
 | 0,t,k,acc=>by simp
 | n+1,t,k,acc=>by
   simp only[List.replicate_succ,AR,CN,AL,IP,HQ,Az,Nat.lt_irrefl,A7];rw[Sf n t (k+1) acc,Nat.add_assoc,Nat.add_comm 1 n]
theorem UN:∀(l:List Ln) (k:Nat) (acc:List Ln),Ff k l=true->IP (CN 10 (Fy (k+1) l)) (k+1) acc=(acc++l,0,0)
 | [],k,acc,_=>by simp[Fy,CN,IP,HQ]
 | x::r,k,acc,h=>by
   obtain ⟨h1,h2,h3,h4⟩:=I9.1 h;obtain ⟨num,fs⟩:=x;obtain ⟨n,rfl⟩:∃n:Nat,num=(n:Int):=⟨num.toNat,by simp only at h1;omega⟩;simp only at h1 h2 h3 h4;simp only[Fy,Ab];rw[Sf,Z4 10 _ _ (Ahf h3).1,show k+1+(n - (k+1))=n by omega];simp only[IP,Aek fs h2 h3,AL];rw[if_pos (by cases fs with | nil=>exact (h2 rfl).elim | cons a b=>simp),UN r n _ h4];simp
theorem YM(l:List Ln)(h:Ff 0 l=true)(hl:(Fy 1 l).length<=6000):Dh (Fy 1 l)=(l,0,0):=by
 unfold Dh;rw[if_neg (by omega)];have:=UN l 0 [] h
 simpa using this
theorem Apr(c:Int)(h:ZR c=true):Hq c=true:=by
 rw[EX] at h;simp only[GB,Bool.or_eq_true,Ar,Ao] at h;simp only[Hq,Ar,Ao,Bool.not_eq_true',decide_eq_false_iff_not];omega
theorem U3{s:List UInt8}(h:CG s=true):GM s=true/\s.length<=12:=by
 cases s with
 | nil=>simp[CG] at h
 | cons b r=>
   simp only[CG,Ar,Ao,AB] at h;exact ⟨IF.2 ⟨by simp,h.1.1,λ c hc=>Apr _ (h.2 c hc)⟩,h.1.1⟩
theorem Y5:∀(n:Nat),∀b∈EP n,Hq b.toNat=true:=by
 intro n
 induction n using Nat.strongRecOn with
 | _ n ih=>
   intro b hb;have key:∀d:Nat,d<10->Hq ((UInt8.ofNat (48+d)).toNat:Nat)=true:=by
     intro d hd;have:((UInt8.ofNat (48+d)).toNat:Int)=48+d:=by simp;omega
     rw[this];simp only[Hq,Ar,Ao,Bool.not_eq_true',decide_eq_false_iff_not];omega
   by_cases h:n<10
   . rw[Ek n h] at hb;simp only[Av] at hb;subst hb;exact key n h
   . rw[H9 n h] at hb;rcases Au.1 hb with h1 | h1
     . exact ih (n / 10) (by omega) b h1
     . simp only[Av] at h1;subst h1;exact key (n % 10) (by omega)
theorem Apm(n:Nat):EP n≠[]:=by
 by_cases h:n<10
 . rw[Ek n h];simp
 . rw[H9 n h];simp
theorem Y3{n:Int}(h0:-9999<=n)(h1:n<=9999):GM (Pz n)=true/\(Pz n).length<=5:=by
 unfold Pz;split
 . have hl:=Jc 3 (-n).toNat (by omega);refine ⟨IF.2 ⟨by simp,by simp;omega,λ b hb=>?_⟩,by simp;omega⟩;rcases AE.1 hb with rfl | hb
   . decide
   . exact Y5 _ b hb
 . have hl:=Jc 3 n.toNat (by omega);exact ⟨IF.2 ⟨Apm _,by omega,Y5 _⟩,by omega⟩
theorem Aei(j:Nat)(h1:1<=j)(h2:j<7):GM (Et j).word=true/\(Et j).word.length<=7:=by
 have hj:j=1∨j=2∨j=3∨j=4∨j=5∨j=6:=by omega
 rcases hj with rfl | rfl | rfl | rfl | rfl | rfl<;>decide
def wD(x:Dc):Nat:=8+13*x.names.length+6*x.B2.length
def NY(x:Dc):Ln:=⟨x.line,ED x⟩
theorem Ahq(a b:List (List UInt8)):PW (a++b)=PW a+PW b:=by
 induction a with
 | nil=>simp[PW]
 | cons x r ih=>simp only[AR,PW,ih];omega
theorem V4(k:Nat):∀l:List (List UInt8),(∀s∈l,s.length<=k)->PW l<=(k+1)*l.length
 | [],_=>by simp[PW]
 | x::r,h=>by
   have h1:=h x (by simp);have h2:=V4 k r (λ s hs=>h s (by simp[hs]));simp only[PW,Aq,Nat.mul_add,Nat.mul_one];omega
theorem Age(x:Dc)(h:CP x=true):(NY x).fs≠[]/\(∀s∈(NY x).fs,GM s=true)/\PW (NY x).fs<=wD x:=by
 obtain ⟨⟨Qk,Xv⟩,_,_,hn,hk⟩:=(GI x).1 h;have hf:=Aei x.word.toNat (by omega) (by omega);refine ⟨by simp[NY,ED],λ s hs=>?_,?_⟩
 . simp only[NY,ED,AR,AE,Au,AN] at hs;rcases hs with rfl | hs | ⟨k,Jj,rfl⟩
   . exact hf.1
   . exact (U3 (hn s hs)).1
   . exact (Y3 (hk k Jj).1 (hk k Jj).2).1
 . have h1:=V4 12 x.names (λ s hs=>(U3 (hn s hs)).2);have h2:=V4 5 (x.B2.map Pz) (λ s hs=>by
     obtain ⟨k,Jj,rfl⟩:=AN.1 hs;exact (Y3 (hk k Jj).1 (hk k Jj).2).2)
   simp only[A6] at h2;simp only[NY,ED,AR,PW,Ahq,wD];have:=hf.2;omega
def M7(l:List Dc):Nat:=(l.map wD).sum
theorem Ahr(a b:List Dc):M7 (a++b)=M7 a+M7 b:=by simp[M7]
theorem OE(k:Nat):∀l:List Dc,(∀x∈l,wD x<=k)->M7 l<=k*l.length
 | [],_=>by simp[M7]
 | x::r,h=>by
   have h1:=h x (by simp);have h2:=OE k r (λ y hy=>h y (by simp[hy]));simp only[M7,AD,List.sum_cons,Aq,Nat.mul_add,Nat.mul_one] at h2 ⊢;omega
theorem UY:∀(i:Nat) (L:List Dc),(∀x∈L,CP x=true)->Ff i ((Ec i L).map NY)=true/\G7 i ((Ec i L).map NY)=(i:Int)+L.length/\Xr ((Ec i L).map NY)<=M7 L
 | i,[],_=>by simp[Ec,Ff,G7,Xr,M7]
 | i,x::r,h=>by
   have hx:=h x (by simp);obtain ⟨h1,h2,h3⟩:=UY (i+1) r (λ y hy=>h y (by simp[hy]));have hd:=Age ⟨x.word,(i:Int)+1,x.names,x.B2⟩ hx;simp only[Ec,AD];have Un:(NY ⟨x.word,(i:Int)+1,x.names,x.B2⟩).num=((i+1:Nat):Int):=by simp[NY]
   refine ⟨I9.2 ⟨by rw[Un];omega,hd.1,hd.2.1,by rw[Un];exact h1⟩,?_,?_⟩
   . simp only[G7,Un,h2,Aq];omega
   . have h4:wD ⟨x.word,(i:Int)+1,x.names,x.B2⟩=wD x:=rfl;simp only[Xr,M7,AD,List.sum_cons];have:=hd.2.2;unfold M7 at h3;omega
theorem Sz:∀(i:Nat) (L:List Dc),(∀x∈L,CP x=true)->∀x∈Ec i L,CP x=true
 | _,[],_=>by simp[Ec]
 | i,x::r,h=>by
   intro y hy;simp only[Ec,AE] at hy;rcases hy with rfl | hy
   . exact h x (by simp)
   . exact Sz (i+1) r (λ z hz=>h z (by simp[hz])) y hy
theorem L5{α:Type}{l:List α}{x:α}(d:α)(h:x∈l):∃i,i<l.length/\l.getD i d=x:=by
 obtain ⟨i,hi,rfl⟩:=AA.1 h;exact ⟨i,hi,by simp[List.getD,hi]⟩
theorem Adc(n:Nt)(h:E7 n):(∀b∈n.blocks,CG b.name=true)/\∀s∈n.spurs,CG s.name=true:=by
 have key:∀x∈C2 n,CG x=true:=λ x hx=>by
   obtain ⟨i,hi,rfl⟩:=L5 [] hx;exact (h i hi).1
 exact ⟨λ b hb=>key _ (by simp only[C2,Au,AN];exact .inl ⟨b,hb,rfl⟩),λ s hs=>key _ (by simp only[C2,Au,AN];exact .inr ⟨s,hs,rfl⟩)⟩
theorem Y7(n:Nt)(hn:validN n):(∀x∈Gy n,CP x=true)/\M7 (Gy n)<=6000/\(Gy n).length<=400:=by
 obtain ⟨⟨RD,WS,O8,Me⟩,hs6,N2,hr8,hcf,Fs,Vd,hdp⟩:=hn;obtain ⟨hnb,hns⟩:=Adc n N2;have hbn:∀x:Int,0<=x->x<n.blocks.length->CG (T0 n x)=true:=λ x h0 h1=>by
   unfold T0;exact hnb _ (CJ n.blocks x.toNat DB (by omega))
 have h1:∀x∈GS n,CP x=true/\wD x<=33:=by
   intro x hx;obtain ⟨b,hb,rfl⟩:=AN.1 hx;obtain ⟨i,hi,rfl⟩:=L5 DB hb;have hxy:=(Me i hi).1;unfold T2 at hxy;refine ⟨(GI _).2 ⟨by simp[KA],by simp[KA,CA],.inl (by simp[KA,CA]),by simpa [KA] using hnb _ hb,?_⟩,by simp[wD,KA]⟩;simp only[KA,AE,List.not_mem_nil,or_false];rintro k (rfl | rfl)<;>omega
 have h2:∀x∈Gx n n.blocks.length,CP x=true/\wD x<=34:=by
   intro x hx;obtain ⟨i,hi,hx⟩:=Bl.1 hx;obtain ⟨y,hy,rfl⟩:=AN.1 hx;have S4:=List.mem_range.1 hi;obtain ⟨k,hk,rfl⟩:=L5 0 hy;have CS:=(Me i S4).2.2 k hk;refine ⟨(GI _).2 ⟨by simp[KW],by simp[KW,CA],.inl (by simp[KW,CA]),?_,by simp[KW]⟩,by simp[wD,KW]⟩;simp only[KW,AE,List.not_mem_nil,or_false];rintro s (rfl | rfl)
   . exact hnb _ (CJ n.blocks i DB S4)
   . exact hbn _ CS.1 CS.2.1
 have h3:∀x∈Jd n,CP x=true/\wD x<=53:=by
   intro x hx;obtain ⟨s,hs,rfl⟩:=AN.1 hx;have Asy:=hns s hs;obtain ⟨i,hi,rfl⟩:=L5 B8 hs;obtain ⟨g1,g2,g3,g4,g5,g6,_⟩:=Fs i hi;generalize n.spurs.getD i B8=s at*;have hw:(if s.Cy then (4:Int) else 3)=3∨(if s.Cy then (4:Int) else 3)=4:=by cases s.Cy<;>simp
   refine ⟨(GI _).2 ⟨by simp only[F8];omega,?_,.inl ?_,?_,?_⟩,by simp[wD,F8]⟩
   . rcases hw with hw | hw<;>simp[F8,CA,hw]
   . rcases hw with hw | hw<;>simp[F8,CA,hw]
   . simp only[F8,AE,List.not_mem_nil,or_false];rintro t (rfl | rfl | rfl)
     . exact Asy
     . exact hbn _ (by omega) (by omega)
     . exact hbn _ (by omega) (by omega)
   . simp only[F8,AE,List.not_mem_nil,or_false];rintro k rfl;omega
 have h4:∀x∈Hk n n.BW.length,CP x=true/\wD x<=27:=by
   intro x hx;obtain ⟨r,_,hx⟩:=Bl.1 hx;obtain ⟨s,hs,rfl⟩:=AN.1 hx;obtain ⟨Lk,Md⟩:=List.mem_filter.1 hs;have ZL:=BK Lk;have Asy:=hns s ZL;obtain ⟨i,hi,rfl⟩:=L5 B8 ZL;obtain ⟨g1,g2,g3,g4,g5,g6,_⟩:=Fs i hi;generalize n.spurs.getD i B8=s at*;simp only[Rv,Ar,Ao] at Md;refine ⟨(GI _).2 ⟨by simp[LO],by simp[LO,CA],.inl (by simp[LO,CA]),by simpa [LO] using Asy,?_⟩,by simp[wD,LO]⟩;simp only[LO,AE,List.not_mem_nil,or_false];rintro k rfl;omega
 have h5:CP ⟨6,0,[],[n.cq,n.ca,n.cd,n.cp]⟩=true:=by
   unfold HJ at hcf;refine (GI _).2 ⟨by simp,by simp[CA],.inl (by simp[CA]),by simp,?_⟩;simp only[AE,List.not_mem_nil,or_false];rintro k (rfl | rfl | rfl | rfl)<;>omega
 have S2:(Gx n n.blocks.length).length<=n.blocks.length*4:=by
   have:=H5 (Uh n) 4 (List.range n.blocks.length) (λ i hi=>by
     have:=(Me i (List.mem_range.1 hi)).2.1;simp only[Uh,A6];omega)
   simpa [Gx] using this
 have hl4:(Hk n n.BW.length).length<=n.BW.length*6:=by
   have:=H5 (λ r=>Wd n r n.spurs.length) 6 (n.BW.take n.BW.length) (λ r _=>by
     simp only[Wd,A6];exact Bs (List.length_filter_le _ _) (by simp;omega))
   simpa [Hk] using this
 refine ⟨λ x hx=>?_,?_,?_⟩
 . simp only[Gy,Au,Av] at hx;rcases hx with (((hx | hx) | hx) | hx) | rfl
   . exact (h1 x hx).1
   . exact (h2 x hx).1
   . exact (h3 x hx).1
   . exact (h4 x hx).1
   . exact h5
 . have s1:=OE 33 (GS n) (λ x hx=>(h1 x hx).2);have s2:=OE 34 (Gx n n.blocks.length) (λ x hx=>(h2 x hx).2);have s3:=OE 53 (Jd n) (λ x hx=>(h3 x hx).2);have s4:=OE 27 (Hk n n.BW.length) (λ x hx=>(h4 x hx).2);have s5:M7 [(⟨6,0,[],[n.cq,n.ca,n.cd,n.cp]⟩:Dc)]=32:=by simp[M7,wD]
   have e1:(GS n).length=n.blocks.length:=by simp[GS]
   have e3:(Jd n).length=n.spurs.length:=by simp[Jd]
   simp only[Gy,Ahr,s5];rw[e1] at s1;rw[e3] at s3;omega
 . simp only[Gy,At,GS,Jd,A6,Aq,Az];omega
theorem Yh:∀(l:List Ln) (k:Int),Ff k l=true->(∀x∈l,x.num<=G7 k l)/\k<=G7 k l
 | [],k,_=>by simp[G7]
 | x::r,k,h=>by
   obtain ⟨h1,_,_,h2⟩:=I9.1 h;obtain ⟨h3,h4⟩:=Yh r x.num h2;refine ⟨λ y hy=>?_,by simp only[G7];omega⟩;rcases AE.1 hy with rfl | hy
   . exact h4
   . exact h3 y hy
theorem Ahp:∀l:List (List UInt8),l.length<=PW l
 | []=>by simp[PW]
 | x::r=>by have:=Ahp r;simp only[PW,Aq];omega
theorem Aan:∀(l:List Ln) (x:Ln),x∈l->PW x.fs<=Xr l
 | [],x,h=>by simp at h
 | y::r,x,h=>by
   simp only[Xr];rcases AE.1 h with rfl | h
   . omega
   . have:=Aan r x h;omega
theorem Ty(n:Nt)(hn:validN n):(∀x∈Dy n,CP x=true)/\Ff 0 ((Dy n).map NY)=true/\(Fy 1 ((Dy n).map NY)).length<=6000/\(Dy n).length<=400/\∀x∈(Dy n).map NY,x.num<=400/\x.fs.length<=6000:=by
 obtain ⟨h1,h2,h3⟩:=Y7 n hn;obtain ⟨h4,h5,h6⟩:=UY 0 (Gy n) h1;have h7:=PV ((Dy n).map NY) 0 h4;have h8:=Yh _ _ h4;have h9:∀x∈(Dy n).map NY,x.num<=400/\x.fs.length<=6000:=λ x hx=>by
   have Uq:=Ahp x.fs;have h13:=Aan _ x hx;have h14:Xr ((Dy n).map NY)<=M7 (Gy n):=h6;have Jq:x.num<=G7 ((0:Nat):Int) ((Ec 0 (Gy n)).map NY):=h8.1 x hx;rw[h5] at Jq;refine ⟨?_,by omega⟩;omega
 refine ⟨Sz 0 _ h1,h4,?_,by simpa [Dy,J7] using h3,h9⟩;have e1:((Dy n).map NY).length=(Gy n).length:=by simp[Dy,J7]
 have e2:G7 ((0:Nat):Int) ((Dy n).map NY)=((0:Nat):Int)+(Gy n).length:=h5;have e3:Xr ((Dy n).map NY)<=M7 (Gy n):=h6;have e4:((Fy 1 ((Dy n).map NY)).length:Int)+((0:Nat):Int)+((Dy n).map NY).length=Xr ((Dy n).map NY)+G7 ((0:Nat):Int) ((Dy n).map NY):=h7.1;omega
end Go.Am
end
