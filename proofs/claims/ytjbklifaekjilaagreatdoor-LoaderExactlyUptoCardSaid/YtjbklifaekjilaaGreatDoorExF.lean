/- Texts of this proof, what it rests on, merged: part F. -/
import Derived.Lib.Bytealg
import Derived.Laws.Externs
import Derived.Test.YtjbklifaekjilaaGreatDoorExE
noncomputable section
namespace Go.Am
open Go Go.Proofs
open Tryz
set_option maxRecDepth 100000
set_option linter.unusedVariables false
set_option linter.unusedSimpArgs false
set_option maxHeartbeats 2000000
def CU(c:UInt8):List UInt8->List (List UInt8)
 | []=>[[]]
 | b::r=>if b=c then []::CU c r else match CU c r with
   | []=>[[b]]
   | x::xs=>(b::x)::xs
theorem QP(c:UInt8)(l:List UInt8):CU c l≠[]:=by
 cases l with
 | nil=>simp[CU]
 | cons b r=>
   simp only[CU];split
   . simp
   . split<;>simp
theorem HN(c:UInt8)(l:List UInt8):(CU c l).length=l.count c+1:=by
 induction l with
 | nil=>simp[CU]
 | cons b r ih=>
   simp only[CU];split
   . rename_i h;subst h;simp[ih]
   . rename_i h;rw[List.count_cons_of_ne h];cases hs:CU c r with
     | nil=>exact (QP c r hs).elim
     | cons x xs=>rw[hs] at ih;simpa using ih
theorem JC(c:UInt8):∀(l:List UInt8),(Lib.indexByte l c=-1/\CU c l=[l])∨∃m:Nat,Lib.indexByte l c=(m:Int)/\m<l.length/\CU c l=l.take m::CU c (l.drop (m+1))
 | []=> .inl ⟨rfl,rfl⟩
 | b::r=>by
   simp only[Lib.indexByte];by_cases h:b=c
   . subst h;exact .inr ⟨0,by simp,by simp,by simp[CU]⟩
   . rcases JC c r with ⟨h1,h2⟩ | ⟨m,h1,h2,h3⟩
     . refine .inl ⟨by simp[h,h1],by simp[CU,h,h2]⟩
     . refine .inr ⟨m+1,by simp[h,h1],by simp;omega,by simp[CU,h,h3]⟩
theorem Aqp(l:List UInt8)(c:Int):B1 prog 195 [.p (.str l),.p (.int .u8 c)] [] λ h r=>h=[]/\r= .p (.int .i64 (Lib.indexByte l c.toNat.toUInt8)):=by
 refine UT (run_callFunc_extern func195 (by kernel_rfl) (by kernel_rfl) (by kernel_rfl) (e:=Extern.BytealgIndexByte.indexByte) (by kernel_rfl)) ?_;intro vs w F M hd;obtain ⟨hl,h⟩:=hd;obtain ⟨v1,v2,rfl⟩:∃v1 v2,vs=#[v1,v2]:=by
   match vs,hl with
   | ⟨[v1,v2]⟩,_=>exact ⟨v1,v2,rfl⟩
 have h1:=h 0 _ rfl;have h2:=h 1 _ rfl;simp only[AX,List.getD_cons_succ] at h1 h2;cases h1 with | p h1=>cases h1 with | str=>
 cases h2 with | p h2=>cases h2 with | int=>
 exact ⟨_,_,Lib.run_indexByteString _ _ _,.p (.int _ _),rfl,rfl⟩
theorem Ari(l:List UInt8)(c:Int):B1 prog 168 [.p (.str l),.p (.int .u8 c)] [] λ h r=>h=[]/\r= .p (.int .i64 (Lib.countByte l c.toNat.toUInt8:Nat)):=by
 refine UT (run_callFunc_extern func168 (by kernel_rfl) (by kernel_rfl) (by kernel_rfl) (e:=Extern.BytealgCount.count) (by kernel_rfl)) ?_;intro vs w F M hd;obtain ⟨hl,h⟩:=hd;obtain ⟨v1,v2,rfl⟩:∃v1 v2,vs=#[v1,v2]:=by
   match vs,hl with
   | ⟨[v1,v2]⟩,_=>exact ⟨v1,v2,rfl⟩
 have h1:=h 0 _ rfl;have h2:=h 1 _ rfl;simp only[AX,List.getD_cons_succ] at h1 h2;cases h1 with | p h1=>cases h1 with | str=>
 cases h2 with | p h2=>cases h2 with | int=>
 exact ⟨_,_,Lib.run_countString _ _ _,.p (.int _ _),rfl,rfl⟩
theorem Asc(c:UInt8):((c.toNat:Int)).toNat.toUInt8=c:=by simp
theorem Ao6(l:List UInt8)(c:UInt8):B1 prog 138 [.p (.str l),.p (.str [c])] [] λ h r=>h=[]/\r= .p (.int .i64 (l.count c:Nat)):=by
 refine B0 func138 rfl Agb (by simp[Tryz.f138]) ?_;have h0:(0:Int)<1:=by decide
 simp only[go_sem,AX];refine Cq (Ari l c.toNat) ?_;simp only[go_sem,Asc];rfl
theorem Af1(l:List UInt8)(c:UInt8):B1 prog 169 [.p (.str l),.p (.str [c])] [] λ h r=>h=[]/\r= .p (.int .i64 (Lib.indexByte l c)):=by
 refine B0 func169 rfl Afw (by simp[Tryz.f169]) ?_;cases he:decide ([c]=l)
 . simp only[go_sem,he,AX];refine Ec (?_:B1 prog 186 _ _ λ h r=>h=[]/\r= .p (.int .i64 (Lib.indexByte l c))) ?_
   . refine B0 func186 rfl Afr (by simp[Tryz.f186]) ?_;simp only[go_sem];refine Cq (Aqp l c.toNat) ?_;simp only[go_sem,Asc]
   . rintro h' r ⟨rfl,rfl⟩;simp only[go_sem]
 . simp only[go_sem,he];have:l=[c]:=by simpa using (Ad he).symm
   subst this;simp[Lib.indexByte]
theorem Akr(l:List UInt8)(c:UInt8):B1 prog 139 [.p (.str l),.p (.str [c])] [] λ h r=>h=[]/\r= .p (.int .i64 (Lib.indexByte l c)):=by
 refine B0 func139 rfl Aga (by simp[Tryz.f139]) ?_;simp only[go_sem];refine Cq (Af1 l c) ?_;simp only[go_sem]
theorem Ac5(a r:List (List UInt8))(y x:List UInt8):(a++y::r).set a.length x=(a++[x])++r:=by
 rw[List.set_append_right _ _ (Ai _),Nat.sub_self,List.set_cons_zero,A8];rfl
theorem Anq(n:Nat):Cw (List.replicate n [])=List.replicate n [.str []]:=by simp[Cw]
theorem Zv(l:List UInt8)(c:UInt8)(hl:l.length<=100000000):B1 prog 104 [.p (.str l),.p (.str [c]),.p (.int .i64 0),.p (.int .i64 (-1))] [] λ h r=>h=[(0,.arr 9 1 (Cw (CU c l)))]/\r= .ref 0 0 (CU c l).length (CU c l).length:=by
 refine B0 func104 rfl Ah1 (by simp[Tryz.f104]) ?_;have hn:=HN c l;have hc:l.count c<=l.length:=List.count_le_length;have w1:IntKind.i64.wrap ((l.count c:Nat)+1)=(((CU c l).length:Nat):Int):=by rw[hn,B2]<;>omega
 have w2:IntKind.i64.wrap ((l.length:Int)+1)=(l.length:Int)+1:=by rw[B2]<;>omega
 have w3:¬(l.length:Int)+1<(((CU c l).length:Nat):Int):=by omega
 have w4:IntKind.i64.wrap ((((CU c l).length:Nat):Int) - 1)=((l.count c:Nat):Int):=by rw[hn,B2]<;>omega
 simp only[go_sem];refine Cq (Ao6 l c) ?_;simp only[go_sem,w1,w2,w3,w4,Ab];refine ⟨by omega,?_⟩;generalize hS:CU c l=S at*;refine B4 (λ q:List (List UInt8)×List UInt8=>⟨[(0,.p (.str q.2)),(1,.p (.str [c])),(2,.p (.int .i64 0)),(3,.p (.int .i64 (l.count c:Nat))),(9,.ref 31 0 S.length S.length),(10,.p (.int .i64 (q.1.length:Nat)))],[(31,.arr 9 1 (Cw (q.1++List.replicate (S.length - q.1.length) [])))],66⟩)
   (λ q=>S=q.1++CU c q.2/\q.2.length<=l.length) (λ q=>S.length - q.1.length) ([],l) ⟨by simp[hS],by simp⟩ (Wk.forget (by simp[ZF,Anq])) ?_
 rintro ⟨a,t⟩ n ⟨he,ht⟩ ih;simp only at he ht;have hln:=congrArg List.length he;rw[Aq,HN] at hln;simp only[go_sem];refine Cv (λ h2=>?_) (λ h2=>?_)
 . have Cr:a.length<l.count c:=by simp at h2;omega
   simp only[go_sem];refine Cq (Akr t c) ?_;rcases JC c t with ⟨h3,h4⟩ | ⟨m,h3,h4,h5⟩
   . rw[h4] at he;have:=congrArg List.length he;simp at this;omega
   . have c1:¬(m:Int)<0:=by omega
     have w5:IntKind.i64.wrap ((m:Int)+0)=(m:Int):=by rw[B2]<;>omega
     have w6:IntKind.i64.wrap ((m:Int)+1)=((m+1:Nat):Int):=by rw[B2]<;>omega
     have w7:=Ca a.length (by omega);have Wd:(0:Int)<=(m:Int)/\(m:Int)<=(t.length:Int):=by omega
     have SC:(0:Int)<=((m+1:Nat):Int)/\((m+1:Nat):Int)<=(t.length:Int):=by omega
     have ha:(0:Int)<=(a.length:Int)/\(a.length:Int)<(S.length:Int):=by omega
     obtain ⟨k,hk⟩:∃k,S.length - a.length=k+1:=⟨S.length - a.length - 1,by omega⟩;have IP:S.length - (a.length+1)=k:=by omega
     have hlen:S.length=(a++[]::List.replicate k ([]:List UInt8)).length:=by simp;omega
     have hg:=Dz (a++[]::List.replicate k ([]:List UInt8)) a.length (by rw[<-hlen];omega);simp only[go_sem,h3,c1,hk,w5,w6,w7,Ab,B3,Wd,SC,ha,hg,Bz,List.drop_zero,Ar];refine ⟨hlen,hlen,?_⟩;rw[<-Qj,Ac5];refine ih (a++[t.take m],t.drop (m+1)) _ ⟨by rw[he,h5];simp,by simp;omega⟩ (by simp;omega) ?_
     (refine Wk.forget ?_;simp[ZF,IP];done)
 . have Cr:a.length=l.count c:=by simp at h2;omega
   have hS1:S.length - a.length=1:=by omega
   rcases JC c t with ⟨h3,h4⟩ | ⟨m,h3,h4,h5⟩
   . have w7:IntKind.i64.wrap ((a.length:Int)+1)=((S.length:Nat):Int):=by rw[B2]<;>omega
     have ha:(0:Int)<=(a.length:Int)/\(a.length:Int)<(S.length:Int):=by omega
     have hlen:S.length=(a++[([]:List UInt8)]).length:=by simp;omega
     have hg:=Dz (a++[([]:List UInt8)]) a.length (by rw[<-hlen];omega);have Axu:S=a++[t]:=by rw[he,h4]
     have hS0:(0:Int)<=(S.length:Int):=by omega
     simp only[go_sem,hS1,w7,Ab,B3,ha,hg,Bz,<-Qj,Ac5,A0,hS0,Int.sub_zero];refine ⟨hlen,hlen,by rw[Axu],Cm ?_⟩;simp only[go_sem];rw[Axu]
   . rw[h5] at he;have h6:=HN c (t.drop (m+1));have:=congrArg List.length he;simp at this;omega
theorem Aj4(l:List UInt8)(c:UInt8)(hl:l.length<=100000000):B1 prog 60 [.p (.str l),.p (.str [c])] [] λ h r=>h=[(0,.arr 9 1 (Cw (CU c l)))]/\r= .ref 0 0 (CU c l).length (CU c l).length:=by
 refine B0 func60 rfl Amm (by simp[Tryz.f60]) ?_;simp only[go_sem];refine Cq (Zv l c hl) ?_;simp only[go_sem];refine Cm ?_;simp only[go_sem]
def Iu(c:Int):Bool:=decide (32<c)&&(decide (c<=126)&&!decide (c=35))
theorem Nj(c:Int):B1 prog 105 [.p (.int .u8 c)] [] λ h r=>h=[]/\r= .p (.bool (Iu c)):=by
 refine B0 func105 rfl Ah0 (by simp[Tryz.f105]) ?_;by_cases h1:32<c
 . by_cases h2:c<=126
   . simp only[go_sem,h1,h2];simp[Iu,h1,h2]
   . simp only[go_sem,h1,h2];simp[Iu,h1,h2]
 . simp only[go_sem,h1];simp[Iu,h1]
def FU:List UInt8->Option (List UInt8)->List (List UInt8)->List (List UInt8)×Int
 | [],none,acc=>(acc,0)
 | [],some cur,acc=>(acc++[cur],0)
 | b::r,c,acc=>
   if (b.toNat:Int)=35 then (acc++c.toList,0)
   else if (b.toNat:Int)=32∨(b.toNat:Int)=9 then FU r none (acc++c.toList)
   else if Iu b.toNat then (if (c.getD []).length=12 then ([],3) else FU r (some (c.getD []++[b])) acc)
   else ([],2)
theorem Afo(t:List UInt8)(cur:List UInt8)(acc:List (List UInt8))(h:∀b r,t=b::r->(b.toNat:Int)=35∨(b.toNat:Int)=32∨(b.toNat:Int)=9):FU t (some cur) acc=FU t none (acc++[cur]):=by
 cases t with
 | nil=>simp[FU]
 | cons b r=>
   rcases h b r rfl with h | h | h<;>simp[FU,h]
theorem Arh(s:List UInt8)(hs:s.length<=100000000):B1 prog 61 [.p (.str s)] [] λ h r=>h=[]/\r= .Dr [.p (.sl (Cw (FU s none []).1)),.p (.int .i64 (FU s none []).2)]:=by
 refine B0 func61 rfl Aml (by simp[Tryz.f61]) ?_;simp only[go_sem];refine Sp (λ q:Bool×Nat×Nat×List (List UInt8)=>if q.1 then 1 else 0)
   (λ q=>⟨[(0,.p (.str s)),(2,.cl []),(4,.ref 59 0 q.2.2.2.length q.2.2.2.length),(5,.p (.int .i64 (q.2.1:Nat))),(6,.p (.int .i64 (q.2.2.1:Nat)))],[(59,.arr 9 1 (Cw q.2.2.2))],71⟩)
   (λ q=>q.2.2.1<=q.2.1/\q.2.1<=s.length/\(q.1=true->q.2.1<=q.2.2.1+12/\q.2.2.1<q.2.1/\q.2.2.2.length<=q.2.2.1)/\q.2.2.2.length<=q.2.1/\FU (s.drop q.2.1) (if q.1 then some ((s.take q.2.1).drop q.2.2.1) else none) q.2.2.2=FU s none [])
   (λ q=>2*(s.length - q.2.1)+(if q.1 then 1 else 0)) (2*s.length+2) ?_ ?_
 . intro n ih;simp only[go_sem];cases E1:decide ((0:Int)=(s.length:Int));rotate_left
   . have Ala:0=s.length:=by have:=Ad E1;omega
     simp only[go_sem,E1];refine BX ?_;simp only[go_sem];rw[AY Ala.symm];simp[FU,Cw]
   have Cr:0<s.length:=by have:=Ae E1;omega
   have P4:s=s.getD 0 0::s.drop 1:=by have:=C8 s 0 0 Cr;simpa using this
   have he:FU (s.getD 0 0::s.drop 1) none []=FU s none []:=by rw[<-P4]
   have I3:(0:Int)<(s.length:Int):=by omega
   have C0:(0:Int)<=(0:Int):=by omega
   have hw:IntKind.i64.wrap ((0:Int)+1)=(((0+1:Nat)):Int):=by rw[B2]<;>omega
   have Lf:IntKind.i64.wrap ((0:Int) - 0)=0:=by rw[Int.sub_self];rfl
   have Zn:(s.take (0+1)).drop 0=[s.getD 0 0]:=by rw[List.drop_take,C8 s _ 0 Cr];simp
   generalize hb:s.getD 0 0=b at*;generalize hc:(b.toNat:Int)=c at*;cases L6:decide (c=35);rotate_left
   . simp only[go_sem,Ab,E1,I3,C0,hb,hc,L6,Int.reduceToNat,Nat.reduceAdd];refine BX ?_;simp only[go_sem];have:=Ad L6;rw[<-he];simp[FU,hc,this,B3,FN,Cw]
   have MV:=Ae L6;cases SE:decide (c=32)
   . cases h9:decide (c=9)
     . have Kk:=Ae SE;have Vr:=Ae h9;simp only[go_sem,Ab,E1,I3,C0,hb,hc,L6,SE,h9];refine Cq (Nj c) ?_;cases Hf:Iu c
       . simp only[go_sem,Hf];refine BX ?_;simp only[go_sem];rw[<-he];simp[FU,hc,MV,Kk,Vr,Hf,Cw]
       . simp only[go_sem,Hf,hw,Lf];refine ih (true,0+1,0,[]) _ ⟨by simp only;omega,by simp only;omega,(λ _=>by simp only[Ax];omega),by simp only[Ax];omega,?_⟩ (by simp only[AP];omega) ?_
         . rw[<-he];simp only[AP,Zn];simp[FU,hc,MV,Kk,Vr,Hf]
         . exact (Wk.nil (t:=4) (q:=59) (sz:=1) 9 rfl rfl (by decide)).trans (Wk.forget (by simp[ZF,Cw]))
     . have Vr:=Ad h9;simp only[go_sem,Ab,E1,I3,C0,hb,hc,L6,SE,h9,hw];refine ih (false,0+1,0,[]) _ ⟨by simp only;omega,by simp only;omega,(λ h=>by cases h),by simp only[Ax];omega,?_⟩ (by simp;omega) ?_
       . rw[<-he];simp[FU,hc,Vr]
       . exact (Wk.nil (t:=4) (q:=59) (sz:=1) 9 rfl rfl (by decide)).trans (Wk.forget (by simp[ZF,Cw]))
   . have Kk:=Ad SE;simp only[go_sem,Ab,E1,I3,C0,hb,hc,L6,SE,hw];refine ih (false,0+1,0,[]) _ ⟨by simp only;omega,by simp only;omega,(λ h=>by cases h),by simp only[Ax];omega,?_⟩ (by simp;omega) ?_
     . rw[<-he];simp[FU,hc,Kk]
     . exact (Wk.nil (t:=4) (q:=59) (sz:=1) 9 rfl rfl (by decide)).trans (Wk.forget (by simp[ZF,Cw]))
 . rintro ⟨Yc,at_,bg,acc⟩ n ⟨hbg,Ji,Rq,T8,he⟩ ih;simp only at hbg Ji Rq T8 he;cases Yc
   . simp only[AL,Bd] at he;refine ⟨_,rfl,?_⟩;simp only[go_sem];cases E1:decide ((at_:Int)=(s.length:Int));rotate_left
     . have Ala:at_=s.length:=by have:=Ad E1;omega
       simp only[go_sem,E1];refine BX ?_;simp only[go_sem];rw[<-he,Bx (by omega)];simp[FU,B3,FN]
     have Cr:at_<s.length:=by have:=Ae E1;omega
     rw[C8 s at_ 0 Cr] at he;have I3:(at_:Int)<(s.length:Int):=by omega
     have C0:(0:Int)<=(at_:Int):=by omega
     have hw:IntKind.i64.wrap ((at_:Int)+1)=(((at_+1:Nat)):Int):=by rw[B2]<;>omega
     have Lf:IntKind.i64.wrap ((at_:Int) - at_)=0:=by rw[Int.sub_self];rfl
     have Zn:(s.take (at_+1)).drop at_=[s.getD at_ 0]:=by rw[List.drop_take,C8 s _ 0 Cr];simp
     generalize hb:s.getD at_ 0=b at*;generalize hc:(b.toNat:Int)=c at*;cases L6:decide (c=35);rotate_left
     . simp only[go_sem,Ab,E1,I3,C0,hb,hc,L6];refine BX ?_;simp only[go_sem];have:=Ad L6;rw[<-he];simp[FU,hc,this,B3,FN]
     have MV:=Ae L6;cases SE:decide (c=32)
     . cases h9:decide (c=9)
       . have Kk:=Ae SE;have Vr:=Ae h9;simp only[go_sem,Ab,E1,I3,C0,hb,hc,L6,SE,h9];refine Cq (Nj c) ?_;cases Hf:Iu c
         . simp only[go_sem,Hf];refine BX ?_;simp only[go_sem];rw[<-he];simp[FU,hc,MV,Kk,Vr,Hf,Cw]
         . simp only[go_sem,Hf,hw,Lf];refine ih (true,at_+1,at_,acc) _ ⟨by simp only;omega,by simp only;omega,(λ _=>by simp only[Ax];omega),by simp only[Ax];omega,?_⟩ (by simp only[AP];omega) ?_
           . rw[<-he];simp only[AP,Zn];simp[FU,hc,MV,Kk,Vr,Hf]
           . (refine Wk.forget ?_;simp[ZF];done)
       . have Vr:=Ad h9;simp only[go_sem,Ab,E1,I3,C0,hb,hc,L6,SE,h9,hw];refine ih (false,at_+1,bg,acc) _ ⟨by simp only;omega,by simp only;omega,(λ h=>by cases h),by simp only[Ax];omega,?_⟩ (by simp;omega) ?_
         . rw[<-he];simp[FU,hc,Vr]
         . (refine Wk.forget ?_;simp[ZF];done)
     . have Kk:=Ad SE;simp only[go_sem,Ab,E1,I3,C0,hb,hc,L6,SE,hw];refine ih (false,at_+1,bg,acc) _ ⟨by simp only;omega,by simp only;omega,(λ h=>by cases h),by simp only[Ax];omega,?_⟩ (by simp;omega) ?_
       . rw[<-he];simp[FU,hc,Kk]
       . (refine Wk.forget ?_;simp[ZF];done)
   . simp only[AP] at he ih;simp only[forall_const] at Rq;refine ⟨_,rfl,?_⟩;simp only[go_sem];have hbi:(0:Int)<=(bg:Int)/\(bg:Int)<=(at_:Int)/\(at_:Int)<=(s.length:Int):=by omega
     have flush:(∀b r,s.drop at_=b::r->(b.toNat:Int)=35∨(b.toNat:Int)=32∨(b.toNat:Int)=9)->FU (s.drop at_) none (acc++[(s.take at_).drop bg])=FU s none []:=by
       intro h;rw[<-Afo _ _ _ h];exact he
     cases E1:decide ((at_:Int)=(s.length:Int));rotate_left
     . have Ala:at_=s.length:=by have:=Ad E1;omega
       have hdn:s.drop at_=[]:=Bx (by omega);simp only[go_sem,E1,Ab,B3,hbi];refine ⟨⟨Dq _ _ rfl,by omega⟩,?_⟩;refine ih (false,at_,bg,acc++[(s.take at_).drop bg]) _ ⟨hbg,Ji,(λ h=>by cases h),by have:=Rq.2.2;have:=Rq.2.1;simp;omega,?_⟩ (by simp) ?_
       . simp only[AL,Bd];exact flush (λ b r h=>by rw[hdn] at h;cases h)
       . (refine Wk.forget ?_;simp[ZF,Dx,B3];done)
     have Cr:at_<s.length:=by have:=Ae E1;omega
     have hd:=C8 s at_ 0 Cr;have I3:(at_:Int)<(s.length:Int):=by omega
     have C0:(0:Int)<=(at_:Int):=by omega
     have hw:IntKind.i64.wrap ((at_:Int)+1)=((at_+1:Nat):Int):=by rw[B2]<;>omega
     have Lf:IntKind.i64.wrap ((at_:Int) - bg)=((at_ - bg:Nat):Int):=by rw[B2]<;>omega
     have Zn:(s.take (at_+1)).drop bg=(s.take at_).drop bg++[s.getD at_ 0]:=by
       rw[List.take_succ_eq_append_getElem Cr,List.drop_append_of_le_length (by simp;omega)];simp[List.getD,Cr]
     have P5:((s.take at_).drop bg).length=at_ - bg:=by simp;omega
     generalize hb:s.getD at_ 0=b at*;rw[hd] at he;generalize hc:(b.toNat:Int)=c at*;have sep:c=35∨c=32∨c=9->FU (s.drop at_) none (acc++[(s.take at_).drop bg])=FU s none []:=by
       intro h;refine flush λ b' r' h'=>?_;rw[hd] at h';cases h';rw[hc];exact h
     cases L6:decide (c=35)
     . cases SE:decide (c=32)
       . cases h9:decide (c=9)
         . have MV:=Ae L6;have Kk:=Ae SE;have Vr:=Ae h9;simp only[go_sem,Ab,E1,I3,C0,hb,hc,L6,SE,h9];refine Cq (Nj c) ?_;cases Hf:Iu c
           . simp only[go_sem,Hf];refine BX ?_;simp only[go_sem];rw[<-he];simp[FU,hc,MV,Kk,Vr,Hf,Cw]
           . cases Ar1:decide (((at_ - bg:Nat):Int)=12)
             . have Ab4:¬at_ - bg=12:=by have:=Ae Ar1;omega
               simp only[go_sem,Hf,hw,Lf,Ar1];refine ih (true,at_+1,bg,acc) _ ⟨by simp only;omega,by simp only;omega,(λ _=>by simp only;omega),by simp only;omega,?_⟩ (by simp only[AP];omega) ?_
               . rw[<-he];simp only[AP,Zn];simp[FU,hc,MV,Kk,Vr,Hf,P5,Ab4]
               . (refine Wk.forget ?_;simp[ZF];done)
             . have Ab4:at_ - bg=12:=by have:=Ad Ar1;omega
               simp only[go_sem,Hf,hw,Lf,Ar1];refine BX ?_;simp only[go_sem];rw[<-he];simp[FU,hc,MV,Kk,Vr,Hf,P5,Ab4,Cw]
         . simp only[go_sem,Ab,E1,I3,C0,hb,hc,L6,SE,h9,B3,hbi];refine ⟨⟨Dq _ _ rfl,by omega⟩,?_⟩;refine ih (false,at_,bg,acc++[(s.take at_).drop bg]) _ ⟨hbg,Ji,(λ h=>by cases h),by have:=Rq.2.2;have:=Rq.2.1;simp;omega,?_⟩ (by simp) ?_
           . simp only[AL,Bd];exact sep (.inr (.inr (Ad h9)))
           . (refine Wk.forget ?_;simp[ZF,Dx,B3];done)
       . simp only[go_sem,Ab,E1,I3,C0,hb,hc,L6,SE,B3,hbi];refine ⟨⟨Dq _ _ rfl,by omega⟩,?_⟩;refine ih (false,at_,bg,acc++[(s.take at_).drop bg]) _ ⟨hbg,Ji,(λ h=>by cases h),by have:=Rq.2.2;have:=Rq.2.1;simp;omega,?_⟩ (by simp) ?_
         . simp only[AL,Bd];exact sep (.inr (.inl (Ad SE)))
         . (refine Wk.forget ?_;simp[ZF,Dx,B3];done)
     . simp only[go_sem,Ab,E1,I3,C0,hb,hc,L6,B3,hbi];refine ⟨⟨Dq _ _ rfl,by omega⟩,?_⟩;refine ih (false,at_,bg,acc++[(s.take at_).drop bg]) _ ⟨hbg,Ji,(λ h=>by cases h),by have:=Rq.2.2;have:=Rq.2.1;simp;omega,?_⟩ (by simp) ?_
       . simp only[AL,Bd];exact sep (.inl (Ad L6))
       . (refine Wk.forget ?_;simp[ZF,Dx,B3];done)
def FA:List (List UInt8)->Nat->List Ln->List Ln×Int×Int
 | [],_,acc=>(acc,0,0)
 | t::r,k,acc=>if (FU t none []).2=0 then FA r (k+1) (if 0<(FU t none []).1.length then acc++[⟨(k:Nat),(FU t none []).1⟩] else acc) else ([],(k:Nat),(FU t none []).2)
def CE(s:List UInt8):List Ln×Int×Int:=if 6000<s.length then ([],0,1) else FA (CU 10 s) 1 []
def Kg(r:List Ln×Int×Int):D:= .Dr [.p (.sl (EO r.1)),.p (.int .i64 r.2.1),.p (.int .i64 r.2.2)]
theorem Lo(c:UInt8)(l:List UInt8):∀x∈CU c l,x.length<=l.length:=by
 induction l with
 | nil=>simp[CU]
 | cons b r ih=>
   intro x hx;simp only[CU] at hx;split at hx
   . rcases AG.1 hx with rfl | hx
     . simp
     . have:=ih x hx;simp;omega
   . split at hx
     . simp at hx;subst hx;simp
     . rename_i y ys h;rcases AG.1 hx with rfl | hx
       . have:=ih y (by rw[h];simp);simp;omega
       . have:=ih x (by rw[h];simp[hx]);simp;omega
theorem Aep(s:List UInt8):B1 prog 29 [.p (.str s)] [] λ h r=>h=[]/\r=Kg (CE s):=by
 refine B0 func29 rfl An8 (by simp[Tryz.f29]) ?_;cases hlen:decide ((6000:Int)<(s.length:Int))
 . have hl:s.length<=6000:=by have:=Ae hlen;omega
   have hf:CE s=FA (CU 10 s) 1 []:=by unfold CE;rw[if_neg (by omega)]
   rw[hf];simp only[go_sem,hlen];refine Cq (Aj4 s 10 (by omega)) ?_;have hsm:=Lo 10 s;have Axy:=HN 10 s;have P5:s.count 10<=s.length:=List.count_le_length;generalize hS:CU 10 s=S at*;simp only[go_sem,B3];refine B4 (λ q:Nat×List Ln=>⟨[(14,.ref 10014 0 S.length S.length),(15,.p (.int .i64 (S.length:Nat))),(16,.p (.int .i64 (q.1:Nat))),(5,.ref 40 0 q.2.length q.2.length)],[(10014,.arr 9 1 (Cw S)),(40,.arr 80 2 (EO q.2))],43⟩)
     (λ q=>q.1<=S.length/\q.2.length<=q.1/\FA (S.drop q.1) (q.1+1) q.2=FA S 1 []) (λ q=>S.length - q.1) (0,[]) ⟨AD _,by simp,by simp⟩ ((Wk.nil (t:=5) (q:=40) (sz:=2) 80 rfl rfl (by decide)).trans (Wk.forget (by simp[ZF,EO]))) ?_
   rintro ⟨i,acc⟩ n ⟨hi,hn,he⟩ ih;simp only at hi hn he;simp only[go_sem];refine Cv (λ h2=>?_) (λ h2=>?_)
   . have Cr:i<S.length:=by simp at h2;omega
     have hw:=Ca i (by omega);have hb:=hsm _ (CB S i [] Cr);have I3:(i:Int)<(S.length:Int):=by omega
     have C0:(0:Int)<=(i:Int):=by omega
     have hg:=Dz S i Cr;rw[C8 S i [] Cr] at he;generalize S.getD i []=t at*;simp only[go_sem,Ab,B3,hg,I3,C0];refine Cq (Arh t (by omega)) ?_;by_cases hz:(FU t none []).2=0
     . by_cases hp:0<(FU t none []).1.length
       . have hp':(0:Int)<((FU t none []).1.length:Int):=by omega
         simp only[go_sem,hz,hw,B3,CM,hp'];refine ⟨⟨Dq _ _ rfl,by omega⟩,?_⟩;refine ih (i+1,acc++[⟨(i+1:Nat),(FU t none []).1⟩]) _ ⟨Cr,by simp only[Aq,Al,Ax];omega,by rw[<-he];simp only[FA,hz,hp,AP]⟩ (by simp only;omega) ?_
         (refine Wk.forget ?_;simp[ZF,Jk,CM];done)
       . have hp':¬(0:Int)<((FU t none []).1.length:Int):=by omega
         simp only[go_sem,hz,hw,B3,hp'];refine ih (i+1,acc) _ ⟨Cr,by simp only;omega,by rw[<-he];simp only[FA,hz,hp,AP,Bd]⟩ (by simp only;omega) ?_
         (refine Wk.forget ?_;simp[ZF];done)
     . simp only[go_sem,hz,hw];refine BX ?_;simp only[go_sem];rw[<-he];simp[FA,hz,Kg,EO]
   . simp only[go_sem];have T1:i=S.length:=by simp at h2;omega
     subst T1;refine BX ?_;simp only[go_sem];rw[A2] at he;rw[<-he];simp[FA,Kg,CM,Rx]
 . have hl:6000<s.length:=by have:=Ad hlen;omega
   have hf:CE s=([],0,1):=by unfold CE;rw[if_pos hl]
   rw[hf];simp only[go_sem,hlen];refine BX ?_;simp only[go_sem];try simp[Kg,EO]
theorem Ni(c:Int):B1 prog 70 [.p (.int .u8 c)] [] λ h r=>h=[]/\r= .p (.bool (Iu c)):=by
 refine B0 func70 rfl Ame (by simp[Tryz.f70]) ?_;by_cases h1:33<=c
 . have EB:(32:Int)<c:=by omega
   by_cases h2:c<=126
   . simp only[go_sem,h1,h2];simp[Iu,EB,h2]
   . simp only[go_sem,h1,h2];simp[Iu,EB,h2]
 . have EB:¬(32:Int)<c:=by omega
   simp only[go_sem,h1];simp[Iu,EB]
def XI(f:Option Nat):Int:=match f with
 | none=>-1
 | some f=>(f:Nat)
def Ry(s:List UInt8)(i:Nat)(f:Option Nat):Option (List UInt8):=f.map λ f=>(s.take i).drop f
theorem Ui(s:List UInt8)(hs:s.length<=100000000):B1 prog 35 [.p (.str s)] [] λ h r=>h=[]/\r= .Dr [.p (.sl (Cw (FU s none []).1)),.p (.int .i64 (FU s none []).2)]:=by
 refine B0 func35 rfl An3 (by simp[Tryz.f35]) ?_;simp only[go_sem];refine B4 (λ q:Nat×Option Nat×List (List UInt8)=>⟨[(0,.p (.str s)),(4,.ref 58 0 q.2.2.length q.2.2.length),(5,.p (.int .i64 (XI q.2.1))),(6,.p (.int .i64 (q.1:Nat)))],[(58,.arr 9 1 (Cw q.2.2))],61⟩)
   (λ q=>q.1<=s.length/\q.2.2.length<=q.1/\(∀f,q.2.1=some f->f<q.1/\q.1<=f+12/\q.2.2.length<=f)/\FU (s.drop q.1) (Ry s q.1 q.2.1) q.2.2=FU s none []) (λ q=>s.length+1 - q.1) (0,none,[])
   ⟨AD _,by simp,by simp,by simp[Ry]⟩ ((Wk.nil (t:=4) (q:=58) (sz:=1) 9 rfl rfl (by decide)).trans (Wk.forget (by simp[ZF,Cw,XI]))) ?_
 rintro ⟨i,fo,acc⟩ n ⟨hi,T8,hf,he⟩ ih;simp only at hi T8 hf he;have I3:(i:Int)<=(s.length:Int):=by omega
 have C0:(0:Int)<=(i:Int):=by omega
 have hw:IntKind.i64.wrap ((i:Int)+1)=((i+1:Nat):Int):=by rw[B2]<;>omega
 have Lf:IntKind.i64.wrap ((i:Int) - i)=0:=by rw[Int.sub_self];rfl
 simp only[go_sem,I3];cases E1:decide ((i:Int)=(s.length:Int))
 . have Cr:i<s.length:=by have:=Ae E1;omega
   have Vn:(i:Int)<(s.length:Int):=by omega
   rw[C8 s i 0 Cr] at he;have Zn:∀f,f<=i->(s.take (i+1)).drop f=(s.take i).drop f++[s.getD i 0]:=by
     intro f hf;rw[List.take_succ_eq_append_getElem Cr,List.drop_append_of_le_length (by simp;omega)];simp[List.getD,Cr]
   have Bay:(s.take (i+1)).drop i=[s.getD i 0]:=by rw[List.drop_take,C8 s i 0 Cr];simp
   generalize hb:s.getD i 0=b at*;generalize hc:(b.toNat:Int)=c at*;cases L6:decide (c=35)
   . have MV:=Ae L6;cases SE:decide (c=32)
     . have Kk:=Ae SE;cases h9:decide (c=9)
       . have Vr:=Ae h9;simp only[go_sem,Ab,I3,Vn,C0,hb,hc,E1,L6,SE,h9];refine Cq (Ni c) ?_;cases Hf:Iu c
         . simp only[go_sem,Hf];refine BX ?_;simp only[go_sem];rw[<-he];simp[FU,hc,MV,Kk,Vr,Hf,Cw]
         . cases fo with
           | none=>
             simp only[go_sem,Hf,XI,hw,Lf];refine ih (i+1,some i,acc) _ ⟨Cr,by simp only;omega,by intro f h;cases h;simp only;omega,?_⟩ (by simp only;omega) ?_
             . rw[<-he];simp only[Ry,Bm,Option.map_none,Bay];simp[FU,hc,MV,Kk,Vr,Hf]
             . (refine Wk.forget ?_;simp[ZF,XI];done)
           | some f=>
             obtain ⟨hf1,hf2,hf3⟩:=hf f rfl;have Asv:¬(f:Int)<0:=by omega
             have hwf:IntKind.i64.wrap ((i:Int) - f)=((i - f:Nat):Int):=by rw[B2]<;>omega
             have P5:((s.take i).drop f).length=i - f:=by simp;omega
             cases Rq:decide ((12:Int)<=((i - f:Nat):Int))
             . have Ab4:¬i - f=12:=by have:=Ae Rq;omega
               simp only[go_sem,Hf,XI,Asv,hw,hwf,Rq];refine ih (i+1,some f,acc) _ ⟨Cr,by simp only;omega,by intro f' h;cases h;have:=Ae Rq;simp only;omega,?_⟩ (by simp only;omega) ?_
               . rw[<-he];simp only[Ry,Bm,Zn f (by omega)];simp[FU,hc,MV,Kk,Vr,Hf,P5,Ab4]
               . (refine Wk.forget ?_;simp[ZF,XI];done)
             . have Ab4:i - f=12:=by have:=Ad Rq;omega
               simp only[go_sem,Hf,XI,Asv,hwf,Rq];refine BX ?_;simp only[go_sem];rw[<-he];simp[FU,Ry,hc,MV,Kk,Vr,Hf,P5,Ab4,Cw]
       . have Vr:=Ad h9;cases fo with
         | none=>
           simp only[go_sem,Ab,I3,Vn,C0,hb,hc,E1,L6,SE,h9,XI,hw];refine ih (i+1,none,acc) _ ⟨Cr,by simp only;omega,(by intro f h;cases h),?_⟩ (by simp only;omega) ?_
           . rw[<-he];simp[FU,Ry,hc,Vr]
           . (refine Wk.forget ?_;simp[ZF,XI];done)
         | some f=>
           obtain ⟨hf1,hf2,hf3⟩:=hf f rfl;have hf0:(0:Int)<=(f:Int)/\(f:Int)<=(i:Int)/\(i:Int)<=(s.length:Int):=by omega
           simp only[go_sem,Ab,I3,Vn,C0,hb,hc,E1,L6,SE,h9,XI,hf0,B3,hw];refine ⟨⟨Dq _ _ rfl,by omega⟩,?_⟩;refine ih (i+1,none,acc++[(s.take i).drop f]) _ ⟨Cr,by simp;omega,(by intro f h;cases h),?_⟩ (by simp only;omega) ?_
           . rw[<-he];simp[FU,Ry,hc,Vr]
           . (refine Wk.forget ?_;simp[ZF,XI,Dx,B3];done)
     . have Kk:=Ad SE;cases fo with
       | none=>
         simp only[go_sem,Ab,I3,Vn,C0,hb,hc,E1,L6,SE,XI,hw];refine ih (i+1,none,acc) _ ⟨Cr,by simp only;omega,(by intro f h;cases h),?_⟩ (by simp only;omega) ?_
         . rw[<-he];simp[FU,Ry,hc,Kk]
         . (refine Wk.forget ?_;simp[ZF,XI];done)
       | some f=>
         obtain ⟨hf1,hf2,hf3⟩:=hf f rfl;have hf0:(0:Int)<=(f:Int)/\(f:Int)<=(i:Int)/\(i:Int)<=(s.length:Int):=by omega
         simp only[go_sem,Ab,I3,Vn,C0,hb,hc,E1,L6,SE,XI,hf0,B3,hw];refine ⟨⟨Dq _ _ rfl,by omega⟩,?_⟩;refine ih (i+1,none,acc++[(s.take i).drop f]) _ ⟨Cr,by simp;omega,(by intro f h;cases h),?_⟩ (by simp only;omega) ?_
         . rw[<-he];simp[FU,Ry,hc,Kk]
         . (refine Wk.forget ?_;simp[ZF,XI,Dx,B3];done)
   . have MV:=Ad L6;cases fo with
     | none=>
       simp only[go_sem,Ab,I3,Vn,C0,hb,hc,E1,L6,XI];refine BX ?_;simp only[go_sem];rw[<-he];simp[FU,Ry,hc,MV,B3,FN]
     | some f=>
       obtain ⟨hf1,hf2,hf3⟩:=hf f rfl;have hf0:(0:Int)<=(f:Int)/\(f:Int)<=(i:Int)/\(i:Int)<=(s.length:Int):=by omega
       simp only[go_sem,Ab,I3,Vn,C0,hb,hc,E1,L6,XI,hf0,B3];refine ⟨⟨Dq _ _ rfl,by omega⟩,BX ?_⟩;simp only[go_sem,<-Dx,B3];rw[<-he];simp[FU,Ry,hc,MV,FN,Dx];exact AE (by simp[Cw])
 . have T1:i=s.length:=by have:=Ad E1;omega
   rw[Bx (by omega)] at he;cases fo with
   | none=>
     simp only[go_sem,Ab,I3,C0,E1,XI];refine BX ?_;simp only[go_sem];rw[<-he];simp[FU,Ry,B3,FN]
   | some f=>
     obtain ⟨hf1,hf2,hf3⟩:=hf f rfl;have hf0:(0:Int)<=(f:Int)/\(f:Int)<=(i:Int)/\(i:Int)<=(s.length:Int):=by omega
     simp only[go_sem,Ab,I3,C0,E1,XI,hf0,B3];refine ⟨⟨Dq _ _ rfl,by omega⟩,BX ?_⟩;simp only[go_sem,<-Dx,B3];rw[<-he];simp[FU,Ry,FN,Dx];exact AE (by simp[Cw])
theorem YH(c b:UInt8)(r:List UInt8)(h:b≠c):∃x xs,CU c r=x::xs/\CU c (b::r)=(b::x)::xs:=by
 cases hs:CU c r with
 | nil=>exact (QP c r hs).elim
 | cons x xs=>exact ⟨x,xs,rfl,by simp[CU,h,hs]⟩
def Ob(pre:List UInt8):List (List UInt8)->List (List UInt8)
 | []=>[pre]
 | x::xs=>(pre++x)::xs
theorem QG(c:UInt8)(r:List UInt8):Ob [] (CU c r)=CU c r:=by
 cases hs:CU c r with
 | nil=>exact (QP c r hs).elim
 | cons x xs=>simp[Ob]
theorem Ad9(c:UInt8)(pre r:List UInt8):Ob pre (CU c (c::r))=pre::CU c r:=by simp[CU,Ob]
theorem s9(c b:UInt8)(pre r:List UInt8)(h:b≠c):Ob pre (CU c (b::r))=Ob (pre++[b]) (CU c r):=by
 obtain ⟨x,xs,h1,h2⟩:=YH c b r h;rw[h1,h2];simp[Ob]
theorem Ada(c:UInt8)(pre:List UInt8):Ob pre (CU c [])=[pre]:=by simp[CU,Ob]
theorem Aeo(s:List UInt8):B1 prog 14 [.p (.str s)] [] λ h r=>h=[]/\r=Kg (CE s):=by
 refine B0 func14 rfl Anm (by simp[Tryz.f14]) ?_;cases hlen:decide ((6000:Int)<(s.length:Int))
 . have hl:s.length<=6000:=by have:=Ae hlen;omega
   have P3:CE s=FA (CU 10 s) 1 []:=by unfold CE;rw[if_neg (by omega)]
   rw[P3];clear P3;simp only[go_sem,hlen];refine B4 (λ q:Nat×Nat×Nat×List Ln=>⟨[(0,.p (.str s)),(5,.ref 50 0 q.2.2.2.length q.2.2.2.length),(6,.p (.int .i64 (q.2.1:Nat))),(7,.p (.int .i64 (q.2.2.1:Nat))),(8,.p (.int .i64 (q.1:Nat)))],[(50,.arr 80 2 (EO q.2.2.2))],56⟩)
     (λ q=>(q.1<=s.length+1/\q.2.1<=q.1+1/\q.2.2.2.length<=q.1)/\((q.1<=s.length/\q.2.2.1<=q.1/\FA (Ob ((s.take q.1).drop q.2.2.1) (CU 10 (s.drop q.1))) q.2.1 q.2.2.2=FA (CU 10 s) 1 [])∨(q.1=s.length+1/\FA [] q.2.1 q.2.2.2=FA (CU 10 s) 1 []))) (λ q=>s.length+1 - q.1) (0,1,0,[])
     ⟨⟨by simp,by simp,by simp⟩,.inl ⟨by simp,by simp,by simp[QG]⟩⟩ ((Wk.nil (t:=5) (q:=50) (sz:=2) 80 rfl rfl (by decide)).trans (Wk.forget (by simp[ZF,EO]))) ?_
   rintro ⟨i,num,fr,acc⟩ n ⟨⟨hi,SB,T8⟩,he⟩ ih;simp only at hi SB T8 he;have C0:(0:Int)<=(i:Int):=by omega
   have hw:IntKind.i64.wrap ((i:Int)+1)=((i+1:Nat):Int):=by rw[B2]<;>omega
   have hwn:IntKind.i64.wrap ((num:Int)+1)=((num+1:Nat):Int):=by rw[B2]<;>omega
   rcases he with ⟨I3,hfr,he⟩ | ⟨I3,he⟩
   . have Afc:(i:Int)<=(s.length:Int):=by omega
     have Axt:(0:Int)<=(fr:Int)/\(fr:Int)<=(i:Int)/\(i:Int)<=(s.length:Int):=by omega
     have EZ:((s.take i).drop fr).length<=100000000:=by simp;omega
     simp only[go_sem,Afc];cases E1:decide ((i:Int)<(s.length:Int));rotate_left
     . have Cr:i<s.length:=by have:=Ad E1;omega
       have Vn:(i:Int)<(s.length:Int):=by omega
       have Zn:(s.take (i+1)).drop fr=(s.take i).drop fr++[s.getD i 0]:=by
         rw[List.take_succ_eq_append_getElem Cr,List.drop_append_of_le_length (by simp;omega)];simp[List.getD,Cr]
       rw[C8 s i 0 Cr] at he;generalize hb:s.getD i 0=b at*;cases Mi:decide ((b.toNat:Int)=10)
       . have Auw:b≠10:=by rintro rfl;simp at Mi
         simp only[go_sem,Ab,Afc,Vn,C0,hb,E1,Mi,hw];rw[s9 _ _ _ _ Auw,<-Zn] at he;refine ih (i+1,num,fr,acc) _ ⟨⟨by simp only;omega,by simp only;omega,by simp only;omega⟩,.inl ⟨Cr,by simp only;omega,he⟩⟩ (by simp only;omega) ?_
         (refine Wk.forget ?_;simp[ZF];done)
       . have Auw:b=10:=by
           have:=Ad Mi;exact UInt8.toNat_inj.1 (by simp;omega)
         subst Auw;rw[Ad9] at he;simp only[go_sem,Ab,Afc,Vn,C0,hb,E1,Mi,Axt];refine Cq (Ui _ EZ) ?_;generalize (s.take i).drop fr=t at*;by_cases hz:(FU t none []).2=0
         . by_cases hp:0<(FU t none []).1.length
           . have hp':(0:Int)<((FU t none []).1.length:Int):=by omega
             simp only[go_sem,hz,hw,hwn,B3,CM,hp'];refine ⟨⟨Dq _ _ rfl,by omega⟩,?_⟩;refine ih (i+1,num+1,i+1,acc++[⟨(num:Nat),(FU t none []).1⟩]) _ ⟨⟨by simp only;omega,by simp only;omega,by simp;omega⟩,.inl ⟨Cr,by simp,?_⟩⟩ (by simp only;omega) ?_
             . rw[<-he];simp[FA,hz,hp,QG]
             . (refine Wk.forget ?_;simp[ZF,Jk,CM];done)
           . have hp':¬(0:Int)<((FU t none []).1.length:Int):=by omega
             simp only[go_sem,hz,hw,hwn,B3,hp'];refine ih (i+1,num+1,i+1,acc) _ ⟨⟨by simp only;omega,by simp only;omega,by simp only;omega⟩,.inl ⟨Cr,by simp,?_⟩⟩ (by simp only;omega) ?_
             . rw[<-he];simp[FA,hz,hp,QG]
             . (refine Wk.forget ?_;simp[ZF];done)
         . simp only[go_sem,hz];refine BX ?_;simp only[go_sem];rw[<-he];simp[FA,hz,Kg,EO]
     . have T1:i=s.length:=by have:=Ae E1;omega
       rw[show s.drop i=[] from Bx (by omega),Ada] at he;simp only[go_sem,Ab,Afc,C0,E1,Axt];refine Cq (Ui _ EZ) ?_;generalize (s.take i).drop fr=t at*;by_cases hz:(FU t none []).2=0
       . by_cases hp:0<(FU t none []).1.length
         . have hp':(0:Int)<((FU t none []).1.length:Int):=by omega
           simp only[go_sem,hz,hw,hwn,B3,CM,hp'];refine ⟨⟨Dq _ _ rfl,by omega⟩,?_⟩;refine ih (i+1,num+1,i+1,acc++[⟨(num:Nat),(FU t none []).1⟩]) _ ⟨⟨by simp only;omega,by simp only;omega,by simp;omega⟩,.inr ⟨by simp only;omega,?_⟩⟩ (by simp only;omega) ?_
           . rw[<-he];simp[FA,hz,hp]
           . (refine Wk.forget ?_;simp[ZF,Jk,CM];done)
         . have hp':¬(0:Int)<((FU t none []).1.length:Int):=by omega
           simp only[go_sem,hz,hw,hwn,B3,hp'];refine ih (i+1,num+1,i+1,acc) _ ⟨⟨by simp only;omega,by simp only;omega,by simp only;omega⟩,.inr ⟨by simp only;omega,?_⟩⟩ (by simp only;omega) ?_
           . rw[<-he];simp[FA,hz,hp]
           . (refine Wk.forget ?_;simp[ZF];done)
       . simp only[go_sem,hz];refine BX ?_;simp only[go_sem];rw[<-he];simp[FA,hz,Kg,EO]
   . have Afc:¬(i:Int)<=(s.length:Int):=by omega
     simp only[go_sem,Afc];refine BX ?_;simp only[go_sem];rw[<-he];simp[FA,Kg,CM,Rx]
 . have hl:6000<s.length:=by have:=Ad hlen;omega
   have hf:CE s=([],0,1):=by unfold CE;rw[if_pos hl]
   rw[hf];simp only[go_sem,hlen];refine BX ?_;simp only[go_sem];try simp[Kg,EO]
theorem XJ:∀(t:List UInt8) (c:Option (List UInt8)) (acc:List (List UInt8)),(FU t c acc).1.length<=acc.length+c.toList.length+t.length
 | [],none,acc=>by simp[FU]
 | [],some cur,acc=>by simp[FU]
 | b::r,c,acc=>by
   simp only[FU];split
   . simp
   . split
     . have:=XJ r none (acc++c.toList);simp at this ⊢;omega
     . split
       . split
         . simp
         . have:=XJ r (some (c.getD []++[b])) acc;simp at this ⊢;omega
       . simp
theorem Mu(B:Nat):∀(S:List (List UInt8)) (k:Nat) (acc:List Ln),(∀t∈S,t.length<=B)->(∀x∈acc,x.fs.length<=B)->
   (FA S k acc).1.length<=acc.length+S.length/\∀x∈(FA S k acc).1,x.fs.length<=B
 | [],k,acc,_,h=>by simpa [FA] using h
 | t::r,k,acc,hS,h=>by
   simp only[FA];split
   . have hl:(FU t none []).1.length<=B:=by
       have h1:=XJ t none [];have h2:=hS t (by simp);simp at h1;omega
     have h3:=Mu B r (k+1) (if 0<(FU t none []).1.length then acc++[⟨(k:Nat),(FU t none []).1⟩] else acc) (λ y hy=>hS y (by simp[hy])) (λ x hx=>by
       split at hx
       . simp only[Av,Aw] at hx;rcases hx with hx | rfl
         . exact h x hx
         . exact hl
       . exact h x hx)
     have h4:(if 0<(FU t none []).1.length then acc++[⟨(k:Nat),(FU t none []).1⟩] else acc).length<=acc.length+1:=by split<;>simp
     have h5:=h3.1;exact ⟨by simp only[Al];omega,h3.2⟩
   . simp
theorem XM(s:List UInt8):(CE s).1.length<=10000000/\∀x∈(CE s).1,x.fs.length<=10000000:=by
 unfold CE;split
 . simp
 . rename_i h;have h1:=HN 10 s;have h2:s.count 10<=s.length:=List.count_le_length;have h3:=Mu 6000 (CU 10 s) 1 [] (λ t ht=>by have:=Lo 10 s t ht;omega) (by simp);refine ⟨by have:=h3.1;simp at this;omega,λ x hx=>by have:=h3.2 x hx;omega⟩
def FC(s:List UInt8):Bool:=decide (s≠[])&&(decide (s.length<=12)&&s.all λ b=>Iu b.toNat)
def E4:Int->List Ln->Bool
 | _,[]=>true
 | last,x::r=>decide (last<x.num)&&(decide (x.fs≠[])&&(x.fs.all FC&&E4 x.num r))
def FP:List (List UInt8)->List UInt8
 | []=>[]
 | x::r=>x++r.flatMap λ y=>32::y
def Hj:Nat->List Ln->List UInt8
 | _,[]=>[]
 | k,x::r=>List.replicate (x.num.toNat - k) 10++(FP x.fs++10::Hj (x.num.toNat+1) r)
def PO(l:List Ln):List UInt8×Int:=if E4 0 l then (if 6000<(Hj 1 l).length then ([],1) else (Hj 1 l,0)) else ([],20)
def Ld:List (List UInt8)->Nat
 | []=>0
 | s::r=>s.length+1+Ld r
def szL:List Ln->Nat
 | []=>0
 | x::r=>Ld x.fs+szL r
def JB:Int->List Ln->Int
 | k,[]=>k
 | _,x::r=>JB x.num r
theorem LK{last:Int}{x:Ln}{r:List Ln}:E4 last (x::r)=true↔last<x.num/\x.fs≠[]/\(∀s∈x.fs,FC s=true)/\E4 x.num r=true:=by
 simp only[E4,As,Au,AB]
theorem Nz{s:List UInt8}:FC s=true↔s≠[]/\s.length<=12/\∀b∈s,Iu b.toNat=true:=by
 simp only[FC,As,Au,AB]
theorem Alu(r:List (List UInt8)):(r.flatMap λ y=>32::y).length=Ld r:=by
 induction r with
 | nil=>rfl
 | cons x r ih=>simp[Ld,ih];omega
theorem Ow:∀fs:List (List UInt8),fs≠[]->(FP fs).length+1=Ld fs
 | [],h=>(h rfl).elim
 | x::r,_=>by simp only[FP,Ld,Aq,Alu];omega
theorem Apn:∀fs:List (List UInt8),fs≠[]->1<=Ld fs
 | [],h=>(h rfl).elim
 | x::r,_=>by simp only[Ld];omega
theorem VG:∀(l:List Ln) (k:Nat),E4 k l=true->((Hj (k+1) l).length:Int)+k+l.length=szL l+JB k l/\(l.length:Int)<=szL l/\(k:Int)<=JB k l
 | [],k,_=>by simp[Hj,szL,JB]
 | x::r,k,h=>by
   obtain ⟨h1,h2,h3,h4⟩:=LK.1 h;obtain ⟨n,hn⟩:∃n:Nat,x.num=(n:Int):=⟨x.num.toNat,by omega⟩;rw[hn] at h4 h1;obtain ⟨h5,h6,h7⟩:=VG r n h4;have h8:=Ow x.fs h2;have h9:=Apn x.fs h2;simp only[Hj,szL,JB,hn,Aq,Al,BB,Ab];omega
theorem Arj(c:Int)(h:r8 c=true):Iu c=true:=by
 rw[E7] at h;simp only[GU,BS,As,Au] at h;simp only[Iu,As,Au,BA,A6];omega
theorem V1{s:List UInt8}(h:CY s=true):FC s=true/\s.length<=12:=by
 cases s with
 | nil=>simp[CY] at h
 | cons b r=>
   simp only[CY,As,Au,AB] at h;exact ⟨Nz.2 ⟨by simp,h.1.1,λ c hc=>Arj _ (h.2 c hc)⟩,h.1.1⟩
theorem Z1:∀(n:Nat),∀b∈IH n,Iu b.toNat=true:=by
 intro n
 induction n using Nat.strongRecOn with
 | _ n ih=>
   intro b hb;have key:∀d:Nat,d<10->Iu ((UInt8.ofNat (48+d)).toNat:Nat)=true:=by
     intro d hd;have:((UInt8.ofNat (48+d)).toNat:Int)=48+d:=by simp;omega
     rw[this];simp only[Iu,As,Au,BA,A6];omega
   by_cases h:n<10
   . rw[GX n h] at hb;simp only[Aw] at hb;subst hb;exact key n h
   . rw[Nb n h] at hb;rcases Av.1 hb with h1 | h1
     . exact ih (n / 10) (by omega) b h1
     . simp only[Aw] at h1;subst h1;exact key (n % 10) (by omega)
theorem Arc(n:Nat):IH n≠[]:=by
 by_cases h:n<10
 . rw[GX n h];simp
 . rw[Nb n h];simp
theorem Z0{n:Int}(h0:-9999<=n)(h1:n<=9999):FC (Vv n)=true/\(Vv n).length<=5:=by
 unfold Vv;split
 . have hl:=JK 3 (-n).toNat (by omega);refine ⟨Nz.2 ⟨by simp,by simp;omega,λ b hb=>?_⟩,by simp;omega⟩;rcases AG.1 hb with rfl | hb
   . decide
   . exact Z1 _ b hb
 . have hl:=JK 3 n.toNat (by omega);exact ⟨Nz.2 ⟨Arc _,by omega,Z1 _⟩,by omega⟩
theorem Afn(j:Nat)(h1:1<=j)(h2:j<7):FC (E3 j).word=true/\(E3 j).word.length<=7:=by
 have hj:j=1∨j=2∨j=3∨j=4∨j=5∨j=6:=by omega
 rcases hj with rfl | rfl | rfl | rfl | rfl | rfl<;>decide
def wD(x:Dc):Nat:=8+13*x.names.length+6*x.B7.length
def Pj(x:Dc):Ln:=⟨x.line,F9 x⟩
theorem YD(a b:List (List UInt8)):Ld (a++b)=Ld a+Ld b:=by
 induction a with
 | nil=>simp[Ld]
 | cons x r ih=>simp only[A5,Ld,ih];omega
theorem W0(k:Nat):∀l:List (List UInt8),(∀s∈l,s.length<=k)->Ld l<=(k+1)*l.length
 | [],_=>by simp[Ld]
 | x::r,h=>by
   have h1:=h x (by simp);have h2:=W0 k r (λ s hs=>h s (by simp[hs]));simp only[Ld,Al,Nat.mul_add,Nat.mul_one];omega
theorem WI(x:Dc)(h:Da x=true):(Pj x).fs≠[]/\(∀s∈(Pj x).fs,FC s=true)/\Ld (Pj x).fs<=wD x:=by
 obtain ⟨⟨Xw,hw2⟩,_,_,hn,hk⟩:=(HL x).1 h;have hf:=Afn x.word.toNat (by omega) (by omega);refine ⟨by simp[Pj,F9],λ s hs=>?_,?_⟩
 . simp only[Pj,F9,A5,AG,Av,AT] at hs;rcases hs with rfl | hs | ⟨k,IP,rfl⟩
   . exact hf.1
   . exact (V1 (hn s hs)).1
   . exact (Z0 (hk k IP).1 (hk k IP).2).1
 . have h1:=W0 12 x.names (λ s hs=>(V1 (hn s hs)).2);have h2:=W0 5 (x.B7.map Vv) (λ s hs=>by
     obtain ⟨k,IP,rfl⟩:=AT.1 hs;exact (Z0 (hk k IP).1 (hk k IP).2).2)
   simp only[Bb] at h2;simp only[Pj,F9,A5,Ld,YD,wD];have:=hf.2;omega
def NY(l:List Dc):Nat:=(l.map wD).sum
theorem Aiy(a b:List Dc):NY (a++b)=NY a+NY b:=by simp[NY]
theorem Pq(k:Nat):∀l:List Dc,(∀x∈l,wD x<=k)->NY l<=k*l.length
 | [],_=>by simp[NY]
 | x::r,h=>by
   have h1:=h x (by simp);have h2:=Pq k r (λ y hy=>h y (by simp[hy]));simp only[NY,AH,List.sum_cons,Al,Nat.mul_add,Nat.mul_one] at h2 ⊢;omega
theorem VX:∀(i:Nat) (L:List Dc),(∀x∈L,Da x=true)->E4 i ((Ha i L).map Pj)=true/\JB i ((Ha i L).map Pj)=(i:Int)+L.length/\szL ((Ha i L).map Pj)<=NY L
 | i,[],_=>by simp[Ha,E4,JB,szL,NY]
 | i,x::r,h=>by
   have hx:=h x (by simp);obtain ⟨h1,h2,h3⟩:=VX (i+1) r (λ y hy=>h y (by simp[hy]));have hd:=WI ⟨x.word,(i:Int)+1,x.names,x.B7⟩ hx;simp only[Ha,AH];have SB:(Pj ⟨x.word,(i:Int)+1,x.names,x.B7⟩).num=((i+1:Nat):Int):=by simp[Pj]
   refine ⟨LK.2 ⟨by rw[SB];omega,hd.1,hd.2.1,by rw[SB];exact h1⟩,?_,?_⟩
   . simp only[JB,SB,h2,Al];omega
   . have h4:wD ⟨x.word,(i:Int)+1,x.names,x.B7⟩=wD x:=rfl;simp only[szL,NY,AH,List.sum_cons];have:=hd.2.2;unfold NY at h3;omega
theorem Tu:∀(i:Nat) (L:List Dc),(∀x∈L,Da x=true)->∀x∈Ha i L,Da x=true
 | _,[],_=>by simp[Ha]
 | i,x::r,h=>by
   intro y hy;simp only[Ha,AG] at hy;rcases hy with rfl | hy
   . exact h x (by simp)
   . exact Tu (i+1) r (λ z hz=>h z (by simp[hz])) y hy
theorem MI{α:Type}{l:List α}{x:α}(d:α)(h:x∈l):∃i,i<l.length/\l.getD i d=x:=by
 obtain ⟨i,hi,rfl⟩:=AA.1 h;exact ⟨i,hi,by simp[List.getD,hi]⟩
theorem Aei(n:Nt)(h:IA n):(∀b∈n.blocks,CY b.name=true)/\∀s∈n.spurs,CY s.name=true:=by
 have key:∀x∈Dk n,CY x=true:=λ x hx=>by
   obtain ⟨i,hi,rfl⟩:=MI [] hx;exact (h i hi).1
 exact ⟨λ b hb=>key _ (by simp only[Dk,Av,AT];exact .inl ⟨b,hb,rfl⟩),λ s hs=>key _ (by simp only[Dk,Av,AT];exact .inr ⟨s,hs,rfl⟩)⟩
theorem Z4(n:Nt)(hn:validN n):(∀x∈Gj n,Da x=true)/\NY (Gj n)<=6000/\(Gj n).length<=400:=by
 obtain ⟨⟨R7,Ab2,N6,KS⟩,hs6,hnm,hr8,hcf,Iq,Yi,hdp⟩:=hn;obtain ⟨hnb,p9⟩:=Aei n hnm;have hbn:∀x:Int,0<=x->x<n.blocks.length->CY (bnm n x)=true:=λ x h0 h1=>by
   unfold bnm;exact hnb _ (CB n.blocks x.toNat FG (by omega))
 have h1:∀x∈K8 n,Da x=true/\wD x<=33:=by
   intro x hx;obtain ⟨b,hb,rfl⟩:=AT.1 hx;obtain ⟨i,hi,rfl⟩:=MI FG hb;have hxy:=(KS i hi).1;unfold X8 at hxy;refine ⟨(HL _).2 ⟨by simp[SK],by simp[SK,Cx],.inl (by simp[SK,Cx]),by simpa [SK] using hnb _ hb,?_⟩,by simp[wD,SK]⟩;simp only[SK,AG,List.not_mem_nil,or_false];rintro k (rfl | rfl)<;>omega
 have h2:∀x∈IT n n.blocks.length,Da x=true/\wD x<=34:=by
   intro x hx;obtain ⟨i,hi,hx⟩:=BU.1 hx;obtain ⟨y,hy,rfl⟩:=AT.1 hx;have T2:=List.mem_range.1 hi;obtain ⟨k,hk,rfl⟩:=MI 0 hy;have Dj:=(KS i T2).2.2 k hk;refine ⟨(HL _).2 ⟨by simp[Ra],by simp[Ra,Cx],.inl (by simp[Ra,Cx]),?_,by simp[Ra]⟩,by simp[wD,Ra]⟩;simp only[Ra,AG,List.not_mem_nil,or_false];rintro s (rfl | rfl)
   . exact hnb _ (CB n.blocks i FG T2)
   . exact hbn _ Dj.1 Dj.2.1
 have h3:∀x∈Ot n,Da x=true/\wD x<=53:=by
   intro x hx;obtain ⟨s,hs,rfl⟩:=AT.1 hx;have Aun:=p9 s hs;obtain ⟨i,hi,rfl⟩:=MI Co hs;obtain ⟨g1,g2,g3,g4,g5,g6,_⟩:=Iq i hi;generalize n.spurs.getD i Co=s at*;have hw:(if s.Cz then (4:Int) else 3)=3∨(if s.Cz then (4:Int) else 3)=4:=by cases s.Cz<;>simp
   refine ⟨(HL _).2 ⟨by simp only[Pr];omega,?_,.inl ?_,?_,?_⟩,by simp[wD,Pr]⟩
   . rcases hw with hw | hw<;>simp[Pr,Cx,hw]
   . rcases hw with hw | hw<;>simp[Pr,Cx,hw]
   . simp only[Pr,AG,List.not_mem_nil,or_false];rintro t (rfl | rfl | rfl)
     . exact Aun
     . exact hbn _ (by omega) (by omega)
     . exact hbn _ (by omega) (by omega)
   . simp only[Pr,AG,List.not_mem_nil,or_false];rintro k rfl;omega
 have h4:∀x∈K7 n n.B5.length,Da x=true/\wD x<=27:=by
   intro x hx;obtain ⟨r,_,hx⟩:=BU.1 hx;obtain ⟨s,hs,rfl⟩:=AT.1 hx;obtain ⟨Lg,OR⟩:=List.mem_filter.1 hs;have p6:=BL Lg;have Aun:=p9 s p6;obtain ⟨i,hi,rfl⟩:=MI Co p6;obtain ⟨g1,g2,g3,g4,g5,g6,_⟩:=Iq i hi;generalize n.spurs.getD i Co=s at*;simp only[V9,As,Au] at OR;refine ⟨(HL _).2 ⟨by simp[Sw],by simp[Sw,Cx],.inl (by simp[Sw,Cx]),by simpa [Sw] using Aun,?_⟩,by simp[wD,Sw]⟩;simp only[Sw,AG,List.not_mem_nil,or_false];rintro k rfl;omega
 have h5:Da ⟨6,0,[],[n.cq,n.ca,n.cd,n.cp]⟩=true:=by
   unfold IJ at hcf;refine (HL _).2 ⟨by simp,by simp[Cx],.inl (by simp[Cx]),by simp,?_⟩;simp only[AG,List.not_mem_nil,or_false];rintro k (rfl | rfl | rfl | rfl)<;>omega
 have T0:(IT n n.blocks.length).length<=n.blocks.length*4:=by
   have:=Is (Zc n) 4 (List.range n.blocks.length) (λ i hi=>by
     have:=(KS i (List.mem_range.1 hi)).2.1;simp only[Zc,Bb];omega)
   simpa [IT] using this
 have hl4:(K7 n n.B5.length).length<=n.B5.length*6:=by
   have:=Is (λ r=>Sv n r n.spurs.length) 6 (n.B5.take n.B5.length) (λ r _=>by
     simp only[Sv,Bb];exact Br (List.length_filter_le _ _) (by simp;omega))
   simpa [K7] using this
 refine ⟨λ x hx=>?_,?_,?_⟩
 . simp only[Gj,Av,Aw] at hx;rcases hx with (((hx | hx) | hx) | hx) | rfl
   . exact (h1 x hx).1
   . exact (h2 x hx).1
   . exact (h3 x hx).1
   . exact (h4 x hx).1
   . exact h5
 . have s1:=Pq 33 (K8 n) (λ x hx=>(h1 x hx).2);have s2:=Pq 34 (IT n n.blocks.length) (λ x hx=>(h2 x hx).2);have s3:=Pq 53 (Ot n) (λ x hx=>(h3 x hx).2);have s4:=Pq 27 (K7 n n.B5.length) (λ x hx=>(h4 x hx).2);have s5:NY [(⟨6,0,[],[n.cq,n.ca,n.cd,n.cp]⟩:Dc)]=32:=by simp[NY,wD]
   have e1:(K8 n).length=n.blocks.length:=by simp[K8]
   have e3:(Ot n).length=n.spurs.length:=by simp[Ot]
   simp only[Gj,Aiy,s5];rw[e1] at s1;rw[e3] at s3;omega
 . simp only[Gj,Aq,K8,Ot,Bb,Al,Ax];omega
theorem Za:∀(l:List Ln) (k:Int),E4 k l=true->(∀x∈l,x.num<=JB k l)/\k<=JB k l
 | [],k,_=>by simp[JB]
 | x::r,k,h=>by
   obtain ⟨h1,_,_,h2⟩:=LK.1 h;obtain ⟨h3,h4⟩:=Za r x.num h2;refine ⟨λ y hy=>?_,by simp only[JB];omega⟩;rcases AG.1 hy with rfl | hy
   . exact h4
   . exact h3 y hy
theorem Aix:∀l:List (List UInt8),l.length<=Ld l
 | []=>by simp[Ld]
 | x::r=>by have:=Aix r;simp only[Ld,Al];omega
theorem Aby:∀(l:List Ln) (x:Ln),x∈l->Ld x.fs<=szL l
 | [],x,h=>by simp at h
 | y::r,x,h=>by
   simp only[szL];rcases AG.1 h with rfl | h
   . omega
   . have:=Aby r x h;omega
theorem UA(n:Nt)(hn:validN n):(∀x∈DT n,Da x=true)/\E4 0 ((DT n).map Pj)=true/\(Hj 1 ((DT n).map Pj)).length<=6000/\(DT n).length<=400/\∀x∈(DT n).map Pj,x.num<=400/\x.fs.length<=6000:=by
 obtain ⟨h1,h2,h3⟩:=Z4 n hn;obtain ⟨h4,h5,h6⟩:=VX 0 (Gj n) h1;have h7:=VG ((DT n).map Pj) 0 h4;have h8:=Za _ _ h4;have h9:∀x∈(DT n).map Pj,x.num<=400/\x.fs.length<=6000:=λ x hx=>by
   have Rq:=Aix x.fs;have h13:=Aby _ x hx;have h14:szL ((DT n).map Pj)<=NY (Gj n):=h6;have Mi:x.num<=JB ((0:Nat):Int) ((Ha 0 (Gj n)).map Pj):=h8.1 x hx;rw[h5] at Mi;refine ⟨?_,by omega⟩;omega
 refine ⟨Tu 0 _ h1,h4,?_,by simpa [DT,GL] using h3,h9⟩;have e1:((DT n).map Pj).length=(Gj n).length:=by simp[DT,GL]
 have e2:JB ((0:Nat):Int) ((DT n).map Pj)=((0:Nat):Int)+(Gj n).length:=h5;have e3:szL ((DT n).map Pj)<=NY (Gj n):=h6;have e4:((Hj 1 ((DT n).map Pj)).length:Int)+((0:Nat):Int)+((DT n).map Pj).length=szL ((DT n).map Pj)+JB ((0:Nat):Int) ((DT n).map Pj):=h7.1;omega
end Go.Am
end
