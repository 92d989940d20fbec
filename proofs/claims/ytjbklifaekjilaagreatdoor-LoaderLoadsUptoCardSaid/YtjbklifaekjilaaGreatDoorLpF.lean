/- Texts of this proof, what it rests on, merged: part F. -/
import Derived.Lib.Bytealg
import Derived.Laws.Externs
import Derived.Test.YtjbklifaekjilaaGreatDoorLpE
noncomputable section
namespace Go.Am
open Go Go.Proofs
open Tryz
set_option maxRecDepth 100000
set_option linter.unusedVariables false
set_option linter.unusedSimpArgs false
set_option maxHeartbeats 2000000
def C2(c:UInt8):List UInt8->List (List UInt8)
 | []=>[[]]
 | b::r=>if b=c then []::C2 c r else match C2 c r with
   | []=>[[b]]
   | x::xs=>(b::x)::xs
theorem Rh(c:UInt8)(l:List UInt8):C2 c l≠[]:=by
 cases l with
 | nil=>simp[C2]
 | cons b r=>
   simp only[C2];split
   . simp
   . split<;>simp
theorem JA(c:UInt8)(l:List UInt8):(C2 c l).length=l.count c+1:=by
 induction l with
 | nil=>simp[C2]
 | cons b r ih=>
   simp only[C2];split
   . rename_i h;subst h;simp[ih]
   . rename_i h;rw[List.count_cons_of_ne h];cases hs:C2 c r with
     | nil=>exact (Rh c r hs).elim
     | cons x xs=>rw[hs] at ih;simpa using ih
theorem JN(c:UInt8):∀(l:List UInt8),(Lib.indexByte l c=-1/\C2 c l=[l])∨∃m:Nat,Lib.indexByte l c=(m:Int)/\m<l.length/\C2 c l=l.take m::C2 c (l.drop (m+1))
 | []=> .inl ⟨rfl,rfl⟩
 | b::r=>by
   simp only[Lib.indexByte];by_cases h:b=c
   . subst h;exact .inr ⟨0,by simp,by simp,by simp[C2]⟩
   . rcases JN c r with ⟨h1,h2⟩ | ⟨m,h1,h2,h3⟩
     . refine .inl ⟨by simp[h,h1],by simp[C2,h,h2]⟩
     . refine .inr ⟨m+1,by simp[h,h1],by simp;omega,by simp[C2,h,h3]⟩
theorem Aro(l:List UInt8)(c:Int):B2 prog 195 [.p (.str l),.p (.int .u8 c)] [] λ h r=>h=[]/\r= .p (.int .i64 (Lib.indexByte l c.toNat.toUInt8)):=by
 refine Vw (run_callFunc_extern func195 (by kernel_rfl) (by kernel_rfl) (by kernel_rfl) (e:=Extern.BytealgIndexByte.indexByte) (by kernel_rfl)) ?_;intro vs w F M hd;obtain ⟨hl,h⟩:=hd;obtain ⟨v1,v2,rfl⟩:∃v1 v2,vs=#[v1,v2]:=by
   match vs,hl with
   | ⟨[v1,v2]⟩,_=>exact ⟨v1,v2,rfl⟩
 have h1:=h 0 _ rfl;have h2:=h 1 _ rfl;simp only[AX,List.getD_cons_succ] at h1 h2;cases h1 with | p h1=>cases h1 with | str=>
 cases h2 with | p h2=>cases h2 with | int=>
 exact ⟨_,_,Lib.run_indexByteString _ _ _,.p (.int _ _),rfl,rfl⟩
theorem Asd(l:List UInt8)(c:Int):B2 prog 168 [.p (.str l),.p (.int .u8 c)] [] λ h r=>h=[]/\r= .p (.int .i64 (Lib.countByte l c.toNat.toUInt8:Nat)):=by
 refine Vw (run_callFunc_extern func168 (by kernel_rfl) (by kernel_rfl) (by kernel_rfl) (e:=Extern.BytealgCount.count) (by kernel_rfl)) ?_;intro vs w F M hd;obtain ⟨hl,h⟩:=hd;obtain ⟨v1,v2,rfl⟩:∃v1 v2,vs=#[v1,v2]:=by
   match vs,hl with
   | ⟨[v1,v2]⟩,_=>exact ⟨v1,v2,rfl⟩
 have h1:=h 0 _ rfl;have h2:=h 1 _ rfl;simp only[AX,List.getD_cons_succ] at h1 h2;cases h1 with | p h1=>cases h1 with | str=>
 cases h2 with | p h2=>cases h2 with | int=>
 exact ⟨_,_,Lib.run_countString _ _ _,.p (.int _ _),rfl,rfl⟩
theorem At7(c:UInt8):((c.toNat:Int)).toNat.toUInt8=c:=by simp
theorem Ap6(l:List UInt8)(c:UInt8):B2 prog 138 [.p (.str l),.p (.str [c])] [] λ h r=>h=[]/\r= .p (.int .i64 (l.count c:Nat)):=by
 refine B1 func138 rfl Ahf (by simp[Tryz.f138]) ?_;have h0:(0:Int)<1:=by decide
 simp only[go_sem,AX];refine Cq (Asd l c.toNat) ?_;simp only[go_sem,At7];rfl
theorem Ag9(l:List UInt8)(c:UInt8):B2 prog 169 [.p (.str l),.p (.str [c])] [] λ h r=>h=[]/\r= .p (.int .i64 (Lib.indexByte l c)):=by
 refine B1 func169 rfl Ah1 (by simp[Tryz.f169]) ?_;cases he:decide ([c]=l)
 . simp only[go_sem,he,AX];refine Em (?_:B2 prog 186 _ _ λ h r=>h=[]/\r= .p (.int .i64 (Lib.indexByte l c))) ?_
   . refine B1 func186 rfl Agw (by simp[Tryz.f186]) ?_;simp only[go_sem];refine Cq (Aro l c.toNat) ?_;simp only[go_sem,At7]
   . rintro h' r ⟨rfl,rfl⟩;simp only[go_sem]
 . simp only[go_sem,he];have:l=[c]:=by simpa using (Ad he).symm
   subst this;simp[Lib.indexByte]
theorem Alz(l:List UInt8)(c:UInt8):B2 prog 139 [.p (.str l),.p (.str [c])] [] λ h r=>h=[]/\r= .p (.int .i64 (Lib.indexByte l c)):=by
 refine B1 func139 rfl Ahe (by simp[Tryz.f139]) ?_;simp only[go_sem];refine Cq (Ag9 l c) ?_;simp only[go_sem]
theorem Ada(a r:List (List UInt8))(y x:List UInt8):(a++y::r).set a.length x=(a++[x])++r:=by
 rw[List.set_append_right _ _ (Ai _),Nat.sub_self,List.set_cons_zero,A9];rfl
theorem Aor(n:Nat):CB (List.replicate n [])=List.replicate n [.str []]:=by simp[CB]
theorem k9(l:List UInt8)(c:UInt8)(hl:l.length<=100000000):B2 prog 104 [.p (.str l),.p (.str [c]),.p (.int .i64 0),.p (.int .i64 (-1))] [] λ h r=>h=[(0,.arr 9 1 (CB (C2 c l)))]/\r= .ref 0 0 (C2 c l).length (C2 c l).length:=by
 refine B1 func104 rfl Ai3 (by simp[Tryz.f104]) ?_;have hn:=JA c l;have hc:l.count c<=l.length:=List.count_le_length;have w1:IntKind.i64.wrap ((l.count c:Nat)+1)=(((C2 c l).length:Nat):Int):=by rw[hn,B3]<;>omega
 have w2:IntKind.i64.wrap ((l.length:Int)+1)=(l.length:Int)+1:=by rw[B3]<;>omega
 have w3:¬(l.length:Int)+1<(((C2 c l).length:Nat):Int):=by omega
 have w4:IntKind.i64.wrap ((((C2 c l).length:Nat):Int) - 1)=((l.count c:Nat):Int):=by rw[hn,B3]<;>omega
 simp only[go_sem];refine Cq (Ap6 l c) ?_;simp only[go_sem,w1,w2,w3,w4,Ab];refine ⟨by omega,?_⟩;generalize hS:C2 c l=S at*;refine B7 (λ q:List (List UInt8)×List UInt8=>⟨[(0,.p (.str q.2)),(1,.p (.str [c])),(2,.p (.int .i64 0)),(3,.p (.int .i64 (l.count c:Nat))),(9,.ref 31 0 S.length S.length),(10,.p (.int .i64 (q.1.length:Nat)))],[(31,.arr 9 1 (CB (q.1++List.replicate (S.length - q.1.length) [])))],66⟩)
   (λ q=>S=q.1++C2 c q.2/\q.2.length<=l.length) (λ q=>S.length - q.1.length) ([],l) ⟨by simp[hS],by simp⟩ (BW (by simp[ZF,Aor])) ?_
 rintro ⟨a,t⟩ n ⟨he,ht⟩ ih;simp only at he ht;have hln:=congrArg List.length he;rw[Aq,JA] at hln;simp only[go_sem];refine Cy (λ h2=>?_) (λ h2=>?_)
 . have Cv:a.length<l.count c:=by simp at h2;omega
   simp only[go_sem];refine Cq (Alz t c) ?_;rcases JN c t with ⟨h3,h4⟩ | ⟨m,h3,h4,h5⟩
   . rw[h4] at he;have:=congrArg List.length he;simp at this;omega
   . have c1:¬(m:Int)<0:=by omega
     have w5:IntKind.i64.wrap ((m:Int)+0)=(m:Int):=by rw[B3]<;>omega
     have w6:IntKind.i64.wrap ((m:Int)+1)=((m+1:Nat):Int):=by rw[B3]<;>omega
     have w7:=Cd a.length (by omega);have WY:(0:Int)<=(m:Int)/\(m:Int)<=(t.length:Int):=by omega
     have S3:(0:Int)<=((m+1:Nat):Int)/\((m+1:Nat):Int)<=(t.length:Int):=by omega
     have ha:(0:Int)<=(a.length:Int)/\(a.length:Int)<(S.length:Int):=by omega
     obtain ⟨k,hk⟩:∃k,S.length - a.length=k+1:=⟨S.length - a.length - 1,by omega⟩;have IF:S.length - (a.length+1)=k:=by omega
     have hlen:S.length=(a++[]::List.replicate k ([]:List UInt8)).length:=by simp;omega
     have hg:=DH (a++[]::List.replicate k ([]:List UInt8)) a.length (by rw[<-hlen];omega);simp only[go_sem,h3,c1,hk,w5,w6,w7,Ab,B5,WY,S3,ha,hg,Bx,List.drop_zero,Ar];refine ⟨hlen,hlen,?_⟩;rw[<-QQ,Ada];refine ih (a++[t.take m],t.drop (m+1)) _ ⟨by rw[he,h5];simp,by simp;omega⟩ (by simp;omega) ?_
     (refine BW ?_;simp[ZF,IF];done)
 . have Cv:a.length=l.count c:=by simp at h2;omega
   have hS1:S.length - a.length=1:=by omega
   rcases JN c t with ⟨h3,h4⟩ | ⟨m,h3,h4,h5⟩
   . have w7:IntKind.i64.wrap ((a.length:Int)+1)=((S.length:Nat):Int):=by rw[B3]<;>omega
     have ha:(0:Int)<=(a.length:Int)/\(a.length:Int)<(S.length:Int):=by omega
     have hlen:S.length=(a++[([]:List UInt8)]).length:=by simp;omega
     have hg:=DH (a++[([]:List UInt8)]) a.length (by rw[<-hlen];omega);have Ayf:S=a++[t]:=by rw[he,h4]
     have hS0:(0:Int)<=(S.length:Int):=by omega
     simp only[go_sem,hS1,w7,Ab,B5,ha,hg,Bx,<-QQ,Ada,Bz,hS0,Int.sub_zero];refine ⟨hlen,hlen,by rw[Ayf],Cp ?_⟩;simp only[go_sem];rw[Ayf]
   . rw[h5] at he;have h6:=JA c (t.drop (m+1));have:=congrArg List.length he;simp at this;omega
theorem Ak5(l:List UInt8)(c:UInt8)(hl:l.length<=100000000):B2 prog 60 [.p (.str l),.p (.str [c])] [] λ h r=>h=[(0,.arr 9 1 (CB (C2 c l)))]/\r= .ref 0 0 (C2 c l).length (C2 c l).length:=by
 refine B1 func60 rfl Anp (by simp[Tryz.f60]) ?_;simp only[go_sem];refine Cq (k9 l c hl) ?_;simp only[go_sem];refine Cp ?_;simp only[go_sem]
def IC(c:Int):Bool:=decide (32<c)&&(decide (c<=126)&&!decide (c=35))
theorem NQ(c:Int):B2 prog 105 [.p (.int .u8 c)] [] λ h r=>h=[]/\r= .p (.bool (IC c)):=by
 refine B1 func105 rfl Ai2 (by simp[Tryz.f105]) ?_;by_cases h1:32<c
 . by_cases h2:c<=126
   . simp only[go_sem,h1,h2];simp[IC,h1,h2]
   . simp only[go_sem,h1,h2];simp[IC,h1,h2]
 . simp only[go_sem,h1];simp[IC,h1]
def F7:List UInt8->Option (List UInt8)->List (List UInt8)->List (List UInt8)×Int
 | [],none,acc=>(acc,0)
 | [],some cur,acc=>(acc++[cur],0)
 | b::r,c,acc=>
   if (b.toNat:Int)=35 then (acc++c.toList,0)
   else if (b.toNat:Int)=32∨(b.toNat:Int)=9 then F7 r none (acc++c.toList)
   else if IC b.toNat then (if (c.getD []).length=12 then ([],3) else F7 r (some (c.getD []++[b])) acc)
   else ([],2)
theorem Agt(t:List UInt8)(cur:List UInt8)(acc:List (List UInt8))(h:∀b r,t=b::r->(b.toNat:Int)=35∨(b.toNat:Int)=32∨(b.toNat:Int)=9):F7 t (some cur) acc=F7 t none (acc++[cur]):=by
 cases t with
 | nil=>simp[F7]
 | cons b r=>
   rcases h b r rfl with h | h | h<;>simp[F7,h]
theorem Asc(s:List UInt8)(hs:s.length<=100000000):B2 prog 61 [.p (.str s)] [] λ h r=>h=[]/\r= .Dv [.p (.sl (CB (F7 s none []).1)),.p (.int .i64 (F7 s none []).2)]:=by
 refine B1 func61 rfl Ano (by simp[Tryz.f61]) ?_;simp only[go_sem];refine SS (λ q:Bool×Nat×Nat×List (List UInt8)=>if q.1 then 1 else 0)
   (λ q=>⟨[(0,.p (.str s)),(2,.cl []),(4,.ref 59 0 q.2.2.2.length q.2.2.2.length),(5,.p (.int .i64 (q.2.1:Nat))),(6,.p (.int .i64 (q.2.2.1:Nat)))],[(59,.arr 9 1 (CB q.2.2.2))],71⟩)
   (λ q=>q.2.2.1<=q.2.1/\q.2.1<=s.length/\(q.1=true->q.2.1<=q.2.2.1+12/\q.2.2.1<q.2.1/\q.2.2.2.length<=q.2.2.1)/\q.2.2.2.length<=q.2.1/\F7 (s.drop q.2.1) (if q.1 then some ((s.take q.2.1).drop q.2.2.1) else none) q.2.2.2=F7 s none [])
   (λ q=>2*(s.length - q.2.1)+(if q.1 then 1 else 0)) (2*s.length+2) ?_ ?_
 . intro n ih;simp only[go_sem];cases Ff:decide ((0:Int)=(s.length:Int));rotate_left
   . have Amh:0=s.length:=by have:=Ad Ff;omega
     simp only[go_sem,Ff];refine BX ?_;simp only[go_sem];rw[AY Amh.symm];simp[F7,CB]
   have Cv:0<s.length:=by have:=Ae Ff;omega
   have QB:s=s.getD 0 0::s.drop 1:=by have:=Df s 0 0 Cv;simpa using this
   have he:F7 (s.getD 0 0::s.drop 1) none []=F7 s none []:=by rw[<-QB]
   have J7:(0:Int)<(s.length:Int):=by omega
   have C6:(0:Int)<=(0:Int):=by omega
   have hw:IntKind.i64.wrap ((0:Int)+1)=(((0+1:Nat)):Int):=by rw[B3]<;>omega
   have MD:IntKind.i64.wrap ((0:Int) - 0)=0:=by rw[Int.sub_self];rfl
   have Z9:(s.take (0+1)).drop 0=[s.getD 0 0]:=by rw[List.drop_take,Df s _ 0 Cv];simp
   generalize hb:s.getD 0 0=b at*;generalize hc:(b.toNat:Int)=c at*;cases Mp:decide (c=35);rotate_left
   . simp only[go_sem,Ab,Ff,J7,C6,hb,hc,Mp,Int.reduceToNat,Nat.reduceAdd];refine BX ?_;simp only[go_sem];have:=Ad Mp;rw[<-he];simp[F7,hc,this,B5,FX,CB]
   have Nq:=Ae Mp;cases S8:decide (c=32)
   . cases h9:decide (c=9)
     . have Kw:=Ae S8;have V7:=Ae h9;simp only[go_sem,Ab,Ff,J7,C6,hb,hc,Mp,S8,h9];refine Cq (NQ c) ?_;cases Hx:IC c
       . simp only[go_sem,Hx];refine BX ?_;simp only[go_sem];rw[<-he];simp[F7,hc,Nq,Kw,V7,Hx,CB]
       . simp only[go_sem,Hx,hw,MD];refine ih (true,0+1,0,[]) _ ⟨by simp only;omega,by simp only;omega,(λ _=>by simp only[Ax];omega),by simp only[Ax];omega,?_⟩ (by simp only[AP];omega) ?_
         . rw[<-he];simp only[AP,Z9];simp[F7,hc,Nq,Kw,V7,Hx]
         . exact (Wk.nil (t:=4) (q:=59) (sz:=1) 9 rfl rfl (by decide)).trans (BW (by simp[ZF,CB]))
     . have V7:=Ad h9;simp only[go_sem,Ab,Ff,J7,C6,hb,hc,Mp,S8,h9,hw];refine ih (false,0+1,0,[]) _ ⟨by simp only;omega,by simp only;omega,(λ h=>by cases h),by simp only[Ax];omega,?_⟩ (by simp;omega) ?_
       . rw[<-he];simp[F7,hc,V7]
       . exact (Wk.nil (t:=4) (q:=59) (sz:=1) 9 rfl rfl (by decide)).trans (BW (by simp[ZF,CB]))
   . have Kw:=Ad S8;simp only[go_sem,Ab,Ff,J7,C6,hb,hc,Mp,S8,hw];refine ih (false,0+1,0,[]) _ ⟨by simp only;omega,by simp only;omega,(λ h=>by cases h),by simp only[Ax];omega,?_⟩ (by simp;omega) ?_
     . rw[<-he];simp[F7,hc,Kw]
     . exact (Wk.nil (t:=4) (q:=59) (sz:=1) 9 rfl rfl (by decide)).trans (BW (by simp[ZF,CB]))
 . rintro ⟨YV,at_,bg,acc⟩ n ⟨hbg,Jr,QE,UH,he⟩ ih;simp only at hbg Jr QE UH he;cases YV
   . simp only[AM,Bb] at he;refine ⟨_,rfl,?_⟩;simp only[go_sem];cases Ff:decide ((at_:Int)=(s.length:Int));rotate_left
     . have Amh:at_=s.length:=by have:=Ad Ff;omega
       simp only[go_sem,Ff];refine BX ?_;simp only[go_sem];rw[<-he,BB (by omega)];simp[F7,B5,FX]
     have Cv:at_<s.length:=by have:=Ae Ff;omega
     rw[Df s at_ 0 Cv] at he;have J7:(at_:Int)<(s.length:Int):=by omega
     have C6:(0:Int)<=(at_:Int):=by omega
     have hw:IntKind.i64.wrap ((at_:Int)+1)=(((at_+1:Nat)):Int):=by rw[B3]<;>omega
     have MD:IntKind.i64.wrap ((at_:Int) - at_)=0:=by rw[Int.sub_self];rfl
     have Z9:(s.take (at_+1)).drop at_=[s.getD at_ 0]:=by rw[List.drop_take,Df s _ 0 Cv];simp
     generalize hb:s.getD at_ 0=b at*;generalize hc:(b.toNat:Int)=c at*;cases Mp:decide (c=35);rotate_left
     . simp only[go_sem,Ab,Ff,J7,C6,hb,hc,Mp];refine BX ?_;simp only[go_sem];have:=Ad Mp;rw[<-he];simp[F7,hc,this,B5,FX]
     have Nq:=Ae Mp;cases S8:decide (c=32)
     . cases h9:decide (c=9)
       . have Kw:=Ae S8;have V7:=Ae h9;simp only[go_sem,Ab,Ff,J7,C6,hb,hc,Mp,S8,h9];refine Cq (NQ c) ?_;cases Hx:IC c
         . simp only[go_sem,Hx];refine BX ?_;simp only[go_sem];rw[<-he];simp[F7,hc,Nq,Kw,V7,Hx,CB]
         . simp only[go_sem,Hx,hw,MD];refine ih (true,at_+1,at_,acc) _ ⟨by simp only;omega,by simp only;omega,(λ _=>by simp only[Ax];omega),by simp only[Ax];omega,?_⟩ (by simp only[AP];omega) ?_
           . rw[<-he];simp only[AP,Z9];simp[F7,hc,Nq,Kw,V7,Hx]
           . (refine BW ?_;simp[ZF];done)
       . have V7:=Ad h9;simp only[go_sem,Ab,Ff,J7,C6,hb,hc,Mp,S8,h9,hw];refine ih (false,at_+1,bg,acc) _ ⟨by simp only;omega,by simp only;omega,(λ h=>by cases h),by simp only[Ax];omega,?_⟩ (by simp;omega) ?_
         . rw[<-he];simp[F7,hc,V7]
         . (refine BW ?_;simp[ZF];done)
     . have Kw:=Ad S8;simp only[go_sem,Ab,Ff,J7,C6,hb,hc,Mp,S8,hw];refine ih (false,at_+1,bg,acc) _ ⟨by simp only;omega,by simp only;omega,(λ h=>by cases h),by simp only[Ax];omega,?_⟩ (by simp;omega) ?_
       . rw[<-he];simp[F7,hc,Kw]
       . (refine BW ?_;simp[ZF];done)
   . simp only[AP] at he ih;simp only[forall_const] at QE;refine ⟨_,rfl,?_⟩;simp only[go_sem];have hbi:(0:Int)<=(bg:Int)/\(bg:Int)<=(at_:Int)/\(at_:Int)<=(s.length:Int):=by omega
     have flush:(∀b r,s.drop at_=b::r->(b.toNat:Int)=35∨(b.toNat:Int)=32∨(b.toNat:Int)=9)->F7 (s.drop at_) none (acc++[(s.take at_).drop bg])=F7 s none []:=by
       intro h;rw[<-Agt _ _ _ h];exact he
     cases Ff:decide ((at_:Int)=(s.length:Int));rotate_left
     . have Amh:at_=s.length:=by have:=Ad Ff;omega
       have hdn:s.drop at_=[]:=BB (by omega);simp only[go_sem,Ff,Ab,B5,hbi];refine ⟨⟨Dy _ _ rfl,by omega⟩,?_⟩;refine ih (false,at_,bg,acc++[(s.take at_).drop bg]) _ ⟨hbg,Jr,(λ h=>by cases h),by have:=QE.2.2;have:=QE.2.1;simp;omega,?_⟩ (by simp) ?_
       . simp only[AM,Bb];exact flush (λ b r h=>by rw[hdn] at h;cases h)
       . (refine BW ?_;simp[ZF,DG,B5];done)
     have Cv:at_<s.length:=by have:=Ae Ff;omega
     have hd:=Df s at_ 0 Cv;have J7:(at_:Int)<(s.length:Int):=by omega
     have C6:(0:Int)<=(at_:Int):=by omega
     have hw:IntKind.i64.wrap ((at_:Int)+1)=((at_+1:Nat):Int):=by rw[B3]<;>omega
     have MD:IntKind.i64.wrap ((at_:Int) - bg)=((at_ - bg:Nat):Int):=by rw[B3]<;>omega
     have Z9:(s.take (at_+1)).drop bg=(s.take at_).drop bg++[s.getD at_ 0]:=by
       rw[List.take_succ_eq_append_getElem Cv,List.drop_append_of_le_length (by simp;omega)];simp[List.getD,Cv]
     have Pt:((s.take at_).drop bg).length=at_ - bg:=by simp;omega
     generalize hb:s.getD at_ 0=b at*;rw[hd] at he;generalize hc:(b.toNat:Int)=c at*;have sep:c=35∨c=32∨c=9->F7 (s.drop at_) none (acc++[(s.take at_).drop bg])=F7 s none []:=by
       intro h;refine flush λ b' r' h'=>?_;rw[hd] at h';cases h';rw[hc];exact h
     cases Mp:decide (c=35)
     . cases S8:decide (c=32)
       . cases h9:decide (c=9)
         . have Nq:=Ae Mp;have Kw:=Ae S8;have V7:=Ae h9;simp only[go_sem,Ab,Ff,J7,C6,hb,hc,Mp,S8,h9];refine Cq (NQ c) ?_;cases Hx:IC c
           . simp only[go_sem,Hx];refine BX ?_;simp only[go_sem];rw[<-he];simp[F7,hc,Nq,Kw,V7,Hx,CB]
           . cases As0:decide (((at_ - bg:Nat):Int)=12)
             . have Aca:¬at_ - bg=12:=by have:=Ae As0;omega
               simp only[go_sem,Hx,hw,MD,As0];refine ih (true,at_+1,bg,acc) _ ⟨by simp only;omega,by simp only;omega,(λ _=>by simp only;omega),by simp only;omega,?_⟩ (by simp only[AP];omega) ?_
               . rw[<-he];simp only[AP,Z9];simp[F7,hc,Nq,Kw,V7,Hx,Pt,Aca]
               . (refine BW ?_;simp[ZF];done)
             . have Aca:at_ - bg=12:=by have:=Ad As0;omega
               simp only[go_sem,Hx,hw,MD,As0];refine BX ?_;simp only[go_sem];rw[<-he];simp[F7,hc,Nq,Kw,V7,Hx,Pt,Aca,CB]
         . simp only[go_sem,Ab,Ff,J7,C6,hb,hc,Mp,S8,h9,B5,hbi];refine ⟨⟨Dy _ _ rfl,by omega⟩,?_⟩;refine ih (false,at_,bg,acc++[(s.take at_).drop bg]) _ ⟨hbg,Jr,(λ h=>by cases h),by have:=QE.2.2;have:=QE.2.1;simp;omega,?_⟩ (by simp) ?_
           . simp only[AM,Bb];exact sep (.inr (.inr (Ad h9)))
           . (refine BW ?_;simp[ZF,DG,B5];done)
       . simp only[go_sem,Ab,Ff,J7,C6,hb,hc,Mp,S8,B5,hbi];refine ⟨⟨Dy _ _ rfl,by omega⟩,?_⟩;refine ih (false,at_,bg,acc++[(s.take at_).drop bg]) _ ⟨hbg,Jr,(λ h=>by cases h),by have:=QE.2.2;have:=QE.2.1;simp;omega,?_⟩ (by simp) ?_
         . simp only[AM,Bb];exact sep (.inr (.inl (Ad S8)))
         . (refine BW ?_;simp[ZF,DG,B5];done)
     . simp only[go_sem,Ab,Ff,J7,C6,hb,hc,Mp,B5,hbi];refine ⟨⟨Dy _ _ rfl,by omega⟩,?_⟩;refine ih (false,at_,bg,acc++[(s.take at_).drop bg]) _ ⟨hbg,Jr,(λ h=>by cases h),by have:=QE.2.2;have:=QE.2.1;simp;omega,?_⟩ (by simp) ?_
       . simp only[AM,Bb];exact sep (.inl (Ad Mp))
       . (refine BW ?_;simp[ZF,DG,B5];done)
def FN:List (List UInt8)->Nat->List Ln->List Ln×Int×Int
 | [],_,acc=>(acc,0,0)
 | t::r,k,acc=>if (F7 t none []).2=0 then FN r (k+1) (if 0<(F7 t none []).1.length then acc++[⟨(k:Nat),(F7 t none []).1⟩] else acc) else ([],(k:Nat),(F7 t none []).2)
def CN(s:List UInt8):List Ln×Int×Int:=if 6000<s.length then ([],0,1) else FN (C2 10 s) 1 []
def LR(r:List Ln×Int×Int):D:= .Dv [.p (.sl (EG r.1)),.p (.int .i64 r.2.1),.p (.int .i64 r.2.2)]
theorem P6(c:UInt8)(l:List UInt8):∀x∈C2 c l,x.length<=l.length:=by
 induction l with
 | nil=>simp[C2]
 | cons b r ih=>
   intro x hx;simp only[C2] at hx;split at hx
   . rcases AG.1 hx with rfl | hx
     . simp
     . have:=ih x hx;simp;omega
   . split at hx
     . simp at hx;subst hx;simp
     . rename_i y ys h;rcases AG.1 hx with rfl | hx
       . have:=ih y (by rw[h];simp);simp;omega
       . have:=ih x (by rw[h];simp[hx]);simp;omega
theorem Afx(s:List UInt8):B2 prog 29 [.p (.str s)] [] λ h r=>h=[]/\r=LR (CN s):=by
 refine B1 func29 rfl Aoa (by simp[Tryz.f29]) ?_;cases hlen:decide ((6000:Int)<(s.length:Int))
 . have hl:s.length<=6000:=by have:=Ae hlen;omega
   have hf:CN s=FN (C2 10 s) 1 []:=by unfold CN;rw[if_neg (by omega)]
   rw[hf];simp only[go_sem,hlen];refine Cq (Ak5 s 10 (by omega)) ?_;have Yi:=P6 10 s;have Ayk:=JA 10 s;have Pt:s.count 10<=s.length:=List.count_le_length;generalize hS:C2 10 s=S at*;simp only[go_sem,B5];refine B7 (λ q:Nat×List Ln=>⟨[(14,.ref 10014 0 S.length S.length),(15,.p (.int .i64 (S.length:Nat))),(16,.p (.int .i64 (q.1:Nat))),(5,.ref 40 0 q.2.length q.2.length)],[(10014,.arr 9 1 (CB S)),(40,.arr 80 2 (EG q.2))],43⟩)
     (λ q=>q.1<=S.length/\q.2.length<=q.1/\FN (S.drop q.1) (q.1+1) q.2=FN S 1 []) (λ q=>S.length - q.1) (0,[]) ⟨AE _,by simp,by simp⟩ ((Wk.nil (t:=5) (q:=40) (sz:=2) 80 rfl rfl (by decide)).trans (BW (by simp[ZF,EG]))) ?_
   rintro ⟨i,acc⟩ n ⟨hi,hn,he⟩ ih;simp only at hi hn he;simp only[go_sem];refine Cy (λ h2=>?_) (λ h2=>?_)
   . have Cv:i<S.length:=by simp at h2;omega
     have hw:=Cd i (by omega);have hb:=Yi _ (CF S i [] Cv);have J7:(i:Int)<(S.length:Int):=by omega
     have C6:(0:Int)<=(i:Int):=by omega
     have hg:=DH S i Cv;rw[Df S i [] Cv] at he;generalize S.getD i []=t at*;simp only[go_sem,Ab,B5,hg,J7,C6];refine Cq (Asc t (by omega)) ?_;by_cases hz:(F7 t none []).2=0
     . by_cases hp:0<(F7 t none []).1.length
       . have hp':(0:Int)<((F7 t none []).1.length:Int):=by omega
         simp only[go_sem,hz,hw,B5,CQ,hp'];refine ⟨⟨Dy _ _ rfl,by omega⟩,?_⟩;refine ih (i+1,acc++[⟨(i+1:Nat),(F7 t none []).1⟩]) _ ⟨Cv,by simp only[Aq,An,Ax];omega,by rw[<-he];simp only[FN,hz,hp,AP]⟩ (by simp only;omega) ?_
         (refine BW ?_;simp[ZF,Jt,CQ];done)
       . have hp':¬(0:Int)<((F7 t none []).1.length:Int):=by omega
         simp only[go_sem,hz,hw,B5,hp'];refine ih (i+1,acc) _ ⟨Cv,by simp only;omega,by rw[<-he];simp only[FN,hz,hp,AP,Bb]⟩ (by simp only;omega) ?_
         (refine BW ?_;simp[ZF];done)
     . simp only[go_sem,hz,hw];refine BX ?_;simp only[go_sem];rw[<-he];simp[FN,hz,LR,EG]
   . simp only[go_sem];have UA:i=S.length:=by simp at h2;omega
     subst UA;refine BX ?_;simp only[go_sem];rw[AZ] at he;rw[<-he];simp[FN,LR,CQ,RW]
 . have hl:6000<s.length:=by have:=Ad hlen;omega
   have hf:CN s=([],0,1):=by unfold CN;rw[if_pos hl]
   rw[hf];simp only[go_sem,hlen];refine BX ?_;simp only[go_sem];try simp[LR,EG]
theorem NP(c:Int):B2 prog 70 [.p (.int .u8 c)] [] λ h r=>h=[]/\r= .p (.bool (IC c)):=by
 refine B1 func70 rfl Anh (by simp[Tryz.f70]) ?_;by_cases h1:33<=c
 . have EN:(32:Int)<c:=by omega
   by_cases h2:c<=126
   . simp only[go_sem,h1,h2];simp[IC,EN,h2]
   . simp only[go_sem,h1,h2];simp[IC,EN,h2]
 . have EN:¬(32:Int)<c:=by omega
   simp only[go_sem,h1];simp[IC,EN]
def Yr(f:Option Nat):Int:=match f with
 | none=>-1
 | some f=>(f:Nat)
def RX(s:List UInt8)(i:Nat)(f:Option Nat):Option (List UInt8):=f.map λ f=>(s.take i).drop f
theorem UQ(s:List UInt8)(hs:s.length<=100000000):B2 prog 35 [.p (.str s)] [] λ h r=>h=[]/\r= .Dv [.p (.sl (CB (F7 s none []).1)),.p (.int .i64 (F7 s none []).2)]:=by
 refine B1 func35 rfl Ao4 (by simp[Tryz.f35]) ?_;simp only[go_sem];refine B7 (λ q:Nat×Option Nat×List (List UInt8)=>⟨[(0,.p (.str s)),(4,.ref 58 0 q.2.2.length q.2.2.length),(5,.p (.int .i64 (Yr q.2.1))),(6,.p (.int .i64 (q.1:Nat)))],[(58,.arr 9 1 (CB q.2.2))],61⟩)
   (λ q=>q.1<=s.length/\q.2.2.length<=q.1/\(∀f,q.2.1=some f->f<q.1/\q.1<=f+12/\q.2.2.length<=f)/\F7 (s.drop q.1) (RX s q.1 q.2.1) q.2.2=F7 s none []) (λ q=>s.length+1 - q.1) (0,none,[])
   ⟨AE _,by simp,by simp,by simp[RX]⟩ ((Wk.nil (t:=4) (q:=58) (sz:=1) 9 rfl rfl (by decide)).trans (BW (by simp[ZF,CB,Yr]))) ?_
 rintro ⟨i,fo,acc⟩ n ⟨hi,UH,hf,he⟩ ih;simp only at hi UH hf he;have J7:(i:Int)<=(s.length:Int):=by omega
 have C6:(0:Int)<=(i:Int):=by omega
 have hw:IntKind.i64.wrap ((i:Int)+1)=((i+1:Nat):Int):=by rw[B3]<;>omega
 have MD:IntKind.i64.wrap ((i:Int) - i)=0:=by rw[Int.sub_self];rfl
 simp only[go_sem,J7];cases Ff:decide ((i:Int)=(s.length:Int))
 . have Cv:i<s.length:=by have:=Ae Ff;omega
   have V3:(i:Int)<(s.length:Int):=by omega
   rw[Df s i 0 Cv] at he;have Z9:∀f,f<=i->(s.take (i+1)).drop f=(s.take i).drop f++[s.getD i 0]:=by
     intro f hf;rw[List.take_succ_eq_append_getElem Cv,List.drop_append_of_le_length (by simp;omega)];simp[List.getD,Cv]
   have Bbe:(s.take (i+1)).drop i=[s.getD i 0]:=by rw[List.drop_take,Df s i 0 Cv];simp
   generalize hb:s.getD i 0=b at*;generalize hc:(b.toNat:Int)=c at*;cases Mp:decide (c=35)
   . have Nq:=Ae Mp;cases S8:decide (c=32)
     . have Kw:=Ae S8;cases h9:decide (c=9)
       . have V7:=Ae h9;simp only[go_sem,Ab,J7,V3,C6,hb,hc,Ff,Mp,S8,h9];refine Cq (NP c) ?_;cases Hx:IC c
         . simp only[go_sem,Hx];refine BX ?_;simp only[go_sem];rw[<-he];simp[F7,hc,Nq,Kw,V7,Hx,CB]
         . cases fo with
           | none=>
             simp only[go_sem,Hx,Yr,hw,MD];refine ih (i+1,some i,acc) _ ⟨Cv,by simp only;omega,by intro f h;cases h;simp only;omega,?_⟩ (by simp only;omega) ?_
             . rw[<-he];simp only[RX,Bk,Option.map_none,Bbe];simp[F7,hc,Nq,Kw,V7,Hx]
             . (refine BW ?_;simp[ZF,Yr];done)
           | some f=>
             obtain ⟨hf1,hf2,hf3⟩:=hf f rfl;have Atp:¬(f:Int)<0:=by omega
             have hwf:IntKind.i64.wrap ((i:Int) - f)=((i - f:Nat):Int):=by rw[B3]<;>omega
             have Pt:((s.take i).drop f).length=i - f:=by simp;omega
             cases QE:decide ((12:Int)<=((i - f:Nat):Int))
             . have Aca:¬i - f=12:=by have:=Ae QE;omega
               simp only[go_sem,Hx,Yr,Atp,hw,hwf,QE];refine ih (i+1,some f,acc) _ ⟨Cv,by simp only;omega,by intro f' h;cases h;have:=Ae QE;simp only;omega,?_⟩ (by simp only;omega) ?_
               . rw[<-he];simp only[RX,Bk,Z9 f (by omega)];simp[F7,hc,Nq,Kw,V7,Hx,Pt,Aca]
               . (refine BW ?_;simp[ZF,Yr];done)
             . have Aca:i - f=12:=by have:=Ad QE;omega
               simp only[go_sem,Hx,Yr,Atp,hwf,QE];refine BX ?_;simp only[go_sem];rw[<-he];simp[F7,RX,hc,Nq,Kw,V7,Hx,Pt,Aca,CB]
       . have V7:=Ad h9;cases fo with
         | none=>
           simp only[go_sem,Ab,J7,V3,C6,hb,hc,Ff,Mp,S8,h9,Yr,hw];refine ih (i+1,none,acc) _ ⟨Cv,by simp only;omega,(by intro f h;cases h),?_⟩ (by simp only;omega) ?_
           . rw[<-he];simp[F7,RX,hc,V7]
           . (refine BW ?_;simp[ZF,Yr];done)
         | some f=>
           obtain ⟨hf1,hf2,hf3⟩:=hf f rfl;have hf0:(0:Int)<=(f:Int)/\(f:Int)<=(i:Int)/\(i:Int)<=(s.length:Int):=by omega
           simp only[go_sem,Ab,J7,V3,C6,hb,hc,Ff,Mp,S8,h9,Yr,hf0,B5,hw];refine ⟨⟨Dy _ _ rfl,by omega⟩,?_⟩;refine ih (i+1,none,acc++[(s.take i).drop f]) _ ⟨Cv,by simp;omega,(by intro f h;cases h),?_⟩ (by simp only;omega) ?_
           . rw[<-he];simp[F7,RX,hc,V7]
           . (refine BW ?_;simp[ZF,Yr,DG,B5];done)
     . have Kw:=Ad S8;cases fo with
       | none=>
         simp only[go_sem,Ab,J7,V3,C6,hb,hc,Ff,Mp,S8,Yr,hw];refine ih (i+1,none,acc) _ ⟨Cv,by simp only;omega,(by intro f h;cases h),?_⟩ (by simp only;omega) ?_
         . rw[<-he];simp[F7,RX,hc,Kw]
         . (refine BW ?_;simp[ZF,Yr];done)
       | some f=>
         obtain ⟨hf1,hf2,hf3⟩:=hf f rfl;have hf0:(0:Int)<=(f:Int)/\(f:Int)<=(i:Int)/\(i:Int)<=(s.length:Int):=by omega
         simp only[go_sem,Ab,J7,V3,C6,hb,hc,Ff,Mp,S8,Yr,hf0,B5,hw];refine ⟨⟨Dy _ _ rfl,by omega⟩,?_⟩;refine ih (i+1,none,acc++[(s.take i).drop f]) _ ⟨Cv,by simp;omega,(by intro f h;cases h),?_⟩ (by simp only;omega) ?_
         . rw[<-he];simp[F7,RX,hc,Kw]
         . (refine BW ?_;simp[ZF,Yr,DG,B5];done)
   . have Nq:=Ad Mp;cases fo with
     | none=>
       simp only[go_sem,Ab,J7,V3,C6,hb,hc,Ff,Mp,Yr];refine BX ?_;simp only[go_sem];rw[<-he];simp[F7,RX,hc,Nq,B5,FX]
     | some f=>
       obtain ⟨hf1,hf2,hf3⟩:=hf f rfl;have hf0:(0:Int)<=(f:Int)/\(f:Int)<=(i:Int)/\(i:Int)<=(s.length:Int):=by omega
       simp only[go_sem,Ab,J7,V3,C6,hb,hc,Ff,Mp,Yr,hf0,B5];refine ⟨⟨Dy _ _ rfl,by omega⟩,BX ?_⟩;simp only[go_sem,<-DG,B5];rw[<-he];simp[F7,RX,hc,Nq,FX,DG];exact AA (by simp[CB])
 . have UA:i=s.length:=by have:=Ad Ff;omega
   rw[BB (by omega)] at he;cases fo with
   | none=>
     simp only[go_sem,Ab,J7,C6,Ff,Yr];refine BX ?_;simp only[go_sem];rw[<-he];simp[F7,RX,B5,FX]
   | some f=>
     obtain ⟨hf1,hf2,hf3⟩:=hf f rfl;have hf0:(0:Int)<=(f:Int)/\(f:Int)<=(i:Int)/\(i:Int)<=(s.length:Int):=by omega
     simp only[go_sem,Ab,J7,C6,Ff,Yr,hf0,B5];refine ⟨⟨Dy _ _ rfl,by omega⟩,BX ?_⟩;simp only[go_sem,<-DG,B5];rw[<-he];simp[F7,RX,FX,DG];exact AA (by simp[CB])
theorem Zm(c b:UInt8)(r:List UInt8)(h:b≠c):∃x xs,C2 c r=x::xs/\C2 c (b::r)=(b::x)::xs:=by
 cases hs:C2 c r with
 | nil=>exact (Rh c r hs).elim
 | cons x xs=>exact ⟨x,xs,rfl,by simp[C2,h,hs]⟩
def OG(pre:List UInt8):List (List UInt8)->List (List UInt8)
 | []=>[pre]
 | x::xs=>(pre++x)::xs
theorem Q9(c:UInt8)(r:List UInt8):OG [] (C2 c r)=C2 c r:=by
 cases hs:C2 c r with
 | nil=>exact (Rh c r hs).elim
 | cons x xs=>simp[OG]
theorem Aed(c:UInt8)(pre r:List UInt8):OG pre (C2 c (c::r))=pre::C2 c r:=by simp[C2,OG]
theorem Aak(c b:UInt8)(pre r:List UInt8)(h:b≠c):OG pre (C2 c (b::r))=OG (pre++[b]) (C2 c r):=by
 obtain ⟨x,xs,h1,h2⟩:=Zm c b r h;rw[h1,h2];simp[OG]
theorem Aee(c:UInt8)(pre:List UInt8):OG pre (C2 c [])=[pre]:=by simp[C2,OG]
theorem Afw(s:List UInt8):B2 prog 14 [.p (.str s)] [] λ h r=>h=[]/\r=LR (CN s):=by
 refine B1 func14 rfl Aol (by simp[Tryz.f14]) ?_;cases hlen:decide ((6000:Int)<(s.length:Int))
 . have hl:s.length<=6000:=by have:=Ae hlen;omega
   have QA:CN s=FN (C2 10 s) 1 []:=by unfold CN;rw[if_neg (by omega)]
   rw[QA];clear QA;simp only[go_sem,hlen];refine B7 (λ q:Nat×Nat×Nat×List Ln=>⟨[(0,.p (.str s)),(5,.ref 50 0 q.2.2.2.length q.2.2.2.length),(6,.p (.int .i64 (q.2.1:Nat))),(7,.p (.int .i64 (q.2.2.1:Nat))),(8,.p (.int .i64 (q.1:Nat)))],[(50,.arr 80 2 (EG q.2.2.2))],56⟩)
     (λ q=>(q.1<=s.length+1/\q.2.1<=q.1+1/\q.2.2.2.length<=q.1)/\((q.1<=s.length/\q.2.2.1<=q.1/\FN (OG ((s.take q.1).drop q.2.2.1) (C2 10 (s.drop q.1))) q.2.1 q.2.2.2=FN (C2 10 s) 1 [])∨(q.1=s.length+1/\FN [] q.2.1 q.2.2.2=FN (C2 10 s) 1 []))) (λ q=>s.length+1 - q.1) (0,1,0,[])
     ⟨⟨by simp,by simp,by simp⟩,.inl ⟨by simp,by simp,by simp[Q9]⟩⟩ ((Wk.nil (t:=5) (q:=50) (sz:=2) 80 rfl rfl (by decide)).trans (BW (by simp[ZF,EG]))) ?_
   rintro ⟨i,num,fr,acc⟩ n ⟨⟨hi,S2,UH⟩,he⟩ ih;simp only at hi S2 UH he;have C6:(0:Int)<=(i:Int):=by omega
   have hw:IntKind.i64.wrap ((i:Int)+1)=((i+1:Nat):Int):=by rw[B3]<;>omega
   have hwn:IntKind.i64.wrap ((num:Int)+1)=((num+1:Nat):Int):=by rw[B3]<;>omega
   rcases he with ⟨J7,hfr,he⟩ | ⟨J7,he⟩
   . have Agh:(i:Int)<=(s.length:Int):=by omega
     have Aye:(0:Int)<=(fr:Int)/\(fr:Int)<=(i:Int)/\(i:Int)<=(s.length:Int):=by omega
     have FJ:((s.take i).drop fr).length<=100000000:=by simp;omega
     simp only[go_sem,Agh];cases Ff:decide ((i:Int)<(s.length:Int));rotate_left
     . have Cv:i<s.length:=by have:=Ad Ff;omega
       have V3:(i:Int)<(s.length:Int):=by omega
       have Z9:(s.take (i+1)).drop fr=(s.take i).drop fr++[s.getD i 0]:=by
         rw[List.take_succ_eq_append_getElem Cv,List.drop_append_of_le_length (by simp;omega)];simp[List.getD,Cv]
       rw[Df s i 0 Cv] at he;generalize hb:s.getD i 0=b at*;cases LX:decide ((b.toNat:Int)=10)
       . have Avk:b≠10:=by rintro rfl;simp at LX
         simp only[go_sem,Ab,Agh,V3,C6,hb,Ff,LX,hw];rw[Aak _ _ _ _ Avk,<-Z9] at he;refine ih (i+1,num,fr,acc) _ ⟨⟨by simp only;omega,by simp only;omega,by simp only;omega⟩,.inl ⟨Cv,by simp only;omega,he⟩⟩ (by simp only;omega) ?_
         (refine BW ?_;simp[ZF];done)
       . have Avk:b=10:=by
           have:=Ad LX;exact UInt8.toNat_inj.1 (by simp;omega)
         subst Avk;rw[Aed] at he;simp only[go_sem,Ab,Agh,V3,C6,hb,Ff,LX,Aye];refine Cq (UQ _ FJ) ?_;generalize (s.take i).drop fr=t at*;by_cases hz:(F7 t none []).2=0
         . by_cases hp:0<(F7 t none []).1.length
           . have hp':(0:Int)<((F7 t none []).1.length:Int):=by omega
             simp only[go_sem,hz,hw,hwn,B5,CQ,hp'];refine ⟨⟨Dy _ _ rfl,by omega⟩,?_⟩;refine ih (i+1,num+1,i+1,acc++[⟨(num:Nat),(F7 t none []).1⟩]) _ ⟨⟨by simp only;omega,by simp only;omega,by simp;omega⟩,.inl ⟨Cv,by simp,?_⟩⟩ (by simp only;omega) ?_
             . rw[<-he];simp[FN,hz,hp,Q9]
             . (refine BW ?_;simp[ZF,Jt,CQ];done)
           . have hp':¬(0:Int)<((F7 t none []).1.length:Int):=by omega
             simp only[go_sem,hz,hw,hwn,B5,hp'];refine ih (i+1,num+1,i+1,acc) _ ⟨⟨by simp only;omega,by simp only;omega,by simp only;omega⟩,.inl ⟨Cv,by simp,?_⟩⟩ (by simp only;omega) ?_
             . rw[<-he];simp[FN,hz,hp,Q9]
             . (refine BW ?_;simp[ZF];done)
         . simp only[go_sem,hz];refine BX ?_;simp only[go_sem];rw[<-he];simp[FN,hz,LR,EG]
     . have UA:i=s.length:=by have:=Ae Ff;omega
       rw[show s.drop i=[] from BB (by omega),Aee] at he;simp only[go_sem,Ab,Agh,C6,Ff,Aye];refine Cq (UQ _ FJ) ?_;generalize (s.take i).drop fr=t at*;by_cases hz:(F7 t none []).2=0
       . by_cases hp:0<(F7 t none []).1.length
         . have hp':(0:Int)<((F7 t none []).1.length:Int):=by omega
           simp only[go_sem,hz,hw,hwn,B5,CQ,hp'];refine ⟨⟨Dy _ _ rfl,by omega⟩,?_⟩;refine ih (i+1,num+1,i+1,acc++[⟨(num:Nat),(F7 t none []).1⟩]) _ ⟨⟨by simp only;omega,by simp only;omega,by simp;omega⟩,.inr ⟨by simp only;omega,?_⟩⟩ (by simp only;omega) ?_
           . rw[<-he];simp[FN,hz,hp]
           . (refine BW ?_;simp[ZF,Jt,CQ];done)
         . have hp':¬(0:Int)<((F7 t none []).1.length:Int):=by omega
           simp only[go_sem,hz,hw,hwn,B5,hp'];refine ih (i+1,num+1,i+1,acc) _ ⟨⟨by simp only;omega,by simp only;omega,by simp only;omega⟩,.inr ⟨by simp only;omega,?_⟩⟩ (by simp only;omega) ?_
           . rw[<-he];simp[FN,hz,hp]
           . (refine BW ?_;simp[ZF];done)
       . simp only[go_sem,hz];refine BX ?_;simp only[go_sem];rw[<-he];simp[FN,hz,LR,EG]
   . have Agh:¬(i:Int)<=(s.length:Int):=by omega
     simp only[go_sem,Agh];refine BX ?_;simp only[go_sem];rw[<-he];simp[FN,LR,CQ,RW]
 . have hl:6000<s.length:=by have:=Ad hlen;omega
   have hf:CN s=([],0,1):=by unfold CN;rw[if_pos hl]
   rw[hf];simp only[go_sem,hlen];refine BX ?_;simp only[go_sem];try simp[LR,EG]
theorem Ys:∀(t:List UInt8) (c:Option (List UInt8)) (acc:List (List UInt8)),(F7 t c acc).1.length<=acc.length+c.toList.length+t.length
 | [],none,acc=>by simp[F7]
 | [],some cur,acc=>by simp[F7]
 | b::r,c,acc=>by
   simp only[F7];split
   . simp
   . split
     . have:=Ys r none (acc++c.toList);simp at this ⊢;omega
     . split
       . split
         . simp
         . have:=Ys r (some (c.getD []++[b])) acc;simp at this ⊢;omega
       . simp
theorem Sj(B:Nat):∀(S:List (List UInt8)) (k:Nat) (acc:List Ln),(∀t∈S,t.length<=B)->(∀x∈acc,x.fs.length<=B)->
   (FN S k acc).1.length<=acc.length+S.length/\∀x∈(FN S k acc).1,x.fs.length<=B
 | [],k,acc,_,h=>by simpa [FN] using h
 | t::r,k,acc,hS,h=>by
   simp only[FN];split
   . have hl:(F7 t none []).1.length<=B:=by
       have h1:=Ys t none [];have h2:=hS t (by simp);simp at h1;omega
     have h3:=Sj B r (k+1) (if 0<(F7 t none []).1.length then acc++[⟨(k:Nat),(F7 t none []).1⟩] else acc) (λ y hy=>hS y (by simp[hy])) (λ x hx=>by
       split at hx
       . simp only[Aw,Ay] at hx;rcases hx with hx | rfl
         . exact h x hx
         . exact hl
       . exact h x hx)
     have h4:(if 0<(F7 t none []).1.length then acc++[⟨(k:Nat),(F7 t none []).1⟩] else acc).length<=acc.length+1:=by split<;>simp
     have h5:=h3.1;exact ⟨by simp only[An];omega,h3.2⟩
   . simp
def FO(s:List UInt8):Bool:=decide (s≠[])&&(decide (s.length<=12)&&s.all λ b=>IC b.toNat)
def Fi:Int->List Ln->Bool
 | _,[]=>true
 | last,x::r=>decide (last<x.num)&&(decide (x.fs≠[])&&(x.fs.all FO&&Fi x.num r))
def FZ:List (List UInt8)->List UInt8
 | []=>[]
 | x::r=>x++r.flatMap λ y=>32::y
def HA:Nat->List Ln->List UInt8
 | _,[]=>[]
 | k,x::r=>List.replicate (x.num.toNat - k) 10++(FZ x.fs++10::HA (x.num.toNat+1) r)
def Qr(l:List Ln):List UInt8×Int:=if Fi 0 l then (if 6000<(HA 1 l).length then ([],1) else (HA 1 l,0)) else ([],20)
def Lv:List (List UInt8)->Nat
 | []=>0
 | s::r=>s.length+1+Lv r
def szL:List Ln->Nat
 | []=>0
 | x::r=>Lv x.fs+szL r
def JM:Int->List Ln->Int
 | k,[]=>k
 | _,x::r=>JM x.num r
theorem L0{last:Int}{x:Ln}{r:List Ln}:Fi last (x::r)=true↔last<x.num/\x.fs≠[]/\(∀s∈x.fs,FO s=true)/\Fi x.num r=true:=by
 simp only[Fi,As,Au,AB]
theorem N1{s:List UInt8}:FO s=true↔s≠[]/\s.length<=12/\∀b∈s,IC b.toNat=true:=by
 simp only[FO,As,Au,AB]
theorem Amy(r:List (List UInt8)):(r.flatMap λ y=>32::y).length=Lv r:=by
 induction r with
 | nil=>rfl
 | cons x r ih=>simp[Lv,ih];omega
theorem OY:∀fs:List (List UInt8),fs≠[]->(FZ fs).length+1=Lv fs
 | [],h=>(h rfl).elim
 | x::r,_=>by simp only[FZ,Lv,Aq,Amy];omega
theorem Aqn:∀fs:List (List UInt8),fs≠[]->1<=Lv fs
 | [],h=>(h rfl).elim
 | x::r,_=>by simp only[Lv];omega
theorem Wo:∀(l:List Ln) (k:Nat),Fi k l=true->((HA (k+1) l).length:Int)+k+l.length=szL l+JM k l/\(l.length:Int)<=szL l/\(k:Int)<=JM k l
 | [],k,_=>by simp[HA,szL,JM]
 | x::r,k,h=>by
   obtain ⟨h1,h2,h3,h4⟩:=L0.1 h;obtain ⟨n,hn⟩:∃n:Nat,x.num=(n:Int):=⟨x.num.toNat,by omega⟩;rw[hn] at h4 h1;obtain ⟨h5,h6,h7⟩:=Wo r n h4;have h8:=OY x.fs h2;have h9:=Aqn x.fs h2;simp only[HA,szL,JM,hn,Aq,An,Bi,Ab];omega
theorem Ase(c:Int)(h:chB c=true):IC c=true:=by
 rw[Fk] at h;simp only[G3,Bool.or_eq_true,As,Au] at h;simp only[IC,As,Au,Bool.not_eq_true',Bn];omega
theorem WL{s:List UInt8}(h:C3 s=true):FO s=true/\s.length<=12:=by
 cases s with
 | nil=>simp[C3] at h
 | cons b r=>
   simp only[C3,As,Au,AB] at h;exact ⟨N1.2 ⟨by simp,h.1.1,λ c hc=>Ase _ (h.2 c hc)⟩,h.1.1⟩
theorem s7:∀(n:Nat),∀b∈IT n,IC b.toNat=true:=by
 intro n
 induction n using Nat.strongRecOn with
 | _ n ih=>
   intro b hb;have key:∀d:Nat,d<10->IC ((UInt8.ofNat (48+d)).toNat:Nat)=true:=by
     intro d hd;have:((UInt8.ofNat (48+d)).toNat:Int)=48+d:=by simp;omega
     rw[this];simp only[IC,As,Au,Bool.not_eq_true',Bn];omega
   by_cases h:n<10
   . rw[Hb n h] at hb;simp only[Ay] at hb;subst hb;exact key n h
   . rw[NG n h] at hb;rcases Aw.1 hb with h1 | h1
     . exact ih (n / 10) (by omega) b h1
     . simp only[Ay] at h1;subst h1;exact key (n % 10) (by omega)
theorem Asa(n:Nat):IT n≠[]:=by
 by_cases h:n<10
 . rw[Hb n h];simp
 . rw[NG n h];simp
theorem s6{n:Int}(h0:-9999<=n)(h1:n<=9999):FO (Wb n)=true/\(Wb n).length<=5:=by
 unfold Wb;split
 . have hl:=JV 3 (-n).toNat (by omega);refine ⟨N1.2 ⟨by simp,by simp;omega,λ b hb=>?_⟩,by simp;omega⟩;rcases AG.1 hb with rfl | hb
   . decide
   . exact s7 _ b hb
 . have hl:=JV 3 n.toNat (by omega);exact ⟨N1.2 ⟨Asa _,by omega,s7 _⟩,by omega⟩
theorem Ags(j:Nat)(h1:1<=j)(h2:j<7):FO (Fh j).word=true/\(Fh j).word.length<=7:=by
 have hj:j=1∨j=2∨j=3∨j=4∨j=5∨j=6:=by omega
 rcases hj with rfl | rfl | rfl | rfl | rfl | rfl<;>decide
def wD(x:Dc):Nat:=8+13*x.names.length+6*x.Cb.length
def PV(x:Dc):Ln:=⟨x.line,Gt x⟩
theorem Zi(a b:List (List UInt8)):Lv (a++b)=Lv a+Lv b:=by
 induction a with
 | nil=>simp[Lv]
 | cons x r ih=>simp only[A6,Lv,ih];omega
theorem XL(k:Nat):∀l:List (List UInt8),(∀s∈l,s.length<=k)->Lv l<=(k+1)*l.length
 | [],_=>by simp[Lv]
 | x::r,h=>by
   have h1:=h x (by simp);have h2:=XL k r (λ s hs=>h s (by simp[hs]));simp only[Lv,An,Nat.mul_add,Nat.mul_one];omega
theorem Xt(x:Dc)(h:Dh x=true):(PV x).fs≠[]/\(∀s∈(PV x).fs,FO s=true)/\Lv (PV x).fs<=wD x:=by
 obtain ⟨⟨VW,hw2⟩,_,_,hn,hk⟩:=(H0 x).1 h;have hf:=Ags x.word.toNat (by omega) (by omega);refine ⟨by simp[PV,Gt],λ s hs=>?_,?_⟩
 . simp only[PV,Gt,A6,AG,Aw,AU] at hs;rcases hs with rfl | hs | ⟨k,IF,rfl⟩
   . exact hf.1
   . exact (WL (hn s hs)).1
   . exact (s6 (hk k IF).1 (hk k IF).2).1
 . have h1:=XL 12 x.names (λ s hs=>(WL (hn s hs)).2);have h2:=XL 5 (x.Cb.map Wb) (λ s hs=>by
     obtain ⟨k,IF,rfl⟩:=AU.1 hs;exact (s6 (hk k IF).1 (hk k IF).2).2)
   simp only[Ba] at h2;simp only[PV,Gt,A6,Lv,Zi,wD];have:=hf.2;omega
def Oq(l:List Dc):Nat:=(l.map wD).sum
theorem Ajz(a b:List Dc):Oq (a++b)=Oq a+Oq b:=by simp[Oq]
theorem P3(k:Nat):∀l:List Dc,(∀x∈l,wD x<=k)->Oq l<=k*l.length
 | [],_=>by simp[Oq]
 | x::r,h=>by
   have h1:=h x (by simp);have h2:=P3 k r (λ y hy=>h y (by simp[hy]));simp only[Oq,AH,List.sum_cons,An,Nat.mul_add,Nat.mul_one] at h2 ⊢;omega
theorem WH:∀(i:Nat) (L:List Dc),(∀x∈L,Dh x=true)->Fi i ((Ht i L).map PV)=true/\JM i ((Ht i L).map PV)=(i:Int)+L.length/\szL ((Ht i L).map PV)<=Oq L
 | i,[],_=>by simp[Ht,Fi,JM,szL,Oq]
 | i,x::r,h=>by
   have hx:=h x (by simp);obtain ⟨h1,h2,h3⟩:=WH (i+1) r (λ y hy=>h y (by simp[hy]));have hd:=Xt ⟨x.word,(i:Int)+1,x.names,x.Cb⟩ hx;simp only[Ht,AH];have S2:(PV ⟨x.word,(i:Int)+1,x.names,x.Cb⟩).num=((i+1:Nat):Int):=by simp[PV]
   refine ⟨L0.2 ⟨by rw[S2];omega,hd.1,hd.2.1,by rw[S2];exact h1⟩,?_,?_⟩
   . simp only[JM,S2,h2,An];omega
   . have h4:wD ⟨x.word,(i:Int)+1,x.names,x.Cb⟩=wD x:=rfl;simp only[szL,Oq,AH,List.sum_cons];have:=hd.2.2;unfold Oq at h3;omega
theorem T2:∀(i:Nat) (L:List Dc),(∀x∈L,Dh x=true)->∀x∈Ht i L,Dh x=true
 | _,[],_=>by simp[Ht]
 | i,x::r,h=>by
   intro y hy;simp only[Ht,AG] at hy;rcases hy with rfl | hy
   . exact h x (by simp)
   . exact T2 (i+1) r (λ z hz=>h z (by simp[hz])) y hy
theorem Nb{α:Type}{l:List α}{x:α}(d:α)(h:x∈l):∃i,i<l.length/\l.getD i d=x:=by
 obtain ⟨i,hi,rfl⟩:=AD.1 h;exact ⟨i,hi,by simp[List.getD,hi]⟩
theorem Afr(n:Nt)(h:IK n):(∀b∈n.blocks,C3 b.name=true)/\∀s∈n.spurs,C3 s.name=true:=by
 have key:∀x∈Ds n,C3 x=true:=λ x hx=>by
   obtain ⟨i,hi,rfl⟩:=Nb [] hx;exact (h i hi).1
 exact ⟨λ b hb=>key _ (by simp only[Ds,Aw,AU];exact .inl ⟨b,hb,rfl⟩),λ s hs=>key _ (by simp only[Ds,Aw,AU];exact .inr ⟨s,hs,rfl⟩)⟩
theorem u0(n:Nt)(hn:validN n):(∀x∈Gy n,Dh x=true)/\Oq (Gy n)<=6000/\(Gy n).length<=400:=by
 obtain ⟨⟨SD,Ac8,OA,K9⟩,hs6,hnm,hr8,hcf,H8,Y1,hdp⟩:=hn;obtain ⟨hnb,hns⟩:=Afr n hnm;have hbn:∀x:Int,0<=x->x<n.blocks.length->C3 (bnm n x)=true:=λ x h0 h1=>by
   unfold bnm;exact hnb _ (CF n.blocks x.toNat FR (by omega))
 have h1:∀x∈Ls n,Dh x=true/\wD x<=33:=by
   intro x hx;obtain ⟨b,hb,rfl⟩:=AU.1 hx;obtain ⟨i,hi,rfl⟩:=Nb FR hb;have hxy:=(K9 i hi).1;unfold YS at hxy;refine ⟨(H0 _).2 ⟨by simp[Te],by simp[Te,CD],.inl (by simp[Te,CD]),by simpa [Te] using hnb _ hb,?_⟩,by simp[wD,Te]⟩;simp only[Te,AG,List.not_mem_nil,or_false];rintro k (rfl | rfl)<;>omega
 have h2:∀x∈I6 n n.blocks.length,Dh x=true/\wD x<=34:=by
   intro x hx;obtain ⟨i,hi,hx⟩:=BU.1 hx;obtain ⟨y,hy,rfl⟩:=AU.1 hx;have UB:=List.mem_range.1 hi;obtain ⟨k,hk,rfl⟩:=Nb 0 hy;have Dq:=(K9 i UB).2.2 k hk;refine ⟨(H0 _).2 ⟨by simp[RD],by simp[RD,CD],.inl (by simp[RD,CD]),?_,by simp[RD]⟩,by simp[wD,RD]⟩;simp only[RD,AG,List.not_mem_nil,or_false];rintro s (rfl | rfl)
   . exact hnb _ (CF n.blocks i FR UB)
   . exact hbn _ Dq.1 Dq.2.1
 have h3:∀x∈OU n,Dh x=true/\wD x<=53:=by
   intro x hx;obtain ⟨s,hs,rfl⟩:=AU.1 hx;have Avb:=hns s hs;obtain ⟨i,hi,rfl⟩:=Nb Cu hs;obtain ⟨g1,g2,g3,g4,g5,g6,_⟩:=H8 i hi;generalize n.spurs.getD i Cu=s at*;have hw:(if s.CE then (4:Int) else 3)=3∨(if s.CE then (4:Int) else 3)=4:=by cases s.CE<;>simp
   refine ⟨(H0 _).2 ⟨by simp only[P5];omega,?_,.inl ?_,?_,?_⟩,by simp[wD,P5]⟩
   . rcases hw with hw | hw<;>simp[P5,CD,hw]
   . rcases hw with hw | hw<;>simp[P5,CD,hw]
   . simp only[P5,AG,List.not_mem_nil,or_false];rintro t (rfl | rfl | rfl)
     . exact Avb
     . exact hbn _ (by omega) (by omega)
     . exact hbn _ (by omega) (by omega)
   . simp only[P5,AG,List.not_mem_nil,or_false];rintro k rfl;omega
 have h4:∀x∈Lr n n.B6.length,Dh x=true/\wD x<=27:=by
   intro x hx;obtain ⟨r,_,hx⟩:=BU.1 hx;obtain ⟨s,hs,rfl⟩:=AU.1 hx;obtain ⟨Lw,Pm⟩:=List.mem_filter.1 hs;have hs3:=Bv Lw;have Avb:=hns s hs3;obtain ⟨i,hi,rfl⟩:=Nb Cu hs3;obtain ⟨g1,g2,g3,g4,g5,g6,_⟩:=H8 i hi;generalize n.spurs.getD i Cu=s at*;simp only[WU,As,Au] at Pm;refine ⟨(H0 _).2 ⟨by simp[SZ],by simp[SZ,CD],.inl (by simp[SZ,CD]),by simpa [SZ] using Avb,?_⟩,by simp[wD,SZ]⟩;simp only[SZ,AG,List.not_mem_nil,or_false];rintro k rfl;omega
 have h5:Dh ⟨6,0,[],[n.cq,n.ca,n.cd,n.cp]⟩=true:=by
   unfold IV at hcf;refine (H0 _).2 ⟨by simp,by simp[CD],.inl (by simp[CD]),by simp,?_⟩;simp only[AG,List.not_mem_nil,or_false];rintro k (rfl | rfl | rfl | rfl)<;>omega
 have Uz:(I6 n n.blocks.length).length<=n.blocks.length*4:=by
   have:=Iz (ZY n) 4 (List.range n.blocks.length) (λ i hi=>by
     have:=(K9 i (List.mem_range.1 hi)).2.1;simp only[ZY,Ba];omega)
   simpa [I6] using this
 have hl4:(Lr n n.B6.length).length<=n.B6.length*6:=by
   have:=Iz (λ r=>SY n r n.spurs.length) 6 (n.B6.take n.B6.length) (λ r _=>by
     simp only[SY,Ba];exact Bp (List.length_filter_le _ _) (by simp;omega))
   simpa [Lr] using this
 refine ⟨λ x hx=>?_,?_,?_⟩
 . simp only[Gy,Aw,Ay] at hx;rcases hx with (((hx | hx) | hx) | hx) | rfl
   . exact (h1 x hx).1
   . exact (h2 x hx).1
   . exact (h3 x hx).1
   . exact (h4 x hx).1
   . exact h5
 . have s1:=P3 33 (Ls n) (λ x hx=>(h1 x hx).2);have s2:=P3 34 (I6 n n.blocks.length) (λ x hx=>(h2 x hx).2);have s3:=P3 53 (OU n) (λ x hx=>(h3 x hx).2);have s4:=P3 27 (Lr n n.B6.length) (λ x hx=>(h4 x hx).2);have s5:Oq [(⟨6,0,[],[n.cq,n.ca,n.cd,n.cp]⟩:Dc)]=32:=by simp[Oq,wD]
   have e1:(Ls n).length=n.blocks.length:=by simp[Ls]
   have e3:(OU n).length=n.spurs.length:=by simp[OU]
   simp only[Gy,Ajz,s5];rw[e1] at s1;rw[e3] at s3;omega
 . simp only[Gy,Aq,Ls,OU,Ba,An,Ax];omega
theorem ZW:∀(l:List Ln) (k:Int),Fi k l=true->(∀x∈l,x.num<=JM k l)/\k<=JM k l
 | [],k,_=>by simp[JM]
 | x::r,k,h=>by
   obtain ⟨h1,_,_,h2⟩:=L0.1 h;obtain ⟨h3,h4⟩:=ZW r x.num h2;refine ⟨λ y hy=>?_,by simp only[JM];omega⟩;rcases AG.1 hy with rfl | hy
   . exact h4
   . exact h3 y hy
theorem Ajy:∀l:List (List UInt8),l.length<=Lv l
 | []=>by simp[Lv]
 | x::r=>by have:=Ajy r;simp only[Lv,An];omega
theorem Ad3:∀(l:List Ln) (x:Ln),x∈l->Lv x.fs<=szL l
 | [],x,h=>by simp at h
 | y::r,x,h=>by
   simp only[szL];rcases AG.1 h with rfl | h
   . omega
   . have:=Ad3 r x h;omega
theorem Va(n:Nt)(hn:validN n):(∀x∈D2 n,Dh x=true)/\Fi 0 ((D2 n).map PV)=true/\(HA 1 ((D2 n).map PV)).length<=6000/\(D2 n).length<=400/\∀x∈(D2 n).map PV,x.num<=400/\x.fs.length<=6000:=by
 obtain ⟨h1,h2,h3⟩:=u0 n hn;obtain ⟨h4,h5,h6⟩:=WH 0 (Gy n) h1;have h7:=Wo ((D2 n).map PV) 0 h4;have h8:=ZW _ _ h4;have h9:∀x∈(D2 n).map PV,x.num<=400/\x.fs.length<=6000:=λ x hx=>by
   have QE:=Ajy x.fs;have h13:=Ad3 _ x hx;have h14:szL ((D2 n).map PV)<=Oq (Gy n):=h6;have LX:x.num<=JM ((0:Nat):Int) ((Ht 0 (Gy n)).map PV):=h8.1 x hx;rw[h5] at LX;refine ⟨?_,by omega⟩;omega
 refine ⟨T2 0 _ h1,h4,?_,by simpa [D2,GW] using h3,h9⟩;have e1:((D2 n).map PV).length=(Gy n).length:=by simp[D2,GW]
 have e2:JM ((0:Nat):Int) ((D2 n).map PV)=((0:Nat):Int)+(Gy n).length:=h5;have e3:szL ((D2 n).map PV)<=Oq (Gy n):=h6;have e4:((HA 1 ((D2 n).map PV)).length:Int)+((0:Nat):Int)+((D2 n).map PV).length=szL ((D2 n).map PV)+JM ((0:Nat):Int) ((D2 n).map PV):=h7.1;omega
end Go.Am
end
