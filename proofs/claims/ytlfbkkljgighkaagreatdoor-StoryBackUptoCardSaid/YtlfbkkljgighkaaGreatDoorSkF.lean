/- Texts of this proof, what it rests on, merged: part F. -/
import Derived.Lib.Bytealg
import Derived.Laws.Externs
import Derived.Test.YtlfbkkljgighkaaGreatDoorSkE
noncomputable section
namespace Go.Am
open Go Go.Proofs
open Go.IntKind (i64)
open Tryz
set_option maxRecDepth 100000
set_option linter.unusedVariables false
set_option linter.unusedSimpArgs false
set_option maxHeartbeats 2000000
def DB(c:UInt8):Ad->Ae
 | []=>[[]]
 | b::r=>if b=c then []::DB c r else match DB c r with
   | []=>[[b]]
   | x::a=>(b::x)::a
theorem P9(c)(l):DB c l≠[]:=by
 cases l with
 | nil=>simp[DB]
 | cons b r=>
   simp only[DB];split
   . simp
   . split<;>simp
theorem Ki(c)(l):(DB c l).length=l.count c+1:=by
 induction l with
 | nil=>simp[DB]
 | cons b r a=>
   simp only[DB];split
   . rename_i h;subst h;simp[a]
   . rename_i h;rw[List.count_cons_of_ne h];cases e:DB c r with
     | nil=>exact (P9 c r e).elim
     | cons x f=>rw[e] at a;simpa using a
theorem Od(c):∀(l:Ad),(Lib.indexByte l c=-1/\DB c l=[l])∨∃m:Nat,Lib.indexByte l c=(m:Int)/\m<l.length/\DB c l=l.take m::DB c (l.drop (m+1))
 | []=> .inl ⟨rfl,rfl⟩
 | b::r=>by
   simp only[Lib.indexByte];by_cases h:b=c
   . subst h;exact .inr ⟨0,AT,AT,by simp[DB]⟩
   . rcases Od c r with ⟨a,h2⟩ | ⟨m,a,h2,e⟩
     . refine .inl ⟨by simp[h,a],by simp[DB,h,h2]⟩
     . refine .inr ⟨m+1,by simp[h,a],AW,by simp[DB,h,e]⟩
theorem Bjg(l)(c):C3 prog 228 [.p (.str l),.p (.int .u8 c)] [] λ h r=>h=[]/\r=iD (Lib.indexByte l c.toNat.toUInt8):=by
 refine Af1 (run_callFunc_extern func228 AY AY AY (e:=Extern.BytealgIndexByte.indexByte) AY) ?_;intro g w F M i;obtain ⟨j,h⟩:=i;obtain ⟨b,f,rfl⟩:∃b f,g=#[b,f]:=by
   match g,j with
   | ⟨[b,f]⟩,_=>exact ⟨b,f,rfl⟩
 have a:=h 0 _ rfl;have h2:=h 1 _ rfl;simp only[BO,List.getD_cons_succ] at a h2;cases a with | p a=>cases a with | str=>
 cases h2 with | p h2=>cases h2 with | int=>
 exact ⟨_,_,Lib.run_indexByteString _ _ _,.p (.int _ _),rfl,rfl⟩
theorem Bk8(l)(c):C3 prog 198 [.p (.str l),.p (.int .u8 c)] [] λ h r=>h=[]/\r=iD (Lib.countByte l c.toNat.toUInt8:Nat):=by
 refine Af1 (run_callFunc_extern func198 AY AY AY (e:=Extern.BytealgCount.count) AY) ?_;intro g w F M i;obtain ⟨j,h⟩:=i;obtain ⟨b,f,rfl⟩:∃b f,g=#[b,f]:=by
   match g,j with
   | ⟨[b,f]⟩,_=>exact ⟨b,f,rfl⟩
 have a:=h 0 _ rfl;have h2:=h 1 _ rfl;simp only[BO,List.getD_cons_succ] at a h2;cases a with | p a=>cases a with | str=>
 cases h2 with | p h2=>cases h2 with | int=>
 exact ⟨_,_,Lib.run_countString _ _ _,.p (.int _ _),rfl,rfl⟩
theorem Bl3(c):((c.toNat:Int)).toNat.toUInt8=c:=AT
theorem Bgu(l)(c):C3 prog 155 [.p (.str l),.p (.str [c])] [] λ h r=>h=[]/\r=iD (l.count c:Nat):=by
 refine Dx func155 rfl Ayx (by simp[Tryz.f155]) ?_;have a:(0:Int)<1:=AV;simp only[go_sem,BO];refine Cq (Bk8 l c.toNat) ?_;simp only[go_sem,Bl3];rfl
theorem Awx(l)(c):C3 prog 199 [.p (.str l),.p (.str [c])] [] λ h r=>h=[]/\r=iD (Lib.indexByte l c):=by
 refine Dx func199 rfl Axv (by simp[Tryz.f199]) ?_;cases a:decide ([c]=l)
 . simp only[go_sem,a,BO];refine Gn (?_:C3 prog 216 _ _ λ h r=>h=[]/\r=iD (Lib.indexByte l c)) ?_
   . refine Dx func216 rfl Axh (by simp[Tryz.f216]) ?_;simp only[go_sem];refine Cq (Bjg l c.toNat) ?_;simp only[go_sem,Bl3]
   . rintro b r ⟨rfl,rfl⟩;simp only[go_sem]
 . simp only[go_sem,a];have:l=[c]:=by simpa using (Bg a).symm
   subst this;simp[Lib.indexByte]
theorem Bdb(l)(c):C3 prog 156 [.p (.str l),.p (.str [c])] [] λ h r=>h=[]/\r=iD (Lib.indexByte l c):=by
 refine Dx func156 rfl Ayw (by simp[Tryz.f156]) ?_;simp only[go_sem];refine Cq (Awx l c) ?_;simp only[go_sem]
theorem Auf(a r)(y x:Ad):(a++y::r).set a.length x=(a++[x])++r:=by
 rw[List.set_append_right _ _ (Bk _),Nat.sub_self,BT,Cr];rfl
theorem Bgg(n):El (List.replicate n [])=List.replicate n [.str []]:=by simp[El]
theorem Ao4(l)(c)(Y:l.length<=100000000):C3 prog 101 [.p (.str l),.p (.str [c]),iD 0,iD (-1)] [] λ h r=>h=[(0,.arr 9 1 (El (DB c l)))]/\r= .ref 0 0 (DB c l).length (DB c l).length:=by
 refine Dx func101 rfl Ba4 (by simp[Tryz.f101]) ?_;have y:=Ki c l;have W:l.count c<=l.length:=List.count_le_length;have K:i64.wrap ((l.count c:Nat)+1)=(((DB c l).length:Nat):Int):=by rw[y,C5]<;>omega
 have N:i64.wrap ((l.length:Int)+1)=(l.length:Int)+1:=by rw[C5]<;>omega
 have Q:¬(l.length:Int)+1<(((DB c l).length:Nat):Int):=AQ;have R:i64.wrap ((((DB c l).length:Nat):Int) - 1)=((l.count c:Nat):Int):=by rw[y,C5]<;>omega
 simp only[go_sem];refine Cq (Bgu l c) ?_;simp only[go_sem,K,N,Q,R,Be];refine ⟨AQ,?_⟩;generalize B:DB c l=S at*;refine Dq (λ q:Ae×Ad=>⟨[(0,.p (.str q.2)),(1,.p (.str [c])),(2,iD 0),(3,iD (l.count c:Nat)),(9,.ref 31 0 S.length S.length),(10,iD (q.1.length:Nat))],[(31,.arr 9 1 (El (q.1++List.replicate (S.length - q.1.length) [])))],66⟩)
   (λ q=>S=q.1++DB c q.2/\q.2.length<=l.length) (λ q=>S.length - q.1.length) ([],l) ⟨by simp[B],AT⟩ (Wk.forget (by simp[ZF,Bgg])) ?_
 rintro ⟨a,t⟩ n ⟨b,H⟩ I;simp only at b H;have u:=B3 List.length b;rw[Bw,Ki] at u;simp only[go_sem];refine D5 (λ h2=>?_) (λ h2=>?_)
 . have Dv:a.length<l.count c:=by simp at h2;omega
   simp only[go_sem];refine Cq (Bdb t c) ?_;rcases Od c t with ⟨f,e⟩ | ⟨m,f,e,g⟩
   . rw[e] at b;have:=B3 List.length b;simp at this;omega
   . have z:¬(m:Int)<0:=AQ;have T:i64.wrap ((m:Int)+0)=(m:Int):=by rw[C5]<;>omega
     have U:i64.wrap ((m:Int)+1)=((m+1:Nat):Int):=by rw[C5]<;>omega
     have x:=DQ a.length AQ;have v:(0:Int)<=(m:Int)/\(m:Int)<=(t.length:Int):=AQ;have w:(0:Int)<=((m+1:Nat):Int)/\((m+1:Nat):Int)<=(t.length:Int):=AQ;have o:(0:Int)<=(a.length:Int)/\(a.length:Int)<(S.length:Int):=AQ;obtain ⟨k,E⟩:∃k,S.length - a.length=k+1:=⟨S.length - a.length - 1,AQ⟩;have Sc:S.length - (a.length+1)=k:=AQ;have hlen:S.length=(a++[]::List.replicate k ([]:Ad)).length:=AW;have s:=MP (a++[]::List.replicate k ([]:Ad)) a.length (by rw[<-hlen];omega);simp only[go_sem,f,z,E,T,U,x,Be,DJ,v,w,o,s,Int.le_refl,List.drop_zero,BH];refine ⟨hlen,hlen,?_⟩;rw[<-XQ,Auf];refine I (a++[t.take m],t.drop (m+1)) _ ⟨by rw[b,g];simp,AW⟩ AW ?_
     (refine Wk.forget ?_;simp[ZF,Sc];done)
 . have Dv:a.length=l.count c:=by simp at h2;omega
   have j:S.length - a.length=1:=AQ;rcases Od c t with ⟨f,e⟩ | ⟨m,f,e,g⟩
   . have x:i64.wrap ((a.length:Int)+1)=((S.length:Nat):Int):=by rw[C5]<;>omega
     have o:(0:Int)<=(a.length:Int)/\(a.length:Int)<(S.length:Int):=AQ;have hlen:S.length=(a++[([]:Ad)]).length:=AW;have s:=MP (a++[([]:Ad)]) a.length (by rw[<-hlen];omega);have Bdz:S=a++[t]:=by rw[b,e]
     have i:(0:Int)<=(S.length:Int):=AQ;simp only[go_sem,j,x,Be,DJ,o,s,Int.le_refl,<-XQ,Auf,Bv,i,Int.sub_zero];refine ⟨hlen,hlen,by rw[Bdz],DF ?_⟩;simp only[go_sem];rw[Bdz]
   . rw[g] at b;have V:=Ki c (t.drop (m+1));have:=B3 List.length b;simp at this;omega
theorem Bcd(l)(c)(a:l.length<=100000000):C3 prog 49 [.p (.str l),.p (.str [c])] [] λ h r=>h=[(0,.arr 9 1 (El (DB c l)))]/\r= .ref 0 0 (DB c l).length (DB c l).length:=by
 refine Dx func49 rfl Bfp (by simp[Tryz.f49]) ?_;simp only[go_sem];refine Cq (Ao4 l c a) ?_;simp only[go_sem];refine DF ?_;simp only[go_sem]
def QR(c:Int):Bool:=decide (32<c)&&(decide (c<=126)&&!decide (c=35))
theorem TV(c):C3 prog 102 [.p (.int .u8 c)] [] λ h r=>h=[]/\r=bD (QR c):=by
 refine Dx func102 rfl Ba3 (by simp[Tryz.f102]) ?_;by_cases a:32<c
 . by_cases h2:c<=126
   . simp only[go_sem,a,h2];simp[QR,a,h2]
   . simp only[go_sem,a,h2];simp[QR,a,h2]
 . simp only[go_sem,a];simp[QR,a]
def He:Ad->Option Ad->Ae->Ae×Int
 | [],none,acc=>(acc,0)
 | [],some cur,acc=>(acc++[cur],0)
 | b::r,c,acc=>
   if (b.toNat:Int)=35 then (acc++c.toList,0)
   else if (b.toNat:Int)=32∨(b.toNat:Int)=9 then He r none (acc++c.toList)
   else if QR b.toNat then (if (c.getD []).length=12 then ([],3) else He r (some (c.getD []++[b])) acc)
   else ([],2)
theorem Ax8(b:UInt8)(r:Ad)(acc:Ae)(a:¬(b.toNat:Int)=35)(h2:¬(b.toNat:Int)=32)(e:¬(b.toNat:Int)=9):He (b::r) none acc=He (b::r) (some []) acc:=by
 simp[He,a,h2,e]
theorem Ax9(t)(cur)(acc)(h:∀b r,t=b::r->(b.toNat:Int)=35∨(b.toNat:Int)=32∨(b.toNat:Int)=9):He t (some cur) acc=He t none (acc++[cur]):=by
 cases t with
 | nil=>simp[He]
 | cons b r=>
   rcases h b r rfl with h | h | h<;>simp[He,h]
theorem Bk7(s)(B:s.length<=100000000):C3 prog 50 [.p (.str s)] [] λ h r=>h=[]/\r= .Em [sD (El (He s none []).1),iD (He s none []).2]:=by
 refine Dx func50 rfl Bfo (by simp[Tryz.f50]) ?_;simp only[go_sem];refine Aqp (λ q:Bool×Nat×Nat×Ae=>if q.1 then 1 else 0)
   (λ q=>⟨[(0,.p (.str s)),(2,.cl []),(4,rD 59 q.2.2.2),(5,iD (q.2.1:Nat)),(6,iD (q.2.2.1:Nat))],[(59,.arr 9 1 (El q.2.2.2))],71⟩)
   (λ q=>q.2.2.1<=q.2.1/\q.2.1<=s.length/\(q.1=true->q.2.1<=q.2.2.1+12/\q.2.2.1<q.2.1/\q.2.2.2.length<=q.2.2.1)/\q.2.2.2.length<=q.2.1/\He (s.drop q.2.1) (if q.1 then some ((s.take q.2.1).drop q.2.2.1) else none) q.2.2.2=He s none [])
   (λ q=>2*(s.length - q.2.1)+(if q.1 then 1 else 0)) (2*s.length+2) ?_ ?_
 . intro n k;simp only[go_sem];cases H9:decide ((0:Int)=(s.length:Int));rotate_left
   . have Be0:0=s.length:=by have:=Bg H9;omega
     simp only[go_sem,H9];refine Ds ?_;simp only[go_sem];rw[B0 Be0.symm];simp[He,El]
   have Dv:0<s.length:=by have:=Bh H9;omega
   have Be1:s=s.getD 0 0::s.drop 1:=by have:=Ia s 0 0 Dv;simpa using this
   have g:He (s.getD 0 0::s.drop 1) none []=He s none []:=by rw[<-Be1]
   have Xt:(0:Int)<(s.length:Int):=AQ;have FU:(0:Int)<=(0:Int):=AQ;have o:i64.wrap ((0:Int)+1)=(((0+1:Nat)):Int):=by rw[C5]<;>omega
   have j:i64.wrap ((0:Int) - 0)=0:=by rw[Int.sub_self];rfl
   have m:(s.take (0+1)).drop 0=[s.getD 0 0]:=by rw[List.drop_take,Ia s _ 0 Dv];simp
   generalize hb:s.getD 0 0=b at*;generalize a:(b.toNat:Int)=c at*;cases Wx:decide (c=35);rotate_left
   . simp only[go_sem,Be,H9,Xt,FU,hb,a,Wx,Int.reduceToNat,Nat.reduceAdd];refine Ds ?_;simp only[go_sem];have:=Bg Wx;rw[<-g];simp[He,a,this,DJ,L5,El]
   have Tl:=Bh Wx;cases RY:decide (c=32)
   . cases i:decide (c=9)
     . have PL:=Bh RY;have e:=Bh i;simp only[go_sem,Be,H9,Xt,FU,hb,a,Wx,RY,i];refine Cq (TV c) ?_;cases Xz:QR c
       . simp only[go_sem,Xz];refine Ds ?_;simp only[go_sem];rw[<-g];simp[He,a,Tl,PL,e,Xz,El]
       . simp only[go_sem,Xz,o,j];refine k (true,0+1,0,[]) _ ⟨by simp only;omega,by simp only;omega,(λ _=>by simp only[Bx];omega),by simp only[Bx];omega,?_⟩ (by simp only[B5];omega) ?_
         . rw[<-g];simp only[B5,m];simp[He,a,Tl,PL,e,Xz]
         . exact (Wk.nil (t:=4) (q:=59) (sz:=1) 9 rfl rfl AV).trans (Wk.forget (by simp[ZF,El]))
     . have e:=Bg i;simp only[go_sem,Be,H9,Xt,FU,hb,a,Wx,RY,i,o];refine k (false,0+1,0,[]) _ ⟨by simp only;omega,by simp only;omega,(λ h=>by cases h),by simp only[Bx];omega,?_⟩ AW ?_
       . rw[<-g];simp[He,a,e]
       . exact (Wk.nil (t:=4) (q:=59) (sz:=1) 9 rfl rfl AV).trans (Wk.forget (by simp[ZF,El]))
   . have PL:=Bg RY;simp only[go_sem,Be,H9,Xt,FU,hb,a,Wx,RY,o];refine k (false,0+1,0,[]) _ ⟨by simp only;omega,by simp only;omega,(λ h=>by cases h),by simp only[Bx];omega,?_⟩ AW ?_
     . rw[<-g];simp[He,a,PL]
     . exact (Wk.nil (t:=4) (q:=59) (sz:=1) 9 rfl rfl AV).trans (Wk.forget (by simp[ZF,El]))
 . rintro ⟨w,at_,f,acc⟩ n ⟨l,PW,ZY,Ao2,g⟩ k;simp only at l PW ZY Ao2 g;cases w
   . simp only[BY,Cy] at g;refine ⟨_,rfl,?_⟩;simp only[go_sem];cases H9:decide ((at_:Int)=(s.length:Int));rotate_left
     . have Be0:at_=s.length:=by have:=Bg H9;omega
       simp only[go_sem,H9];refine Ds ?_;simp only[go_sem];rw[<-g,Cv AQ];simp[He,DJ,L5]
     have Dv:at_<s.length:=by have:=Bh H9;omega
     rw[Ia s at_ 0 Dv] at g;have Xt:(at_:Int)<(s.length:Int):=AQ;have FU:(0:Int)<=(at_:Int):=AQ;have o:i64.wrap ((at_:Int)+1)=(((at_+1:Nat)):Int):=by rw[C5]<;>omega
     have j:i64.wrap ((at_:Int) - at_)=0:=by rw[Int.sub_self];rfl
     have m:(s.take (at_+1)).drop at_=[s.getD at_ 0]:=by rw[List.drop_take,Ia s _ 0 Dv];simp
     generalize hb:s.getD at_ 0=b at*;generalize a:(b.toNat:Int)=c at*;cases Wx:decide (c=35);rotate_left
     . simp only[go_sem,Be,H9,Xt,FU,hb,a,Wx];refine Ds ?_;simp only[go_sem];have:=Bg Wx;rw[<-g];simp[He,a,this,DJ,L5]
     have Tl:=Bh Wx;cases RY:decide (c=32)
     . cases i:decide (c=9)
       . have PL:=Bh RY;have e:=Bh i;simp only[go_sem,Be,H9,Xt,FU,hb,a,Wx,RY,i];refine Cq (TV c) ?_;cases Xz:QR c
         . simp only[go_sem,Xz];refine Ds ?_;simp only[go_sem];rw[<-g];simp[He,a,Tl,PL,e,Xz,El]
         . simp only[go_sem,Xz,o,j];refine k (true,at_+1,at_,acc) _ ⟨by simp only;omega,by simp only;omega,(λ _=>by simp only[Bx];omega),by simp only[Bx];omega,?_⟩ (by simp only[B5];omega) ?_
           . rw[<-g];simp only[B5,m];simp[He,a,Tl,PL,e,Xz]
           . (refine Wk.forget ?_;simp[ZF];done)
       . have e:=Bg i;simp only[go_sem,Be,H9,Xt,FU,hb,a,Wx,RY,i,o];refine k (false,at_+1,f,acc) _ ⟨by simp only;omega,by simp only;omega,(λ h=>by cases h),by simp only[Bx];omega,?_⟩ AW ?_
         . rw[<-g];simp[He,a,e]
         . (refine Wk.forget ?_;simp[ZF];done)
     . have PL:=Bg RY;simp only[go_sem,Be,H9,Xt,FU,hb,a,Wx,RY,o];refine k (false,at_+1,f,acc) _ ⟨by simp only;omega,by simp only;omega,(λ h=>by cases h),by simp only[Bx];omega,?_⟩ AW ?_
       . rw[<-g];simp[He,a,PL]
       . (refine Wk.forget ?_;simp[ZF];done)
   . simp only[B5] at g k;simp only[forall_const] at ZY;refine ⟨_,rfl,?_⟩;simp only[go_sem];have u:(0:Int)<=(f:Int)/\(f:Int)<=(at_:Int)/\(at_:Int)<=(s.length:Int):=AQ;have flush:(∀b r,s.drop at_=b::r->(b.toNat:Int)=35∨(b.toNat:Int)=32∨(b.toNat:Int)=9)->He (s.drop at_) none (acc++[(s.take at_).drop f])=He s none []:=by
       intro h;rw[<-Ax9 _ _ _ h];exact g
     cases H9:decide ((at_:Int)=(s.length:Int));rotate_left
     . have Be0:at_=s.length:=by have:=Bg H9;omega
       have v:s.drop at_=[]:=Cv AQ;simp only[go_sem,H9,Be,DJ,u];refine ⟨⟨Lr _ _ rfl,AQ⟩,?_⟩;refine k (false,at_,f,acc++[(s.take at_).drop f]) _ ⟨l,PW,(λ h=>by cases h),by have:=ZY.2.2;have:=ZY.2.1;simp;omega,?_⟩ AT ?_
       . simp only[BY,Cy];exact flush (λ b r h=>by rw[v] at h;cases h)
       . (refine Wk.forget ?_;simp[ZF,GH,DJ];done)
     have Dv:at_<s.length:=by have:=Bh H9;omega
     have y:=Ia s at_ 0 Dv;have Xt:(at_:Int)<(s.length:Int):=AQ;have FU:(0:Int)<=(at_:Int):=AQ;have o:i64.wrap ((at_:Int)+1)=((at_+1:Nat):Int):=by rw[C5]<;>omega
     have j:i64.wrap ((at_:Int) - f)=((at_ - f:Nat):Int):=by rw[C5]<;>omega
     have m:(s.take (at_+1)).drop f=(s.take at_).drop f++[s.getD at_ 0]:=by
       rw[CG Dv,List.drop_append_of_le_length AW];simp[List.getD,Dv]
     have PV:((s.take at_).drop f).length=at_ - f:=AW;generalize hb:s.getD at_ 0=b at*;rw[y] at g;generalize a:(b.toNat:Int)=c at*;have sep:c=35∨c=32∨c=9->He (s.drop at_) none (acc++[(s.take at_).drop f])=He s none []:=by
       intro h;refine flush λ z E x=>?_;rw[y] at x;cases x;rw[a];exact h
     cases Wx:decide (c=35)
     . cases RY:decide (c=32)
       . cases i:decide (c=9)
         . have Tl:=Bh Wx;have PL:=Bh RY;have e:=Bh i;simp only[go_sem,Be,H9,Xt,FU,hb,a,Wx,RY,i];refine Cq (TV c) ?_;cases Xz:QR c
           . simp only[go_sem,Xz];refine Ds ?_;simp only[go_sem];rw[<-g];simp[He,a,Tl,PL,e,Xz,El]
           . cases Bjs:decide (((at_ - f:Nat):Int)=12)
             . have Asp:¬at_ - f=12:=by have:=Bh Bjs;omega
               simp only[go_sem,Xz,o,j,Bjs];refine k (true,at_+1,f,acc) _ ⟨by simp only;omega,by simp only;omega,(λ _=>by simp only;omega),by simp only;omega,?_⟩ (by simp only[B5];omega) ?_
               . rw[<-g];simp only[B5,m];simp[He,a,Tl,PL,e,Xz,PV,Asp]
               . (refine Wk.forget ?_;simp[ZF];done)
             . have Asp:at_ - f=12:=by have:=Bg Bjs;omega
               simp only[go_sem,Xz,o,j,Bjs];refine Ds ?_;simp only[go_sem];rw[<-g];simp[He,a,Tl,PL,e,Xz,PV,Asp,El]
         . simp only[go_sem,Be,H9,Xt,FU,hb,a,Wx,RY,i,DJ,u];refine ⟨⟨Lr _ _ rfl,AQ⟩,?_⟩;refine k (false,at_,f,acc++[(s.take at_).drop f]) _ ⟨l,PW,(λ h=>by cases h),by have:=ZY.2.2;have:=ZY.2.1;simp;omega,?_⟩ AT ?_
           . simp only[BY,Cy];exact sep (.inr (.inr (Bg i)))
           . (refine Wk.forget ?_;simp[ZF,GH,DJ];done)
       . simp only[go_sem,Be,H9,Xt,FU,hb,a,Wx,RY,DJ,u];refine ⟨⟨Lr _ _ rfl,AQ⟩,?_⟩;refine k (false,at_,f,acc++[(s.take at_).drop f]) _ ⟨l,PW,(λ h=>by cases h),by have:=ZY.2.2;have:=ZY.2.1;simp;omega,?_⟩ AT ?_
         . simp only[BY,Cy];exact sep (.inr (.inl (Bg RY)))
         . (refine Wk.forget ?_;simp[ZF,GH,DJ];done)
     . simp only[go_sem,Be,H9,Xt,FU,hb,a,Wx,DJ,u];refine ⟨⟨Lr _ _ rfl,AQ⟩,?_⟩;refine k (false,at_,f,acc++[(s.take at_).drop f]) _ ⟨l,PW,(λ h=>by cases h),by have:=ZY.2.2;have:=ZY.2.1;simp;omega,?_⟩ AT ?_
       . simp only[BY,Cy];exact sep (.inl (Bg Wx))
       . (refine Wk.forget ?_;simp[ZF,GH,DJ];done)
def Fp:Ae->Nat->AA->AA×Int×Int
 | [],_,acc=>(acc,0,0)
 | t::r,k,acc=>if (He t none []).2=0 then Fp r (k+1) (if 0<(He t none []).1.length then acc++[⟨(k:Nat),(He t none []).1⟩] else acc) else ([],(k:Nat),(He t none []).2)
def D1(s:Ad):AA×Int×Int:=if 6000<s.length then ([],0,1) else Fp (DB 10 s) 1 []
def PI(r:AA×Int×Int):D:= .Em [.p (.sl (Lh r.1)),.p (.int .i64 r.2.1),.p (.int .i64 r.2.2)]
theorem Nr(c)(l):∀x∈DB c l,x.length<=l.length:=by
 induction l with
 | nil=>simp[DB]
 | cons b r a=>
   intro x hx;simp only[DB] at hx;split at hx
   . rcases BU.1 hx with rfl | hx
     . simp
     . have:=a x hx;simp;omega
   . split at hx
     . simp at hx;subst hx;simp
     . rename_i y e h;rcases BU.1 hx with rfl | hx
       . have:=a y (by rw[h];simp);simp;omega
       . have:=a x (by rw[h];simp[hx]);simp;omega
theorem A0{p:Prop}(h:p:=by simp only;omega):p:=h
theorem Awq(s):C3 prog 24 [.p (.str s)] [] λ h r=>h=[]/\r=PI (D1 s):=by
 refine Dx func24 rfl Bg5 (by simp[Tryz.f24]) ?_;cases hlen:decide ((6000:Int)<(s.length:Int))
 . have l:s.length<=6000:=by have:=Bh hlen;omega
   have f:D1 s=Fp (DB 10 s) 1 []:=by unfold D1;rw[if_neg AQ]
   rw[f];simp only[go_sem,hlen];refine Cq (Bcd s 10 AQ) ?_;have g:=Nr 10 s;have k:=Ki 10 s;have PV:s.count 10<=s.length:=List.count_le_length;generalize x:DB 10 s=S at*;simp only[go_sem,DJ];refine Dq (λ q:Nat×AA=>⟨[(14,.ref 10014 0 S.length S.length),(15,iD (S.length:Nat)),(16,iD (q.1:Nat)),(5,rD 40 q.2)],[(10014,.arr 9 1 (El S)),(40,.arr 92 2 (Lh q.2))],43⟩)
     (λ q=>q.1<=S.length/\q.2.length<=q.1/\Fp (S.drop q.1) (q.1+1) q.2=Fp S 1 []) (λ q=>S.length - q.1) (0,[]) ⟨BQ _,AT,AT⟩ ((Wk.nil (t:=5) (q:=40) (sz:=2) 92 rfl rfl AV).trans (Wk.forget (by simp[ZF,Lh]))) ?_
   rintro ⟨i,acc⟩ n ⟨v,w,a⟩ o;simp only at v w a;simp only[go_sem];refine D5 (λ h2=>?_) (λ h2=>?_)
   . have Dv:i<S.length:=by simp at h2;omega
     have j:=DQ i AQ;have hb:=g _ (IE S i [] Dv);have Xt:(i:Int)<(S.length:Int):=AQ;have FU:(0:Int)<=(i:Int):=AQ;have u:=MP S i Dv;rw[Ia S i [] Dv] at a;generalize S.getD i []=t at*;simp only[go_sem,Be,DJ,u,Xt,FU];refine Cq (Bk7 t AQ) ?_;by_cases e:(He t none []).2=0
     . by_cases m:0<(He t none []).1.length
       . have b:(0:Int)<((He t none []).1.length:Int):=AQ;simp only[go_sem,e,j,DJ,GQ,b];refine ⟨⟨Lr _ _ rfl,AQ⟩,?_⟩;refine o (i+1,acc++[⟨(i+1:Nat),(He t none []).1⟩]) _ ⟨Dv,by simp only[Bw,Br,Bx];omega,by rw[<-a];simp only[Fp,e,m,B5]⟩ A0 ?_
         (refine Wk.forget ?_;simp[ZF,QA,GQ];done)
       . have b:¬(0:Int)<((He t none []).1.length:Int):=AQ;simp only[go_sem,e,j,DJ,b];refine o (i+1,acc) _ ⟨Dv,by simp only;omega,by rw[<-a];simp only[Fp,e,m,B5,Cy]⟩ A0 ?_
         (refine Wk.forget ?_;simp[ZF];done)
     . simp only[go_sem,e,j];refine Ds ?_;simp only[go_sem];rw[<-a];simp[Fp,e,PI,Lh]
   . simp only[go_sem];have Bob:i=S.length:=by simp at h2;omega
     subst Bob;refine Ds ?_;simp only[go_sem];rw[List.drop_length] at a;rw[<-a];simp[Fp,PI,GQ,Ai3]
 . have l:6000<s.length:=by have:=Bg hlen;omega
   have f:D1 s=([],0,1):=by unfold D1;rw[if_pos l]
   rw[f];simp only[go_sem,hlen];refine Ds ?_;simp only[go_sem];try simp[PI,Lh]
theorem Aqm(c):C3 prog 105 [.p (.int .u8 c)] [] λ h r=>h=[]/\r=bD (QR c):=by
 refine Dx func105 rfl Ba1 (by simp[Tryz.f105]) ?_;by_cases a:33<=c
 . have Hc:(32:Int)<c:=AQ;by_cases h2:c<=126
   . simp only[go_sem,a,h2];simp[QR,Hc,h2]
   . simp only[go_sem,a,h2];simp[QR,Hc,h2]
 . have Hc:¬(32:Int)<c:=AQ;simp only[go_sem,a];simp[QR,Hc]
def frI(f:Option Nat):Int:=match f with
 | none=>-1
 | some f=>(f:Nat)
def Zb(s:Ad)(i:Nat)(f:Option Nat):Option Ad:=f.map λ f=>(s.take i).drop f
theorem Adg(s)(I:s.length<=100000000):C3 prog 56 [.p (.str s)] [] λ h r=>h=[]/\r= .Em [sD (El (He s none []).1),iD (He s none []).2]:=by
 refine Dx func56 rfl Bfk (by simp[Tryz.f56]) ?_;simp only[go_sem];refine Dq (λ q:Nat×Option Nat×Ae=>⟨[(0,.p (.str s)),(4,rD 58 q.2.2),(5,iD (frI q.2.1)),(6,iD (q.1:Nat))],[(58,.arr 9 1 (El q.2.2))],61⟩)
   (λ q=>q.1<=s.length/\q.2.2.length<=q.1/\(∀f,q.2.1=some f->f<q.1/\q.1<=f+12/\q.2.2.length<=f)/\He (s.drop q.1) (Zb s q.1 q.2.1) q.2.2=He s none []) (λ q=>s.length+1 - q.1) (0,none,[])
   ⟨BQ _,AT,AT,by simp[Zb]⟩ ((Wk.nil (t:=4) (q:=58) (sz:=1) 9 rfl rfl AV).trans (Wk.forget (by simp[ZF,El,frI]))) ?_
 rintro ⟨i,w,acc⟩ n ⟨E,Ao2,o,g⟩ v;simp only at E Ao2 o g;have Xt:(i:Int)<=(s.length:Int):=AQ;have FU:(0:Int)<=(i:Int):=AQ;have u:i64.wrap ((i:Int)+1)=((i+1:Nat):Int):=by rw[C5]<;>omega
 have B:i64.wrap ((i:Int) - i)=0:=by rw[Int.sub_self];rfl
 simp only[go_sem,Xt];cases H9:decide ((i:Int)=(s.length:Int))
 . have Dv:i<s.length:=by have:=Bh H9;omega
   have Afr:(i:Int)<(s.length:Int):=AQ;rw[Ia s i 0 Dv] at g;have z:∀f,f<=i->(s.take (i+1)).drop f=(s.take i).drop f++[s.getD i 0]:=by
     intro f o;rw[CG Dv,List.drop_append_of_le_length AW];simp[List.getD,Dv]
   have Byh:(s.take (i+1)).drop i=[s.getD i 0]:=by rw[List.drop_take,Ia s i 0 Dv];simp
   generalize hb:s.getD i 0=b at*;generalize a:(b.toNat:Int)=c at*;cases Wx:decide (c=35)
   . have Tl:=Bh Wx;cases RY:decide (c=32)
     . have PL:=Bh RY;cases x:decide (c=9)
       . have e:=Bh x;simp only[go_sem,Be,Xt,Afr,FU,hb,a,H9,Wx,RY,x];refine Cq (Aqm c) ?_;cases Xz:QR c
         . simp only[go_sem,Xz];refine Ds ?_;simp only[go_sem];rw[<-g];simp[He,a,Tl,PL,e,Xz,El]
         . cases w with
           | none=>
             simp only[go_sem,Xz,frI,u,B];refine v (i+1,some i,acc) _ ⟨Dv,by simp only;omega,by intro f h;cases h;simp only;omega,?_⟩ A0 ?_
             . rw[<-g];simp only[Zb,Ci,Option.map_none,Byh];simp[He,a,Tl,PL,e,Xz]
             . (refine Wk.forget ?_;simp[ZF,frI];done)
           | some f=>
             obtain ⟨k,l,m⟩:=o f rfl;have Bln:¬(f:Int)<0:=AQ;have y:i64.wrap ((i:Int) - f)=((i - f:Nat):Int):=by rw[C5]<;>omega
             have PV:((s.take i).drop f).length=i - f:=AW;cases ZY:decide ((12:Int)<=((i - f:Nat):Int))
             . have Asp:¬i - f=12:=by have:=Bh ZY;omega
               simp only[go_sem,Xz,frI,Bln,u,y,ZY];refine v (i+1,some f,acc) _ ⟨Dv,by simp only;omega,by intro H h;cases h;have:=Bh ZY;simp only;omega,?_⟩ A0 ?_
               . rw[<-g];simp only[Zb,Ci,z f AQ];simp[He,a,Tl,PL,e,Xz,PV,Asp]
               . (refine Wk.forget ?_;simp[ZF,frI];done)
             . have Asp:i - f=12:=by have:=Bg ZY;omega
               simp only[go_sem,Xz,frI,Bln,y,ZY];refine Ds ?_;simp only[go_sem];rw[<-g];simp[He,Zb,a,Tl,PL,e,Xz,PV,Asp,El]
       . have e:=Bg x;cases w with
         | none=>
           simp only[go_sem,Be,Xt,Afr,FU,hb,a,H9,Wx,RY,x,frI,u];refine v (i+1,none,acc) _ ⟨Dv,by simp only;omega,(by intro f h;cases h),?_⟩ A0 ?_
           . rw[<-g];simp[He,Zb,a,e]
           . (refine Wk.forget ?_;simp[ZF,frI];done)
         | some f=>
           obtain ⟨k,l,m⟩:=o f rfl;have j:(0:Int)<=(f:Int)/\(f:Int)<=(i:Int)/\(i:Int)<=(s.length:Int):=AQ;simp only[go_sem,Be,Xt,Afr,FU,hb,a,H9,Wx,RY,x,frI,j,DJ,u];refine ⟨⟨Lr _ _ rfl,AQ⟩,?_⟩;refine v (i+1,none,acc++[(s.take i).drop f]) _ ⟨Dv,AW,(by intro f h;cases h),?_⟩ A0 ?_
           . rw[<-g];simp[He,Zb,a,e]
           . (refine Wk.forget ?_;simp[ZF,frI,GH,DJ];done)
     . have PL:=Bg RY;cases w with
       | none=>
         simp only[go_sem,Be,Xt,Afr,FU,hb,a,H9,Wx,RY,frI,u];refine v (i+1,none,acc) _ ⟨Dv,by simp only;omega,(by intro f h;cases h),?_⟩ A0 ?_
         . rw[<-g];simp[He,Zb,a,PL]
         . (refine Wk.forget ?_;simp[ZF,frI];done)
       | some f=>
         obtain ⟨k,l,m⟩:=o f rfl;have j:(0:Int)<=(f:Int)/\(f:Int)<=(i:Int)/\(i:Int)<=(s.length:Int):=AQ;simp only[go_sem,Be,Xt,Afr,FU,hb,a,H9,Wx,RY,frI,j,DJ,u];refine ⟨⟨Lr _ _ rfl,AQ⟩,?_⟩;refine v (i+1,none,acc++[(s.take i).drop f]) _ ⟨Dv,AW,(by intro f h;cases h),?_⟩ A0 ?_
         . rw[<-g];simp[He,Zb,a,PL]
         . (refine Wk.forget ?_;simp[ZF,frI,GH,DJ];done)
   . have Tl:=Bg Wx;cases w with
     | none=>
       simp only[go_sem,Be,Xt,Afr,FU,hb,a,H9,Wx,frI];refine Ds ?_;simp only[go_sem];rw[<-g];simp[He,Zb,a,Tl,DJ,L5]
     | some f=>
       obtain ⟨k,l,m⟩:=o f rfl;have j:(0:Int)<=(f:Int)/\(f:Int)<=(i:Int)/\(i:Int)<=(s.length:Int):=AQ;simp only[go_sem,Be,Xt,Afr,FU,hb,a,H9,Wx,frI,j,DJ];refine ⟨⟨Lr _ _ rfl,AQ⟩,Ds ?_⟩;simp only[go_sem,<-GH,DJ];rw[<-g];simp[He,Zb,a,Tl,L5,GH];exact BA (by simp[El])
 . have Bob:i=s.length:=by have:=Bg H9;omega
   rw[Cv AQ] at g;cases w with
   | none=>
     simp only[go_sem,Be,Xt,FU,H9,frI];refine Ds ?_;simp only[go_sem];rw[<-g];simp[He,Zb,DJ,L5]
   | some f=>
     obtain ⟨k,l,m⟩:=o f rfl;have j:(0:Int)<=(f:Int)/\(f:Int)<=(i:Int)/\(i:Int)<=(s.length:Int):=AQ;simp only[go_sem,Be,Xt,FU,H9,frI,j,DJ];refine ⟨⟨Lr _ _ rfl,AQ⟩,Ds ?_⟩;simp only[go_sem,<-GH,DJ];rw[<-g];simp[He,Zb,L5,GH];exact BA (by simp[El])
theorem Amv(c b)(r)(h:b≠c):∃x a,DB c r=x::a/\DB c (b::r)=(b::x)::a:=by
 cases e:DB c r with
 | nil=>exact (P9 c r e).elim
 | cons x a=>exact ⟨x,a,rfl,by simp[DB,h,e]⟩
def US(pre:Ad):Ae->Ae
 | []=>[pre]
 | x::a=>(pre++x)::a
theorem Yq(c)(r):US [] (DB c r)=DB c r:=by
 cases a:DB c r with
 | nil=>exact (P9 c r a).elim
 | cons x b=>simp[US]
theorem Avs(c)(pre r):US pre (DB c (c::r))=pre::DB c r:=by simp[DB,US]
theorem Ar4(c b)(pre r)(h:b≠c):US pre (DB c (b::r))=US (pre++[b]) (DB c r):=by
 obtain ⟨x,e,a,h2⟩:=Amv c b r h;rw[a,h2];simp[US]
theorem Avt(c)(pre):US pre (DB c [])=[pre]:=by simp[DB,US]
theorem Awp(s):C3 prog 26 [.p (.str s)] [] λ h r=>h=[]/\r=PI (D1 s):=by
 refine Dx func26 rfl Bg3 (by simp[Tryz.f26]) ?_;cases hlen:decide ((6000:Int)<(s.length:Int))
 . have v:s.length<=6000:=by have:=Bh hlen;omega
   have k:D1 s=Fp (DB 10 s) 1 []:=by unfold D1;rw[if_neg AQ]
   rw[k];clear k;simp only[go_sem,hlen];refine Dq (λ q:Nat×Nat×Nat×AA=>⟨[(0,.p (.str s)),(5,rD 50 q.2.2.2),(6,iD (q.2.1:Nat)),(7,iD (q.2.2.1:Nat)),(8,iD (q.1:Nat))],[(50,.arr 92 2 (Lh q.2.2.2))],56⟩)
     (λ q=>(q.1<=s.length+1/\q.2.1<=q.1+1/\q.2.2.2.length<=q.1)/\((q.1<=s.length/\q.2.2.1<=q.1/\Fp (US ((s.take q.1).drop q.2.2.1) (DB 10 (s.drop q.1))) q.2.1 q.2.2.2=Fp (DB 10 s) 1 [])∨(q.1=s.length+1/\Fp [] q.2.1 q.2.2.2=Fp (DB 10 s) 1 []))) (λ q=>s.length+1 - q.1) (0,1,0,[])
     ⟨⟨AT,AT,AT⟩,.inl ⟨AT,AT,by simp[Yq]⟩⟩ ((Wk.nil (t:=5) (q:=50) (sz:=2) 92 rfl rfl AV).trans (Wk.forget (by simp[ZF,Lh]))) ?_
   rintro ⟨i,num,j,acc⟩ n ⟨⟨y,Byt,Ao2⟩,a⟩ o;simp only at y Byt Ao2 a;have FU:(0:Int)<=(i:Int):=AQ;have m:i64.wrap ((i:Int)+1)=((i+1:Nat):Int):=by rw[C5]<;>omega
   have g:i64.wrap ((num:Int)+1)=((num+1:Nat):Int):=by rw[C5]<;>omega
   rcases a with ⟨Xt,x,a⟩ | ⟨Xt,a⟩
   . have Ax4:(i:Int)<=(s.length:Int):=AQ;have Bs7:(0:Int)<=(j:Int)/\(j:Int)<=(i:Int)/\(i:Int)<=(s.length:Int):=AQ;have HK:((s.take i).drop j).length<=100000000:=AW;simp only[go_sem,Ax4];cases H9:decide ((i:Int)<(s.length:Int));rotate_left
     . have Dv:i<s.length:=by have:=Bg H9;omega
       have Afr:(i:Int)<(s.length:Int):=AQ;have u:(s.take (i+1)).drop j=(s.take i).drop j++[s.getD i 0]:=by
         rw[CG Dv,List.drop_append_of_le_length AW];simp[List.getD,Dv]
       rw[Ia s i 0 Dv] at a;generalize hb:s.getD i 0=b at*;cases XB:decide ((b.toNat:Int)=10)
       . have Boh:b≠10:=by rintro rfl;simp at XB
         simp only[go_sem,Be,Ax4,Afr,FU,hb,H9,XB,m];rw[Ar4 _ _ _ _ Boh,<-u] at a;refine o (i+1,num,j,acc) _ ⟨⟨by simp only;omega,by simp only;omega,by simp only;omega⟩,.inl ⟨Dv,by simp only;omega,a⟩⟩ A0 ?_
         (refine Wk.forget ?_;simp[ZF];done)
       . have Boh:b=10:=by
           have:=Bg XB;exact UInt8.toNat_inj.1 AW
         subst Boh;rw[Avs] at a;simp only[go_sem,Be,Ax4,Afr,FU,hb,H9,XB,Bs7];refine Cq (Adg _ HK) ?_;generalize (s.take i).drop j=t at*;by_cases f:(He t none []).2=0
         . by_cases l:0<(He t none []).1.length
           . have e:(0:Int)<((He t none []).1.length:Int):=AQ;simp only[go_sem,f,m,g,DJ,GQ,e];refine ⟨⟨Lr _ _ rfl,AQ⟩,?_⟩;refine o (i+1,num+1,i+1,acc++[⟨(num:Nat),(He t none []).1⟩]) _ ⟨⟨by simp only;omega,by simp only;omega,AW⟩,.inl ⟨Dv,AT,?_⟩⟩ A0 ?_
             . rw[<-a];simp[Fp,f,l,Yq]
             . (refine Wk.forget ?_;simp[ZF,QA,GQ];done)
           . have e:¬(0:Int)<((He t none []).1.length:Int):=AQ;simp only[go_sem,f,m,g,DJ,e];refine o (i+1,num+1,i+1,acc) _ ⟨⟨by simp only;omega,by simp only;omega,by simp only;omega⟩,.inl ⟨Dv,AT,?_⟩⟩ A0 ?_
             . rw[<-a];simp[Fp,f,l,Yq]
             . (refine Wk.forget ?_;simp[ZF];done)
         . simp only[go_sem,f];refine Ds ?_;simp only[go_sem];rw[<-a];simp[Fp,f,PI,Lh]
     . have Bob:i=s.length:=by have:=Bh H9;omega
       rw[show s.drop i=[] from Cv AQ,Avt] at a;simp only[go_sem,Be,Ax4,FU,H9,Bs7];refine Cq (Adg _ HK) ?_;generalize (s.take i).drop j=t at*;by_cases f:(He t none []).2=0
       . by_cases l:0<(He t none []).1.length
         . have e:(0:Int)<((He t none []).1.length:Int):=AQ;simp only[go_sem,f,m,g,DJ,GQ,e];refine ⟨⟨Lr _ _ rfl,AQ⟩,?_⟩;refine o (i+1,num+1,i+1,acc++[⟨(num:Nat),(He t none []).1⟩]) _ ⟨⟨by simp only;omega,by simp only;omega,AW⟩,.inr ⟨by simp only;omega,?_⟩⟩ A0 ?_
           . rw[<-a];simp[Fp,f,l]
           . (refine Wk.forget ?_;simp[ZF,QA,GQ];done)
         . have e:¬(0:Int)<((He t none []).1.length:Int):=AQ;simp only[go_sem,f,m,g,DJ,e];refine o (i+1,num+1,i+1,acc) _ ⟨⟨by simp only;omega,by simp only;omega,by simp only;omega⟩,.inr ⟨by simp only;omega,?_⟩⟩ A0 ?_
           . rw[<-a];simp[Fp,f,l]
           . (refine Wk.forget ?_;simp[ZF];done)
       . simp only[go_sem,f];refine Ds ?_;simp only[go_sem];rw[<-a];simp[Fp,f,PI,Lh]
   . have Ax4:¬(i:Int)<=(s.length:Int):=AQ;simp only[go_sem,Ax4];refine Ds ?_;simp only[go_sem];rw[<-a];simp[Fp,PI,GQ,Ai3]
 . have v:6000<s.length:=by have:=Bg hlen;omega
   have w:D1 s=([],0,1):=by unfold D1;rw[if_pos v]
   rw[w];simp only[go_sem,hlen];refine Ds ?_;simp only[go_sem];try simp[PI,Lh]
theorem Abo(c:UInt8)(t:Ad):∀s:Ad,DB c (s++c::t)=DB c s++DB c t
 | []=>by simp[DB]
 | b::r=>by
   have a:=Abo c t r;simp only[Ce,DB];split
   . rw[a];rfl
   . rw[a];cases e:DB c r with
     | nil=>exact (P9 c r e).elim
     | cons x f=>rfl
theorem Akq:∀(t:Ad) (c:Option Ad) (acc:Ae),(He t c acc).1.length<=acc.length+c.toList.length+t.length
 | [],none,acc=>by simp[He]
 | [],some cur,acc=>by simp[He]
 | b::r,c,acc=>by
   simp only[He];split
   . simp
   . split
     . have:=Akq r none (acc++c.toList);simp at this ⊢;omega
     . split
       . split
         . simp
         . have:=Akq r (some (c.getD []++[b])) acc;simp at this ⊢;omega
       . simp
theorem Ph(B):∀(S:Ae) (k:Nat) (acc:AA),(∀t∈S,t.length<=B)->(∀x∈acc,x.fs.length<=B)->
   (Fp S k acc).1.length<=acc.length+S.length/\∀x∈(Fp S k acc).1,x.fs.length<=B
 | [],k,acc,_,h=>by simpa [Fp] using h
 | t::r,k,acc,b,h=>by
   simp only[Fp];split
   . have f:(He t none []).1.length<=B:=by
       have e:=Akq t none [];have h2:=b t AT;simp at e;omega
     have a:=Ph B r (k+1) (if 0<(He t none []).1.length then acc++[⟨(k:Nat),(He t none []).1⟩] else acc) (λ y g=>b y (by simp[g])) (λ x hx=>by
       split at hx
       . simp only[BC,BF] at hx;rcases hx with hx | rfl
         . exact h x hx
         . exact f
       . exact h x hx)
     have i:(if 0<(He t none []).1.length then acc++[⟨(k:Nat),(He t none []).1⟩] else acc).length<=acc.length+1:=by split<;>simp
     have j:=a.1;exact ⟨by simp only[Br];omega,a.2⟩
   . simp
theorem Akv(s):(D1 s).1.length<=10000000/\∀x∈(D1 s).1,x.fs.length<=10000000:=by
 unfold D1;split
 . simp
 . rename_i h;have e:=Ki 10 s;have h2:s.count 10<=s.length:=List.count_le_length;have a:=Ph 6000 (DB 10 s) 1 [] (λ t b=>by have:=Nr 10 s t b;omega) AT;refine ⟨by have:=a.1;simp at this;omega,λ x hx=>by have:=a.2 x hx;omega⟩
def Ik(n:Nat):Ad:=if h:n<10 then [UInt8.ofNat (48+n)] else Ik (n / 10)++[UInt8.ofNat (48+n % 10)]
termination_by n
decreasing_by omega
def MR(n:Int):Ad:=if n<0 then 45::Ik (-n).toNat else Ik n.toNat
theorem Hi(n)(h:n<10):Ik n=[UInt8.ofNat (48+n)]:=by rw[Ik,dif_pos h]
theorem QL(n)(h:¬n<10):Ik n=Ik (n / 10)++[UInt8.ofNat (48+n % 10)]:=by rw[Ik,dif_neg h]
theorem J6:∀(k n:Nat),n<10 ^ (k+1)->(Ik n).length<=k+1
 | 0,n,h=>by rw[Hi n (by simpa using h)];simp
 | k+1,n,h=>by
   by_cases a:n<10
   . rw[Hi n a];simp
   . have:=J6 k (n / 10) (by rw[Nat.pow_succ] at h;omega);rw[QL n a];simp;omega
theorem Uv(n)(u:n<=1000000000000000):C3 prog 15 [iD (n:Nat)] [] λ h r=>h=[]/\r= .p (.str (Ik n)):=by
 refine Dx func15 rfl Aox (by simp[Tryz.f15]) ?_;have hlen:=J6 15 n AQ;have e:¬(n:Int)<0:=AQ;simp only[go_sem,e];refine Dq (λ q:Nat×Ad=>⟨[(0,.p (.int .i64 (q.1:Nat))),(3,.p (.str q.2))],[],23⟩) (λ q=>q.1<=n/\Ik q.1++q.2=Ik n) (λ q=>q.1) (n,[]) ⟨Bk _,AT⟩ (Wk.forget (by simp[ZF])) ?_;rintro ⟨m,s⟩ k ⟨f,b⟩ i;simp only at f b;have Ao0:(m:Int).tmod 10=((m % 10:Nat):Int):=by rw[Int.tmod_eq_emod_of_nonneg AQ];omega
 have hdiv:(m:Int).tdiv 10=((m / 10:Nat):Int):=by rw[Int.tdiv_eq_ediv_of_nonneg AQ];omega
 have j:i64.wrap (48+((m % 10:Nat):Int))=48+((m % 10:Nat):Int):=by rw[C5]<;>omega
 have o:IntKind.u8.wrap (48+((m % 10:Nat):Int))=((UInt8.ofNat (48+m % 10)).toNat:Int):=by rw[IntKind.wrap_u8];simp
 have t:i64.wrap ((m / 10:Nat):Int)=((m / 10:Nat):Int):=by rw[C5]<;>omega
 have Bll:¬(10:Int)=0:=AV;have g:s.length<=20:=by have:=B3 List.length b;simp at this;omega
 simp only[go_sem,Ao0,hdiv,j,o,Bll];refine Bpy (l:=[UInt8.ofNat (48+m % 10)]) rfl Bna ti9 ti5 rfl rfl ?_;simp only[go_sem,Ao0,hdiv,t,Bll];refine ⟨by unfold maxLen;omega,?_⟩;refine D5 (λ h2=>?_) (λ h2=>?_)
 . simp only[go_sem];have a:m<10:=by simp at h2;omega
   rw[<-b,Hi m a,Nat.mod_eq_of_lt a];rfl
 . have a:¬m<10:=by simp at h2;omega
   simp only[go_sem];refine i (m / 10,[UInt8.ofNat (48+m % 10)]++s) _ ⟨by simp only;omega,by rw[<-b,QL m a];simp⟩ A0 ?_
   (refine Wk.forget ?_;simp[ZF];done)
theorem Bao(n)(h0:-1000000000000000<=n)(e:n<=1000000000000000):C3 prog 15 [iD n] [] λ h r=>h=[]/\r= .p (.str (MR n)):=by
 by_cases a:n<0
 . refine Dx func15 rfl Aox (by simp[Tryz.f15]) ?_;have b:i64.wrap (0 - n)=(((-n).toNat:Nat):Int):=by rw[C5]<;>omega
   have hlen:=J6 15 (-n).toNat AQ;simp only[go_sem,a,b];refine Cq (Uv (-n).toNat AQ) ?_;simp only[go_sem];refine ⟨by unfold maxLen;omega,?_⟩;(try simp only[go_sem]);simp[MR,a]
 . have:=Uv n.toNat AQ;rw[show ((n.toNat:Nat):Int)=n by omega] at this;refine this.mono ?_;rintro h r ⟨rfl,rfl⟩;exact ⟨rfl,by simp[MR,a]⟩
theorem Al6(k:Nat)(h:k<10):((UInt8.ofNat (48+k)).toNat:Int)=48+k:=AW
theorem XZ(k:Nat):∀n:Nat,n<10 ^ (k+1)->F4 (Ik n)=(n:Int)/\Ni (Ik n)=true/\Ik n≠[]/\(n≠0->(((Ik n).getD 0 0).toNat:Int)≠48):=by
 induction k with
 | zero=>
   intro n h;have a:n<10:=by simpa using h
   rw[Hi n a];refine ⟨by simp[F4];omega,by simp[Ni,OY];omega,AT,λ h2=>?_⟩;simp only[BO,Al6 n a];omega
 | succ k j=>
   intro n h;by_cases a:n<10
   . rw[Hi n a];refine ⟨by simp[F4];omega,by simp[Ni,OY];omega,AT,λ h2=>?_⟩;simp only[BO,Al6 n a];omega
   . obtain ⟨b,e,g,i⟩:=j (n / 10) (by rw[Nat.pow_succ] at h;omega);rw[QL n a];have XB:n % 10<10:=Nat.mod_lt _ AV;refine ⟨?_,?_,AT,λ _=>?_⟩
     . unfold F4 at b ⊢;rw[List.foldl_append,b];simp only[List.foldl_cons,List.foldl_nil,Al6 _ XB];omega
     . unfold Ni at e ⊢;rw[List.all_append,e];simp only[List.all_cons,List.all_nil,Al6 _ XB];simp[OY];omega
     . have:(Ik (n / 10)++[UInt8.ofNat (48+n % 10)]).getD 0 0=(Ik (n / 10)).getD 0 0:=by
         cases f:Ik (n / 10) with
         | nil=>exact (g f).elim
         | cons x l=>rfl
       rw[this];exact i AQ
theorem Av5:∀(k n:Nat),10 ^ k<=n->k+1<=(Ik n).length
 | 0,n,h=>by
   by_cases a:n<10
   . rw[Hi n a];simp
   . rw[QL n a];simp
 | k+1,n,h=>by
   have a:¬n<10:=by rw[Nat.pow_succ] at h;have:=Nat.one_le_pow k 10 AV;omega
   have:=Av5 k (n / 10) (by rw[Nat.pow_succ] at h;omega);rw[QL n a];simp;omega
theorem Ace(neg:Bool)(n:Nat)(h:n<1000000)(h0:neg=true->n≠0):numOf neg (Ik n)=if n<=9999 then (if neg then 0 - (n:Int) else n,true) else (0,false):=by
 obtain ⟨l,h2,m,i⟩:=XZ 5 n AQ;have hlen:(Ik n).length<=4↔n<=9999:=by
   constructor
   . intro a;by_cases j:n<=9999
     . exact j
     . have:=Av5 4 n AQ;omega
   . intro a;exact J6 3 n AQ
 cases g:Ik n with
 | nil=>exact (m g).elim
 | cons b r=>
   rw[g] at l h2 i hlen;simp only[Br,BO] at hlen i;by_cases a:n<=9999
   . have k:¬4<r.length+1:=by have:=hlen.2 a;omega
     have hb:¬((b.toNat:Int)=48/\(neg=true∨1<r.length+1)):=by
       rintro ⟨j,e⟩;have f:n=0:=Classical.byContradiction λ o=>i o j;rcases e with e | e
       . exact h0 e f
       . subst f;rw[Hi 0 AV] at g;cases g;simp at e
     rw[if_pos a];simp only[numOf,k,hb,or_self,Cy,h2,B5,l]
   . have k:4<r.length+1:=AQ;rw[if_neg a];simp only[numOf,k,true_or,B5]
theorem Atj(n:Nat)(h:n<1000000):∃b r,Ik n=b::r/\b≠45:=by
 obtain ⟨_,h2,e,_⟩:=XZ 5 n AQ;cases a:Ik n with
 | nil=>exact (e a).elim
 | cons b r=>
   rw[a] at h2;refine ⟨b,r,rfl,?_⟩;rintro rfl;simp[Ni,OY] at h2
theorem Awi(n:Int)(k:-1000000<n)(h2:n<1000000):Hw (MR n)=if -9999<=n/\n<=9999 then (n,true) else (0,false):=by
 unfold MR;by_cases g:n<0
 . rw[if_pos g];have f:OX (45::Ik (-n).toNat) [45]=true:=by simp[OX]
   unfold Hw;rw[if_pos f];simp only[List.drop_succ_cons,List.drop_zero];rw[Ace true _ AQ (λ _=>AQ)];by_cases i:-9999<=n
   . have a:(-n).toNat<=9999:=AQ;have e:-9999<=n/\n<=9999:=AQ;rw[if_pos a,if_pos e];simp;omega
   . have a:¬(-n).toNat<=9999:=AQ;have e:¬(-9999<=n/\n<=9999):=AQ;rw[if_neg a,if_neg e]
 . rw[if_neg g];obtain ⟨b,r,j,hb⟩:=Atj n.toNat AQ;have f:OX (Ik n.toNat) [45]=false:=by rw[j];simp[OX,hb]
   unfold Hw;rw[f];simp only[BY,Cy];rw[Ace false _ AQ (λ h=>by cases h)];by_cases i:n<=9999
   . have a:n.toNat<=9999:=AQ;have e:-9999<=n/\n<=9999:=AQ;rw[if_pos a,if_pos e];simp;omega
   . have a:¬n.toNat<=9999:=AQ;have e:¬(-9999<=n/\n<=9999):=AQ;rw[if_neg a,if_neg e]
theorem Bgp(n:Int)(b:-1000000<n)(h2:n<1000000):(MR n).length<=7/\MR n≠[]:=by
 unfold MR;split
 . have:=J6 5 (-n).toNat AQ;simp;omega
 . have e:=J6 5 n.toNat AQ;have a:=(XZ 5 n.toNat AQ).2.2.1;exact ⟨AQ,a⟩
def XF{α:Type}(p:α->Bool):Nat->List α->Int
 | _,[]=>-1
 | k,x::r=>if p x then (k:Int) else XF p (k+1) r
def Io(s:Ad):Bool:=decide (s≠[])&&(decide (s.length<=12)&&s.all λ b=>QR b.toNat)
def Ad9:Int->AA->Bool
 | _,[]=>true
 | last,x::r=>decide (last<x.num)&&(decide (x.fs≠[])&&(x.fs.all Io&&Ad9 x.num r))
def Ej:Ae->Ad
 | []=>[]
 | x::r=>x++r.flatMap λ y=>32::y
def ZA:Nat->AA->Ad
 | _,[]=>[]
 | k,x::r=>List.replicate (x.num.toNat - k) 10++(Ej x.fs++10::ZA (x.num.toNat+1) r)
def szF:Ae->Nat
 | []=>0
 | s::r=>s.length+1+szF r
theorem Ad8{last:Int}{x:Ln}{r:AA}:Ad9 last (x::r)=true↔last<x.num/\x.fs≠[]/\(∀s∈x.fs,Io s=true)/\Ad9 x.num r=true:=by
 simp only[Ad9,Bz,BI,BB]
theorem KC{s}:Io s=true↔s≠[]/\s.length<=12/\∀b∈s,QR b.toNat=true:=by
 simp only[Io,Bz,BI,BB]
theorem Bee(r):(r.flatMap λ y=>32::y).length=szF r:=by
 induction r with
 | nil=>rfl
 | cons x r a=>simp[szF,a];omega
theorem Ab4:∀a:Ae,a≠[]->(Ej a).length+1=szF a
 | [],h=>(h rfl).elim
 | x::r,_=>by simp only[Ej,szF,Bw,Bee];omega
theorem Ali{b:UInt8}(h:QR b.toNat=true):¬(b.toNat:Int)=35/\¬(b.toNat:Int)=32/\¬(b.toNat:Int)=9/\b≠10/\b≠35:=by
 unfold QR at h;simp only[Bz,BI,Bool.not_eq_true',decide_eq_false_iff_not] at h;refine ⟨AQ,AQ,AQ,?_,?_⟩
 . rintro rfl;simp at h
 . rintro rfl;simp at h
theorem Bec:∀(s t cur:Ad) (acc:Ae),(∀b∈s,QR b.toNat=true)->cur.length+s.length<=12->He (s++t) (some cur) acc=He t (some (cur++s)) acc
 | [],t,cur,acc,_,_=>AT
 | b::r,t,cur,acc,h,f=>by
   have hb:=h b AT;obtain ⟨a,h2,e,_,_⟩:=Ali hb;simp only[Br] at f;simp only[Ce,He,a,h2,e,hb,B5,Cy,or_self,BP];rw[if_neg AQ,Bec r t (cur++[b]) acc (λ x hx=>h x (by simp[hx])) AW];simp
theorem Ao9(s t:Ad)(acc:Ae)(h:Io s=true):He (s++t) none acc=He t (some s) acc:=by
 obtain ⟨e,h2,a⟩:=KC.1 h;cases s with
 | nil=>exact (e rfl).elim
 | cons b r=>
   obtain ⟨f,g,i,_,_⟩:=Ali (a b AT);rw[List.cons_append,Ax8 _ _ _ f g i,<-List.cons_append,Bec _ _ _ _ a (by simpa using h2)];simp
theorem Aoa:∀(r:Ae) (s:Ad) (acc:Ae),(∀y∈r,Io y=true)->He (r.flatMap λ y=>32::y) (some s) acc=(acc++s::r,0)
 | [],s,acc,_=>by simp[He]
 | y::r,s,acc,h=>by
   have a:((32:UInt8).toNat:Int)=32:=rfl;simp only[List.flatMap_cons,Ce,He,a];rw[if_neg AV,if_pos (Or.inl trivial),Ao9 _ _ _ (h y AT),Aoa r y _ (λ x hx=>h x (by simp[hx]))];simp
theorem Ahh:∀a:Ae,a≠[]->(∀s∈a,Io s=true)->He (Ej a) none []=(a,0)
 | [],h,_=>(h rfl).elim
 | x::r,_,h=>by
   simp only[Ej];rw[Ao9 _ _ _ (h x AT),Aoa r x [] (λ y b=>h y (by simp[b]))];simp
theorem YC(c:UInt8):∀w:Ad,c∉w->DB c w=[w]
 | [],_=>rfl
 | b::r,h=>by
   have a:b≠c:=λ e=>h (by simp[e]);simp only[DB,if_neg a,YC c r (λ e=>h (by simp[e]))]
theorem Arp(c:UInt8)(w t:Ad)(h:c∉w):DB c (w++c::t)=w::DB c t:=by
 rw[Abo,YC c w h];rfl
theorem As4{b:UInt8}:∀{a:Ae},b∈Ej a->b=32∨∃s∈a,b∈s
 | [],h=>by simp[Ej] at h
 | x::r,h=>by
   simp only[Ej,BC,List.mem_flatMap,BU] at h;rcases h with h | ⟨y,e,h | h⟩
   . exact .inr ⟨x,AT,h⟩
   . exact .inl h
   . exact .inr ⟨y,by simp[e],h⟩
theorem Am3{a:Ae}(h:∀s∈a,Io s=true):(10:UInt8)∉Ej a/\(35:UInt8)∉Ej a:=by
 constructor<;>intro e;all_goals
   rcases As4 e with b | ⟨s,f,b⟩
   . cases b
   . have h2:=Ali ((KC.1 (h s f)).2.2 _ b);first | exact h2.2.2.2.1 rfl | exact h2.2.2.2.2 rfl
theorem Abt:∀(n:Nat) (t:Ad) (k:Nat) (acc:AA),Fp (DB 10 (List.replicate n 10++t)) k acc=Fp (DB 10 t) (k+n) acc
 | 0,t,k,acc=>AT
 | n+1,t,k,acc=>by
   simp only[List.replicate_succ,Ce,DB,B5,Fp,He,Bx,Nat.lt_irrefl,Cy];rw[Abt n t (k+1) acc,Nat.add_assoc,Nat.add_comm 1 n]
theorem Agn:∀(l:AA) (k:Nat) (acc:AA),Ad9 k l=true->Fp (DB 10 (ZA (k+1) l)) (k+1) acc=(acc++l,0,0)
 | [],k,acc,_=>by simp[ZA,DB,Fp,He]
 | x::r,k,acc,h=>by
   obtain ⟨g,h2,e,i⟩:=Ad8.1 h;obtain ⟨num,f⟩:=x;obtain ⟨n,rfl⟩:∃n:Nat,num=(n:Int):=⟨num.toNat,by simp only at g;omega⟩;simp only at g h2 e i;simp only[ZA,Be];rw[Abt,Arp 10 _ _ (Am3 e).1,show k+1+(n - (k+1))=n by omega];simp only[Fp,Ahh f h2 e,B5];rw[if_pos (by cases f with | nil=>exact (h2 rfl).elim | cons a b=>simp),Agn r n _ i];simp
theorem Aoe(l:AA)(h:Ad9 0 l=true)(a:(ZA 1 l).length<=6000):D1 (ZA 1 l)=(l,0,0):=by
 unfold D1;rw[if_neg AQ];have:=Agn l 0 [] h
 simpa using this
end Go.Am
end
