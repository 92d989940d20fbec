/- Texts of this proof, what it rests on, merged: part F. -/
import Derived.Lib.Bytealg
import Derived.Laws.Externs
import Derived.Test.YtlfbkkljgighkaaGreatDoorSpE
noncomputable section
namespace Go.Am
open Go Go.Proofs
open Go.IntKind (i64)
open Tryz
set_option maxRecDepth 100000
set_option linter.unusedVariables false
set_option linter.unusedSimpArgs false
set_option maxHeartbeats 2000000
def D4(c:UInt8):Ac->Ai
 | []=>[[]]
 | b::r=>if b=c then []::D4 c r else match D4 c r with
   | []=>[[b]]
   | x::a=>(b::x)::a
theorem Uj(c)(l):D4 c l≠[]:=by
 cases l with
 | nil=>simp[D4]
 | cons b r=>
   simp only[D4];split
   . simp
   . split<;>simp
theorem LV(c)(l):(D4 c l).length=l.count c+1:=by
 induction l with
 | nil=>simp[D4]
 | cons b r a=>
   simp only[D4];split
   . rename_i h;subst h;simp[a]
   . rename_i h;rw[List.count_cons_of_ne h];cases e:D4 c r with
     | nil=>exact (Uj c r e).elim
     | cons x f=>rw[e] at a;simpa using a
theorem Oi(c):∀(l:Ac),(Lib.indexByte l c=-1/\D4 c l=[l])∨∃m:Nat,Lib.indexByte l c=(m:Int)/\m<l.length/\D4 c l=l.take m::D4 c (l.drop (m+1))
 | []=> .inl ⟨rfl,rfl⟩
 | b::r=>by
   simp only[Lib.indexByte];by_cases h:b=c
   . subst h;exact .inr ⟨0,AT,AT,by simp[D4]⟩
   . rcases Oi c r with ⟨a,h2⟩ | ⟨m,a,h2,e⟩
     . refine .inl ⟨by simp[h,a],by simp[D4,h,h2]⟩
     . refine .inr ⟨m+1,by simp[h,a],AW,by simp[D4,h,e]⟩
theorem Bk4(l)(c):C4 prog 228 [.p (.str l),.p (.int .u8 c)] [] λ h r=>h=[]/\r=iD (Lib.indexByte l c.toNat.toUInt8):=by
 refine Afp (run_callFunc_extern func228 AX AX AX (e:=Extern.BytealgIndexByte.indexByte) AX) ?_;intro g w F M i;obtain ⟨j,h⟩:=i;obtain ⟨b,f,rfl⟩:∃b f,g=#[b,f]:=by
   match g,j with
   | ⟨[b,f]⟩,_=>exact ⟨b,f,rfl⟩
 have a:=h 0 _ rfl;have h2:=h 1 _ rfl;simp only[BS,List.getD_cons_succ] at a h2;cases a with | p a=>cases a with | str=>
 cases h2 with | p h2=>cases h2 with | int=>
 exact ⟨_,_,Lib.run_indexByteString _ _ _,.p (.int _ _),rfl,rfl⟩
theorem Bkx(l)(c):C4 prog 198 [.p (.str l),.p (.int .u8 c)] [] λ h r=>h=[]/\r=iD (Lib.countByte l c.toNat.toUInt8:Nat):=by
 refine Afp (run_callFunc_extern func198 AX AX AX (e:=Extern.BytealgCount.count) AX) ?_;intro g w F M i;obtain ⟨j,h⟩:=i;obtain ⟨b,f,rfl⟩:∃b f,g=#[b,f]:=by
   match g,j with
   | ⟨[b,f]⟩,_=>exact ⟨b,f,rfl⟩
 have a:=h 0 _ rfl;have h2:=h 1 _ rfl;simp only[BS,List.getD_cons_succ] at a h2;cases a with | p a=>cases a with | str=>
 cases h2 with | p h2=>cases h2 with | int=>
 exact ⟨_,_,Lib.run_countString _ _ _,.p (.int _ _),rfl,rfl⟩
theorem Blt(c):((c.toNat:Int)).toNat.toUInt8=c:=AT
theorem Bhl(l)(c):C4 prog 155 [.p (.str l),.p (.str [c])] [] λ h r=>h=[]/\r=iD (l.count c:Nat):=by
 refine Dw func155 rfl Azi (by simp[Tryz.f155]) ?_;have a:(0:Int)<1:=AV;simp only[go_sem,BS];refine Cq (Bkx l c.toNat) ?_;simp only[go_sem,Blt];rfl
theorem Axh(l)(c):C4 prog 199 [.p (.str l),.p (.str [c])] [] λ h r=>h=[]/\r=iD (Lib.indexByte l c):=by
 refine Dw func199 rfl Ayg (by simp[Tryz.f199]) ?_;cases a:decide ([c]=l)
 . simp only[go_sem,a,BS];refine GJ (?_:C4 prog 216 _ _ λ h r=>h=[]/\r=iD (Lib.indexByte l c)) ?_
   . refine Dw func216 rfl Ay2 (by simp[Tryz.f216]) ?_;simp only[go_sem];refine Cq (Bk4 l c.toNat) ?_;simp only[go_sem,Blt]
   . rintro b r ⟨rfl,rfl⟩;simp only[go_sem]
 . simp only[go_sem,a];have:l=[c]:=by simpa using (Bg a).symm
   subst this;simp[Lib.indexByte]
theorem Bdw(l)(c):C4 prog 156 [.p (.str l),.p (.str [c])] [] λ h r=>h=[]/\r=iD (Lib.indexByte l c):=by
 refine Dw func156 rfl Azh (by simp[Tryz.f156]) ?_;simp only[go_sem];refine Cq (Axh l c) ?_;simp only[go_sem]
theorem Av0(a r)(y x:Ac):(a++y::r).set a.length x=(a++[x])++r:=by
 rw[List.set_append_right _ _ (Bk _),Nat.sub_self,BT,Cw];rfl
theorem Bh8(n):Eg (List.replicate n [])=List.replicate n [.str []]:=by simp[Eg]
theorem Aoo(l)(c)(Y:l.length<=100000000):C4 prog 101 [.p (.str l),.p (.str [c]),iD 0,iD (-1)] [] λ h r=>h=[(0,.arr 9 1 (Eg (D4 c l)))]/\r= .ref 0 0 (D4 c l).length (D4 c l).length:=by
 refine Dw func101 rfl Bap (by simp[Tryz.f101]) ?_;have y:=LV c l;have W:l.count c<=l.length:=List.count_le_length;have K:i64.wrap ((l.count c:Nat)+1)=(((D4 c l).length:Nat):Int):=by rw[y,C6]<;>omega
 have N:i64.wrap ((l.length:Int)+1)=(l.length:Int)+1:=by rw[C6]<;>omega
 have Q:¬(l.length:Int)+1<(((D4 c l).length:Nat):Int):=AQ;have R:i64.wrap ((((D4 c l).length:Nat):Int) - 1)=((l.count c:Nat):Int):=by rw[y,C6]<;>omega
 simp only[go_sem];refine Cq (Bhl l c) ?_;simp only[go_sem,K,N,Q,R,Be];refine ⟨AQ,?_⟩;generalize B:D4 c l=S at*;refine Dm (λ q:Ai×Ac=>⟨[(0,.p (.str q.2)),(1,.p (.str [c])),(2,iD 0),(3,iD (l.count c:Nat)),(9,.ref 31 0 S.length S.length),(10,iD (q.1.length:Nat))],[(31,.arr 9 1 (Eg (q.1++List.replicate (S.length - q.1.length) [])))],66⟩)
   (λ q=>S=q.1++D4 c q.2/\q.2.length<=l.length) (λ q=>S.length - q.1.length) ([],l) ⟨by simp[B],AT⟩ (Wk.forget (by simp[ZF,Bh8])) ?_
 rintro ⟨a,t⟩ n ⟨b,H⟩ I;simp only at b H;have u:=B3 List.length b;rw[Bw,LV] at u;simp only[go_sem];refine D2 (λ h2=>?_) (λ h2=>?_)
 . have Dv:a.length<l.count c:=by simp at h2;omega
   simp only[go_sem];refine Cq (Bdw t c) ?_;rcases Oi c t with ⟨f,e⟩ | ⟨m,f,e,g⟩
   . rw[e] at b;have:=B3 List.length b;simp at this;omega
   . have z:¬(m:Int)<0:=AQ;have T:i64.wrap ((m:Int)+0)=(m:Int):=by rw[C6]<;>omega
     have U:i64.wrap ((m:Int)+1)=((m+1:Nat):Int):=by rw[C6]<;>omega
     have x:=DG a.length AQ;have v:(0:Int)<=(m:Int)/\(m:Int)<=(t.length:Int):=AQ;have w:(0:Int)<=((m+1:Nat):Int)/\((m+1:Nat):Int)<=(t.length:Int):=AQ;have o:(0:Int)<=(a.length:Int)/\(a.length:Int)<(S.length:Int):=AQ;obtain ⟨k,E⟩:∃k,S.length - a.length=k+1:=⟨S.length - a.length - 1,AQ⟩;have Sp:S.length - (a.length+1)=k:=AQ;have hlen:S.length=(a++[]::List.replicate k ([]:Ac)).length:=AW;have s:=Lj (a++[]::List.replicate k ([]:Ac)) a.length (by rw[<-hlen];omega);simp only[go_sem,f,z,E,T,U,x,Be,DC,v,w,o,s,Int.le_refl,List.drop_zero,BE];refine ⟨hlen,hlen,?_⟩;rw[<-X9,Av0];refine I (a++[t.take m],t.drop (m+1)) _ ⟨by rw[b,g];simp,AW⟩ AW ?_
     (refine Wk.forget ?_;simp[ZF,Sp];done)
 . have Dv:a.length=l.count c:=by simp at h2;omega
   have j:S.length - a.length=1:=AQ;rcases Oi c t with ⟨f,e⟩ | ⟨m,f,e,g⟩
   . have x:i64.wrap ((a.length:Int)+1)=((S.length:Nat):Int):=by rw[C6]<;>omega
     have o:(0:Int)<=(a.length:Int)/\(a.length:Int)<(S.length:Int):=AQ;have hlen:S.length=(a++[([]:Ac)]).length:=AW;have s:=Lj (a++[([]:Ac)]) a.length (by rw[<-hlen];omega);have Bel:S=a++[t]:=by rw[b,e]
     have i:(0:Int)<=(S.length:Int):=AQ;simp only[go_sem,j,x,Be,DC,o,s,Int.le_refl,<-X9,Av0,Bv,i,Int.sub_zero];refine ⟨hlen,hlen,by rw[Bel],DL ?_⟩;simp only[go_sem];rw[Bel]
   . rw[g] at b;have V:=LV c (t.drop (m+1));have:=B3 List.length b;simp at this;omega
theorem Bd0(l)(c)(a:l.length<=100000000):C4 prog 49 [.p (.str l),.p (.str [c])] [] λ h r=>h=[(0,.arr 9 1 (Eg (D4 c l)))]/\r= .ref 0 0 (D4 c l).length (D4 c l).length:=by
 refine Dw func49 rfl Bgd (by simp[Tryz.f49]) ?_;simp only[go_sem];refine Cq (Aoo l c a) ?_;simp only[go_sem];refine DL ?_;simp only[go_sem]
def WH(c:Int):Bool:=decide (32<c)&&(decide (c<=126)&&!decide (c=35))
theorem Ua(c):C4 prog 102 [.p (.int .u8 c)] [] λ h r=>h=[]/\r=bD (WH c):=by
 refine Dw func102 rfl Bao (by simp[Tryz.f102]) ?_;by_cases a:32<c
 . by_cases h2:c<=126
   . simp only[go_sem,a,h2];simp[WH,a,h2]
   . simp only[go_sem,a,h2];simp[WH,a,h2]
 . simp only[go_sem,a];simp[WH,a]
def Il:Ac->Option Ac->Ai->Ai×Int
 | [],none,acc=>(acc,0)
 | [],some cur,acc=>(acc++[cur],0)
 | b::r,c,acc=>
   if (b.toNat:Int)=35 then (acc++c.toList,0)
   else if (b.toNat:Int)=32∨(b.toNat:Int)=9 then Il r none (acc++c.toList)
   else if WH b.toNat then (if (c.getD []).length=12 then ([],3) else Il r (some (c.getD []++[b])) acc)
   else ([],2)
theorem Axt(t)(cur)(acc)(h:∀b r,t=b::r->(b.toNat:Int)=35∨(b.toNat:Int)=32∨(b.toNat:Int)=9):Il t (some cur) acc=Il t none (acc++[cur]):=by
 cases t with
 | nil=>simp[Il]
 | cons b r=>
   rcases h b r rfl with h | h | h<;>simp[Il,h]
theorem Bkw(s)(E:s.length<=100000000):C4 prog 50 [.p (.str s)] [] λ h r=>h=[]/\r= .Em [sD (Eg (Il s none []).1),iD (Il s none []).2]:=by
 refine Dw func50 rfl Bgc (by simp[Tryz.f50]) ?_;simp only[go_sem];refine Ar7 (λ q:Bool×Nat×Nat×Ai=>if q.1 then 1 else 0)
   (λ q=>⟨[(0,.p (.str s)),(2,.cl []),(4,rD 59 q.2.2.2),(5,iD (q.2.1:Nat)),(6,iD (q.2.2.1:Nat))],[(59,.arr 9 1 (Eg q.2.2.2))],71⟩)
   (λ q=>q.2.2.1<=q.2.1/\q.2.1<=s.length/\(q.1=true->q.2.1<=q.2.2.1+12/\q.2.2.1<q.2.1/\q.2.2.2.length<=q.2.2.1)/\q.2.2.2.length<=q.2.1/\Il (s.drop q.2.1) (if q.1 then some ((s.take q.2.1).drop q.2.2.1) else none) q.2.2.2=Il s none [])
   (λ q=>2*(s.length - q.2.1)+(if q.1 then 1 else 0)) (2*s.length+2) ?_ ?_
 . intro n k;simp only[go_sem];cases Ib:decide ((0:Int)=(s.length:Int));rotate_left
   . have Bem:0=s.length:=by have:=Bg Ib;omega
     simp only[go_sem,Ib];refine Dt ?_;simp only[go_sem];rw[BZ Bem.symm];simp[Il,Eg]
   have Dv:0<s.length:=by have:=Bh Ib;omega
   have Ben:s=s.getD 0 0::s.drop 1:=by have:=Ic s 0 0 Dv;simpa using this
   have g:Il (s.getD 0 0::s.drop 1) none []=Il s none []:=by rw[<-Ben]
   have U2:(0:Int)<(s.length:Int):=AQ;have FC:(0:Int)<=(0:Int):=AQ;have o:i64.wrap ((0:Int)+1)=(((0+1:Nat)):Int):=by rw[C6]<;>omega
   have j:i64.wrap ((0:Int) - 0)=0:=by rw[Int.sub_self];rfl
   have m:(s.take (0+1)).drop 0=[s.getD 0 0]:=by rw[List.drop_take,Ic s _ 0 Dv];simp
   generalize hb:s.getD 0 0=b at*;generalize a:(b.toNat:Int)=c at*;cases WQ:decide (c=35);rotate_left
   . simp only[go_sem,Be,Ib,U2,FC,hb,a,WQ,Int.reduceToNat,Nat.reduceAdd];refine Dt ?_;simp only[go_sem];have:=Bg WQ;rw[<-g];simp[Il,a,this,DC,L7,Eg]
   have Tx:=Bh WQ;cases R8:decide (c=32)
   . cases i:decide (c=9)
     . have PN:=Bh R8;have e:=Bh i;simp only[go_sem,Be,Ib,U2,FC,hb,a,WQ,R8,i];refine Cq (Ua c) ?_;cases XU:WH c
       . simp only[go_sem,XU];refine Dt ?_;simp only[go_sem];rw[<-g];simp[Il,a,Tx,PN,e,XU,Eg]
       . simp only[go_sem,XU,o,j];refine k (true,0+1,0,[]) _ ⟨by simp only;omega,by simp only;omega,(λ _=>by simp only[Bz];omega),by simp only[Bz];omega,?_⟩ (by simp only[Cf];omega) ?_
         . rw[<-g];simp only[Cf,m];simp[Il,a,Tx,PN,e,XU]
         . exact (Wk.nil (t:=4) (q:=59) (sz:=1) 9 rfl rfl AV).trans (Wk.forget (by simp[ZF,Eg]))
     . have e:=Bg i;simp only[go_sem,Be,Ib,U2,FC,hb,a,WQ,R8,i,o];refine k (false,0+1,0,[]) _ ⟨by simp only;omega,by simp only;omega,(λ h=>by cases h),by simp only[Bz];omega,?_⟩ AW ?_
       . rw[<-g];simp[Il,a,e]
       . exact (Wk.nil (t:=4) (q:=59) (sz:=1) 9 rfl rfl AV).trans (Wk.forget (by simp[ZF,Eg]))
   . have PN:=Bg R8;simp only[go_sem,Be,Ib,U2,FC,hb,a,WQ,R8,o];refine k (false,0+1,0,[]) _ ⟨by simp only;omega,by simp only;omega,(λ h=>by cases h),by simp only[Bz];omega,?_⟩ AW ?_
     . rw[<-g];simp[Il,a,PN]
     . exact (Wk.nil (t:=4) (q:=59) (sz:=1) 9 rfl rfl AV).trans (Wk.forget (by simp[ZF,Eg]))
 . rintro ⟨x,at_,f,acc⟩ n ⟨l,PZ,u,Aom,g⟩ k;simp only at l PZ u Aom g;cases x
   . simp only[B2,if_false] at g;refine ⟨_,rfl,?_⟩;simp only[go_sem];cases Ib:decide ((at_:Int)=(s.length:Int));rotate_left
     . have Bem:at_=s.length:=by have:=Bg Ib;omega
       simp only[go_sem,Ib];refine Dt ?_;simp only[go_sem];rw[<-g,Cu AQ];simp[Il,DC,L7]
     have Dv:at_<s.length:=by have:=Bh Ib;omega
     rw[Ic s at_ 0 Dv] at g;have U2:(at_:Int)<(s.length:Int):=AQ;have FC:(0:Int)<=(at_:Int):=AQ;have o:i64.wrap ((at_:Int)+1)=(((at_+1:Nat)):Int):=by rw[C6]<;>omega
     have j:i64.wrap ((at_:Int) - at_)=0:=by rw[Int.sub_self];rfl
     have m:(s.take (at_+1)).drop at_=[s.getD at_ 0]:=by rw[List.drop_take,Ic s _ 0 Dv];simp
     generalize hb:s.getD at_ 0=b at*;generalize a:(b.toNat:Int)=c at*;cases WQ:decide (c=35);rotate_left
     . simp only[go_sem,Be,Ib,U2,FC,hb,a,WQ];refine Dt ?_;simp only[go_sem];have:=Bg WQ;rw[<-g];simp[Il,a,this,DC,L7]
     have Tx:=Bh WQ;cases R8:decide (c=32)
     . cases i:decide (c=9)
       . have PN:=Bh R8;have e:=Bh i;simp only[go_sem,Be,Ib,U2,FC,hb,a,WQ,R8,i];refine Cq (Ua c) ?_;cases XU:WH c
         . simp only[go_sem,XU];refine Dt ?_;simp only[go_sem];rw[<-g];simp[Il,a,Tx,PN,e,XU,Eg]
         . simp only[go_sem,XU,o,j];refine k (true,at_+1,at_,acc) _ ⟨by simp only;omega,by simp only;omega,(λ _=>by simp only[Bz];omega),by simp only[Bz];omega,?_⟩ (by simp only[Cf];omega) ?_
           . rw[<-g];simp only[Cf,m];simp[Il,a,Tx,PN,e,XU]
           . (refine Wk.forget ?_;simp[ZF];done)
       . have e:=Bg i;simp only[go_sem,Be,Ib,U2,FC,hb,a,WQ,R8,i,o];refine k (false,at_+1,f,acc) _ ⟨by simp only;omega,by simp only;omega,(λ h=>by cases h),by simp only[Bz];omega,?_⟩ AW ?_
         . rw[<-g];simp[Il,a,e]
         . (refine Wk.forget ?_;simp[ZF];done)
     . have PN:=Bg R8;simp only[go_sem,Be,Ib,U2,FC,hb,a,WQ,R8,o];refine k (false,at_+1,f,acc) _ ⟨by simp only;omega,by simp only;omega,(λ h=>by cases h),by simp only[Bz];omega,?_⟩ AW ?_
       . rw[<-g];simp[Il,a,PN]
       . (refine Wk.forget ?_;simp[ZF];done)
   . simp only[Cf] at g k;simp only[forall_const] at u;refine ⟨_,rfl,?_⟩;simp only[go_sem];have v:(0:Int)<=(f:Int)/\(f:Int)<=(at_:Int)/\(at_:Int)<=(s.length:Int):=AQ;have flush:(∀b r,s.drop at_=b::r->(b.toNat:Int)=35∨(b.toNat:Int)=32∨(b.toNat:Int)=9)->Il (s.drop at_) none (acc++[(s.take at_).drop f])=Il s none []:=by
       intro h;rw[<-Axt _ _ _ h];exact g
     cases Ib:decide ((at_:Int)=(s.length:Int));rotate_left
     . have Bem:at_=s.length:=by have:=Bg Ib;omega
       have w:s.drop at_=[]:=Cu AQ;simp only[go_sem,Ib,Be,DC,v];refine ⟨⟨Lr _ _ rfl,AQ⟩,?_⟩;refine k (false,at_,f,acc++[(s.take at_).drop f]) _ ⟨l,PZ,(λ h=>by cases h),by have:=u.2.2;have:=u.2.1;simp;omega,?_⟩ AT ?_
       . simp only[B2,if_false];exact flush (λ b r h=>by rw[w] at h;cases h)
       . (refine Wk.forget ?_;simp[ZF,GL,DC];done)
     have Dv:at_<s.length:=by have:=Bh Ib;omega
     have z:=Ic s at_ 0 Dv;have U2:(at_:Int)<(s.length:Int):=AQ;have FC:(0:Int)<=(at_:Int):=AQ;have o:i64.wrap ((at_:Int)+1)=((at_+1:Nat):Int):=by rw[C6]<;>omega
     have j:i64.wrap ((at_:Int) - f)=((at_ - f:Nat):Int):=by rw[C6]<;>omega
     have m:(s.take (at_+1)).drop f=(s.take at_).drop f++[s.getD at_ 0]:=by
       rw[Cp Dv,List.drop_append_of_le_length AW];simp[List.getD,Dv]
     have PY:((s.take at_).drop f).length=at_ - f:=AW;generalize hb:s.getD at_ 0=b at*;rw[z] at g;generalize a:(b.toNat:Int)=c at*;have sep:c=35∨c=32∨c=9->Il (s.drop at_) none (acc++[(s.take at_).drop f])=Il s none []:=by
       intro h;refine flush λ B H y=>?_;rw[z] at y;cases y;rw[a];exact h
     cases WQ:decide (c=35)
     . cases R8:decide (c=32)
       . cases i:decide (c=9)
         . have Tx:=Bh WQ;have PN:=Bh R8;have e:=Bh i;simp only[go_sem,Be,Ib,U2,FC,hb,a,WQ,R8,i];refine Cq (Ua c) ?_;cases XU:WH c
           . simp only[go_sem,XU];refine Dt ?_;simp only[go_sem];rw[<-g];simp[Il,a,Tx,PN,e,XU,Eg]
           . cases Bkh:decide (((at_ - f:Nat):Int)=12)
             . have Ata:¬at_ - f=12:=by have:=Bh Bkh;omega
               simp only[go_sem,XU,o,j,Bkh];refine k (true,at_+1,f,acc) _ ⟨by simp only;omega,by simp only;omega,(λ _=>by simp only;omega),by simp only;omega,?_⟩ (by simp only[Cf];omega) ?_
               . rw[<-g];simp only[Cf,m];simp[Il,a,Tx,PN,e,XU,PY,Ata]
               . (refine Wk.forget ?_;simp[ZF];done)
             . have Ata:at_ - f=12:=by have:=Bg Bkh;omega
               simp only[go_sem,XU,o,j,Bkh];refine Dt ?_;simp only[go_sem];rw[<-g];simp[Il,a,Tx,PN,e,XU,PY,Ata,Eg]
         . simp only[go_sem,Be,Ib,U2,FC,hb,a,WQ,R8,i,DC,v];refine ⟨⟨Lr _ _ rfl,AQ⟩,?_⟩;refine k (false,at_,f,acc++[(s.take at_).drop f]) _ ⟨l,PZ,(λ h=>by cases h),by have:=u.2.2;have:=u.2.1;simp;omega,?_⟩ AT ?_
           . simp only[B2,if_false];exact sep (.inr (.inr (Bg i)))
           . (refine Wk.forget ?_;simp[ZF,GL,DC];done)
       . simp only[go_sem,Be,Ib,U2,FC,hb,a,WQ,R8,DC,v];refine ⟨⟨Lr _ _ rfl,AQ⟩,?_⟩;refine k (false,at_,f,acc++[(s.take at_).drop f]) _ ⟨l,PZ,(λ h=>by cases h),by have:=u.2.2;have:=u.2.1;simp;omega,?_⟩ AT ?_
         . simp only[B2,if_false];exact sep (.inr (.inl (Bg R8)))
         . (refine Wk.forget ?_;simp[ZF,GL,DC];done)
     . simp only[go_sem,Be,Ib,U2,FC,hb,a,WQ,DC,v];refine ⟨⟨Lr _ _ rfl,AQ⟩,?_⟩;refine k (false,at_,f,acc++[(s.take at_).drop f]) _ ⟨l,PZ,(λ h=>by cases h),by have:=u.2.2;have:=u.2.1;simp;omega,?_⟩ AT ?_
       . simp only[B2,if_false];exact sep (.inl (Bg WQ))
       . (refine Wk.forget ?_;simp[ZF,GL,DC];done)
def GF:Ai->Nat->AB->AB×Int×Int
 | [],_,acc=>(acc,0,0)
 | t::r,k,acc=>if (Il t none []).2=0 then GF r (k+1) (if 0<(Il t none []).1.length then acc++[⟨(k:Nat),(Il t none []).1⟩] else acc) else ([],(k:Nat),(Il t none []).2)
def D9(s:Ac):AB×Int×Int:=if 6000<s.length then ([],0,1) else GF (D4 10 s) 1 []
def PJ(r:AB×Int×Int):D:= .Em [.p (.sl (Kp r.1)),.p (.int .i64 r.2.1),.p (.int .i64 r.2.2)]
theorem Re(c)(l):∀x∈D4 c l,x.length<=l.length:=by
 induction l with
 | nil=>simp[D4]
 | cons b r a=>
   intro x hx;simp only[D4] at hx;split at hx
   . rcases BX.1 hx with rfl | hx
     . simp
     . have:=a x hx;simp;omega
   . split at hx
     . simp at hx;subst hx;simp
     . rename_i y e h;rcases BX.1 hx with rfl | hx
       . have:=a y (by rw[h];simp);simp;omega
       . have:=a x (by rw[h];simp[hx]);simp;omega
theorem A0{p:Prop}(h:p:=by simp only;omega):p:=h
theorem Axa(s):C4 prog 24 [.p (.str s)] [] λ h r=>h=[]/\r=PJ (D9 s):=by
 refine Dw func24 rfl Bgv (by simp[Tryz.f24]) ?_;cases hlen:decide ((6000:Int)<(s.length:Int))
 . have k:s.length<=6000:=by have:=Bh hlen;omega
   have f:D9 s=GF (D4 10 s) 1 []:=by unfold D9;rw[if_neg AQ]
   rw[f];simp only[go_sem,hlen];refine Cq (Bd0 s 10 AQ) ?_;have w:=Re 10 s;have j:=LV 10 s;have PY:s.count 10<=s.length:=List.count_le_length;generalize x:D4 10 s=S at*;simp only[go_sem,DC];refine Dm (λ q:Nat×AB=>⟨[(14,.ref 10014 0 S.length S.length),(15,iD (S.length:Nat)),(16,iD (q.1:Nat)),(5,rD 40 q.2)],[(10014,.arr 9 1 (Eg S)),(40,.arr 92 2 (Kp q.2))],43⟩)
     (λ q=>q.1<=S.length/\q.2.length<=q.1/\GF (S.drop q.1) (q.1+1) q.2=GF S 1 []) (λ q=>S.length - q.1) (0,[]) ⟨BO _,AT,AT⟩ ((Wk.nil (t:=5) (q:=40) (sz:=2) 92 rfl rfl AV).trans (Wk.forget (by simp[ZF,Kp]))) ?_
   rintro ⟨i,acc⟩ n ⟨u,v,a⟩ m;simp only at u v a;simp only[go_sem];refine D2 (λ h2=>?_) (λ h2=>?_)
   . have Dv:i<S.length:=by simp at h2;omega
     have g:=DG i AQ;have hb:=w _ (IF S i [] Dv);have U2:(i:Int)<(S.length:Int):=AQ;have FC:(0:Int)<=(i:Int):=AQ;have o:=Lj S i Dv;rw[Ic S i [] Dv] at a;generalize S.getD i []=t at*;simp only[go_sem,Be,DC,o,U2,FC];refine Cq (Bkw t AQ) ?_;by_cases e:(Il t none []).2=0
     . by_cases l:0<(Il t none []).1.length
       . have b:(0:Int)<((Il t none []).1.length:Int):=AQ;simp only[go_sem,e,g,DC,G0,b];refine ⟨⟨Lr _ _ rfl,AQ⟩,?_⟩;refine m (i+1,acc++[⟨(i+1:Nat),(Il t none []).1⟩]) _ ⟨Dv,by simp only[Bw,Br,Bz];omega,by rw[<-a];simp only[GF,e,l,Cf]⟩ A0 ?_
         (refine Wk.forget ?_;simp[ZF,QH,G0];done)
       . have b:¬(0:Int)<((Il t none []).1.length:Int):=AQ;simp only[go_sem,e,g,DC,b];refine m (i+1,acc) _ ⟨Dv,by simp only;omega,by rw[<-a];simp only[GF,e,l,Cf,if_false]⟩ A0 ?_
         (refine Wk.forget ?_;simp[ZF];done)
     . simp only[go_sem,e,g];refine Dt ?_;simp only[go_sem];rw[<-a];simp[GF,e,PJ,Kp]
   . simp only[go_sem];have Bp3:i=S.length:=by simp at h2;omega
     subst Bp3;refine Dt ?_;simp only[go_sem];rw[List.drop_length] at a;rw[<-a];simp[GF,PJ,G0,Aip]
 . have k:6000<s.length:=by have:=Bg hlen;omega
   have f:D9 s=([],0,1):=by unfold D9;rw[if_pos k]
   rw[f];simp only[go_sem,hlen];refine Dt ?_;simp only[go_sem];try simp[PJ,Kp]
theorem Ar4(c):C4 prog 105 [.p (.int .u8 c)] [] λ h r=>h=[]/\r=bD (WH c):=by
 refine Dw func105 rfl Bam (by simp[Tryz.f105]) ?_;by_cases a:33<=c
 . have Ho:(32:Int)<c:=AQ;by_cases h2:c<=126
   . simp only[go_sem,a,h2];simp[WH,Ho,h2]
   . simp only[go_sem,a,h2];simp[WH,Ho,h2]
 . have Ho:¬(32:Int)<c:=AQ;simp only[go_sem,a];simp[WH,Ho]
def frI(f:Option Nat):Int:=match f with
 | none=>-1
 | some f=>(f:Nat)
def Zv(s:Ac)(i:Nat)(f:Option Nat):Option Ac:=f.map λ f=>(s.take i).drop f
theorem Ae3(s)(K:s.length<=100000000):C4 prog 56 [.p (.str s)] [] λ h r=>h=[]/\r= .Em [sD (Eg (Il s none []).1),iD (Il s none []).2]:=by
 refine Dw func56 rfl Bg8 (by simp[Tryz.f56]) ?_;simp only[go_sem];refine Dm (λ q:Nat×Option Nat×Ai=>⟨[(0,.p (.str s)),(4,rD 58 q.2.2),(5,iD (frI q.2.1)),(6,iD (q.1:Nat))],[(58,.arr 9 1 (Eg q.2.2))],61⟩)
   (λ q=>q.1<=s.length/\q.2.2.length<=q.1/\(∀f,q.2.1=some f->f<q.1/\q.1<=f+12/\q.2.2.length<=f)/\Il (s.drop q.1) (Zv s q.1 q.2.1) q.2.2=Il s none []) (λ q=>s.length+1 - q.1) (0,none,[])
   ⟨BO _,AT,AT,by simp[Zv]⟩ ((Wk.nil (t:=4) (q:=58) (sz:=1) 9 rfl rfl AV).trans (Wk.forget (by simp[ZF,Eg,frI]))) ?_
 rintro ⟨i,w,acc⟩ n ⟨H,Aom,o,g⟩ v;simp only at H Aom o g;have U2:(i:Int)<=(s.length:Int):=AQ;have FC:(0:Int)<=(i:Int):=AQ;have u:i64.wrap ((i:Int)+1)=((i+1:Nat):Int):=by rw[C6]<;>omega
 have E:i64.wrap ((i:Int) - i)=0:=by rw[Int.sub_self];rfl
 simp only[go_sem,U2];cases Ib:decide ((i:Int)=(s.length:Int))
 . have Dv:i<s.length:=by have:=Bh Ib;omega
   have Agf:(i:Int)<(s.length:Int):=AQ;rw[Ic s i 0 Dv] at g;have B:∀f,f<=i->(s.take (i+1)).drop f=(s.take i).drop f++[s.getD i 0]:=by
     intro f o;rw[Cp Dv,List.drop_append_of_le_length AW];simp[List.getD,Dv]
   have Bza:(s.take (i+1)).drop i=[s.getD i 0]:=by rw[List.drop_take,Ic s i 0 Dv];simp
   generalize hb:s.getD i 0=b at*;generalize a:(b.toNat:Int)=c at*;cases WQ:decide (c=35)
   . have Tx:=Bh WQ;cases R8:decide (c=32)
     . have PN:=Bh R8;cases x:decide (c=9)
       . have e:=Bh x;simp only[go_sem,Be,U2,Agf,FC,hb,a,Ib,WQ,R8,x];refine Cq (Ar4 c) ?_;cases XU:WH c
         . simp only[go_sem,XU];refine Dt ?_;simp only[go_sem];rw[<-g];simp[Il,a,Tx,PN,e,XU,Eg]
         . cases w with
           | none=>
             simp only[go_sem,XU,frI,u,E];refine v (i+1,some i,acc) _ ⟨Dv,by simp only;omega,by intro f h;cases h;simp only;omega,?_⟩ A0 ?_
             . rw[<-g];simp only[Zv,Ch,Option.map_none,Bza];simp[Il,a,Tx,PN,e,XU]
             . (refine Wk.forget ?_;simp[ZF,frI];done)
           | some f=>
             obtain ⟨k,l,m⟩:=o f rfl;have Bmc:¬(f:Int)<0:=AQ;have y:i64.wrap ((i:Int) - f)=((i - f:Nat):Int):=by rw[C6]<;>omega
             have PY:((s.take i).drop f).length=i - f:=AW;cases z:decide ((12:Int)<=((i - f:Nat):Int))
             . have Ata:¬i - f=12:=by have:=Bh z;omega
               simp only[go_sem,XU,frI,Bmc,u,y,z];refine v (i+1,some f,acc) _ ⟨Dv,by simp only;omega,by intro I h;cases h;have:=Bh z;simp only;omega,?_⟩ A0 ?_
               . rw[<-g];simp only[Zv,Ch,B f AQ];simp[Il,a,Tx,PN,e,XU,PY,Ata]
               . (refine Wk.forget ?_;simp[ZF,frI];done)
             . have Ata:i - f=12:=by have:=Bg z;omega
               simp only[go_sem,XU,frI,Bmc,y,z];refine Dt ?_;simp only[go_sem];rw[<-g];simp[Il,Zv,a,Tx,PN,e,XU,PY,Ata,Eg]
       . have e:=Bg x;cases w with
         | none=>
           simp only[go_sem,Be,U2,Agf,FC,hb,a,Ib,WQ,R8,x,frI,u];refine v (i+1,none,acc) _ ⟨Dv,by simp only;omega,(by intro f h;cases h),?_⟩ A0 ?_
           . rw[<-g];simp[Il,Zv,a,e]
           . (refine Wk.forget ?_;simp[ZF,frI];done)
         | some f=>
           obtain ⟨k,l,m⟩:=o f rfl;have j:(0:Int)<=(f:Int)/\(f:Int)<=(i:Int)/\(i:Int)<=(s.length:Int):=AQ;simp only[go_sem,Be,U2,Agf,FC,hb,a,Ib,WQ,R8,x,frI,j,DC,u];refine ⟨⟨Lr _ _ rfl,AQ⟩,?_⟩;refine v (i+1,none,acc++[(s.take i).drop f]) _ ⟨Dv,AW,(by intro f h;cases h),?_⟩ A0 ?_
           . rw[<-g];simp[Il,Zv,a,e]
           . (refine Wk.forget ?_;simp[ZF,frI,GL,DC];done)
     . have PN:=Bg R8;cases w with
       | none=>
         simp only[go_sem,Be,U2,Agf,FC,hb,a,Ib,WQ,R8,frI,u];refine v (i+1,none,acc) _ ⟨Dv,by simp only;omega,(by intro f h;cases h),?_⟩ A0 ?_
         . rw[<-g];simp[Il,Zv,a,PN]
         . (refine Wk.forget ?_;simp[ZF,frI];done)
       | some f=>
         obtain ⟨k,l,m⟩:=o f rfl;have j:(0:Int)<=(f:Int)/\(f:Int)<=(i:Int)/\(i:Int)<=(s.length:Int):=AQ;simp only[go_sem,Be,U2,Agf,FC,hb,a,Ib,WQ,R8,frI,j,DC,u];refine ⟨⟨Lr _ _ rfl,AQ⟩,?_⟩;refine v (i+1,none,acc++[(s.take i).drop f]) _ ⟨Dv,AW,(by intro f h;cases h),?_⟩ A0 ?_
         . rw[<-g];simp[Il,Zv,a,PN]
         . (refine Wk.forget ?_;simp[ZF,frI,GL,DC];done)
   . have Tx:=Bg WQ;cases w with
     | none=>
       simp only[go_sem,Be,U2,Agf,FC,hb,a,Ib,WQ,frI];refine Dt ?_;simp only[go_sem];rw[<-g];simp[Il,Zv,a,Tx,DC,L7]
     | some f=>
       obtain ⟨k,l,m⟩:=o f rfl;have j:(0:Int)<=(f:Int)/\(f:Int)<=(i:Int)/\(i:Int)<=(s.length:Int):=AQ;simp only[go_sem,Be,U2,Agf,FC,hb,a,Ib,WQ,frI,j,DC];refine ⟨⟨Lr _ _ rfl,AQ⟩,Dt ?_⟩;simp only[go_sem,<-GL,DC];rw[<-g];simp[Il,Zv,a,Tx,L7,GL];exact Bx (by simp[Eg])
 . have Bp3:i=s.length:=by have:=Bg Ib;omega
   rw[Cu AQ] at g;cases w with
   | none=>
     simp only[go_sem,Be,U2,FC,Ib,frI];refine Dt ?_;simp only[go_sem];rw[<-g];simp[Il,Zv,DC,L7]
   | some f=>
     obtain ⟨k,l,m⟩:=o f rfl;have j:(0:Int)<=(f:Int)/\(f:Int)<=(i:Int)/\(i:Int)<=(s.length:Int):=AQ;simp only[go_sem,Be,U2,FC,Ib,frI,j,DC];refine ⟨⟨Lr _ _ rfl,AQ⟩,Dt ?_⟩;simp only[go_sem,<-GL,DC];rw[<-g];simp[Il,Zv,L7,GL];exact Bx (by simp[Eg])
theorem Anc(c b)(r)(h:b≠c):∃x a,D4 c r=x::a/\D4 c (b::r)=(b::x)::a:=by
 cases e:D4 c r with
 | nil=>exact (Uj c r e).elim
 | cons x a=>exact ⟨x,a,rfl,by simp[D4,h,e]⟩
def Vb(pre:Ac):Ai->Ai
 | []=>[pre]
 | x::a=>(pre++x)::a
theorem YJ(c)(r):Vb [] (D4 c r)=D4 c r:=by
 cases a:D4 c r with
 | nil=>exact (Uj c r a).elim
 | cons x b=>simp[Vb]
theorem Awc(c)(pre r):Vb pre (D4 c (c::r))=pre::D4 c r:=by simp[D4,Vb]
theorem Arn(c b)(pre r)(h:b≠c):Vb pre (D4 c (b::r))=Vb (pre++[b]) (D4 c r):=by
 obtain ⟨x,e,a,h2⟩:=Anc c b r h;rw[a,h2];simp[Vb]
theorem Awd(c)(pre):Vb pre (D4 c [])=[pre]:=by simp[D4,Vb]
theorem Ahw(s):C4 prog 26 [.p (.str s)] [] λ h r=>h=[]/\r=PJ (D9 s):=by
 refine Dw func26 rfl Bgt (by simp[Tryz.f26]) ?_;cases hlen:decide ((6000:Int)<(s.length:Int))
 . have w:s.length<=6000:=by have:=Bh hlen;omega
   have k:D9 s=GF (D4 10 s) 1 []:=by unfold D9;rw[if_neg AQ]
   rw[k];clear k;simp only[go_sem,hlen];refine Dm (λ q:Nat×Nat×Nat×AB=>⟨[(0,.p (.str s)),(5,rD 50 q.2.2.2),(6,iD (q.2.1:Nat)),(7,iD (q.2.2.1:Nat)),(8,iD (q.1:Nat))],[(50,.arr 92 2 (Kp q.2.2.2))],56⟩)
     (λ q=>(q.1<=s.length+1/\q.2.1<=q.1+1/\q.2.2.2.length<=q.1)/\((q.1<=s.length/\q.2.2.1<=q.1/\GF (Vb ((s.take q.1).drop q.2.2.1) (D4 10 (s.drop q.1))) q.2.1 q.2.2.2=GF (D4 10 s) 1 [])∨(q.1=s.length+1/\GF [] q.2.1 q.2.2.2=GF (D4 10 s) 1 []))) (λ q=>s.length+1 - q.1) (0,1,0,[])
     ⟨⟨AT,AT,AT⟩,.inl ⟨AT,AT,by simp[YJ]⟩⟩ ((Wk.nil (t:=5) (q:=50) (sz:=2) 92 rfl rfl AV).trans (Wk.forget (by simp[ZF,Kp]))) ?_
   rintro ⟨i,num,j,acc⟩ n ⟨⟨z,Bzl,Aom⟩,a⟩ o;simp only at z Bzl Aom a;have FC:(0:Int)<=(i:Int):=AQ;have m:i64.wrap ((i:Int)+1)=((i+1:Nat):Int):=by rw[C6]<;>omega
   have g:i64.wrap ((num:Int)+1)=((num+1:Nat):Int):=by rw[C6]<;>omega
   rcases a with ⟨U2,y,a⟩ | ⟨U2,a⟩
   . have Axo:(i:Int)<=(s.length:Int):=AQ;have Bsz:(0:Int)<=(j:Int)/\(j:Int)<=(i:Int)/\(i:Int)<=(s.length:Int):=AQ;have HO:((s.take i).drop j).length<=100000000:=AW;simp only[go_sem,Axo];cases Ib:decide ((i:Int)<(s.length:Int));rotate_left
     . have Dv:i<s.length:=by have:=Bg Ib;omega
       have Agf:(i:Int)<(s.length:Int):=AQ;have v:(s.take (i+1)).drop j=(s.take i).drop j++[s.getD i 0]:=by
         rw[Cp Dv,List.drop_append_of_le_length AW];simp[List.getD,Dv]
       rw[Ic s i 0 Dv] at a;generalize hb:s.getD i 0=b at*;cases u:decide ((b.toNat:Int)=10)
       . have Bp9:b≠10:=by rintro rfl;simp at u
         simp only[go_sem,Be,Axo,Agf,FC,hb,Ib,u,m];rw[Arn _ _ _ _ Bp9,<-v] at a;refine o (i+1,num,j,acc) _ ⟨⟨by simp only;omega,by simp only;omega,by simp only;omega⟩,.inl ⟨Dv,by simp only;omega,a⟩⟩ A0 ?_
         (refine Wk.forget ?_;simp[ZF];done)
       . have Bp9:b=10:=by
           have:=Bg u;exact UInt8.toNat_inj.1 AW
         subst Bp9;rw[Awc] at a;simp only[go_sem,Be,Axo,Agf,FC,hb,Ib,u,Bsz];refine Cq (Ae3 _ HO) ?_;generalize (s.take i).drop j=t at*;by_cases f:(Il t none []).2=0
         . by_cases l:0<(Il t none []).1.length
           . have e:(0:Int)<((Il t none []).1.length:Int):=AQ;simp only[go_sem,f,m,g,DC,G0,e];refine ⟨⟨Lr _ _ rfl,AQ⟩,?_⟩;refine o (i+1,num+1,i+1,acc++[⟨(num:Nat),(Il t none []).1⟩]) _ ⟨⟨by simp only;omega,by simp only;omega,AW⟩,.inl ⟨Dv,AT,?_⟩⟩ A0 ?_
             . rw[<-a];simp[GF,f,l,YJ]
             . (refine Wk.forget ?_;simp[ZF,QH,G0];done)
           . have e:¬(0:Int)<((Il t none []).1.length:Int):=AQ;simp only[go_sem,f,m,g,DC,e];refine o (i+1,num+1,i+1,acc) _ ⟨⟨by simp only;omega,by simp only;omega,by simp only;omega⟩,.inl ⟨Dv,AT,?_⟩⟩ A0 ?_
             . rw[<-a];simp[GF,f,l,YJ]
             . (refine Wk.forget ?_;simp[ZF];done)
         . simp only[go_sem,f];refine Dt ?_;simp only[go_sem];rw[<-a];simp[GF,f,PJ,Kp]
     . have Bp3:i=s.length:=by have:=Bh Ib;omega
       rw[show s.drop i=[] from Cu AQ,Awd] at a;simp only[go_sem,Be,Axo,FC,Ib,Bsz];refine Cq (Ae3 _ HO) ?_;generalize (s.take i).drop j=t at*;by_cases f:(Il t none []).2=0
       . by_cases l:0<(Il t none []).1.length
         . have e:(0:Int)<((Il t none []).1.length:Int):=AQ;simp only[go_sem,f,m,g,DC,G0,e];refine ⟨⟨Lr _ _ rfl,AQ⟩,?_⟩;refine o (i+1,num+1,i+1,acc++[⟨(num:Nat),(Il t none []).1⟩]) _ ⟨⟨by simp only;omega,by simp only;omega,AW⟩,.inr ⟨by simp only;omega,?_⟩⟩ A0 ?_
           . rw[<-a];simp[GF,f,l]
           . (refine Wk.forget ?_;simp[ZF,QH,G0];done)
         . have e:¬(0:Int)<((Il t none []).1.length:Int):=AQ;simp only[go_sem,f,m,g,DC,e];refine o (i+1,num+1,i+1,acc) _ ⟨⟨by simp only;omega,by simp only;omega,by simp only;omega⟩,.inr ⟨by simp only;omega,?_⟩⟩ A0 ?_
           . rw[<-a];simp[GF,f,l]
           . (refine Wk.forget ?_;simp[ZF];done)
       . simp only[go_sem,f];refine Dt ?_;simp only[go_sem];rw[<-a];simp[GF,f,PJ,Kp]
   . have Axo:¬(i:Int)<=(s.length:Int):=AQ;simp only[go_sem,Axo];refine Dt ?_;simp only[go_sem];rw[<-a];simp[GF,PJ,G0,Aip]
 . have w:6000<s.length:=by have:=Bg hlen;omega
   have x:D9 s=([],0,1):=by unfold D9;rw[if_pos w]
   rw[x];simp only[go_sem,hlen];refine Dt ?_;simp only[go_sem];try simp[PJ,Kp]
theorem Alb:∀(t:Ac) (c:Option Ac) (acc:Ai),(Il t c acc).1.length<=acc.length+c.toList.length+t.length
 | [],none,acc=>by simp[Il]
 | [],some cur,acc=>by simp[Il]
 | b::r,c,acc=>by
   simp only[Il];split
   . simp
   . split
     . have:=Alb r none (acc++c.toList);simp at this ⊢;omega
     . split
       . split
         . simp
         . have:=Alb r (some (c.getD []++[b])) acc;simp at this ⊢;omega
       . simp
theorem Te(B):∀(S:Ai) (k:Nat) (acc:AB),(∀t∈S,t.length<=B)->(∀x∈acc,x.fs.length<=B)->
   (GF S k acc).1.length<=acc.length+S.length/\∀x∈(GF S k acc).1,x.fs.length<=B
 | [],k,acc,_,h=>by simpa [GF] using h
 | t::r,k,acc,b,h=>by
   simp only[GF];split
   . have f:(Il t none []).1.length<=B:=by
       have e:=Alb t none [];have h2:=b t AT;simp at e;omega
     have a:=Te B r (k+1) (if 0<(Il t none []).1.length then acc++[⟨(k:Nat),(Il t none []).1⟩] else acc) (λ y g=>b y (by simp[g])) (λ x hx=>by
       split at hx
       . simp only[BD,BG] at hx;rcases hx with hx | rfl
         . exact h x hx
         . exact f
       . exact h x hx)
     have i:(if 0<(Il t none []).1.length then acc++[⟨(k:Nat),(Il t none []).1⟩] else acc).length<=acc.length+1:=by split<;>simp
     have j:=a.1;exact ⟨by simp only[Br];omega,a.2⟩
   . simp
theorem Alg(s):(D9 s).1.length<=10000000/\∀x∈(D9 s).1,x.fs.length<=10000000:=by
 unfold D9;split
 . simp
 . rename_i h;have e:=LV 10 s;have h2:s.count 10<=s.length:=List.count_le_length;have a:=Te 6000 (D4 10 s) 1 [] (λ t b=>by have:=Re 10 s t b;omega) AT;refine ⟨by have:=a.1;simp at this;omega,λ x hx=>by have:=a.2 x hx;omega⟩
def NA(n:Nat):Ac:=if h:n<10 then [UInt8.ofNat (48+n)] else NA (n / 10)++[UInt8.ofNat (48+n % 10)]
termination_by n
decreasing_by omega
def TZ(n:Int):Ac:=if n<0 then 45::NA (-n).toNat else NA n.toNat
theorem Kq(n)(h:n<10):NA n=[UInt8.ofNat (48+n)]:=by rw[NA,dif_pos h]
theorem Af4(n)(h:¬n<10):NA n=NA (n / 10)++[UInt8.ofNat (48+n % 10)]:=by rw[NA,dif_neg h]
theorem OH:∀(k n:Nat),n<10 ^ (k+1)->(NA n).length<=k+1
 | 0,n,h=>by rw[Kq n (by simpa using h)];simp
 | k+1,n,h=>by
   by_cases a:n<10
   . rw[Kq n a];simp
   . have:=OH k (n / 10) (by rw[Nat.pow_succ] at h;omega);rw[Af4 n a];simp;omega
theorem UL(n)(u:n<=1000000000000000):C4 prog 15 [iD (n:Nat)] [] λ h r=>h=[]/\r= .p (.str (NA n)):=by
 refine Dw func15 rfl Apf (by simp[Tryz.f15]) ?_;have hlen:=OH 15 n AQ;have e:¬(n:Int)<0:=AQ;simp only[go_sem,e];refine Dm (λ q:Nat×Ac=>⟨[(0,.p (.int .i64 (q.1:Nat))),(3,.p (.str q.2))],[],23⟩) (λ q=>q.1<=n/\NA q.1++q.2=NA n) (λ q=>q.1) (n,[]) ⟨Bk _,AT⟩ (Wk.forget (by simp[ZF])) ?_;rintro ⟨m,s⟩ k ⟨f,b⟩ i;simp only at f b;have Aok:(m:Int).tmod 10=((m % 10:Nat):Int):=by rw[Int.tmod_eq_emod_of_nonneg AQ];omega
 have hdiv:(m:Int).tdiv 10=((m / 10:Nat):Int):=by rw[Int.tdiv_eq_ediv_of_nonneg AQ];omega
 have j:i64.wrap (48+((m % 10:Nat):Int))=48+((m % 10:Nat):Int):=by rw[C6]<;>omega
 have o:IntKind.u8.wrap (48+((m % 10:Nat):Int))=((UInt8.ofNat (48+m % 10)).toNat:Int):=by rw[IntKind.wrap_u8];simp
 have t:i64.wrap ((m / 10:Nat):Int)=((m / 10:Nat):Int):=by rw[C6]<;>omega
 have Bma:¬(10:Int)=0:=AV;have g:s.length<=20:=by have:=B3 List.length b;simp at this;omega
 simp only[go_sem,Aok,hdiv,j,o,Bma];refine Bqo (l:=[UInt8.ofNat (48+m % 10)]) rfl Bo0 ti9 ti5 rfl rfl ?_;simp only[go_sem,Aok,hdiv,t,Bma];refine ⟨by unfold maxLen;omega,?_⟩;refine D2 (λ h2=>?_) (λ h2=>?_)
 . simp only[go_sem];have a:m<10:=by simp at h2;omega
   rw[<-b,Kq m a,Nat.mod_eq_of_lt a];rfl
 . have a:¬m<10:=by simp at h2;omega
   simp only[go_sem];refine i (m / 10,[UInt8.ofNat (48+m % 10)]++s) _ ⟨by simp only;omega,by rw[<-b,Af4 m a];simp⟩ A0 ?_
   (refine Wk.forget ?_;simp[ZF];done)
theorem Aja(n)(h0:-1000000000000000<=n)(e:n<=1000000000000000):C4 prog 15 [iD n] [] λ h r=>h=[]/\r= .p (.str (TZ n)):=by
 by_cases a:n<0
 . refine Dw func15 rfl Apf (by simp[Tryz.f15]) ?_;have b:i64.wrap (0 - n)=(((-n).toNat:Nat):Int):=by rw[C6]<;>omega
   have hlen:=OH 15 (-n).toNat AQ;simp only[go_sem,a,b];refine Cq (UL (-n).toNat AQ) ?_;simp only[go_sem];refine ⟨by unfold maxLen;omega,?_⟩;(try simp only[go_sem]);simp[TZ,a]
 . have:=UL n.toNat AQ;rw[show ((n.toNat:Nat):Int)=n by omega] at this;refine this.mono ?_;rintro h r ⟨rfl,rfl⟩;exact ⟨rfl,by simp[TZ,a]⟩
def X0{α:Type}(p:α->Bool):Nat->List α->Int
 | _,[]=>-1
 | k,x::r=>if p x then (k:Int) else X0 p (k+1) r
def Oe(s:Ac):Bool:=decide (s≠[])&&(decide (s.length<=12)&&s.all λ b=>WH b.toNat)
def Et:Ai->Ac
 | []=>[]
 | x::r=>x++r.flatMap λ y=>32::y
def PX:Ai->Nat
 | []=>0
 | s::r=>s.length+1+PX r
theorem YZ{s}:Oe s=true↔s≠[]/\s.length<=12/\∀b∈s,WH b.toNat=true:=by
 simp only[Oe,BA,BM,BB]
theorem Bf0(r):(r.flatMap λ y=>32::y).length=PX r:=by
 induction r with
 | nil=>rfl
 | cons x r a=>simp[PX,a];omega
theorem VR:∀a:Ai,a≠[]->(Et a).length+1=PX a
 | [],h=>(h rfl).elim
 | x::r,_=>by simp only[Et,PX,Bw,Bf0];omega
end Go.Am
end
