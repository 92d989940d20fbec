/- Texts of this proof, what it rests on, merged: part F. -/
import Derived.Lib.Bytealg
import Derived.Laws.Externs
import Derived.Test.YtjbklifaekjilaaGreatDoorBrE
noncomputable section
namespace Go.Am
open Go Go.Proofs
open Tryz
set_option maxRecDepth 100000
set_option linter.unusedVariables false
set_option linter.unusedSimpArgs false
set_option maxHeartbeats 2000000
def CU(c:UInt8):List UInt8->List (List UInt8)
 | []=>[[]]
 | b::r=>if b=c then []::CU c r else match CU c r with
   | []=>[[b]]
   | x::xs=>(b::x)::xs
theorem Vw(c:UInt8)(l:List UInt8):CU c l≠[]:=by
 cases l with
 | nil=>simp[CU]
 | cons b r=>
   simp only[CU];split
   . simp
   . split<;>simp
theorem KW(c:UInt8)(l:List UInt8):(CU c l).length=l.count c+1:=by
 induction l with
 | nil=>simp[CU]
 | cons b r ih=>
   simp only[CU];split
   . rename_i h;subst h;simp[ih]
   . rename_i h;rw[List.count_cons_of_ne h];cases hs:CU c r with
     | nil=>exact (Vw c r hs).elim
     | cons x xs=>rw[hs] at ih;simpa using ih
theorem Jl(c:UInt8):∀(l:List UInt8),(Lib.indexByte l c=-1/\CU c l=[l])∨∃m:Nat,Lib.indexByte l c=(m:Int)/\m<l.length/\CU c l=l.take m::CU c (l.drop (m+1))
 | []=> .inl ⟨rfl,rfl⟩
 | b::r=>by
   simp only[Lib.indexByte];by_cases h:b=c
   . subst h;exact .inr ⟨0,by simp,by simp,by simp[CU]⟩
   . rcases Jl c r with ⟨h1,h2⟩ | ⟨m,h1,h2,h3⟩
     . refine .inl ⟨by simp[h,h1],by simp[CU,h,h2]⟩
     . refine .inr ⟨m+1,by simp[h,h1],by simp;omega,by simp[CU,h,h3]⟩
theorem Aqi(l:List UInt8)(c:Int):BZ prog 195 [.p (.str l),.p (.int .u8 c)] [] λ h r=>h=[]/\r= .p (.int .i64 (Lib.indexByte l c.toNat.toUInt8)):=by
 refine UC (run_callFunc_extern func195 (by kernel_rfl) (by kernel_rfl) (by kernel_rfl) (e:=Extern.BytealgIndexByte.indexByte) (by kernel_rfl)) ?_;intro vs w F M hd;obtain ⟨hl,h⟩:=hd;obtain ⟨v1,v2,rfl⟩:∃v1 v2,vs=#[v1,v2]:=by
   match vs,hl with
   | ⟨[v1,v2]⟩,_=>exact ⟨v1,v2,rfl⟩
 have h1:=h 0 _ rfl;have h2:=h 1 _ rfl;simp only[A3,List.getD_cons_succ] at h1 h2;cases h1 with | p h1=>cases h1 with | str=>
 cases h2 with | p h2=>cases h2 with | int=>
 exact ⟨_,_,Lib.run_indexByteString _ _ _,.p (.int _ _),rfl,rfl⟩
theorem Are(l:List UInt8)(c:Int):BZ prog 168 [.p (.str l),.p (.int .u8 c)] [] λ h r=>h=[]/\r= .p (.int .i64 (Lib.countByte l c.toNat.toUInt8:Nat)):=by
 refine UC (run_callFunc_extern func168 (by kernel_rfl) (by kernel_rfl) (by kernel_rfl) (e:=Extern.BytealgCount.count) (by kernel_rfl)) ?_;intro vs w F M hd;obtain ⟨hl,h⟩:=hd;obtain ⟨v1,v2,rfl⟩:∃v1 v2,vs=#[v1,v2]:=by
   match vs,hl with
   | ⟨[v1,v2]⟩,_=>exact ⟨v1,v2,rfl⟩
 have h1:=h 0 _ rfl;have h2:=h 1 _ rfl;simp only[A3,List.getD_cons_succ] at h1 h2;cases h1 with | p h1=>cases h1 with | str=>
 cases h2 with | p h2=>cases h2 with | int=>
 exact ⟨_,_,Lib.run_countString _ _ _,.p (.int _ _),rfl,rfl⟩
theorem Asd(c:UInt8):((c.toNat:Int)).toNat.toUInt8=c:=by simp
theorem Anp(l:List UInt8)(c:UInt8):BZ prog 138 [.p (.str l),.p (.str [c])] [] λ h r=>h=[]/\r= .p (.int .i64 (l.count c:Nat)):=by
 refine B1 func138 rfl Ag7 (by simp[Tryz.f138]) ?_;have h0:(0:Int)<1:=by decide
 simp only[go_sem,A3];refine Cq (Are l c.toNat) ?_;simp only[go_sem,Asd];rfl
theorem Aew(l:List UInt8)(c:UInt8):BZ prog 169 [.p (.str l),.p (.str [c])] [] λ h r=>h=[]/\r= .p (.int .i64 (Lib.indexByte l c)):=by
 refine B1 func169 rfl Afs (by simp[Tryz.f169]) ?_;cases he:decide ([c]=l)
 . simp only[go_sem,he,A3];refine DF (?_:BZ prog 186 _ _ λ h r=>h=[]/\r= .p (.int .i64 (Lib.indexByte l c))) ?_
   . refine B1 func186 rfl Afn (by simp[Tryz.f186]) ?_;simp only[go_sem];refine Cq (Aqi l c.toNat) ?_;simp only[go_sem,Asd]
   . rintro h' r ⟨rfl,rfl⟩;simp only[go_sem]
 . simp only[go_sem,he];have:l=[c]:=by simpa using (Ad he).symm
   subst this;simp[Lib.indexByte]
theorem Akh(l:List UInt8)(c:UInt8):BZ prog 139 [.p (.str l),.p (.str [c])] [] λ h r=>h=[]/\r= .p (.int .i64 (Lib.indexByte l c)):=by
 refine B1 func139 rfl Ag6 (by simp[Tryz.f139]) ?_;simp only[go_sem];refine Cq (Aew l c) ?_;simp only[go_sem]
theorem Abw(a r:List (List UInt8))(y x:List UInt8):(a++y::r).set a.length x=(a++[x])++r:=by
 rw[List.set_append_right _ _ (Ai _),Nat.sub_self,List.set_cons_zero,A0];rfl
theorem Ana(n:Nat):CJ (List.replicate n [])=List.replicate n [.str []]:=by simp[CJ]
theorem Zu(l:List UInt8)(c:UInt8)(hl:l.length<=100000000):BZ prog 104 [.p (.str l),.p (.str [c]),.p (.int .i64 0),.p (.int .i64 (-1))] [] λ h r=>h=[(0,.arr 9 1 (CJ (CU c l)))]/\r= .ref 0 0 (CU c l).length (CU c l).length:=by
 refine B1 func104 rfl Agw (by simp[Tryz.f104]) ?_;have hn:=KW c l;have hc:l.count c<=l.length:=List.count_le_length;have w1:IntKind.i64.wrap ((l.count c:Nat)+1)=(((CU c l).length:Nat):Int):=by rw[hn,B3]<;>omega
 have w2:IntKind.i64.wrap ((l.length:Int)+1)=(l.length:Int)+1:=by rw[B3]<;>omega
 have w3:¬(l.length:Int)+1<(((CU c l).length:Nat):Int):=by omega
 have w4:IntKind.i64.wrap ((((CU c l).length:Nat):Int) - 1)=((l.count c:Nat):Int):=by rw[hn,B3]<;>omega
 simp only[go_sem];refine Cq (Anp l c) ?_;simp only[go_sem,w1,w2,w3,w4,Ab];refine ⟨by omega,?_⟩;generalize hS:CU c l=S at*;refine B5 (λ q:List (List UInt8)×List UInt8=>⟨[(0,.p (.str q.2)),(1,.p (.str [c])),(2,.p (.int .i64 0)),(3,.p (.int .i64 (l.count c:Nat))),(9,.ref 31 0 S.length S.length),(10,.p (.int .i64 (q.1.length:Nat)))],[(31,.arr 9 1 (CJ (q.1++List.replicate (S.length - q.1.length) [])))],66⟩)
   (λ q=>S=q.1++CU c q.2/\q.2.length<=l.length) (λ q=>S.length - q.1.length) ([],l) ⟨by simp[hS],by simp⟩ (Wk.forget (by simp[ZF,Ana])) ?_
 rintro ⟨a,t⟩ n ⟨he,ht⟩ ih;simp only at he ht;have hln:=AR List.length he;rw[Au,KW] at hln;simp only[go_sem];refine Cx (λ h2=>?_) (λ h2=>?_)
 . have Ct:a.length<l.count c:=by simp at h2;omega
   simp only[go_sem];refine Cq (Akh t c) ?_;rcases Jl c t with ⟨h3,h4⟩ | ⟨m,h3,h4,h5⟩
   . rw[h4] at he;have:=AR List.length he;simp at this;omega
   . have c1:¬(m:Int)<0:=by omega
     have w5:IntKind.i64.wrap ((m:Int)+0)=(m:Int):=by rw[B3]<;>omega
     have w6:IntKind.i64.wrap ((m:Int)+1)=((m+1:Nat):Int):=by rw[B3]<;>omega
     have w7:=Cg a.length (by omega);have SC:(0:Int)<=(m:Int)/\(m:Int)<=(t.length:Int):=by omega
     have Sl:(0:Int)<=((m+1:Nat):Int)/\((m+1:Nat):Int)<=(t.length:Int):=by omega
     have ha:(0:Int)<=(a.length:Int)/\(a.length:Int)<(S.length:Int):=by omega
     obtain ⟨k,hk⟩:∃k,S.length - a.length=k+1:=⟨S.length - a.length - 1,by omega⟩;have JF:S.length - (a.length+1)=k:=by omega
     have hlen:S.length=(a++[]::List.replicate k ([]:List UInt8)).length:=by simp;omega
     have hg:=D2 (a++[]::List.replicate k ([]:List UInt8)) a.length (by rw[<-hlen];omega);simp only[go_sem,h3,c1,hk,w5,w6,w7,Ab,B6,SC,Sl,ha,hg,BP,List.drop_zero,At];refine ⟨hlen,hlen,?_⟩;rw[<-PY,Abw];refine ih (a++[t.take m],t.drop (m+1)) _ ⟨by rw[he,h5];simp,by simp;omega⟩ (by simp;omega) ?_
     (refine Wk.forget ?_;simp[ZF,JF];done)
 . have Ct:a.length=l.count c:=by simp at h2;omega
   have hS1:S.length - a.length=1:=by omega
   rcases Jl c t with ⟨h3,h4⟩ | ⟨m,h3,h4,h5⟩
   . have w7:IntKind.i64.wrap ((a.length:Int)+1)=((S.length:Nat):Int):=by rw[B3]<;>omega
     have ha:(0:Int)<=(a.length:Int)/\(a.length:Int)<(S.length:Int):=by omega
     have hlen:S.length=(a++[([]:List UInt8)]).length:=by simp;omega
     have hg:=D2 (a++[([]:List UInt8)]) a.length (by rw[<-hlen];omega);have Ay5:S=a++[t]:=by rw[he,h4]
     have hS0:(0:Int)<=(S.length:Int):=by omega
     simp only[go_sem,hS1,w7,Ab,B6,ha,hg,BP,<-PY,Abw,A5,hS0,Int.sub_zero];refine ⟨hlen,hlen,by rw[Ay5],C0 ?_⟩;simp only[go_sem];rw[Ay5]
   . rw[h5] at he;have h6:=KW c (t.drop (m+1));have:=AR List.length he;simp at this;omega
theorem Aix(l:List UInt8)(c:UInt8)(hl:l.length<=100000000):BZ prog 60 [.p (.str l),.p (.str [c])] [] λ h r=>h=[(0,.arr 9 1 (CJ (CU c l)))]/\r= .ref 0 0 (CU c l).length (CU c l).length:=by
 refine B1 func60 rfl Am9 (by simp[Tryz.f60]) ?_;simp only[go_sem];refine Cq (Zu l c hl) ?_;simp only[go_sem];refine C0 ?_;simp only[go_sem]
def HF(c:Int):Bool:=decide (32<c)&&(decide (c<=126)&&!decide (c=35))
theorem JU(c:Int):BZ prog 105 [.p (.int .u8 c)] [] λ h r=>h=[]/\r= .p (.bool (HF c)):=by
 refine B1 func105 rfl Agv (by simp[Tryz.f105]) ?_;by_cases h1:32<c
 . by_cases h2:c<=126
   . simp only[go_sem,h1,h2];simp[HF,h1,h2]
   . simp only[go_sem,h1,h2];simp[HF,h1,h2]
 . simp only[go_sem,h1];simp[HF,h1]
def H9:List UInt8->Option (List UInt8)->List (List UInt8)->List (List UInt8)×Int
 | [],none,acc=>(acc,0)
 | [],some cur,acc=>(acc++[cur],0)
 | b::r,c,acc=>
   if (b.toNat:Int)=35 then (acc++c.toList,0)
   else if (b.toNat:Int)=32∨(b.toNat:Int)=9 then H9 r none (acc++c.toList)
   else if HF b.toNat then (if (c.getD []).length=12 then ([],3) else H9 r (some (c.getD []++[b])) acc)
   else ([],2)
theorem Afj(b:UInt8)(r:List UInt8)(acc:List (List UInt8))(h1:¬(b.toNat:Int)=35)(h2:¬(b.toNat:Int)=32)(h3:¬(b.toNat:Int)=9):H9 (b::r) none acc=H9 (b::r) (some []) acc:=by
 simp[H9,h1,h2,h3]
theorem Afk(t:List UInt8)(cur:List UInt8)(acc:List (List UInt8))(h:∀b r,t=b::r->(b.toNat:Int)=35∨(b.toNat:Int)=32∨(b.toNat:Int)=9):H9 t (some cur) acc=H9 t none (acc++[cur]):=by
 cases t with
 | nil=>simp[H9]
 | cons b r=>
   rcases h b r rfl with h | h | h<;>simp[H9,h]
theorem Ard(s:List UInt8)(hs:s.length<=100000000):BZ prog 61 [.p (.str s)] [] λ h r=>h=[]/\r= .Dg [.p (.sl (CJ (H9 s none []).1)),.p (.int .i64 (H9 s none []).2)]:=by
 refine B1 func61 rfl Am8 (by simp[Tryz.f61]) ?_;simp only[go_sem];refine Se (λ q:Bool×Nat×Nat×List (List UInt8)=>if q.1 then 1 else 0)
   (λ q=>⟨[(0,.p (.str s)),(2,.cl []),(4,.ref 59 0 q.2.2.2.length q.2.2.2.length),(5,.p (.int .i64 (q.2.1:Nat))),(6,.p (.int .i64 (q.2.2.1:Nat)))],[(59,.arr 9 1 (CJ q.2.2.2))],71⟩)
   (λ q=>q.2.2.1<=q.2.1/\q.2.1<=s.length/\(q.1=true->q.2.1<=q.2.2.1+12/\q.2.2.1<q.2.1/\q.2.2.2.length<=q.2.2.1)/\q.2.2.2.length<=q.2.1/\H9 (s.drop q.2.1) (if q.1 then some ((s.take q.2.1).drop q.2.2.1) else none) q.2.2.2=H9 s none [])
   (λ q=>2*(s.length - q.2.1)+(if q.1 then 1 else 0)) (2*s.length+2) ?_ ?_
 . intro n ih;simp only[go_sem];cases Js:decide ((0:Int)=(s.length:Int));rotate_left
   . have Akz:0=s.length:=by have:=Ad Js;omega
     simp only[go_sem,Js];refine BY ?_;simp only[go_sem];rw[A1 Akz.symm];simp[H9,CJ]
   have Ct:0<s.length:=by have:=Ae Js;omega
   have PI:s=s.getD 0 0::s.drop 1:=by have:=DO s 0 0 Ct;simpa using this
   have he:H9 (s.getD 0 0::s.drop 1) none []=H9 s none []:=by rw[<-PI]
   have Q7:(0:Int)<(s.length:Int):=by omega
   have Dx:(0:Int)<=(0:Int):=by omega
   have hw:IntKind.i64.wrap ((0:Int)+1)=(((0+1:Nat)):Int):=by rw[B3]<;>omega
   have LA:IntKind.i64.wrap ((0:Int) - 0)=0:=by rw[Int.sub_self];rfl
   have htk:(s.take (0+1)).drop 0=[s.getD 0 0]:=by rw[List.drop_take,DO s _ 0 Ct];simp
   generalize hb:s.getD 0 0=b at*;generalize hc:(b.toNat:Int)=c at*;cases Ql:decide (c=35);rotate_left
   . simp only[go_sem,Ab,Js,Q7,Dx,hb,hc,Ql,Int.reduceToNat,Nat.reduceAdd];refine BY ?_;simp only[go_sem];have:=Ad Ql;rw[<-he];simp[H9,hc,this,B6,KG,CJ]
   have XH:=Ae Ql;cases Zt:decide (c=32)
   . cases h9:decide (c=9)
     . have Rd:=Ae Zt;have h9':=Ae h9;simp only[go_sem,Ab,Js,Q7,Dx,hb,hc,Ql,Zt,h9];refine Cq (JU c) ?_;cases Ke:HF c
       . simp only[go_sem,Ke];refine BY ?_;simp only[go_sem];rw[<-he];simp[H9,hc,XH,Rd,h9',Ke,CJ]
       . simp only[go_sem,Ke,hw,LA];refine ih (true,0+1,0,[]) _ ⟨by simp only;omega,by simp only;omega,(λ _=>by simp only[Az];omega),by simp only[Az];omega,?_⟩ (by simp only[AM];omega) ?_
         . rw[<-he];simp only[AM,htk];simp[H9,hc,XH,Rd,h9',Ke]
         . exact (Wk.nil (t:=4) (q:=59) (sz:=1) 9 rfl rfl (by decide)).trans (Wk.forget (by simp[ZF,CJ]))
     . have h9':=Ad h9;simp only[go_sem,Ab,Js,Q7,Dx,hb,hc,Ql,Zt,h9,hw];refine ih (false,0+1,0,[]) _ ⟨by simp only;omega,by simp only;omega,(λ h=>by cases h),by simp only[Az];omega,?_⟩ (by simp;omega) ?_
       . rw[<-he];simp[H9,hc,h9']
       . exact (Wk.nil (t:=4) (q:=59) (sz:=1) 9 rfl rfl (by decide)).trans (Wk.forget (by simp[ZF,CJ]))
   . have Rd:=Ad Zt;simp only[go_sem,Ab,Js,Q7,Dx,hb,hc,Ql,Zt,hw];refine ih (false,0+1,0,[]) _ ⟨by simp only;omega,by simp only;omega,(λ h=>by cases h),by simp only[Az];omega,?_⟩ (by simp;omega) ?_
     . rw[<-he];simp[H9,hc,Rd]
     . exact (Wk.nil (t:=4) (q:=59) (sz:=1) 9 rfl rfl (by decide)).trans (Wk.forget (by simp[ZF,CJ]))
 . rintro ⟨Yd,at_,bg,acc⟩ n ⟨hbg,II,Ve,Bc9,he⟩ ih;simp only at hbg II Ve Bc9 he;cases Yd
   . simp only[AJ,A9] at he;refine ⟨_,rfl,?_⟩;simp only[go_sem];cases Js:decide ((at_:Int)=(s.length:Int));rotate_left
     . have Akz:at_=s.length:=by have:=Ad Js;omega
       simp only[go_sem,Js];refine BY ?_;simp only[go_sem];rw[<-he,BG (by omega)];simp[H9,B6,KG]
     have Ct:at_<s.length:=by have:=Ae Js;omega
     rw[DO s at_ 0 Ct] at he;have Q7:(at_:Int)<(s.length:Int):=by omega
     have Dx:(0:Int)<=(at_:Int):=by omega
     have hw:IntKind.i64.wrap ((at_:Int)+1)=(((at_+1:Nat)):Int):=by rw[B3]<;>omega
     have LA:IntKind.i64.wrap ((at_:Int) - at_)=0:=by rw[Int.sub_self];rfl
     have htk:(s.take (at_+1)).drop at_=[s.getD at_ 0]:=by rw[List.drop_take,DO s _ 0 Ct];simp
     generalize hb:s.getD at_ 0=b at*;generalize hc:(b.toNat:Int)=c at*;cases Ql:decide (c=35);rotate_left
     . simp only[go_sem,Ab,Js,Q7,Dx,hb,hc,Ql];refine BY ?_;simp only[go_sem];have:=Ad Ql;rw[<-he];simp[H9,hc,this,B6,KG]
     have XH:=Ae Ql;cases Zt:decide (c=32)
     . cases h9:decide (c=9)
       . have Rd:=Ae Zt;have h9':=Ae h9;simp only[go_sem,Ab,Js,Q7,Dx,hb,hc,Ql,Zt,h9];refine Cq (JU c) ?_;cases Ke:HF c
         . simp only[go_sem,Ke];refine BY ?_;simp only[go_sem];rw[<-he];simp[H9,hc,XH,Rd,h9',Ke,CJ]
         . simp only[go_sem,Ke,hw,LA];refine ih (true,at_+1,at_,acc) _ ⟨by simp only;omega,by simp only;omega,(λ _=>by simp only[Az];omega),by simp only[Az];omega,?_⟩ (by simp only[AM];omega) ?_
           . rw[<-he];simp only[AM,htk];simp[H9,hc,XH,Rd,h9',Ke]
           . (refine Wk.forget ?_;simp[ZF];done)
       . have h9':=Ad h9;simp only[go_sem,Ab,Js,Q7,Dx,hb,hc,Ql,Zt,h9,hw];refine ih (false,at_+1,bg,acc) _ ⟨by simp only;omega,by simp only;omega,(λ h=>by cases h),by simp only[Az];omega,?_⟩ (by simp;omega) ?_
         . rw[<-he];simp[H9,hc,h9']
         . (refine Wk.forget ?_;simp[ZF];done)
     . have Rd:=Ad Zt;simp only[go_sem,Ab,Js,Q7,Dx,hb,hc,Ql,Zt,hw];refine ih (false,at_+1,bg,acc) _ ⟨by simp only;omega,by simp only;omega,(λ h=>by cases h),by simp only[Az];omega,?_⟩ (by simp;omega) ?_
       . rw[<-he];simp[H9,hc,Rd]
       . (refine Wk.forget ?_;simp[ZF];done)
   . simp only[AM] at he ih;simp only[forall_const] at Ve;refine ⟨_,rfl,?_⟩;simp only[go_sem];have hbi:(0:Int)<=(bg:Int)/\(bg:Int)<=(at_:Int)/\(at_:Int)<=(s.length:Int):=by omega
     have flush:(∀b r,s.drop at_=b::r->(b.toNat:Int)=35∨(b.toNat:Int)=32∨(b.toNat:Int)=9)->H9 (s.drop at_) none (acc++[(s.take at_).drop bg])=H9 s none []:=by
       intro h;rw[<-Afk _ _ _ h];exact he
     cases Js:decide ((at_:Int)=(s.length:Int));rotate_left
     . have Akz:at_=s.length:=by have:=Ad Js;omega
       have hdn:s.drop at_=[]:=BG (by omega);simp only[go_sem,Js,Ab,B6,hbi];refine ⟨⟨EB _ _ rfl,by omega⟩,?_⟩;refine ih (false,at_,bg,acc++[(s.take at_).drop bg]) _ ⟨hbg,II,(λ h=>by cases h),by have:=Ve.2.2;have:=Ve.2.1;simp;omega,?_⟩ (by simp) ?_
       . simp only[AJ,A9];exact flush (λ b r h=>by rw[hdn] at h;cases h)
       . (refine Wk.forget ?_;simp[ZF,E8,B6];done)
     have Ct:at_<s.length:=by have:=Ae Js;omega
     have hd:=DO s at_ 0 Ct;have Q7:(at_:Int)<(s.length:Int):=by omega
     have Dx:(0:Int)<=(at_:Int):=by omega
     have hw:IntKind.i64.wrap ((at_:Int)+1)=((at_+1:Nat):Int):=by rw[B3]<;>omega
     have LA:IntKind.i64.wrap ((at_:Int) - bg)=((at_ - bg:Nat):Int):=by rw[B3]<;>omega
     have htk:(s.take (at_+1)).drop bg=(s.take at_).drop bg++[s.getD at_ 0]:=by
       rw[List.take_succ_eq_append_getElem Ct,List.drop_append_of_le_length (by simp;omega)];simp[List.getD,Ct]
     have Qk:((s.take at_).drop bg).length=at_ - bg:=by simp;omega
     generalize hb:s.getD at_ 0=b at*;rw[hd] at he;generalize hc:(b.toNat:Int)=c at*;have sep:c=35∨c=32∨c=9->H9 (s.drop at_) none (acc++[(s.take at_).drop bg])=H9 s none []:=by
       intro h;refine flush λ b' r' h'=>?_;rw[hd] at h';cases h';rw[hc];exact h
     cases Ql:decide (c=35)
     . cases Zt:decide (c=32)
       . cases h9:decide (c=9)
         . have XH:=Ae Ql;have Rd:=Ae Zt;have h9':=Ae h9;simp only[go_sem,Ab,Js,Q7,Dx,hb,hc,Ql,Zt,h9];refine Cq (JU c) ?_;cases Ke:HF c
           . simp only[go_sem,Ke];refine BY ?_;simp only[go_sem];rw[<-he];simp[H9,hc,XH,Rd,h9',Ke,CJ]
           . cases Aqy:decide (((at_ - bg:Nat):Int)=12)
             . have Av3:¬at_ - bg=12:=by have:=Ae Aqy;omega
               simp only[go_sem,Ke,hw,LA,Aqy];refine ih (true,at_+1,bg,acc) _ ⟨by simp only;omega,by simp only;omega,(λ _=>by simp only;omega),by simp only;omega,?_⟩ (by simp only[AM];omega) ?_
               . rw[<-he];simp only[AM,htk];simp[H9,hc,XH,Rd,h9',Ke,Qk,Av3]
               . (refine Wk.forget ?_;simp[ZF];done)
             . have Av3:at_ - bg=12:=by have:=Ad Aqy;omega
               simp only[go_sem,Ke,hw,LA,Aqy];refine BY ?_;simp only[go_sem];rw[<-he];simp[H9,hc,XH,Rd,h9',Ke,Qk,Av3,CJ]
         . simp only[go_sem,Ab,Js,Q7,Dx,hb,hc,Ql,Zt,h9,B6,hbi];refine ⟨⟨EB _ _ rfl,by omega⟩,?_⟩;refine ih (false,at_,bg,acc++[(s.take at_).drop bg]) _ ⟨hbg,II,(λ h=>by cases h),by have:=Ve.2.2;have:=Ve.2.1;simp;omega,?_⟩ (by simp) ?_
           . simp only[AJ,A9];exact sep (.inr (.inr (Ad h9)))
           . (refine Wk.forget ?_;simp[ZF,E8,B6];done)
       . simp only[go_sem,Ab,Js,Q7,Dx,hb,hc,Ql,Zt,B6,hbi];refine ⟨⟨EB _ _ rfl,by omega⟩,?_⟩;refine ih (false,at_,bg,acc++[(s.take at_).drop bg]) _ ⟨hbg,II,(λ h=>by cases h),by have:=Ve.2.2;have:=Ve.2.1;simp;omega,?_⟩ (by simp) ?_
         . simp only[AJ,A9];exact sep (.inr (.inl (Ad Zt)))
         . (refine Wk.forget ?_;simp[ZF,E8,B6];done)
     . simp only[go_sem,Ab,Js,Q7,Dx,hb,hc,Ql,B6,hbi];refine ⟨⟨EB _ _ rfl,by omega⟩,?_⟩;refine ih (false,at_,bg,acc++[(s.take at_).drop bg]) _ ⟨hbg,II,(λ h=>by cases h),by have:=Ve.2.2;have:=Ve.2.1;simp;omega,?_⟩ (by simp) ?_
       . simp only[AJ,A9];exact sep (.inl (Ad Ql))
       . (refine Wk.forget ?_;simp[ZF,E8,B6];done)
def I9:List (List UInt8)->Nat->List Ln->List Ln×Int×Int
 | [],_,acc=>(acc,0,0)
 | t::r,k,acc=>if (H9 t none []).2=0 then I9 r (k+1) (if 0<(H9 t none []).1.length then acc++[⟨(k:Nat),(H9 t none []).1⟩] else acc) else ([],(k:Nat),(H9 t none []).2)
def Dp(s:List UInt8):List Ln×Int×Int:=if 6000<s.length then ([],0,1) else I9 (CU 10 s) 1 []
def Xn(r:List Ln×Int×Int):D:= .Dg [.p (.sl (GA r.1)),.p (.int .i64 r.2.1),.p (.int .i64 r.2.2)]
theorem WZ(c:UInt8)(l:List UInt8):∀x∈CU c l,x.length<=l.length:=by
 induction l with
 | nil=>simp[CU]
 | cons b r ih=>
   intro x hx;simp only[CU] at hx;split at hx
   . rcases AF.1 hx with rfl | hx
     . simp
     . have:=ih x hx;simp;omega
   . split at hx
     . simp at hx;subst hx;simp
     . rename_i y ys h;rcases AF.1 hx with rfl | hx
       . have:=ih y (by rw[h];simp);simp;omega
       . have:=ih x (by rw[h];simp[hx]);simp;omega
theorem Aei(s:List UInt8):BZ prog 29 [.p (.str s)] [] λ h r=>h=[]/\r=Xn (Dp s):=by
 refine B1 func29 rfl Amu (by simp[Tryz.f29]) ?_;cases hlen:decide ((6000:Int)<(s.length:Int))
 . have hl:s.length<=6000:=by have:=Ae hlen;omega
   have hf:Dp s=I9 (CU 10 s) 1 []:=by unfold Dp;rw[if_neg (by omega)]
   rw[hf];simp only[go_sem,hlen];refine Cq (Aix s 10 (by omega)) ?_;have hsm:=WZ 10 s;have Aya:=KW 10 s;have Qk:s.count 10<=s.length:=List.count_le_length;generalize hS:CU 10 s=S at*;simp only[go_sem,B6];refine B5 (λ q:Nat×List Ln=>⟨[(14,.ref 10014 0 S.length S.length),(15,.p (.int .i64 (S.length:Nat))),(16,.p (.int .i64 (q.1:Nat))),(5,.ref 40 0 q.2.length q.2.length)],[(10014,.arr 9 1 (CJ S)),(40,.arr 80 2 (GA q.2))],43⟩)
     (λ q=>q.1<=S.length/\q.2.length<=q.1/\I9 (S.drop q.1) (q.1+1) q.2=I9 S 1 []) (λ q=>S.length - q.1) (0,[]) ⟨AE _,by simp,by simp⟩ ((Wk.nil (t:=5) (q:=40) (sz:=2) 80 rfl rfl (by decide)).trans (Wk.forget (by simp[ZF,GA]))) ?_
   rintro ⟨i,acc⟩ n ⟨hi,hn,he⟩ ih;simp only at hi hn he;simp only[go_sem];refine Cx (λ h2=>?_) (λ h2=>?_)
   . have Ct:i<S.length:=by simp at h2;omega
     have hw:=Cg i (by omega);have hb:=hsm _ (CK S i [] Ct);have Q7:(i:Int)<(S.length:Int):=by omega
     have Dx:(0:Int)<=(i:Int):=by omega
     have hg:=D2 S i Ct;rw[DO S i [] Ct] at he;generalize S.getD i []=t at*;simp only[go_sem,Ab,B6,hg,Q7,Dx];refine Cq (Ard t (by omega)) ?_;by_cases hz:(H9 t none []).2=0
     . by_cases hp:0<(H9 t none []).1.length
       . have hp':(0:Int)<((H9 t none []).1.length:Int):=by omega
         simp only[go_sem,hz,hw,B6,DB,hp'];refine ⟨⟨EB _ _ rfl,by omega⟩,?_⟩;refine ih (i+1,acc++[⟨(i+1:Nat),(H9 t none []).1⟩]) _ ⟨Ct,by simp only[Au,Ar,Az];omega,by rw[<-he];simp only[I9,hz,hp,AM]⟩ (by simp only;omega) ?_
         (refine Wk.forget ?_;simp[ZF,Nl,DB];done)
       . have hp':¬(0:Int)<((H9 t none []).1.length:Int):=by omega
         simp only[go_sem,hz,hw,B6,hp'];refine ih (i+1,acc) _ ⟨Ct,by simp only;omega,by rw[<-he];simp only[I9,hz,hp,AM,A9]⟩ (by simp only;omega) ?_
         (refine Wk.forget ?_;simp[ZF];done)
     . simp only[go_sem,hz,hw];refine BY ?_;simp only[go_sem];rw[<-he];simp[I9,hz,Xn,GA]
   . simp only[go_sem];have Aau:i=S.length:=by simp at h2;omega
     subst Aau;refine BY ?_;simp only[go_sem];rw[BA] at he;rw[<-he];simp[I9,Xn,DB,Wq]
 . have hl:6000<s.length:=by have:=Ad hlen;omega
   have hf:Dp s=([],0,1):=by unfold Dp;rw[if_pos hl]
   rw[hf];simp only[go_sem,hlen];refine BY ?_;simp only[go_sem];try simp[Xn,GA]
def E1(n:Nat):List UInt8:=if h:n<10 then [UInt8.ofNat (48+n)] else E1 (n / 10)++[UInt8.ofNat (48+n % 10)]
termination_by n
decreasing_by omega
def P7(n:Int):List UInt8:=if n<0 then 45::E1 (-n).toNat else E1 n.toNat
theorem Ex(n:Nat)(h:n<10):E1 n=[UInt8.ofNat (48+n)]:=by rw[E1,dif_pos h]
theorem Is(n:Nat)(h:¬n<10):E1 n=E1 (n / 10)++[UInt8.ofNat (48+n % 10)]:=by rw[E1,dif_neg h]
theorem Jz:∀(k n:Nat),n<10 ^ (k+1)->(E1 n).length<=k+1
 | 0,n,h=>by rw[Ex n (by simpa using h)];simp
 | k+1,n,h=>by
   by_cases h1:n<10
   . rw[Ex n h1];simp
   . have:=Jz k (n / 10) (by rw[Nat.pow_succ] at h;omega);rw[Is n h1];simp;omega
theorem Nq(n:Nat)(hn:n<=1000000000000000):BZ prog 56 [.p (.int .i64 (n:Nat))] [] λ h r=>h=[]/\r= .p (.str (E1 n)):=by
 refine B1 func56 rfl Amd (by simp[Tryz.f56]) ?_;have hlen:=Jz 15 n (by omega);have h0:¬(n:Int)<0:=by omega
 simp only[go_sem,h0];refine B5 (λ q:Nat×List UInt8=>⟨[(0,.p (.int .i64 (q.1:Nat))),(3,.p (.str q.2))],[],23⟩) (λ q=>q.1<=n/\E1 q.1++q.2=E1 n) (λ q=>q.1) (n,[]) ⟨Ai _,by simp⟩ (Wk.forget (by simp[ZF])) ?_;rintro ⟨m,s⟩ k ⟨hm,he⟩ ih;simp only at hm he;have Zr:(m:Int).tmod 10=((m % 10:Nat):Int):=by rw[Int.tmod_eq_emod_of_nonneg (by omega)];omega
 have hdiv:(m:Int).tdiv 10=((m / 10:Nat):Int):=by rw[Int.tdiv_eq_ediv_of_nonneg (by omega)];omega
 have w1:IntKind.i64.wrap (48+((m % 10:Nat):Int))=48+((m % 10:Nat):Int):=by rw[B3]<;>omega
 have w2:IntKind.u8.wrap (48+((m % 10:Nat):Int))=((UInt8.ofNat (48+m % 10)).toNat:Int):=by rw[IntKind.wrap_u8];simp
 have w3:IntKind.i64.wrap ((m / 10:Nat):Int)=((m / 10:Nat):Int):=by rw[B3]<;>omega
 have Asv:¬(10:Int)=0:=by decide
 have hsl:s.length<=20:=by have:=AR List.length he;simp at this;omega
 simp only[go_sem,Zr,hdiv,w1,w2,Asv];refine Aw9 (l:=[UInt8.ofNat (48+m % 10)]) rfl Apa ti9 ti5 rfl rfl ?_;simp only[go_sem,Zr,hdiv,w3,Asv];refine ⟨by unfold maxLen;omega,?_⟩;refine Cx (λ h2=>?_) (λ h2=>?_)
 . simp only[go_sem];have h3:m<10:=by simp at h2;omega
   rw[<-he,Ex m h3,Nat.mod_eq_of_lt h3];rfl
 . have h3:¬m<10:=by simp at h2;omega
   simp only[go_sem];refine ih (m / 10,[UInt8.ofNat (48+m % 10)]++s) _ ⟨by simp only;omega,by rw[<-he,Is m h3];simp⟩ (by simp only;omega) ?_
   (refine Wk.forget ?_;simp[ZF];done)
theorem XP(k:Nat)(h:k<10):((UInt8.ofNat (48+k)).toNat:Int)=48+k:=by simp;omega
theorem Z0(k:Nat):∀n:Nat,n<10 ^ (k+1)->IM (E1 n)=(n:Int)/\P6 (E1 n)=true/\E1 n≠[]/\(n≠0->(((E1 n).getD 0 0).toNat:Int)≠48):=by
 induction k with
 | zero=>
   intro n h;have h1:n<10:=by simpa using h
   rw[Ex n h1];refine ⟨by simp[IM];omega,by simp[P6,Vi];omega,by simp,λ h2=>?_⟩;simp only[A3,XP n h1];omega
 | succ k ih=>
   intro n h;by_cases h1:n<10
   . rw[Ex n h1];refine ⟨by simp[IM];omega,by simp[P6,Vi];omega,by simp,λ h2=>?_⟩;simp only[A3,XP n h1];omega
   . obtain ⟨i1,i2,i3,i4⟩:=ih (n / 10) (by rw[Nat.pow_succ] at h;omega);rw[Is n h1];have JI:n % 10<10:=Nat.mod_lt _ (by decide);refine ⟨?_,?_,by simp,λ _=>?_⟩
     . unfold IM at i1 ⊢;rw[List.foldl_append,i1];simp only[Bo,List.foldl_nil,XP _ JI];omega
     . unfold P6 at i2 ⊢;rw[List.all_append,i2];simp only[List.all_cons,List.all_nil,XP _ JI];simp[Vi];omega
     . have:(E1 (n / 10)++[UInt8.ofNat (48+n % 10)]).getD 0 0=(E1 (n / 10)).getD 0 0:=by
         cases hd:E1 (n / 10) with
         | nil=>exact (i3 hd).elim
         | cons x xs=>rfl
       rw[this];exact i4 (by omega)
theorem Acv:∀(k n:Nat),10 ^ k<=n->k+1<=(E1 n).length
 | 0,n,h=>by
   by_cases h1:n<10
   . rw[Ex n h1];simp
   . rw[Is n h1];simp
 | k+1,n,h=>by
   have h1:¬n<10:=by rw[Nat.pow_succ] at h;have:=Nat.one_le_pow k 10 (by decide);omega
   have:=Acv k (n / 10) (by rw[Nat.pow_succ] at h;omega);rw[Is n h1];simp;omega
theorem Tk(neg:Bool)(n:Nat)(h:n<1000000)(h0:neg=true->n≠0):numOf neg (E1 n)=if n<=9999 then (if neg then 0 - (n:Int) else n,true) else (0,false):=by
 obtain ⟨h1,h2,h3,h4⟩:=Z0 5 n (by omega);have hlen:(E1 n).length<=4↔n<=9999:=by
   constructor
   . intro h5;by_cases h6:n<=9999
     . exact h6
     . have:=Acv 4 n (by omega);omega
   . intro h5;exact Jz 3 n (by omega)
 cases hd:E1 n with
 | nil=>exact (h3 hd).elim
 | cons b r=>
   rw[hd] at h1 h2 h4 hlen;simp only[Ar,A3] at hlen h4;by_cases h5:n<=9999
   . have hl:¬4<r.length+1:=by have:=hlen.2 h5;omega
     have hb:¬((b.toNat:Int)=48/\(neg=true∨1<r.length+1)):=by
       rintro ⟨h6,h7⟩;have hn0:n=0:=Classical.byContradiction λ h8=>h4 h8 h6;rcases h7 with h7 | h7
       . exact h0 h7 hn0
       . subst hn0;rw[Ex 0 (by decide)] at hd;cases hd;simp at h7
     rw[if_pos h5];simp only[numOf,hl,hb,or_self,A9,h2,AM,h1]
   . have hl:4<r.length+1:=by omega
     rw[if_neg h5];simp only[numOf,hl,true_or,AM]
theorem Ab8(n:Nat)(h:n<1000000):∃b r,E1 n=b::r/\b≠45:=by
 obtain ⟨_,h2,h3,_⟩:=Z0 5 n (by omega);cases hd:E1 n with
 | nil=>exact (h3 hd).elim
 | cons b r=>
   rw[hd] at h2;refine ⟨b,r,rfl,?_⟩;rintro rfl;simp[P6,Vi] at h2
theorem Ae9(n:Int)(h1:-1000000<n)(h2:n<1000000):Pl (P7 n)=if -9999<=n/\n<=9999 then (n,true) else (0,false):=by
 unfold P7;by_cases hn:n<0
 . rw[if_pos hn];have hp:LO (45::E1 (-n).toNat) [45]=true:=by simp[LO]
   unfold Pl;rw[if_pos hp];simp only[List.drop_succ_cons,List.drop_zero];rw[Tk true _ (by omega) (λ _=>by omega)];by_cases h3:-9999<=n
   . have h5:(-n).toNat<=9999:=by omega
     have h6:-9999<=n/\n<=9999:=by omega
     rw[if_pos h5,if_pos h6];simp;omega
   . have h5:¬(-n).toNat<=9999:=by omega
     have h6:¬(-9999<=n/\n<=9999):=by omega
     rw[if_neg h5,if_neg h6]
 . rw[if_neg hn];obtain ⟨b,r,hd,hb⟩:=Ab8 n.toNat (by omega);have hp:LO (E1 n.toNat) [45]=false:=by rw[hd];simp[LO,hb]
   unfold Pl;rw[hp];simp only[AJ,A9];rw[Tk false _ (by omega) (λ h=>by cases h)];by_cases h3:n<=9999
   . have h5:n.toNat<=9999:=by omega
     have h6:-9999<=n/\n<=9999:=by omega
     rw[if_pos h5,if_pos h6];simp;omega
   . have h5:¬n.toNat<=9999:=by omega
     have h6:¬(-9999<=n/\n<=9999):=by omega
     rw[if_neg h5,if_neg h6]
theorem Mw(l:List Int)(x:Int)(hl:l.length<=10000000):
   BZ prog 45 [.p (.sl (BX l)),.p (.int .i64 x)] [] λ h r=>h=[]/\r= .p (.bool (decide (x∈l))):=by
 refine B1 func45 rfl ZN (by simp[Tryz.f45]) ?_;simp only[go_sem,BW];refine B5 (λ i=>⟨[(0,.p (.sl (BX l))),(1,.p (.int .i64 x)),(5,.p (.int .i64 (i:Nat)))],[],18⟩) (λ i=>i<=l.length/\x∉l.take i) (λ i=>l.length - i) 0 ⟨AE _,by simp⟩ (Wk.forget (by simp[ZF,BX])) ?_;rintro i n ⟨hi,he⟩ ih;simp only[go_sem,BW];refine Cx (λ h2=>?_) (λ h2=>?_)
 . have Ct:i<l.length:=by simp at h2;omega
   have hw:=Cg i (by omega);have hg:=Cj l i Ct;have hx:l[i]?=some (l.getD i 0):=by simp[List.getD,Ct]
   have Dx:(0:Int)<=(i:Int)/\(i:Int)<(l.length:Int):=by omega
   have ET:=CK l i 0 Ct;generalize l.getD i 0=y at*;simp only[go_sem,BW,Ab,hg,Dx];cases hv:decide (y=x)
   . simp only[go_sem,hv,hw];refine ih (i+1) _ ⟨Ct,?_⟩ (by omega) ?_
     . rw[BQ,hx];have:¬x=y:=λ e=>Ae hv e.symm;simp[he,this]
     . (refine Wk.forget ?_;simp[ZF,BX];done)
   . simp only[go_sem,hv];have hm:x∈l:=by rw[<-Ad hv];exact ET
     simp[hm]
 . simp only[go_sem];have:i=l.length:=by simp at h2;omega
   subst this;rw[At] at he;simp[he]
theorem Aqv(l:List Int)(x:Int)(hl:l.length<=10000000):
   BZ prog 45 [.ref 1000000 0 l.length l.length,.p (.int .i64 x)] [(1000000,.arr 3 1 (BX l))] λ h r=>h=[(1000000,.arr 3 1 (BX l))]/\r= .p (.bool (decide (x∈l))):=by
 refine B1 func45 rfl ZN (by simp[Tryz.f45]) ?_;simp only[go_sem,BW];refine B5 (λ i=>⟨[(0,.ref 1000000 0 l.length l.length),(1,.p (.int .i64 x)),(5,.p (.int .i64 (i:Nat)))],[(1000000,.arr 3 1 (BX l))],18⟩) (λ i=>i<=l.length/\x∉l.take i) (λ i=>l.length - i) 0 ⟨AE _,by simp⟩ (Wk.forget (by simp[ZF,BX])) ?_;rintro i n ⟨hi,he⟩ ih;simp only[go_sem,BW];refine Cx (λ h2=>?_) (λ h2=>?_)
 . have Ct:i<l.length:=by simp at h2;omega
   have hw:=Cg i (by omega);have hg:=Cj l i Ct;have hx:l[i]?=some (l.getD i 0):=by simp[List.getD,Ct]
   have Dx:(0:Int)<=(i:Int)/\(i:Int)<(l.length:Int):=by omega
   have ET:=CK l i 0 Ct;generalize l.getD i 0=y at*;simp only[go_sem,BW,Ab,hg,Dx];cases hv:decide (y=x)
   . simp only[go_sem,hv,hw];refine ih (i+1) _ ⟨Ct,?_⟩ (by omega) ?_
     . rw[BQ,hx];have:¬x=y:=λ e=>Ae hv e.symm;simp[he,this]
     . (refine Wk.forget ?_;simp[ZF,BX];done)
   . simp only[go_sem,hv];have hm:x∈l:=by rw[<-Ad hv];exact ET
     simp[hm]
 . simp only[go_sem];have:i=l.length:=by simp at h2;omega
   subst this;rw[At] at he;simp[he]
theorem Na(l:List Int)(x:Int)(hl:l.length<=10000000):
   BZ prog 102 [.p (.sl (BX l)),.p (.int .i64 x)] [] λ h r=>h=[]/\r= .p (.sl (BX (Kv l x))):=by
 refine B1 func102 rfl Agy (by simp[Tryz.f102]) ?_;simp only[go_sem,BW];refine B5 (λ q:Nat×Bool×List Int=>⟨[(0,.p (.sl (BX l))),(1,.p (.int .i64 x)),(5,.ref 27 0 q.2.2.length q.2.2.length),(6,.p (.bool q.2.1)),(7,.p (.int .i64 (q.1:Nat)))],[(27,.arr 3 1 (BX q.2.2))],42⟩)
   (λ q=>q.1<=l.length/\q.2.2.length<=q.1+q.2.1.toNat/\q.2.2++(if q.2.1 then l.drop q.1 else Kv (l.drop q.1) x)=Kv l x) (λ q=>l.length - q.1) (0,false,[]) ⟨AE _,by simp,by simp⟩ ((Wk.nil (t:=5) (q:=27) (sz:=1) 3 rfl rfl (by decide)).trans (Wk.forget (by simp[ZF,BX]))) ?_
 rintro ⟨i,dn,acc⟩ n ⟨hi,ha,he⟩ ih;simp only at hi ha he;simp only[go_sem,BW];refine Cx (λ h2=>?_) (λ h2=>?_)
 . have Ct:i<l.length:=by simp at h2;omega
   have hw:=Cg i (by omega);have hg:=Cj l i Ct;have Dx:(0:Int)<=(i:Int)/\(i:Int)<(l.length:Int):=by omega
   rw[DO l i 0 Ct] at he;generalize l.getD i 0=y at*;cases dn
   . cases hv:decide (x<y)
     . have hv':¬x<y:=Ae hv;simp only[go_sem,BW,Ab,hg,Dx,hv,hv'];refine ⟨⟨EB _ _ rfl,by simp at ha;omega⟩,?_⟩;simp only[go_sem,hw];refine ih (i+1,false,acc++[y]) _ ⟨Ct,by simp at ha ⊢;omega,?_⟩ (by simp only;omega) ?_
       . rw[<-he];simp[Kv,hv']
       . (refine Wk.forget ?_;simp[ZF,D5,BW];done)
     . have hv':x<y:=Ad hv;simp only[go_sem,BW,Ab,hg,Dx,hv,hv'];refine ⟨⟨EB _ _ rfl,by simp at ha;omega⟩,⟨EB _ _ rfl,by simp at ha;simp[BW];omega⟩,?_⟩;simp only[go_sem,hw];refine ih (i+1,true,acc++[x]++[y]) _ ⟨Ct,by simp at ha ⊢;omega,?_⟩ (by simp only;omega) ?_
       . rw[<-he];simp[Kv,hv']
       . (refine Wk.forget ?_;simp[ZF,BX];done)
   . simp only[go_sem,BW,Ab,hg,Dx];refine ⟨⟨EB _ _ rfl,by simp at ha;omega⟩,?_⟩;simp only[go_sem,hw];refine ih (i+1,true,acc++[y]) _ ⟨Ct,by simp at ha ⊢;omega,?_⟩ (by simp only;omega) ?_
     . rw[<-he];simp
     . (refine Wk.forget ?_;simp[ZF,D5,BW];done)
 . have:i=l.length:=by simp at h2;omega
   subst this;rw[BA] at he;cases dn
   . simp only[go_sem,BW];refine ⟨⟨EB _ _ rfl,by simp at ha;omega⟩,?_⟩;refine BY ?_;simp only[go_sem];rw[<-he];(try rw[AL (by simp[BW])]);simp[Kv,BX]
   . simp only[go_sem];refine BY ?_;simp only[go_sem];rw[<-he];simp[G8,BW]
def Ji(nb i:Nat)(l:List Int)(k:Nat):Prop:=0<=l.getD k 0/\l.getD k 0<(nb:Int)/\l.getD k 0≠(i:Int)/\(0<k->l.getD (k - 1) 0<l.getD k 0)
instance (nb i:Nat) (l:List Int) (k:Nat):Decidable (Ji nb i l k):=by unfold Ji;exact inferInstance
def HQ(nb i:Nat)(l:List Int):Prop:=∀k,k<l.length->Ji nb i l k
instance (nb i:Nat) (l:List Int):Decidable (HQ nb i l):=by unfold HQ;exact inferInstance
def Eg(g:List (List Int)):Prop:=g.length<=24/\∀i,i<g.length->HQ g.length i (g.getD i [])
instance (g:List (List Int)):Decidable (Eg g):=by unfold Eg;exact inferInstance
def Qx(g:List (List Int)):Prop:=g.length<=10000000/\∀r∈g,r.length<=10000000
theorem HM(m:Nat)(h:m<9223372036854775807):IntKind.i64.wrap (((m+1:Nat):Int) - 1)=(m:Int):=by rw[B3]<;>omega
theorem Ad9(g:List (List Int))(hg:Qx g):BZ prog 119 [.p (.sl (Cr g))] [] λ h r=>h=[]/\r= .p (.bool (decide (Eg g))):=by
 obtain ⟨Ra,hg2⟩:=hg;refine B1 func119 rfl Agh (by simp[Tryz.f119]) ?_;simp only[go_sem,B8];refine Cx (λ h1=>?_) (λ h1=>?_)
 . simp only[go_sem];rw[Ah (λ hp=>?_)];have:=hp.1;simp at h1;omega
 have hlen:g.length<=24:=by simp at h1;omega
 simp only[go_sem];refine B5 (λ i:Nat=>⟨[(0,.p (.sl (Cr g))),(3,.p (.int .i64 (i:Nat)))],[],60⟩) (λ i=>i<=g.length/\∀j,j<i->HQ g.length j (g.getD j [])) (λ i=>g.length - i) 0 ⟨AE _,λ j hj=>absurd hj (AZ _)⟩ (Wk.forget (by simp[ZF])) ?_;rintro i n ⟨hi,Mq⟩ ih;simp only[go_sem,B8];refine Cx (λ h2=>?_) (λ h2=>?_);rotate_left
 . simp only[go_sem];have:i=g.length:=by simp at h2;omega
   subst this;rw[Ag ⟨hlen,Mq⟩]
 have Ct:i<g.length:=by simp at h2;omega
 have hw:=Cg i (by omega);have Xx:=hg2 _ (CK g i [] Ct);have It:=GP g i Ct;have JH:¬HQ g.length i (g.getD i [])->decide (Eg g)=false:=λ h=>Ah (λ hp=>h (hp.2 i Ct));have NZ:HQ g.length i (g.getD i [])->∀j,j<i+1->HQ g.length j (g.getD j []):=λ h j hj=>by
   rcases AG.1 hj with h3 | rfl
   . exact Mq j h3
   . exact h
 generalize g.getD i []=r at Xx It JH NZ;have Dx:(0:Int)<=(i:Int)/\(i:Int)<(g.length:Int):=by omega
 simp only[go_sem];refine B5 (λ k:Nat=>⟨[(0,.p (.sl (Cr g))),(3,.p (.int .i64 (i:Nat))),(4,.p (.int .i64 (k:Nat)))],[],60⟩) (λ k=>k<=r.length/\∀j,j<k->Ji g.length i r j) (λ k=>r.length - k) 0 ⟨AE _,λ j hj=>absurd hj (AZ _)⟩ (Wk.forget (by simp[ZF])) ?_;rintro k n2 ⟨hk,RY⟩ JP;simp only[go_sem,B8,BW,Ab,It,Dx];refine Cx (λ h3=>?_) (λ h3=>?_);rotate_left
 . have:k=r.length:=by simp at h3;omega
   subst this;simp only[go_sem,hw];refine ih (i+1) _ ⟨Ct,NZ RY⟩ (by omega) ?_
   (refine Wk.forget ?_;simp[ZF];done)
 have Nh:k<r.length:=by simp at h3;omega
 have H0:=Cg k (by omega);have NK:=Cj r k Nh;have Hu:(0:Int)<=(k:Int)/\(k:Int)<(r.length:Int):=by omega
 have II:Ji g.length i r k↔(0<=r.getD k 0/\r.getD k 0<(g.length:Int)/\r.getD k 0≠(i:Int)/\(0<k->r.getD (k - 1) 0<r.getD k 0)):=Iff.rfl;have Dl:¬Ji g.length i r k->decide (Eg g)=false:=λ h=>JH (λ hp=>h (hp k Nh));have TL:Ji g.length i r k->∀j,j<k+1->Ji g.length i r j:=λ h j hj=>by
   rcases AG.1 hj with h4 | rfl
   . exact RY j h4
   . exact h
 rcases k with _ | m
 . have hz0:(0:Int)<(r.length:Int):=by omega
   have hwz:IntKind.i64.wrap (0+1)=1:=rfl;generalize r.getD 0 0=y at NK II;cases c1:decide (y<0);rotate_left
   . simp only[go_sem,B8,BW,Ab,It,Dx,NK,hz0,c1];rw[Dl (λ hp=>by have:=II.1 hp;simp at c1;omega)]
   cases c2:decide ((g.length:Int)<=y);rotate_left
   . simp only[go_sem,B8,BW,Ab,It,Dx,NK,hz0,c1,c2];rw[Dl (λ hp=>by have:=II.1 hp;simp at c2;omega)]
   cases c3:decide (y=(i:Int));rotate_left
   . simp only[go_sem,B8,BW,Ab,It,Dx,NK,hz0,c1,c2,c3];rw[Dl (λ hp=>by have:=II.1 hp;simp at c3;omega)]
   simp only[go_sem,B8,BW,Ab,It,Dx,NK,hz0,c1,c2,c3,hwz];refine JP (0+1) _ ⟨Nh,TL (II.2 (by simp at c1 c2 c3;exact ⟨by omega,by omega,c3,λ h=>absurd h (Nat.lt_irrefl _)⟩))⟩ (by omega) ?_
   (refine Wk.forget ?_;simp[ZF];done)
 . have hmt:m<r.length:=by omega
   have hgm:=Cj r m hmt;have hm0:(0:Int)<=(m:Int)/\(m:Int)<(r.length:Int):=by omega
   have hwp:=HM m (by omega);have hkp:(0:Int)<((m+1:Nat):Int):=by omega
   rw[show m+1 - 1=m from rfl] at II;generalize r.getD (m+1) 0=y at NK II;generalize r.getD m 0=z at hgm II;cases c1:decide (y<0);rotate_left
   . simp only[go_sem,B8,BW,Ab,It,Dx,NK,Hu,c1];rw[Dl (λ hp=>by have:=II.1 hp;simp at c1;omega)]
   cases c2:decide ((g.length:Int)<=y);rotate_left
   . simp only[go_sem,B8,BW,Ab,It,Dx,NK,Hu,c1,c2];rw[Dl (λ hp=>by have:=II.1 hp;simp at c2;omega)]
   cases c3:decide (y=(i:Int));rotate_left
   . simp only[go_sem,B8,BW,Ab,It,Dx,NK,Hu,c1,c2,c3];rw[Dl (λ hp=>by have:=II.1 hp;simp at c3;omega)]
   cases c4:decide (y<=z);rotate_left
   . simp only[go_sem,B8,BW,Ab,It,Dx,NK,Hu,hgm,hm0,hwp,hkp,c1,c2,c3,c4];rw[Dl (λ hp=>by have:=(II.1 hp).2.2.2 (by omega);simp at c4;omega)]
   simp only[go_sem,B8,BW,Ab,It,Dx,NK,Hu,hgm,hm0,hwp,hkp,c1,c2,c3,c4,H0];refine JP (m+1+1) _ ⟨Nh,TL (II.2 (by simp at c1 c2 c3 c4;exact ⟨by omega,by omega,c3,λ _=>by omega⟩))⟩ (by omega) ?_
   (refine Wk.forget ?_;simp[ZF];done)
def UN(b:ER):Prop:=-9999<=b.x/\b.x<=9999/\-9999<=b.y/\b.y<=9999
instance (b:ER):Decidable (UN b):=by unfold UN;exact inferInstance
def Ia(n:Nt):Prop:=1<=n.blocks.length/\n.blocks.length<=24/\n.next.length=n.blocks.length/\∀i,i<n.blocks.length->UN (n.blocks.getD i DG)/\(n.next.getD i []).length<=4/\HQ n.blocks.length i (n.next.getD i [])
instance (n:Nt):Decidable (Ia n):=by unfold Ia;exact inferInstance
theorem Aht(n:Nt)(hb:n.blocks.length<=10000000)(hg:Qx n.next):BZ prog 83 [.agg n.cs] [] λ h r=>h=[]/\r= .p (.bool (decide (Ia n))):=by
 obtain ⟨Ra,hg2⟩:=hg;obtain ⟨bl,nx,sp,rb,cq,ca,cd,cp⟩:=n;simp only at hb Ra hg2;refine B1 func83 rfl Aly (by simp[Tryz.f83]) ?_;cases d1:decide ((bl.length:Int)<1);rotate_left
 . simp only[go_sem,Nt.cs,Cf,B8,d1];rw[Ah (λ hp=>by have:=hp.1;have hd:=Ad d1;simp only at this;omega)]
 cases d2:decide (24<(bl.length:Int));rotate_left
 . simp only[go_sem,Nt.cs,Cf,B8,d1,d2];rw[Ah (λ hp=>by have:=hp.2.1;simp at d2;simp only at this;omega)]
 cases d3:decide ((nx.length:Int)=(bl.length:Int))
 . simp only[go_sem,Nt.cs,Cf,B8,d1,d2,d3];rw[Ah (λ hp=>by have:=hp.2.2.1;have hd:=Ae d3;simp only at this;omega)]
 have hl1:1<=bl.length:=by have:=Ae d1;omega
 have Sp:bl.length<=24:=by have:=Ae d2;omega
 have hl3:nx.length=bl.length:=by have:=Ad d3;omega
 simp only[go_sem,Nt.cs,Cf,B8,d1,d2,d3];clear d1 d2 d3;refine B5 (λ i:Nat=>⟨[(1,.ptr 1 0),(3,.p (.int .i64 (i:Nat)))],[(1,.box (Nt.cs ⟨bl,nx,sp,rb,cq,ca,cd,cp⟩))],114⟩) (λ i=>i<=bl.length/\∀j,j<i->UN (bl.getD j DG)/\(nx.getD j []).length<=4/\HQ bl.length j (nx.getD j [])) (λ i=>bl.length - i) 0 ⟨AE _,λ j hj=>absurd hj (AZ _)⟩ (Wk.forget (by simp[ZF,Nt.cs])) ?_;rintro i n ⟨hi,Mq⟩ ih;simp only[go_sem,Nt.cs,Cf];refine Cx (λ h2=>?_) (λ h2=>?_);rotate_left
 . simp only[go_sem];have:i=bl.length:=by simp at h2;omega
   subst this;rw[Ag ⟨hl1,Sp,hl3,Mq⟩]
 have Ct:i<bl.length:=by simp at h2;omega
 have hw:=Cg i (by omega);have Xx:=hg2 _ (CK nx i [] (by omega));have It:=GP nx i (by omega);have hgb:=ZT bl i Ct;have RZ:¬(UN (bl.getD i DG)/\(nx.getD i []).length<=4/\HQ bl.length i (nx.getD i []))->decide (Ia ⟨bl,nx,sp,rb,cq,ca,cd,cp⟩)=false:=λ h=>Ah (λ hp=>h (hp.2.2.2 i Ct));have Aav:(UN (bl.getD i DG)/\(nx.getD i []).length<=4/\HQ bl.length i (nx.getD i []))->∀j,j<i+1->UN (bl.getD j DG)/\(nx.getD j []).length<=4/\HQ bl.length j (nx.getD j []):=λ h j hj=>by
   rcases AG.1 hj with h3 | rfl
   . exact Mq j h3
   . exact h
 generalize nx.getD i []=r at Xx It RZ Aav;generalize bl.getD i DG=b at hgb RZ Aav;have Dx:(0:Int)<=(i:Int)/\(i:Int)<(nx.length:Int):=by omega
 have NJ:(i:Int)<(bl.length:Int):=by omega
 cases c1:decide (b.x< -9999);rotate_left
 . simp only[go_sem,B8,Cf,BW,Nt.cs,Ab,It,hgb,Dx,NJ,c1];rw[RZ (λ hp=>by have:=hp.1.1;simp at c1;omega)]
 cases c2:decide (9999<b.x);rotate_left
 . simp only[go_sem,B8,Cf,BW,Nt.cs,Ab,It,hgb,Dx,NJ,c1,c2];rw[RZ (λ hp=>by have:=hp.1.2.1;simp at c2;omega)]
 cases c3:decide (b.y< -9999);rotate_left
 . simp only[go_sem,B8,Cf,BW,Nt.cs,Ab,It,hgb,Dx,NJ,c1,c2,c3];rw[RZ (λ hp=>by have:=hp.1.2.2.1;simp at c3;omega)]
 cases c4:decide (9999<b.y);rotate_left
 . simp only[go_sem,B8,Cf,BW,Nt.cs,Ab,It,hgb,Dx,NJ,c1,c2,c3,c4];rw[RZ (λ hp=>by have:=hp.1.2.2.2;simp at c4;omega)]
 cases c5:decide (4<(r.length:Int));rotate_left
 . simp only[go_sem,B8,Cf,BW,Nt.cs,Ab,It,hgb,Dx,NJ,c1,c2,c3,c4,c5];rw[RZ (λ hp=>by have:=hp.2.1;simp at c5;omega)]
 simp only[go_sem,B8,Cf,BW,Nt.cs,Ab,It,hgb,Dx,NJ,c1,c2,c3,c4,c5];have hxy:UN b:=by simp at c1 c2 c3 c4;exact ⟨c1,c2,c3,c4⟩
 have hr4:r.length<=4:=by simp at c5;omega
 clear c1 c2 c3 c4 c5;have JH:¬HQ bl.length i r->decide (Ia ⟨bl,nx,sp,rb,cq,ca,cd,cp⟩)=false:=λ h=>RZ (λ hp=>h hp.2.2);have NZ:HQ bl.length i r->∀j,j<i+1->UN (bl.getD j DG)/\(nx.getD j []).length<=4/\HQ bl.length j (nx.getD j []):=λ h=>Aav ⟨hxy,hr4,h⟩;refine B5 (λ k:Nat=>⟨[(1,.ptr 1 0),(3,.p (.int .i64 (i:Nat))),(4,.ptr 4 0),(5,.p (.int .i64 (k:Nat)))],[(1,.box (Nt.cs ⟨bl,nx,sp,rb,cq,ca,cd,cp⟩)),(4,.box [.p (.str b.name),.p (.int .i64 b.x),.p (.int .i64 b.y)])],114⟩) (λ k=>k<=r.length/\∀j,j<k->Ji bl.length i r j) (λ k=>r.length - k) 0 ⟨AE _,λ j hj=>absurd hj (AZ _)⟩ (Wk.forget (by simp[ZF,Nt.cs])) ?_;rintro k n2 ⟨hk,RY⟩ JP;simp only[go_sem,B8,Cf,BW,Nt.cs,Ab,It,Dx,NJ];refine Cx (λ h3=>?_) (λ h3=>?_);rotate_left
 . have:k=r.length:=by simp at h3;omega
   subst this;simp only[go_sem,hw];refine ih (i+1) _ ⟨Ct,NZ RY⟩ (by omega) ?_
   (refine Wk.forget ?_;simp[ZF,Nt.cs];done)
 have Nh:k<r.length:=by simp at h3;omega
 have H0:=Cg k (by omega);have NK:=Cj r k Nh;have Hu:(0:Int)<=(k:Int)/\(k:Int)<(r.length:Int):=by omega
 have II:Ji bl.length i r k↔(0<=r.getD k 0/\r.getD k 0<(bl.length:Int)/\r.getD k 0≠(i:Int)/\(0<k->r.getD (k - 1) 0<r.getD k 0)):=Iff.rfl;have Dl:¬Ji bl.length i r k->decide (Ia ⟨bl,nx,sp,rb,cq,ca,cd,cp⟩)=false:=λ h=>JH (λ hp=>h (hp k Nh));have TL:Ji bl.length i r k->∀j,j<k+1->Ji bl.length i r j:=λ h j hj=>by
   rcases AG.1 hj with h4 | rfl
   . exact RY j h4
   . exact h
 rcases k with _ | m
 . have hz0:(0:Int)<(r.length:Int):=by omega
   have hwz:IntKind.i64.wrap (0+1)=1:=rfl;generalize r.getD 0 0=y at NK II;cases c1:decide (y<0);rotate_left
   . simp only[go_sem,B8,Cf,BW,Nt.cs,Ab,It,Dx,NJ,NK,hz0,c1];rw[Dl (λ hp=>by have:=II.1 hp;simp at c1;omega)]
   cases c2:decide ((bl.length:Int)<=y);rotate_left
   . simp only[go_sem,B8,Cf,BW,Nt.cs,Ab,It,Dx,NJ,NK,hz0,c1,c2];rw[Dl (λ hp=>by have:=II.1 hp;simp at c2;omega)]
   cases c3:decide (y=(i:Int));rotate_left
   . simp only[go_sem,B8,Cf,BW,Nt.cs,Ab,It,Dx,NJ,NK,hz0,c1,c2,c3];rw[Dl (λ hp=>by have:=II.1 hp;simp at c3;omega)]
   simp only[go_sem,B8,Cf,BW,Nt.cs,Ab,It,Dx,NJ,NK,hz0,c1,c2,c3,hwz];refine JP (0+1) _ ⟨Nh,TL (II.2 (by simp at c1 c2 c3;exact ⟨by omega,by omega,c3,λ h=>absurd h (Nat.lt_irrefl _)⟩))⟩ (by omega) ?_
   (refine Wk.forget ?_;simp[ZF,Nt.cs];done)
 . have hmt:m<r.length:=by omega
   have hgm:=Cj r m hmt;have hm0:(0:Int)<=(m:Int)/\(m:Int)<(r.length:Int):=by omega
   have hwp:=HM m (by omega);have hkp:(0:Int)<((m+1:Nat):Int):=by omega
   rw[show m+1 - 1=m from rfl] at II;generalize r.getD (m+1) 0=y at NK II;generalize r.getD m 0=z at hgm II;cases c1:decide (y<0);rotate_left
   . simp only[go_sem,B8,Cf,BW,Nt.cs,Ab,It,Dx,NJ,NK,Hu,c1];rw[Dl (λ hp=>by have:=II.1 hp;simp at c1;omega)]
   cases c2:decide ((bl.length:Int)<=y);rotate_left
   . simp only[go_sem,B8,Cf,BW,Nt.cs,Ab,It,Dx,NJ,NK,Hu,c1,c2];rw[Dl (λ hp=>by have:=II.1 hp;simp at c2;omega)]
   cases c3:decide (y=(i:Int));rotate_left
   . simp only[go_sem,B8,Cf,BW,Nt.cs,Ab,It,Dx,NJ,NK,Hu,c1,c2,c3];rw[Dl (λ hp=>by have:=II.1 hp;simp at c3;omega)]
   cases c4:decide (y<=z);rotate_left
   . simp only[go_sem,B8,Cf,BW,Nt.cs,Ab,It,Dx,NJ,NK,Hu,hgm,hm0,hwp,hkp,c1,c2,c3,c4];rw[Dl (λ hp=>by have:=(II.1 hp).2.2.2 (by omega);simp at c4;omega)]
   simp only[go_sem,B8,Cf,BW,Nt.cs,Ab,It,Dx,NJ,NK,Hu,hgm,hm0,hwp,hkp,c1,c2,c3,c4,H0];refine JP (m+1+1) _ ⟨Nh,TL (II.2 (by simp at c1 c2 c3 c4;exact ⟨by omega,by omega,c3,λ _=>by omega⟩))⟩ (by omega) ?_
   (refine Wk.forget ?_;simp[ZF,Nt.cs];done)
def Dd(n:Nt):List (List UInt8):=n.blocks.map ER.name++n.spurs.map C3.name
def Fp(n:Nt):Prop:=∀i,i<(Dd n).length->CL ((Dd n).getD i [])=true/\∀k,k<i->(Dd n).getD i []≠(Dd n).getD k []
instance (n:Nt):Decidable (Fp n):=by unfold Fp;exact inferInstance
theorem NS{α β:Type}(f:α->β)(l:List α)(i:Nat)(x:α)(h:i<l.length):(l.take (i+1)).map f=(l.take i).map f++[f (l.getD i x)]:=by
 rw[BQ,Be,List.getD,Ax h];rfl
theorem Aju(n:Nt)(hb:n.blocks.length<=10000000)(hs:n.spurs.length<=10000000):BZ prog 84 [.agg n.cs] [] λ h r=>h=[]/\r= .p (.bool (decide (Fp n))):=by
 generalize hL:Dd n=L;have hLl:L.length=n.blocks.length+n.spurs.length:=by rw[<-hL];simp[Dd]
 refine B1 func84 rfl Alx (by simp[Tryz.f84]) ?_;simp only[go_sem,Nt.cs];refine B5 (λ i:Nat=>⟨[(1,.ptr 1 0),(3,.ref 23 0 i i),(4,.p (.int .i64 (i:Nat)))],[(1,.box (Nt.cs n)),(23,.arr 9 1 (CJ ((n.blocks.take i).map ER.name)))],66⟩) (λ i=>i<=n.blocks.length) (λ i=>n.blocks.length - i) 0 (AE _) ((Wk.nil (t:=3) (q:=23) (sz:=1) 9 rfl rfl (by decide)).trans (Wk.forget (by simp[ZF,Nt.cs,CJ]))) ?_;rintro i m hi ih;have hll:(CJ ((n.blocks.take i).map ER.name)).length=i:=by rw[B6];simp;omega
 simp only[go_sem,Nt.cs,Cf];refine Cx (λ h2=>?_) (λ h2=>?_)
 . have Ct:i<n.blocks.length:=by simp at h2;omega
   have hw:=Cg i (by omega);have hgb:=ZT n.blocks i Ct;have Dx:(0:Int)<=(i:Int)/\(i:Int)<(n.blocks.length:Int):=by omega
   simp only[go_sem,Cf,Nt.cs,Ab,hgb,Dx,hll];refine ⟨⟨EB _ _ rfl,by omega⟩,?_⟩;simp only[go_sem,hw];refine ih (i+1) _ Ct (by omega) ?_
   (refine Wk.forget ?_;simp[ZF,Nt.cs,NS ER.name n.blocks i DG Ct,E8,hll,-List.map_take];done)
 have:i=n.blocks.length:=by simp at h2;omega
 subst this;clear ih hll;simp only[go_sem];refine B5 (λ i:Nat=>⟨[(1,.ptr 1 0),(3,.ref 23 0 (n.blocks.length+i) (n.blocks.length+i)),(5,.p (.int .i64 (i:Nat)))],[(1,.box (Nt.cs n)),(23,.arr 9 1 (CJ (n.blocks.map ER.name++(n.spurs.take i).map C3.name)))],66⟩) (λ i=>i<=n.spurs.length) (λ i=>n.spurs.length - i) 0 (AE _) (Wk.forget (by simp[ZF,Nt.cs,CJ])) ?_;rintro i m2 EP ih;have hll:(CJ (n.blocks.map ER.name++(n.spurs.take i).map C3.name)).length=n.blocks.length+i:=by rw[B6];simp;omega
 simp only[go_sem,Nt.cs,Cb];refine Cx (λ h2=>?_) (λ h2=>?_)
 . have Ct:i<n.spurs.length:=by simp at h2;omega
   have hw:=Cg i (by omega);have hgb:=Fa n.spurs i Ct;have Dx:(0:Int)<=(i:Int)/\(i:Int)<(n.spurs.length:Int):=by omega
   simp only[go_sem,Cb,Nt.cs,Ab,hgb,Dx,hll];refine ⟨⟨EB _ _ rfl,by omega⟩,?_⟩;simp only[go_sem,hw];refine ih (i+1) _ Ct (by omega) ?_
   (refine Wk.forget ?_;simp[ZF,Nt.cs,NS C3.name n.spurs i Cm Ct,E8,<-List.append_assoc,Nat.add_assoc,hll,-List.map_take];done)
 have:i=n.spurs.length:=by simp at h2;omega
 subst this;clear ih hll;rw[At,show n.blocks.map ER.name++n.spurs.map C3.name=L from hL,<-hLl];simp only[go_sem];have hP:Fp n↔∀i,i<L.length->CL (L.getD i [])=true/\∀k,k<i->L.getD i []≠L.getD k []:=by unfold Fp;rw[hL]
 refine B5 (λ i:Nat=>⟨[(3,.ref 23 0 L.length L.length),(6,.p (.int .i64 (i:Nat)))],[(23,.arr 9 1 (CJ L))],66⟩) (λ i=>i<=L.length/\∀j,j<i->CL (L.getD j [])=true/\∀k,k<j->L.getD j []≠L.getD k []) (λ i=>L.length - i) 0 ⟨AE _,λ j hj=>absurd hj (AZ _)⟩ (Wk.forget (by simp[ZF,Nt.cs,CJ])) ?_;rintro i m3 ⟨hi3,DK⟩ ih;simp only[go_sem,B6];refine Cx (λ h3=>?_) (λ h3=>?_);rotate_left
 . simp only[go_sem];have:i=L.length:=by simp at h3;omega
   subst this;rw[Ag (hP.2 DK)];try simp
 have Ct:i<L.length:=by simp at h3;omega
 have hw:=Cg i (by omega);have It:=D2 L i Ct;have Dx:(0:Int)<=(i:Int)/\(i:Int)<(L.length:Int):=by omega
 simp only[go_sem,B6,Ab,It,Dx];refine Cq ((Ajv _)) ?_;cases hn:CL (L.getD i [])
 . simp only[go_sem,hn];rw[Ah (λ hp=>by have:=(hP.1 hp i Ct).1;rw[hn] at this;cases this)];try simp
 simp only[go_sem,hn];refine B5 (λ k:Nat=>⟨[(3,.ref 23 0 L.length L.length),(6,.p (.int .i64 (i:Nat))),(7,.p (.int .i64 (k:Nat)))],[(23,.arr 9 1 (CJ L))],66⟩) (λ k=>k<=i/\∀j,j<k->L.getD i []≠L.getD j []) (λ k=>i - k) 0 ⟨AE _,λ j hj=>absurd hj (AZ _)⟩ (Wk.forget (by simp[ZF,CJ])) ?_;rintro k m4 ⟨hk,Dl⟩ JP;simp only[go_sem];refine Cx (λ h4=>?_) (λ h4=>?_)
 . have Nh:k<i:=by simp at h4;omega
   have H0:=Cg k (by omega);have NK:=D2 L k (by omega);have Hu:(0:Int)<=(k:Int)/\(k:Int)<(L.length:Int):=by omega
   simp only[go_sem];refine Dm [(23,.arr 9 1 (CJ L))] mixed (p:=[(0,0),(1,0),(2,0),(3,0),(4,0),(5,0),(6,0),(7,0),(8,0)]) (by kernel_rfl) (by simp[C8,get]) ?_;simp only[go_sem,B6,Ab,It,Dx,NK,Hu];cases he:decide (L.getD i []=L.getD k [])
   . simp only[go_sem,he,H0];refine JP (k+1) _ ⟨Nh,λ j hj=>?_⟩ (by omega) ?_
     . rcases AG.1 hj with h5 | rfl
       . exact Dl j h5
       . exact Ae he
     . (refine Wk.forget ?_;simp[ZF];done)
   . simp only[go_sem,he];rw[Ah (λ hp=>(hP.1 hp i Ct).2 k Nh (Ad he))];try simp
 . have:k=i:=by simp at h4;omega
   subst this;simp only[go_sem,hw];refine ih (k+1) _ ⟨Ct,λ j hj=>?_⟩ (by omega) ?_
   . rcases AG.1 hj with h5 | rfl
     . exact DK j h5
     . exact ⟨hn,Dl⟩
   . (refine Wk.forget ?_;simp[ZF];done)
def H4(cq ca cd cp:Int):Prop:=1<=cq/\cq<=8/\0<=ca/\ca<=4/\0<=cd/\cd<=3/\1<=cp/\cp<=16
instance (cq ca cd cp:Int):Decidable (H4 cq ca cd cp):=by unfold H4;exact inferInstance
theorem Vl(cq ca cd cp:Int):BZ prog 85 [.agg [.p (.int .i64 cq),.p (.int .i64 ca),.p (.int .i64 cd),.p (.int .i64 cp)]] [] λ h r=>h=[]/\r= .p (.bool (decide (H4 cq ca cd cp))):=by
 refine B1 func85 rfl Alw (by simp[Tryz.f85]) ?_;by_cases h1:1<=cq;rotate_left
 . simp only[go_sem,h1];simp[H4,h1]
 by_cases h2:cq<=8;rotate_left
 . simp only[go_sem,h1,h2];simp[H4,h2]
 by_cases h3:0<=ca;rotate_left
 . simp only[go_sem,h1,h2,h3];simp[H4,h3]
 by_cases h4:ca<=4;rotate_left
 . simp only[go_sem,h1,h2,h3,h4];simp[H4,h4]
 by_cases h5:0<=cd;rotate_left
 . simp only[go_sem,h1,h2,h3,h4,h5];simp[H4,h5]
 by_cases h6:cd<=3;rotate_left
 . simp only[go_sem,h1,h2,h3,h4,h5,h6];simp[H4,h6]
 by_cases h7:1<=cp;rotate_left
 . simp only[go_sem,h1,h2,h3,h4,h5,h6,h7];simp[H4,h7]
 by_cases h8:cp<=16
 . simp only[go_sem,h1,h2,h3,h4,h5,h6,h7,h8];simp[H4,h1,h2,h3,h4,h5,h6,h7,h8]
 . simp only[go_sem,h1,h2,h3,h4,h5,h6,h7,h8];simp[H4,h8]
theorem GN(l:List Bool):(CT l).length=l.length:=by simp[CT]
theorem D1{α:Type}(l:List α)(i j:Nat)(x y:α):(l.set i x).getD j y=if i=j/\i<l.length then x else l.getD j y:=by
 simp only[List.getD,BR];by_cases h:i=j
 . subst h;by_cases h2:i<l.length
   . simp[h2]
   . simp[h2]
 . simp[h]
def Kg(g:List (List Int))(sh:List Bool)(d:Int)(v:Nat)(o:List Int):List Int:=
 if sh.getD v false=true∨0<=o.getD v 0 then o else if (g.getD v []).any (λ w=>decide (o.getD w.toNat 0=d - 1))=true then o.set v d else o
def I7(g:List (List Int))(sh:List Bool)(d:Int):Nat->Nat->List Int->List Int
 | 0,_,o=>o
 | f+1,v,o=>I7 g sh d f (v+1) (Kg g sh d v o)
def JR(g:List (List Int))(sh:List Bool):Nat->Nat->List Int->List Int
 | 0,_,o=>o
 | f+1,d,o=>JR g sh f (d+1) (I7 g sh d g.length 0 o)
def DC(g:List (List Int))(sh:List Bool)(goal:Nat):List Int:=
 if sh.getD goal false=true then List.replicate g.length (-1) else JR g sh (g.length - 1) 1 ((List.replicate g.length (-1)).set goal 0)
theorem Ade(g:List (List Int))(sh:List Bool)(d:Int)(v:Nat)(o:List Int):(Kg g sh d v o).length=o.length:=by
 unfold Kg;split
 . rfl
 . split<;>simp
theorem Vr(g:List (List Int))(sh:List Bool)(d:Int):∀(f v:Nat) (o:List Int),(I7 g sh d f v o).length=o.length
 | 0,_,_=>rfl
 | f+1,v,o=>by rw[I7,Vr g sh d f,Ade]
theorem Wx(g:List (List Int))(sh:List Bool):∀(f d:Nat) (o:List Int),(JR g sh f d o).length=o.length
 | 0,_,_=>rfl
 | f+1,d,o=>by rw[JR,Wx g sh f,Vr]
theorem Np(g:List (List Int))(sh:List Bool)(goal:Nat):(DC g sh goal).length=g.length:=by
 unfold DC;split
 . simp
 . rw[Wx];simp
def DP(g:List (List Int))(goal:Nat)(m:Int)(o:List Int):Prop:=
 o.length=g.length/\∀v,v<g.length->o.getD v 0=-1∨(o.getD v 0=0/\v=goal)∨(1<=o.getD v 0/\o.getD v 0<=m/\∃w∈g.getD v [],o.getD w.toNat 0=o.getD v 0 - 1)
theorem Yy{g:List (List Int)}(hg:Eg g){sh:List Bool}{goal:Nat}{d:Int}{v:Nat}{o:List Int}(hv:v<g.length)(hd:1<=d)(h:DP g goal d o):DP g goal d (Kg g sh d v o):=by
 unfold Kg;split
 . exact h
 rename_i h1;split
 . rename_i h2;obtain ⟨hl,hh⟩:=h;have Aqr:o.getD v 0<0:=by
     rcases Int.lt_or_le (o.getD v 0) 0 with h3 | h3
     . exact h3
     . exact absurd (Or.inr h3) h1
   refine ⟨by simpa using hl,λ u hu=>?_⟩;rw[A4] at h2;obtain ⟨w,hw,hwd⟩:=h2;have hwd:=Ad hwd;have EZ:∀j,j<g.length->(o.set v d).getD j 0=if v=j then d else o.getD j 0:=λ j hj=>by
     rw[D1];by_cases e:v=j
     . rw[if_pos ⟨e,by omega⟩,if_pos e]
     . rw[if_neg (λ h=>e h.1),if_neg e]
   have LW:∀u,u<g.length->∀w∈g.getD u [],0<=w/\w<(g.length:Int)/\w≠(u:Int):=λ u hu w hw=>by
     obtain ⟨k,hk,rfl⟩:=AA.1 hw;have:=hg.2 u hu k hk;unfold Ji at this;have e1:(g.getD u []).getD k 0=(g.getD u [])[k]:=getD_eq hk;rw[e1] at this;exact ⟨this.1,this.2.1,this.2.2.1⟩
   rw[EZ u hu];by_cases e:v=u
   . subst e;rw[if_pos rfl];have h3:=LW v hv w hw;refine .inr (.inr ⟨hd,BP _,w,hw,?_⟩);rw[EZ _ (by omega),if_neg (by omega)];exact hwd
   . rw[if_neg e];rcases hh u hu with h3 | h3 | ⟨h3,h4,w2,h5,h6⟩
     . exact .inl h3
     . exact .inr (.inl h3)
     . refine .inr (.inr ⟨h3,h4,w2,h5,?_⟩);have h7:=LW u hu w2 h5;rw[EZ _ (by omega)];by_cases e2:v=w2.toNat
       . rw[e2] at Aqr;omega
       . rw[if_neg e2];exact h6
 . exact h
theorem SP{g:List (List Int)}(hg:Eg g){sh:List Bool}{goal:Nat}{d:Int}(hd:1<=d):∀(f v:Nat) (o:List Int),v+f<=g.length->DP g goal d o->DP g goal d (I7 g sh d f v o)
 | 0,_,_,_,h=>h
 | f+1,v,o,hv,h=>SP hg hd f (v+1) _ (by omega) (Yy hg (by omega) hd h)
theorem DP.mono{g:List (List Int)}{goal:Nat}{m m':Int}{o:List Int}(hm:m<=m')(h:DP g goal m o):DP g goal m' o:=
 ⟨h.1,λ v hv=>by
   rcases h.2 v hv with h3 | h3 | ⟨h3,h4,h5⟩
   . exact .inl h3
   . exact .inr (.inl h3)
   . exact .inr (.inr ⟨h3,by omega,h5⟩)⟩
theorem Z8{g:List (List Int)}(hg:Eg g){sh:List Bool}{goal:Nat}:∀(f d:Nat) (o:List Int),1<=d->DP g goal d o->DP g goal (d+f:Nat) (JR g sh f d o)
 | 0,d,o,_,h=>h.mono (by omega)
 | f+1,d,o,hd,h=>by
   have:=Z8 (sh:=sh) hg f (d+1) (I7 g sh d g.length 0 o) (by omega) ((SP hg (by omega) g.length 0 o (by omega) h).mono (by omega));rw[show d+1+f=d+(f+1) by omega] at this;exact this
theorem ZY{g:List (List Int)}(hg:Eg g)(sh:List Bool)(goal:Nat)(EX:goal<g.length):DP g goal 24 (DC g sh goal):=by
 have Af7:∀v,v<g.length->(List.replicate g.length (-1:Int)).getD v 0=-1:=λ v hv=>by simp[List.getD,hv]
 unfold DC;split
 . exact ⟨by simp,λ v hv=> .inl (Af7 v hv)⟩
 . refine (Z8 hg (g.length - 1) 1 _ (Ai _) ⟨by simp,λ v hv=>?_⟩).mono (by have:=hg.1;omega);rw[D1];by_cases e:goal=v
   . rw[if_pos ⟨e,by simpa using EX⟩];exact .inr (.inl ⟨rfl,e.symm⟩)
   . rw[if_neg (λ h=>e h.1)];exact .inl (Af7 v hv)
theorem Ta{g:List (List Int)}(hg:Eg g){u:Nat}(hu:u<g.length){k:Nat}(hk:k<(g.getD u []).length):∃w:Nat,(g.getD u []).getD k 0=(w:Int)/\w<g.length/\w≠u:=by
 have:=hg.2 u hu k hk;unfold Ji at this;exact ⟨((g.getD u []).getD k 0).toNat,by omega,by omega,by omega⟩
theorem Je{g:List (List Int)}(hg:Eg g){u:Nat}(hu:u<g.length){w:Int}(hw:w∈g.getD u []):0<=w/\w<(g.length:Int)/\w≠(u:Int):=by
 obtain ⟨k,hk,rfl⟩:=AA.1 hw;have:=hg.2 u hu k hk;unfold Ji at this;have e1:(g.getD u []).getD k 0=(g.getD u [])[k]:=getD_eq hk;rw[e1] at this;exact ⟨this.1,this.2.1,this.2.2.1⟩
structure DS(g:List (List Int))(sh:List Bool)(goal:Nat)(o:List Int):Prop where
 len:o.length=g.length
 lo:∀v,v<g.length->-1<=o.getD v 0
 zero:∀v,v<g.length->(o.getD v 0=0↔v=goal)
 prev:∀v,v<g.length->1<=o.getD v 0->∃w∈g.getD v [],o.getD w.toNat 0=o.getD v 0 - 1
 next:∀v,v<g.length->sh.getD v false=false->∀w∈g.getD v [],0<=o.getD w.toNat 0->0<=o.getD v 0/\o.getD v 0<=o.getD w.toNat 0+1
 shut:∀v,v<g.length->sh.getD v false=true->o.getD v 0=-1
theorem DS.le{g:List (List Int)}(hg:Eg g){sh:List Bool}{goal:Nat}{o p:List Int}(ho:DS g sh goal o)(hp:DS g sh goal p):
   ∀(k:Nat) (v:Nat),v<g.length->o.getD v 0=(k:Int)->0<=p.getD v 0/\p.getD v 0<=(k:Int)
 | 0,v,hv,h=>by
   have h1:=(ho.zero v hv).1 h;have h2:=(hp.zero v hv).2 h1;omega
 | k+1,v,hv,h=>by
   obtain ⟨w,hw,hd⟩:=ho.prev v hv (by omega);have hr:=Je hg hv hw;have ih:=DS.le hg ho hp k w.toNat (by omega) (by omega);have hs:sh.getD v false=false:=by
     cases e:sh.getD v false
     . rfl
     . have:=ho.shut v hv e;omega
   have:=hp.next v hv hs w hw ih.1
   omega
theorem DS.uniq{g:List (List Int)}(hg:Eg g){sh:List Bool}{goal:Nat}{o p:List Int}(ho:DS g sh goal o)(hp:DS g sh goal p):o=p:=by
 apply List.ext_getElem (by rw[ho.len,hp.len]);intro v h1 h2;have hv:v<g.length:=by rw[<-ho.len];exact h1
 have e1:o.getD v 0=o[v]:=getD_eq h1;have e2:p.getD v 0=p[v]:=getD_eq h2;rw[<-e1,<-e2];have l1:=ho.lo v hv;have l2:=hp.lo v hv;by_cases c:0<=o.getD v 0
 . have a:=DS.le hg ho hp (o.getD v 0).toNat v hv (by omega);have b:=DS.le hg hp ho (p.getD v 0).toNat v hv (by omega);omega
 . by_cases c2:0<=p.getD v 0
   . have b:=DS.le hg hp ho (p.getD v 0).toNat v hv (by omega);omega
   . omega
def NX(g:List (List Int))(sh:List Bool)(d:Int)(v:Nat)(o:List Int):Prop:=
 ∀u,u<g.length->sh.getD u false=false->∀w∈g.getD u [],0<=o.getD w.toNat 0->(o.getD w.toNat 0<d - 1∨(o.getD w.toNat 0=d - 1/\u<v))->0<=o.getD u 0/\o.getD u 0<=o.getD w.toNat 0+1
theorem Aij{g:List (List Int)}(hg:Eg g){sh:List Bool}{goal:Nat}{d:Int}{v:Nat}{o:List Int}(hv:v<g.length)(hd:1<=d)(h:DP g goal d o)(hx:NX g sh d v o):NX g sh d (v+1) (Kg g sh d v o):=by
 unfold Kg;split
 . rename_i h1;intro u hu hs w hw h0 hc;by_cases e:u=v
   . subst e;have h2:0<=o.getD u 0:=by
       rcases h1 with h1 | h1
       . rw[hs] at h1;cases h1
       . exact h1
     rcases hc with hc | hc
     . exact hx u hu hs w hw h0 (.inl hc)
     . refine ⟨h2,?_⟩;rcases h.2 u hu with h3 | h3 | h3<;>omega
   . exact hx u hu hs w hw h0 (by omega)
 . rename_i h1;split
   . rename_i h2;have Aqr:o.getD v 0<0:=by
       rcases Int.lt_or_le (o.getD v 0) 0 with h3 | h3
       . exact h3
       . exact absurd (Or.inr h3) h1
     intro u hu hs w hw;have hr:=Je hg hu hw;rw[D1,D1];have hl:=h.1;by_cases e2:v=w.toNat
     . rw[if_pos ⟨e2,by omega⟩];intro _ hc;omega
     . rw[if_neg (λ h=>e2 h.1)];intro h0 hc;by_cases e:v=u
       . subst e;rw[if_pos ⟨rfl,by omega⟩];refine ⟨by omega,?_⟩;rcases Int.lt_or_le (o.getD w.toNat 0) (d - 1) with h3 | h3
         . have:=hx v hu hs w hw h0 (.inl h3);omega
         . omega
       . rw[if_neg (λ h=>e h.1)];exact hx u hu hs w hw h0 (by omega)
   . rename_i h2;intro u hu hs w hw h0 hc;by_cases e:u=v
     . subst e;rcases hc with hc | hc
       . exact hx u hu hs w hw h0 (.inl hc)
       . exact absurd (A4.2 ⟨w,hw,Ag hc.1⟩) h2
     . exact hx u hu hs w hw h0 (by omega)
theorem YA{g:List (List Int)}(hg:Eg g){sh:List Bool}{goal:Nat}{d:Int}(hd:1<=d):∀(f v:Nat) (o:List Int),v+f<=g.length->DP g goal d o->NX g sh d v o->NX g sh d (v+f) (I7 g sh d f v o)
 | 0,_,_,_,_,h=>h
 | f+1,v,o,hv,h,hx=>by
   have:=YA hg hd f (v+1) _ (by omega) (Yy hg (sh:=sh) (by omega) hd h) (Aij hg (by omega) hd h hx);rw[show v+1+f=v+(f+1) by omega] at this;exact this
theorem Z7{g:List (List Int)}(hg:Eg g){sh:List Bool}{goal:Nat}:∀(f d:Nat) (o:List Int),1<=d->DP g goal ((d - 1:Nat):Int) o->NX g sh d 0 o->NX g sh ((d+f:Nat):Int) 0 (JR g sh f d o)/\DP g goal ((d+f - 1:Nat):Int) (JR g sh f d o)
 | 0,d,o,hd,h,hx=>⟨hx,h⟩
 | f+1,d,o,hd,h,hx=>by
   have hD:DP g goal (d:Int) o:=h.mono (by omega);have h1:=SP (sh:=sh) hg (d:=(d:Int)) (by omega) g.length 0 o (by omega) hD;have h2:=YA (sh:=sh) hg (d:=(d:Int)) (by omega) g.length 0 o (by omega) hD hx;have h3:NX g sh ((d+1:Nat):Int) 0 (I7 g sh d g.length 0 o):=λ u hu hs w hw h0 hc=>by
     refine h2 u hu hs w hw h0 ?_;rcases Int.lt_or_le ((I7 g sh d g.length 0 o).getD w.toNat 0) ((d:Int) - 1) with h4 | h4
     . exact .inl h4
     . exact .inr ⟨by omega,by omega⟩
   have:=Z7 hg f (d+1) _ (by omega) (show DP g goal ((d+1 - 1:Nat):Int) _ by rw[show d+1 - 1=d by omega];exact h1) h3;rw[show d+1+f=d+(f+1) by omega] at this;exact this
theorem SO{g:List (List Int)}{sh:List Bool}{d:Int}{v u:Nat}{o:List Int}(h:0<=o.getD u 0∨sh.getD u false=true):(Kg g sh d v o).getD u 0=o.getD u 0:=by
 unfold Kg;split
 . rfl
 . rename_i h1;split
   . rw[D1];by_cases e:v=u
     . subst e;rcases h with h | h
       . exact absurd (Or.inr h) h1
       . exact absurd (Or.inl h) h1
     . rw[if_neg (λ h=>e h.1)]
   . rfl
theorem N7{g:List (List Int)}{sh:List Bool}{d:Int}{u:Nat}:∀(f v:Nat) (o:List Int),(0<=o.getD u 0∨sh.getD u false=true)->(I7 g sh d f v o).getD u 0=o.getD u 0
 | 0,_,_,_=>rfl
 | f+1,v,o,h=>by
   rw[I7,N7 f (v+1) _ (by rw[SO h];exact h),SO h]
theorem Un{g:List (List Int)}{sh:List Bool}{u:Nat}:∀(f d:Nat) (o:List Int),(0<=o.getD u 0∨sh.getD u false=true)->(JR g sh f d o).getD u 0=o.getD u 0
 | 0,_,_,_=>rfl
 | f+1,d,o,h=>by
   rw[JR,Un f (d+1) _ (by rw[N7 _ _ _ h];exact h),N7 _ _ _ h]
theorem DP.chain{g:List (List Int)}(hg:Eg g){goal:Nat}{m:Int}{o:List Int}(h:DP g goal m o):∀(k v:Nat),v<g.length->o.getD v 0=(k:Int)->∃l:List Int,l.Nodup/\l.length=k+1/\∀x∈l,0<=x/\x<(g.length:Int)/\0<=o.getD x.toNat 0/\o.getD x.toNat 0<=(k:Int)
 | 0,v,hv,e=>⟨[(v:Int)],by simp,rfl,λ x hx=>by
     simp only[Aw] at hx;subst hx;simp only[Ab];omega⟩
 | k+1,v,hv,e=>by
   rcases h.2 v hv with h3 | h3 | ⟨_,_,w,hw,h4⟩
   . omega
   . omega
   . have hr:=Je hg hv hw;obtain ⟨l,h5,h6,h7⟩:=DP.chain hg h k w.toNat (by omega) (by omega);refine ⟨(v:Int)::l,?_,by simp[h6],?_⟩
     . rw[List.nodup_cons];refine ⟨λ hm=>?_,h5⟩;have:=h7 _ hm;simp only[Ab] at this;omega
     . intro x hx;rcases AF.1 hx with rfl | hx
       . simp only[Ab];omega
       . have:=h7 x hx;omega
theorem ZX{g:List (List Int)}(hg:Eg g){sh:List Bool}{goal:Nat}(EX:goal<g.length)(ho:sh.getD goal false=false):DS g sh goal (DC g sh goal):=by
 have Af7:∀v,v<g.length->(List.replicate g.length (-1:Int)).getD v 0=-1:=λ v hv=>by simp[List.getD,hv]
 have e0:DC g sh goal=JR g sh (g.length - 1) 1 ((List.replicate g.length (-1)).set goal 0):=by
   unfold DC;rw[ho];rfl
 have hz:∀u,u<g.length->((List.replicate g.length (-1:Int)).set goal 0).getD u 0=if u=goal then 0 else -1:=λ u hu=>by
   rw[D1];by_cases e:goal=u
   . rw[if_pos ⟨e,by simpa using EX⟩,if_pos e.symm]
   . rw[if_neg (λ h=>e h.1),if_neg (λ h=>e h.symm),Af7 u hu]
 have hD0:DP g goal ((1 - 1:Nat):Int) ((List.replicate g.length (-1)).set goal 0):=⟨by simp,λ u hu=>by
   rw[hz u hu];by_cases e:u=goal
   . rw[if_pos e];exact .inr (.inl ⟨rfl,e⟩)
   . rw[if_neg e];exact .inl rfl⟩
 have hN0:NX g sh ((1:Nat):Int) 0 ((List.replicate g.length (-1)).set goal 0):=λ u hu hs w hw h0 hc=>by omega
 obtain ⟨hN,hD⟩:=Z7 hg (g.length - 1) 1 _ (Ai _) hD0 hN0;have hk:∀u,u<g.length->(u=goal∨sh.getD u false=true)->(DC g sh goal).getD u 0=if u=goal then 0 else -1:=λ u hu hc=>by
   rw[e0,Un _ _ _ ?_,hz u hu];rcases hc with hc | hc
   . left;rw[hz u hu,if_pos hc];omega
   . exact .inr hc
 rw[<-e0] at hN hD;rw[show 1+(g.length - 1)=g.length by omega] at hN hD;refine ⟨Np g sh goal,?_,?_,?_,?_,?_⟩
 . intro v hv;rcases hD.2 v hv with h | h | h<;>omega
 . intro v hv;constructor
   . intro e;rcases hD.2 v hv with h | h | h
     . omega
     . exact h.2
     . omega
   . rintro rfl;have:=hk v hv (.inl rfl);rw[if_pos rfl] at this;exact this
 . intro v hv h1;rcases hD.2 v hv with h | h | h
   . omega
   . omega
   . exact h.2.2
 . intro v hv hs w hw h0;have hr:=Je hg hv hw;rcases Int.lt_or_le ((DC g sh goal).getD w.toNat 0) ((g.length:Int) - 1) with h4 | h4
   . exact hN v hv hs w hw h0 (.inl h4)
   . have hb:∀u,u<g.length->(DC g sh goal).getD u 0<=(g.length:Int) - 1:=λ u hu=>by
       rcases hD.2 u hu with h | h | h<;>omega
     have U8:=hb w.toNat (by omega);have RX:=hb v hv;refine ⟨?_,by omega⟩;rcases Int.lt_or_le ((DC g sh goal).getD v 0) 0 with h5 | h5
     . exfalso;obtain ⟨l,h6,h7,h8⟩:=DP.chain hg hD (g.length - 1) w.toNat (by omega) (by omega);have:=Ajo ((v:Int)::l) ((List.range g.length).map (λ j=>((j:Nat):Int))) (by
         rw[List.nodup_cons];refine ⟨λ hm=>?_,h6⟩;have:=h8 _ hm;simp only[Ab] at this;omega) (λ x hx=>by
         rw[AP];rcases AF.1 hx with rfl | hx
         . exact ⟨v,List.mem_range.2 hv,rfl⟩
         . have:=h8 x hx;exact ⟨x.toNat,List.mem_range.2 (by omega),by omega⟩)
       simp only[Ar,A8,List.length_range] at this;omega
     . exact h5
 . intro v hv hs;have:=hk v hv (.inr hs);rw[if_neg (λ e=>by rw[e,ho] at hs;cases hs)] at this;exact this
def HB(o:List Int)(b w:Int):Int:=if 0<=o.getD w.toNat 0/\(b<0∨o.getD w.toNat 0<o.getD b.toNat 0) then w else b
def MQ(o row:List Int):Int:=row.foldl (HB o) (-1)
def PD(o row:List Int)(m:Int):Int:=(row.find? λ w=>decide (o.getD w.toNat 0=m)).getD (-1)
theorem Ut(o:List Int)(m:Int):∀(row:List Int) (b:Int),0<=b->o.getD b.toNat 0=m->(∀w∈row,0<=o.getD w.toNat 0->m<=o.getD w.toNat 0)->row.foldl (HB o) b=b
 | [],_,_,_,_=>rfl
 | w::row,b,hb,he,h=>by
   have e:HB o b w=b:=by
     unfold HB;rw[if_neg];rintro ⟨h1,h2⟩;have:=h w (by simp) h1;omega
   rw[Bo,e];exact Ut o m row b hb he (λ x hx=>h x (by simp[hx]))
theorem Uu(o:List Int)(m:Int)(hm:0<=m):∀(row:List Int) (b:Int),(∀w∈row,0<=w)->(b=-1∨(0<=b/\m<o.getD b.toNat 0))->(∀w∈row,0<=o.getD w.toNat 0->m<=o.getD w.toNat 0)->(∃w∈row,o.getD w.toNat 0=m)->row.foldl (HB o) b=PD o row m
 | [],_,_,_,_,h=>by obtain ⟨w,hw,_⟩:=h;simp at hw
 | w::row,b,hp,hb,h,hx=>by
   have hw:=h w (by simp);rw[Bo];unfold PD;by_cases c:o.getD w.toNat 0=m
   . have e:HB o b w=w:=by
       unfold HB;rw[if_pos ⟨by omega,by omega⟩]
     rw[e,Ut o m row w (hp w (by simp)) c (λ x hx=>h x (by simp[hx]))];rw[List.find?_cons,Ag c];rfl
   . have HZ:∃x∈row,o.getD x.toNat 0=m:=by
       obtain ⟨x,h1,h2⟩:=hx;rcases AF.1 h1 with rfl | h1
       . exact absurd h2 c
       . exact ⟨x,h1,h2⟩
     have Yk:HB o b w=-1∨(0<=HB o b w/\m<o.getD (HB o b w).toNat 0):=by
       unfold HB;split
       . rename_i h1;exact .inr ⟨hp w (by simp),by omega⟩
       . exact hb
     rw[Uu o m hm row _ (λ x hx=>hp x (by simp[hx])) Yk (λ x hx=>h x (by simp[hx])) HZ];unfold PD;rw[List.find?_cons,Ah c]
theorem Nw(o:List Int):∀(row:List Int) (b:Int),row.foldl (HB o) b=b∨(row.foldl (HB o) b∈row/\0<=o.getD (row.foldl (HB o) b).toNat 0)
 | [],_=> .inl rfl
 | w::row,b=>by
   rw[Bo];rcases Nw o row (HB o b w) with h | h
   . rw[h];unfold HB;split
     . rename_i h1;exact .inr ⟨by simp,h1.1⟩
     . exact .inl rfl
   . exact .inr ⟨by simp[h.1],h.2⟩
theorem DS.Ao8{g:List (List Int)}(hg:Eg g){sh:List Bool}{goal:Nat}{o:List Int}(ho:DS g sh goal o){v:Nat}(hv:v<g.length)(h1:1<=o.getD v 0):
   MQ o (g.getD v [])=PD o (g.getD v []) (o.getD v 0 - 1):=by
 have hs:sh.getD v false=false:=by
   cases e:sh.getD v false
   . rfl
   . have:=ho.shut v hv e;omega
 exact Uu o _ (by omega) _ _ (λ w hw=>(Je hg hv hw).1) (.inl rfl) (λ w hw h0=>by have:=ho.next v hv hs w hw h0;omega) (ho.prev v hv h1)
theorem Aku{o row:List Int}{m:Int}(h:∃w∈row,o.getD w.toNat 0=m):PD o row m∈row/\o.getD (PD o row m).toNat 0=m:=by
 unfold PD;obtain ⟨w,hw,he⟩:=h;cases c:row.find? λ w=>decide (o.getD w.toNat 0=m) with
 | none=>rw[List.find?_eq_none] at c;exact absurd (Ag he) (c w hw)
 | some x=>exact ⟨List.mem_of_find?_eq_some c,by simpa using List.find?_some c⟩
def Yq(g:List (List Int))(o:List Int):Nat->Int->List Int
 | 0,_=>[]
 | f+1,v=>v::Yq g o f (PD o (g.getD v.toNat []) (o.getD v.toNat 0 - 1))
def Kh(g:List (List Int))(sh:List Bool)(v:Nat):List Int:=
 if sh.getD v false=true then []
 else
   let o:=DC g sh v
   let b:=MQ o (g.getD v [])
   if b<0 then [] else (v:Int)::Yq g o (o.getD b.toNat 0).toNat b
theorem Yp(g:List (List Int))(o:List Int):∀(f:Nat) (v:Int),(Yq g o f v).length=f
 | 0,_=>rfl
 | f+1,v=>by rw[Yq,Ar,Yp]
def Rf(Ao8 w:List Int):List Int:=if 0<w.length/\(Ao8.length=0∨w.length<Ao8.length) then w else Ao8
def J8(g:List (List Int))(sh:List Bool):List Int:=((List.range g.length).map (Kh g sh)).foldl Rf []
def J1(d:List Int):Nat:=d.countP λ x=>decide (x<0)
theorem Tp{d:List Int}{v:Nat}{x:Int}(hv:v<d.length)(h:d.getD v 0<0)(hx:0<=x):J1 (d.set v x)+1=J1 d:=by
 have e:d.getD v 0=d[v]:=getD_eq hv;rw[e] at h;have hp:0<J1 d:=by
   unfold J1;rw[List.countP_pos_iff];exact ⟨d[v],AS hv,Ag h⟩
 have h2:J1 (d.set v x)=J1 d - 1:=by
   unfold J1;rw[List.countP_set (h:=hv),if_pos (Ag h),if_neg (by simpa using hx)];rfl
 omega
structure BF(g:List (List Int))(sh:List Bool)(goal:Nat)(w:Int)(v:Nat)(d q:List Int):Prop where
 len:d.length=g.length
 lo:∀u,u<g.length->-1<=d.getD u 0
 zero:∀u,u<g.length->(d.getD u 0=0↔u=goal)
 prev:∀u,u<g.length->1<=d.getD u 0->∃y∈g.getD u [],d.getD y.toNat 0=d.getD u 0 - 1
 shut:∀u,u<g.length->sh.getD u false=true->d.getD u 0=-1
 qin:∀x∈q,0<=x/\x<(g.length:Int)/\0<=d.getD x.toNat 0
 sorted:q.Pairwise λ x y=>d.getD x.toNat 0<=d.getD y.toNat 0
 top:∀x∈q,∀u,u<g.length->d.getD u 0<=d.getD x.toNat 0+1
 done:∀y:Int,0<=y->y<(g.length:Int)->0<=d.getD y.toNat 0->y∉q->∀u,u<g.length->(y=w->u<v)->sh.getD u false=false->y∈g.getD u []->0<=d.getD u 0/\d.getD u 0<=d.getD y.toNat 0+1
 bnd:∀u,u<g.length->d.getD u 0+(J1 d:Nat)<=(g.length:Int) - 1
 Ajk:q.length+J1 d<=g.length
 cur:0<=w->w<(g.length:Int)/\0<=d.getD w.toNat 0/\(∀u,u<g.length->d.getD u 0<=d.getD w.toNat 0+1)/\∀x∈q,d.getD w.toNat 0<=d.getD x.toNat 0
theorem BF.init{g:List (List Int)}{sh:List Bool}{goal:Nat}(EX:goal<g.length)(ho:sh.getD goal false=false):BF g sh goal (-1) 0 ((List.replicate g.length (-1)).set goal 0) [(goal:Int)]:=by
 have hz:∀u,u<g.length->((List.replicate g.length (-1:Int)).set goal 0).getD u 0=if u=goal then 0 else -1:=λ u hu=>by
   rw[D1];by_cases e:goal=u
   . rw[if_pos ⟨e,by simpa using EX⟩,if_pos e.symm]
   . rw[if_neg (λ h=>e h.1),if_neg (λ h=>e h.symm)];simp[List.getD,hu]
 have hr:J1 (List.replicate g.length (-1))=g.length:=by
   unfold J1;rw[List.countP_replicate];simp
 have hn:J1 ((List.replicate g.length (-1)).set goal 0)+1=g.length:=by
   rw[Tp (by simpa using EX) (by simp[List.getD,EX]) (by omega),hr]
 refine ⟨by simp,λ u hu=>?_,λ u hu=>?_,λ u hu h=>?_,λ u hu h=>?_,λ x hx=>?_,by simp,λ x hx u hu=>?_,λ y hy Ye hy3 hy4 u hu=>?_,λ u hu=>?_,by simp only[List.length_singleton];omega,λ h=>by omega⟩
 . rw[hz u hu];split<;>omega
 . rw[hz u hu];split<;>simp_all
 . rw[hz u hu] at h;split at h<;>omega
 . rw[hz u hu,if_neg];rintro rfl;rw[ho] at h;cases h
 . rw[Aw] at hx;subst hx;rw[show ((goal:Nat):Int).toNat=goal by omega,hz goal EX,if_pos rfl];omega
 . rw[Aw] at hx;subst hx;rw[show ((goal:Nat):Int).toNat=goal by omega,hz goal EX,if_pos rfl,hz u hu];split<;>omega
 . rw[hz _ (by omega)] at hy3;split at hy3
   . rename_i e;exact absurd (Aw.2 (by omega)) hy4
   . omega
 . rw[hz u hu];split<;>omega
theorem BF.pop{g:List (List Int)}{sh:List Bool}{goal:Nat}{d q:List Int}{w:Int}{w0:Int}{v:Nat}(h:BF g sh goal w0 v d (w::q))(hv:w0<0∨v=g.length):BF g sh goal w 0 d q:=by
 have hw:=h.qin w (by simp);refine ⟨h.len,h.lo,h.zero,h.prev,h.shut,λ x hx=>h.qin x (by simp[hx]),(BL.1 h.sorted).2,λ x hx=>h.top x (by simp[hx]),?_,h.bnd,by have:=h.Ajk;simp only[Ar] at this;omega,λ _=>⟨hw.2.1,hw.2.2,h.top w (by simp),λ x hx=>(BL.1 h.sorted).1 x hx⟩⟩;intro y hy Ye hy3 hy4 u hu hc hs hm;by_cases e:y=w
 . have:=hc e;omega
 . refine h.done y hy Ye hy3 (λ hx=>?_) u hu (λ e2=>by omega) hs hm;rcases AF.1 hx with h1 | h1
   . exact e h1
   . exact hy4 h1
theorem BF.skip{g:List (List Int)}{sh:List Bool}{goal:Nat}{d q:List Int}{w:Int}{v:Nat}(h:BF g sh goal w v d q)(LA:0<=w)(hc:0<=d.getD v 0∨sh.getD v false=true∨w∉g.getD v []):BF g sh goal w (v+1) d q:=by
 refine ⟨h.len,h.lo,h.zero,h.prev,h.shut,h.qin,h.sorted,h.top,?_,h.bnd,h.Ajk,h.cur⟩;intro y hy Ye hy3 hy4 u hu hv hs hm;by_cases e:u=v
 . subst e;by_cases e2:y=w
   . subst e2;rcases hc with hc | hc | hc
     . exact ⟨hc,(h.cur LA).2.2.1 u hu⟩
     . rw[hs] at hc;cases hc
     . exact absurd hm hc
   . exact h.done y hy Ye hy3 hy4 u hu (λ e3=>absurd e3 e2) hs hm
 . exact h.done y hy Ye hy3 hy4 u hu (λ e3=>by have:=hv e3;omega) hs hm
theorem BF.push{g:List (List Int)}{sh:List Bool}{goal:Nat}{d q:List Int}{w:Int}{v:Nat}(h:BF g sh goal w v d q)(LA:0<=w)(hv:v<g.length)(hd:d.getD v 0<0)(hs:sh.getD v false=false)(hm:w∈g.getD v []):
   BF g sh goal w (v+1) (d.set v (d.getD w.toNat 0+1)) (q++[(v:Int)]):=by
 obtain ⟨hc1,Vb,hc3,hc4⟩:=h.cur LA;have hl:=h.len;have EZ:∀u,(d.set v (d.getD w.toNat 0+1)).getD u 0=if u=v then d.getD w.toNat 0+1 else d.getD u 0:=λ u=>by
   rw[D1];by_cases e:v=u
   . rw[if_pos ⟨e,by omega⟩,if_pos e.symm]
   . rw[if_neg (λ h=>e h.1),if_neg (λ h=>e h.symm)]
 have Dl:∀y:Int,0<=d.getD y.toNat 0->(d.set v (d.getD w.toNat 0+1)).getD y.toNat 0=d.getD y.toNat 0:=λ y hy=>by
   rw[EZ,if_neg];intro e;rw[e] at hy;omega
 have hn:=Tp (d:=d) (v:=v) (x:=d.getD w.toNat 0+1) (by omega) hd (by omega);refine ⟨by simpa using hl,λ u hu=>?_,λ u hu=>?_,λ u hu h1=>?_,λ u hu h1=>?_,λ x hx=>?_,?_,λ x hx u hu=>?_,?_,λ u hu=>?_,?_,λ _=>⟨hc1,?_,λ u hu=>?_,λ x hx=>?_⟩⟩
 . rw[EZ];have:=h.lo u hu;split<;>omega
 . rw[EZ];by_cases e:u=v
   . subst e;rw[if_pos rfl];have:=h.zero u hu;constructor
     . intro h1;omega
     . intro h1;have:=this.2 h1;omega
   . rw[if_neg e];exact h.zero u hu
 . rw[EZ] at h1;by_cases e:u=v
   . subst e;exact ⟨w,hm,by rw[Dl w Vb,EZ,if_pos rfl];omega⟩
   . rw[if_neg e] at h1;obtain ⟨y,hy,Ye⟩:=h.prev u hu h1;exact ⟨y,hy,by rw[Dl y (by omega),EZ,if_neg e];exact Ye⟩
 . rw[EZ,if_neg]
   . exact h.shut u hu h1
   . rintro rfl;rw[hs] at h1;cases h1
 . rcases Av.1 hx with hx | hx
   . have:=h.qin x hx;exact ⟨this.1,this.2.1,by rw[Dl x this.2.2];exact this.2.2⟩
   . rw[Aw] at hx;subst hx;exact ⟨by omega,by omega,by rw[EZ,if_pos (by omega)];omega⟩
 . rw[Bv];refine ⟨?_,by simp,?_⟩
   . refine h.sorted.imp_of_mem λ {a b} ha hb XG=>?_;rw[Dl a (h.qin a ha).2.2,Dl b (h.qin b hb).2.2];exact XG
   . intro a ha b hb;rw[Aw] at hb;subst hb;rw[Dl a (h.qin a ha).2.2,EZ,if_pos (by omega)];have:=hc3 a.toNat (by have:=h.qin a ha;omega);exact this
 . rcases Av.1 hx with hx | hx
   . have h1:=h.qin x hx;rw[Dl x h1.2.2,EZ];have:=hc4 x hx;have:=h.top x hx u hu;split<;>omega
   . rw[Aw] at hx;subst hx;rw[EZ,EZ,if_pos (show ((v:Nat):Int).toNat=v by omega)];have:=hc3 u hu;split<;>omega
 . intro y hy Ye hy3 hy4 u hu hc hsu hmu;have hyv:y≠(v:Int):=λ e=>hy4 (by simp[e]);have Ax8:y.toNat≠v:=by omega
   rw[EZ,if_neg Ax8] at hy3;have hyq:y∉q:=λ e=>hy4 (by simp[e]);rw[EZ,EZ,if_neg Ax8];by_cases e:u=v
   . subst e;rw[if_pos rfl];by_cases e2:y=w
     . subst e2;omega
     . have:=h.done y hy Ye hy3 hyq u hu (λ e3=>absurd e3 e2) hsu hmu;omega
   . rw[if_neg e];exact h.done y hy Ye hy3 hyq u hu (λ e3=>by have:=hc e3;omega) hsu hmu
 . rw[EZ];have h1:=h.bnd u hu;have h2:=h.bnd w.toNat (by omega);split<;>omega
 . have:=h.Ajk;simp only[Au,List.length_singleton];omega
 . rw[Dl w Vb];exact Vb
 . rw[Dl w Vb,EZ];have:=hc3 u hu;split<;>omega
 . rw[Dl w Vb];rcases Av.1 hx with hx | hx
   . rw[Dl x (h.qin x hx).2.2];exact hc4 x hx
   . rw[Aw] at hx;subst hx;rw[EZ,if_pos (by omega)];omega
theorem BF.end{g:List (List Int)}(hg:Eg g){sh:List Bool}{goal:Nat}{d:List Int}{w:Int}{v:Nat}(h:BF g sh goal w v d [])(hv:w<0∨v=g.length):DS g sh goal d:=
 ⟨h.len,h.lo,h.zero,h.prev,λ u hu hs y hy h0=>by
   have hr:=Je hg hu hy;exact h.done y (by omega) (by omega) h0 (by simp) u hu (λ e=>by omega) hs hy,h.shut⟩
theorem Ads{g:List (List Int)}(hg:Eg g){u:Nat}(hu:u<g.length){i j:Nat}(hi:i<j)(hj:j<(g.getD u []).length):(g.getD u []).getD i 0<(g.getD u []).getD j 0:=by
 induction j with
 | zero=>omega
 | succ j ih=>
   have h1:=hg.2 u hu (j+1) hj;unfold Ji at h1;have h2:=h1.2.2.2 (by omega);rw[show j+1 - 1=j by omega] at h2;by_cases e:i=j
   . subst e;exact h2
   . have:=ih (by omega) (by omega);omega
def Dk:List C3->Int
 | []=>0
 | s::r=>s.Co+Dk r
theorem D4(l:List C3)(s:C3):Dk (l++[s])=Dk l+s.Co:=by
 induction l with
 | nil=>simp[Dk]
 | cons x r ih=>simp only[AT,Dk,ih];omega
def Lx(nb:Nat)(b:Int)(s:C3):Prop:=0<=s.HW/\s.HW<(nb:Int)/\0<=s.out/\s.out<(nb:Int)/\1<=s.Co/\s.Co<=4/\s.base=b
instance (nb:Nat) (b:Int) (s:C3):Decidable (Lx nb b s):=by unfold Lx;exact inferInstance
def NF(x:Int)(s:C3):Bool:=s.CA&&(decide (s.base<=x)&&decide (x<s.base+s.Co))
def DV(nb:Nat)(l:List C3):Prop:=∀i,i<l.length->Lx nb (nb+Dk (l.take i)) (l.getD i Cm)
instance (nb:Nat) (l:List C3):Decidable (DV nb l):=by unfold DV;exact inferInstance
def Ee(sp:List C3)(l:List Int):Prop:=∀i,i<l.length->sp.any (NF (l.getD i 0))=true/\l.getD i 0∉l.take i
instance (sp:List C3) (l:List Int):Decidable (Ee sp l):=by unfold Ee;exact inferInstance
def validN(n:Nt):Prop:=Ia n/\n.spurs.length<=6/\Fp n/\n.B0.length<=8/\H4 n.cq n.ca n.cd n.cp/\DV n.blocks.length n.spurs/\Ee n.spurs n.B0/\0<(n.spurs.filter C3.CA).length
instance (n:Nt):Decidable (validN n):=by unfold validN;exact inferInstance
theorem Ie(nb:Nat)(l:List C3)(k:Nat)(hk:k<=l.length)(h:∀j,j<k->Lx nb (nb+Dk (l.take j)) (l.getD j Cm)):0<=Dk (l.take k)/\Dk (l.take k)<=4*k:=by
 induction k with
 | zero=>simp[Dk]
 | succ k ih=>
   have h1:=ih (by omega) (λ j hj=>h j (by omega));have h2:=h k (by omega);rw[CB l k Cm (by omega),D4];obtain ⟨_,_,_,_,h5,h6,_⟩:=h2;omega
def Qw(n:Nt):Prop:=n.blocks.length<=10000000/\Qx n.next/\n.spurs.length<=10000000/\n.B0.length<=10000000
theorem Ad8(n:Nt)(hsm:Qw n):BZ prog 46 [.agg n.cs] [] λ h r=>h=[]/\r= .p (.bool (decide (validN n))):=by
 have hB:=Aht n hsm.1 hsm.2.1;have hN:=Aju n hsm.1 hsm.2.2.1;have hC:=Vl n.cq n.ca n.cd n.cp;obtain ⟨_,_,LB,GG⟩:=hsm;refine B1 func46 rfl Amk (by simp[Tryz.f46]) ?_;simp only[go_sem,Nt.cs];refine Cq ((hB)) ?_;cases d1:decide (Ia n)
 . simp only[go_sem,d1];rw[Ah (λ hp=>Ae d1 hp.1)]
 cases d2:decide (6<(n.spurs.length:Int));rotate_left
 . simp only[go_sem,Nt.cs,Cb,d1,d2];rw[Ah (λ hp=>by have:=hp.2.1;have:=Ad d2;omega)]
 simp only[go_sem,Nt.cs,Cb,d1,d2];refine Cq ((hN)) ?_;cases d3:decide (Fp n)
 . simp only[go_sem,d3];rw[Ah (λ hp=>Ae d3 hp.2.2.1)]
 cases d4:decide (8<(n.B0.length:Int));rotate_left
 . simp only[go_sem,Nt.cs,BW,d3,d4];rw[Ah (λ hp=>by have:=hp.2.2.2.1;have:=Ad d4;omega)]
 simp only[go_sem,Nt.cs,BW,d3,d4];refine Cq ((hC)) ?_;cases d5:decide (H4 n.cq n.ca n.cd n.cp)
 . simp only[go_sem,d5];rw[Ah (λ hp=>Ae d5 hp.2.2.2.2.1)]
 simp only[go_sem,Nt.cs,Cf,d5];clear hB hN hC;have e1:=Ad d1;have e2:=Ae d2;have e3:=Ad d3;have e4:=Ae d4;have e5:=Ad d5;clear d1 d2 d3 d4 d5;have Vc:n.blocks.length<=24:=e1.2.1;refine B5 (λ i:Nat=>⟨[(1,.ptr 1 0),(3,.p (.int .i64 ((n.blocks.length:Int)+Dk (n.spurs.take i)))),(4,.p (.int .i64 (((n.spurs.take i).filter C3.CA).length:Nat))),(5,.p (.int .i64 (i:Nat)))],[(1,.box (Nt.cs n))],163⟩)
   (λ i=>i<=n.spurs.length/\∀j,j<i->Lx n.blocks.length (n.blocks.length+Dk (n.spurs.take j)) (n.spurs.getD j Cm)) (λ i=>n.spurs.length - i) 0 ⟨AE _,λ j hj=>absurd hj (AZ _)⟩ (Wk.forget (by simp[ZF,Nt.cs,Dk])) ?_
 rintro i m ⟨hi,DK⟩ ih;simp only[go_sem,Nt.cs,Cb];refine Cx (λ h2=>?_) (λ h2=>?_)
 . have Ct:i<n.spurs.length:=by simp at h2;omega
   have hw:=Cg i (by omega);have hg:=Fa n.spurs i Ct;have Dx:(0:Int)<=(i:Int)/\(i:Int)<(n.spurs.length:Int):=by omega
   have Aqp:=Ie n.blocks.length n.spurs i hi DK;have JH:¬Lx n.blocks.length (n.blocks.length+Dk (n.spurs.take i)) (n.spurs.getD i Cm)->decide (validN n)=false:=λ h=>Ah (λ hp=>h (hp.2.2.2.2.2.1 i Ct));have NZ:Lx n.blocks.length (n.blocks.length+Dk (n.spurs.take i)) (n.spurs.getD i Cm)->∀j,j<i+1->Lx n.blocks.length (n.blocks.length+Dk (n.spurs.take j)) (n.spurs.getD j Cm):=λ h j hj=>by
     rcases AG.1 hj with h3 | rfl
     . exact DK j h3
     . exact h
   have p6:=CB n.spurs i Cm Ct;have OW:((n.spurs.take i).filter C3.CA).length<=i:=by
     refine Bw (List.length_filter_le _ _) ?_;simp;omega
   generalize n.spurs.getD i Cm=s at*;obtain ⟨nm,dp,HW,out,sl,bs⟩:=s;simp only[Lx] at JH NZ;generalize hS:Dk (n.spurs.take i)=S at*;generalize hD:((n.spurs.take i).filter C3.CA).length=dn at*;cases c1:decide (HW<0);rotate_left
   . simp only[go_sem,Nt.cs,Cb,Cf,Ab,hg,Dx,c1];rw[JH (λ hp=>by have:=Ad c1;omega)]
   cases c2:decide ((n.blocks.length:Int)<=HW);rotate_left
   . simp only[go_sem,Nt.cs,Cb,Cf,Ab,hg,Dx,c1,c2];rw[JH (λ hp=>by have:=Ad c2;omega)]
   cases c3:decide (out<0);rotate_left
   . simp only[go_sem,Nt.cs,Cb,Cf,Ab,hg,Dx,c1,c2,c3];rw[JH (λ hp=>by have:=Ad c3;omega)]
   cases c4:decide ((n.blocks.length:Int)<=out);rotate_left
   . simp only[go_sem,Nt.cs,Cb,Cf,Ab,hg,Dx,c1,c2,c3,c4];rw[JH (λ hp=>by have:=Ad c4;omega)]
   cases c5:decide (sl<1);rotate_left
   . simp only[go_sem,Nt.cs,Cb,Cf,Ab,hg,Dx,c1,c2,c3,c4,c5];rw[JH (λ hp=>by have:=Ad c5;omega)]
   cases c6:decide (4<sl);rotate_left
   . simp only[go_sem,Nt.cs,Cb,Cf,Ab,hg,Dx,c1,c2,c3,c4,c5,c6];rw[JH (λ hp=>by have:=Ad c6;omega)]
   cases c7:decide (bs=(n.blocks.length:Int)+S)
   . simp only[go_sem,Nt.cs,Cb,Cf,Ab,hg,Dx,c1,c2,c3,c4,c5,c6,c7];rw[JH (λ hp=>by have:=Ae c7;omega)]
   have hsl:1<=sl/\sl<=4:=by have:=Ae c5;have:=Ae c6;omega
   have hwb:IntKind.i64.wrap ((n.blocks.length:Int)+S+sl)=(n.blocks.length:Int)+S+sl:=by rw[B3]<;>omega
   have RY:=NZ (by have:=Ae c1;have:=Ae c2;have:=Ae c3;have:=Ae c4;have:=Ad c7;omega);have hwd:=Cg dn (by omega);cases dp
   . simp only[go_sem,Nt.cs,Cb,Cf,Ab,hg,Dx,c1,c2,c3,c4,c5,c6,c7,hwb,hw];refine ih (i+1) _ ⟨Ct,RY⟩ (by omega) ?_
     (refine Wk.forget ?_;simp[ZF,Nt.cs,p6,D4,hS,hD,Int.add_assoc];done)
   . simp only[go_sem,Nt.cs,Cb,Cf,Ab,hg,Dx,c1,c2,c3,c4,c5,c6,c7,hwb,hw,hwd];refine ih (i+1) _ ⟨Ct,RY⟩ (by omega) ?_
     (refine Wk.forget ?_;simp[ZF,Nt.cs,p6,D4,hS,hD,Int.add_assoc];done)
 have:i=n.spurs.length:=by simp at h2;omega
 subst this;have FT:DV n.blocks.length n.spurs:=DK;rw[At];have Bc7:∀k,k<n.spurs.length->0<=(n.spurs.getD k Cm).base/\(n.spurs.getD k Cm).base<=1000/\1<=(n.spurs.getD k Cm).Co/\(n.spurs.getD k Cm).Co<=4:=λ k hk=>by
   have h3:=FT k hk;have h4:=Ie n.blocks.length n.spurs k (by omega) (λ j hj=>FT j (by omega));obtain ⟨_,_,_,_,h5,h6,h7⟩:=h3;omega
 clear ih DK;generalize hD:(n.spurs.filter C3.CA).length=dn;simp only[go_sem];refine B5 (λ i:Nat=>⟨[(1,.ptr 1 0),(4,.p (.int .i64 (dn:Nat))),(7,.p (.int .i64 (i:Nat)))],[(1,.box (Nt.cs n))],163⟩)
   (λ i=>i<=n.B0.length/\∀j,j<i->n.spurs.any (NF (n.B0.getD j 0))=true/\n.B0.getD j 0∉n.B0.take j) (λ i=>n.B0.length - i) 0 ⟨AE _,λ j hj=>absurd hj (AZ _)⟩ (Wk.forget (by simp[ZF,Nt.cs])) ?_
 rintro i m2 ⟨EP,DK⟩ ih;simp only[go_sem,Nt.cs,BW];refine Cx (λ h3=>?_) (λ h3=>?_);rotate_left
 . simp only[go_sem];have:i=n.B0.length:=by simp at h3;omega
   subst this;have hv:decide (validN n)=decide (0<(dn:Int)):=by
     by_cases hdn:0<dn
     . rw[Ag (show validN n from ⟨e1,by omega,e3,by omega,e5,FT,DK,by rw[hD];exact hdn⟩),Ag (by omega)]
     . rw[Ah (λ hp:validN n=>hdn (by have:=hp.2.2.2.2.2.2.2;rw[hD] at this;exact this)),Ah (by omega)]
   rw[hv];try simp
 have Ct:i<n.B0.length:=by simp at h3;omega
 have hw:=Cg i (by omega);have hgr:=Cj n.B0 i Ct;have Dx:(0:Int)<=(i:Int)/\(i:Int)<(n.B0.length:Int):=by omega
 have JH:¬(n.spurs.any (NF (n.B0.getD i 0))=true/\n.B0.getD i 0∉n.B0.take i)->decide (validN n)=false:=λ h=>Ah (λ hp=>h (hp.2.2.2.2.2.2.1 i Ct));have NZ:(n.spurs.any (NF (n.B0.getD i 0))=true/\n.B0.getD i 0∉n.B0.take i)->∀j,j<i+1->n.spurs.any (NF (n.B0.getD j 0))=true/\n.B0.getD j 0∉n.B0.take j:=λ h j hj=>by
   rcases AG.1 hj with h3 | rfl
   . exact DK j h3
   . exact h
 generalize n.B0.getD i 0=x at hgr JH NZ;simp only[go_sem];refine B5 (λ k:Nat=>⟨[(1,.ptr 1 0),(4,.p (.int .i64 (dn:Nat))),(7,.p (.int .i64 (i:Nat))),(8,.p (.bool ((n.spurs.take k).any (NF x)))),(9,.p (.int .i64 (k:Nat)))],[(1,.box (Nt.cs n))],163⟩)
   (λ k=>k<=n.spurs.length) (λ k=>n.spurs.length - k) 0 (AE _) (Wk.forget (by simp[ZF,Nt.cs])) ?_
 rintro k m3 hk JP;simp only[go_sem,Nt.cs,Cb];refine Cx (λ h4=>?_) (λ h4=>?_)
 . have Nh:k<n.spurs.length:=by simp at h4;omega
   have H0:=Cg k (by omega);have NK:=Fa n.spurs k Nh;have Hu:(0:Int)<=(k:Int)/\(k:Int)<(n.spurs.length:Int):=by omega
   have hb:=Bc7 k Nh;have p6:=CB n.spurs k Cm Nh;generalize n.spurs.getD k Cm=s at*;obtain ⟨nm,dp,HW,out,sl,bs⟩:=s;simp only at hb;have hwb:IntKind.i64.wrap (bs+sl)=bs+sl:=by rw[B3]<;>omega
   have han:(n.spurs.take (k+1)).any (NF x)=((n.spurs.take k).any (NF x)||(dp&&(decide (bs<=x)&&decide (x<bs+sl)))):=by
     rw[p6,List.any_append];simp[NF]
   generalize (n.spurs.take k).any (NF x)=ok at*;simp only[go_sem,Nt.cs,Cb,Ab,NK,Hu];refine CH mixed (p:=[(0,0),(1,0),(2,0),(3,0),(4,0),(5,0),(6,0),(7,0),(8,0),(9,0),(10,0),(11,0),(12,0),(13,0),(14,0),(15,0),(16,0),(17,0),(18,0),(19,0),(20,0),(21,0),(22,0),(23,0),(24,0),(25,0),(26,0),(27,0),(28,0)]) (by kernel_rfl) (by simp[C8,get]) ?_;cases ok;rotate_left
   . simp only[go_sem,Nt.cs,H0];refine JP (k+1) _ Nh (by omega) ?_
     (refine Wk.forget ?_;simp[ZF,Nt.cs,han];done)
   cases dp
   . simp only[go_sem,Nt.cs,H0];refine JP (k+1) _ Nh (by omega) ?_
     (refine Wk.forget ?_;simp[ZF,Nt.cs,han];done)
   cases c1:decide (bs<=x)
   . simp only[go_sem,Nt.cs,BW,Ab,hgr,Dx,c1,H0];refine JP (k+1) _ Nh (by omega) ?_
     (refine Wk.forget ?_;simp[ZF,Nt.cs,han,c1];done)
   cases c2:decide (x<bs+sl)
   . simp only[go_sem,Nt.cs,BW,Ab,hgr,Dx,c1,hwb,c2,H0];refine JP (k+1) _ Nh (by omega) ?_
     (refine Wk.forget ?_;simp[ZF,Nt.cs,han,c1,c2];done)
   . simp only[go_sem,Nt.cs,BW,Ab,hgr,Dx,c1,hwb,c2,H0];refine JP (k+1) _ Nh (by omega) ?_
     (refine Wk.forget ?_;simp[ZF,Nt.cs,han,c1,c2];done)
 have:k=n.spurs.length:=by simp at h4;omega
 subst this;rw[At];simp only[go_sem];refine CH mixed (p:=[(0,0),(1,0),(2,0),(3,0),(4,0),(5,0),(6,0),(7,0),(8,0),(9,0),(10,0),(11,0),(12,2),(13,0)]) (by kernel_rfl) (by simp[C8,get]) ?_;cases ho:n.spurs.any (NF x)
 . simp only[go_sem,ho];rw[JH (λ hp=>by rw[ho] at hp;cases hp.1)]
 simp only[go_sem,Nt.cs,BW,Ab,hgr,Dx,ho,Li];refine ⟨⟨by omega,by simp[LI,BX]⟩,?_⟩;refine Gq ((Mw (n.B0.take i) x (by simp;omega))) ?_;cases hh:decide (x∈n.B0.take i)
 . simp only[go_sem,hh,hw];refine ih (i+1) _ ⟨Ct,NZ ⟨ho,Ae hh⟩⟩ (by omega) ?_
   (refine Wk.forget ?_;simp[ZF,Nt.cs];done)
 . simp only[go_sem,hh];rw[JH (λ hp=>hp.2 (Ad hh))]
theorem any_take_succ{α:Type}(p:α->Bool)(l:List α)(k:Nat)(x:α)(h:k<l.length):(l.take (k+1)).any p=((l.take k).any p||p (l.getD k x)):=by
 rw[CB l k x h,List.any_append];simp
theorem KI(l:List Int)(i:Nat):((BX l)[i]?.getD []).tail=[]:=by
 unfold BX;rw[AQ];cases l[i]?<;>rfl
theorem XO(g:List (List Int))(sh:List Bool)(goal:Nat)(hg:Eg g)(Jp:sh.length=g.length)(EX:goal<g.length):
   BZ prog 123 [.p (.sl (Cr g)),.p (.sl (CT sh)),.p (.int .i64 (goal:Nat))] [] λ h r=>h=[]/\r= .p (.sl (BX (DC g sh goal))):=by
 have hlen:=hg.1;refine B1 func123 rfl Agf (by simp[Tryz.f123]) ?_;simp only[go_sem,B8];refine ⟨by omega,?_⟩;refine B5 (λ q:Nat×List Int=>⟨[(0,.p (.sl (Cr g))),(1,.p (.sl (CT sh))),(2,.p (.int .i64 (goal:Nat))),(7,.ref 14 0 g.length g.length),(8,.p (.int .i64 (q.1:Nat)))],[(14,.arr 3 1 (BX q.2))],82⟩)
   (λ q=>q.1<=g.length/\q.2.length=g.length/\∀j,j<q.1->q.2.getD j 0=-1) (λ q=>g.length - q.1) (0,List.replicate g.length 0) ⟨AE _,by simp,λ j hj=>absurd hj (AZ _)⟩ (Wk.forget (by simp[ZF,BX])) ?_
 rintro ⟨i,o⟩ m ⟨hi,ho,hm⟩ ih;simp only at hi ho hm;simp only[go_sem,B8];refine Cx (λ h2=>?_) (λ h2=>?_)
 . have Ct:i<g.length:=by simp at h2;omega
   have hw:=Cg i (by omega);have Dx:(0:Int)<=(i:Int)/\(i:Int)<(g.length:Int):=by omega
   simp only[go_sem,BW,ho,Ab,Dx,hw];refine ih (i+1,o.set i (-1)) _ ⟨Ct,by simpa using ho,λ j hj=>?_⟩ (by simp only;omega) ?_
   . rw[D1];by_cases e:i=j
     . rw[if_pos ⟨e,by omega⟩]
     . rw[if_neg (λ h=>e h.1)];exact hm j (by omega)
   . (refine Wk.forget ?_;simp[ZF,Db,KI];done)
 have hie:i=g.length:=by simp at h2;omega
 subst hie;have hoe:o=List.replicate g.length (-1):=by
   refine List.ext_getElem (by simp[ho]) λ j h3 h4=>?_;have:=hm j (by omega);rw[getD_eq h3] at this
   simpa using this
 subst hoe;clear ih hm;have Bby:=GO sh goal (by omega);have hg0:(0:Int)<=(goal:Int)/\(goal:Int)<(g.length:Int):=by omega
 simp only[go_sem,GN,Jp,Ab,Bby,hg0];cases hs:sh.getD goal false;rotate_left
 . simp only[go_sem,hs];refine BY ?_;simp only[go_sem];unfold DC;rw[if_pos hs];simp[BX]
 simp only[go_sem,hs,BW,BH,Ab,hg0];have hdv:DC g sh goal=JR g sh (g.length - 1) 1 ((List.replicate g.length (-1)).set goal 0):=by unfold DC;rw[if_neg (by rw[hs];simp)]
 refine B5 (λ q:Nat×List Int=>⟨[(0,.p (.sl (Cr g))),(1,.p (.sl (CT sh))),(7,.ref 14 0 g.length g.length),(9,.p (.int .i64 (q.1:Nat)))],[(14,.arr 3 1 (BX q.2))],82⟩)
   (λ q=>1<=q.1/\q.1<=24/\q.2.length=g.length/\JR g sh (g.length - q.1) q.1 q.2=DC g sh goal) (λ q=>g.length - q.1) (1,(List.replicate g.length (-1)).set goal 0) ⟨Ai _,by omega,by simp,hdv.symm⟩ (Wk.forget (by simp[ZF,Db,KI])) ?_
 rintro ⟨d,o⟩ m2 ⟨V7,Bc5,ho,he⟩ ih;simp only at V7 Bc5 ho he;simp only[go_sem,B8];refine Cx (λ h3=>?_) (λ h3=>?_);rotate_left
 . simp only[go_sem];refine BY ?_;simp only[go_sem];have:g.length - d=0:=by simp at h3;omega
   rw[this] at he;simp only[JR] at he;rw[<-he,AL (by rw[BW];omega)];try simp[BW,ho]
 have hdt:d<g.length:=by simp at h3;omega
 have hwd:=Cg d (by omega);have hwp:IntKind.i64.wrap ((d:Int) - 1)=(d:Int) - 1:=by rw[B3]<;>omega
 rw[show g.length - d=(g.length - (d+1))+1 by omega] at he;simp only[JR] at he;generalize hT:I7 g sh d g.length 0 o=T at he;simp only[go_sem];refine B5 (λ q:Nat×List Int=>⟨[(0,.p (.sl (Cr g))),(1,.p (.sl (CT sh))),(7,.ref 14 0 g.length g.length),(9,.p (.int .i64 (d:Nat))),(10,.p (.int .i64 (q.1:Nat)))],[(14,.arr 3 1 (BX q.2))],82⟩)
   (λ q=>q.1<=g.length/\q.2.length=g.length/\I7 g sh d (g.length - q.1) q.1 q.2=T) (λ q=>g.length - q.1) (0,o) ⟨AE _,ho,hT⟩ (Wk.forget (by simp[ZF])) ?_
 rintro ⟨v,o1⟩ m3 ⟨hv,q0,he1⟩ ih1;simp only at hv q0 he1;simp only[go_sem,B8];refine Cx (λ h4=>?_) (λ h4=>?_);rotate_left
 . have:g.length - v=0:=by simp at h4;omega
   rw[this] at he1;simp only[I7] at he1;simp only[go_sem,hwd];refine ih (d+1,o1) _ ⟨by omega,by omega,q0,by rw[he1];exact he⟩ (by simp only;omega) ?_
   (refine Wk.forget ?_;simp[ZF];done)
 have Xv:v<g.length:=by simp at h4;omega
 have Xu:=Cg v (by omega);rw[show g.length - v=(g.length - (v+1))+1 by omega] at he1;simp only[I7] at he1;have Qj:=GO sh v (by omega);have hgo:=Cj o1 v (by omega);have Ov:(0:Int)<=(v:Int)/\(v:Int)<(g.length:Int):=by omega
 cases c1:sh.getD v false;rotate_left
 . simp only[go_sem,GN,BW,Jp,q0,Ab,Qj,hgo,Ov,c1,Xu];refine ih1 (v+1,o1) _ ⟨Xv,q0,?_⟩ (by simp only;omega) ?_
   . rw[<-he1];unfold Kg;rw[if_pos (.inl c1)]
   . (refine Wk.forget ?_;simp[ZF];done)
 cases c2:decide (0<=o1.getD v 0);rotate_left
 . simp only[go_sem,GN,BW,Jp,q0,Ab,Qj,hgo,Ov,c1,c2,Xu];refine ih1 (v+1,o1) _ ⟨Xv,q0,?_⟩ (by simp only;omega) ?_
   . rw[<-he1];unfold Kg;rw[if_pos (.inr (Ad c2))]
   . (refine Wk.forget ?_;simp[ZF];done)
 simp only[go_sem,GN,BW,Jp,q0,Ab,Qj,hgo,Ov,c1,c2];have I5:Kg g sh d v o1=if (g.getD v []).any (λ w=>decide (o1.getD w.toNat 0=(d:Int) - 1))=true then o1.set v d else o1:=by
   unfold Kg;rw[if_neg (by
     rintro (h | h)
     . rw[c1] at h;cases h
     . exact Ae c2 h)]
 rw[I5] at he1;have CS:∀k,k<(g.getD v []).length->∃w:Nat,(g.getD v []).getD k 0=(w:Int)/\w<g.length/\w≠v:=λ k hk=>Ta hg Xv hk;have Xx:(g.getD v []).length<=24:=by
   have hP:=hg.2 v Xv;have key:∀k,k<=(g.getD v []).length->∀j,j<k->(j:Int)<=(g.getD v []).getD j 0:=by
     intro k
     induction k with
     | zero=>intro _ j hj;omega
     | succ k ihk=>
       intro hk j hj;rcases AG.1 hj with h5 | rfl
       . exact ihk (by omega) j h5
       . have h6:=hP j (by omega);unfold Ji at h6;rcases j with _ | j
         . exact h6.1
         . have h7:=ihk (by omega) j (by omega);have h8:=h6.2.2.2 (by omega);rw[show j+1 - 1=j from rfl] at h8;omega
   rcases BV (g.getD v []).length with h5 | h5
   . omega
   . have h6:=key _ (Ai _) ((g.getD v []).length - 1) (by omega);obtain ⟨w,h7,h8,_⟩:=CS ((g.getD v []).length - 1) (by omega);omega
 have hgv:=GP g v Xv;generalize g.getD v []=row at*;clear I5 c1 c2 Qj hgo;refine B5 (λ k:Nat=>⟨[(0,.p (.sl (Cr g))),(1,.p (.sl (CT sh))),(7,.ref 14 0 g.length g.length),(9,.p (.int .i64 (d:Nat))),(10,.p (.int .i64 (v:Nat))),(11,.p (.int .i64 (k:Nat)))],
     [(14,.arr 3 1 (BX (if (row.take k).any (λ w=>decide (o1.getD w.toNat 0=(d:Int) - 1))=true then o1.set v d else o1)))],82⟩)
   (λ k=>k<=row.length) (λ k=>row.length - k) 0 (AE _) (Wk.forget (by simp[ZF])) ?_
 rintro k m4 hk JP;simp only[go_sem,B8,BW,Ab,hgv,Ov];refine Cx (λ h5=>?_) (λ h5=>?_);rotate_left
 . have:k=row.length:=by simp at h5;omega
   subst this;rw[At];clear JP;generalize row.any (λ w=>decide (o1.getD w.toNat 0=(d:Int) - 1))=an at*;simp only[go_sem,Xu];refine ih1 (v+1,if an=true then o1.set v d else o1) _ ⟨Xv,?_,he1⟩ (by simp only;omega) ?_
   . simp only;split<;>simp[q0]
   . (refine Wk.forget ?_;simp[ZF];done)
 have Nh:k<row.length:=by simp at h5;omega
 have H0:=Cg k (by omega);obtain ⟨w,hw,hwl,Bb4⟩:=CS k Nh;have NK:=Cj row k Nh;rw[hw] at NK;have Hu:(0:Int)<=(k:Int)/\(k:Int)<(row.length:Int):=by omega
 have LA:(0:Int)<=(w:Int)/\(w:Int)<(g.length:Int):=by omega
 have p6:=any_take_succ (λ w=>decide (o1.getD w.toNat 0=(d:Int) - 1)) row k 0 Nh;rw[hw] at p6;simp only[Ab] at p6;generalize (row.take k).any (λ w=>decide (o1.getD w.toNat 0=(d:Int) - 1))=an at*;have p9:(if an=true then o1.set v d else o1).length=g.length:=by split<;>simp[q0]
 have hgw:=Cj (if an=true then o1.set v d else o1) w (by omega);have Bbx:(if an=true then o1.set v d else o1).getD w 0=o1.getD w 0:=by
   split
   . rw[D1,if_neg (λ h=>Bb4 h.1.symm)]
   . rfl
 rw[Bbx] at hgw;have EZ:(if an=true then o1.set v d else o1).set v d=o1.set v d:=by split<;>simp
 generalize hq:(if an=true then o1.set v d else o1)=q at*;simp only[go_sem,B8,BW,Ab,hgv,Ov,NK,Hu,p9,hgw,LA,hwp];cases c3:decide (o1.getD w 0=(d:Int) - 1)
 . simp only[go_sem,c3,H0];refine JP (k+1) _ Nh (by omega) ?_;rw[p6,c3,Bool.or_false,hq]
   (refine Wk.forget ?_;simp[ZF];done)
 . simp only[go_sem,c3,H0,BW,p9,Ab,Ov];refine JP (k+1) _ Nh (by omega) ?_;rw[p6,c3,Bool.or_true,if_pos rfl,<-EZ,Db]
   (refine Wk.forget ?_;simp[ZF,KI];done)
theorem Ahl(g:List (List Int))(sh:List Bool)(hg:Qx g):BZ prog 68 [.p (.sl (Cr g)),.p (.sl (CT sh))] [] λ h r=>h=[]/\r= .p (.int .i64 (if Eg g then (if sh.length=g.length then 0 else 19) else 20)):=by
 refine B1 func68 rfl Am2 (by simp[Tryz.f68]) ?_;simp only[go_sem];refine Cq ((Ad9 g hg)) ?_;cases c1:decide (Eg g)
 . simp only[go_sem,c1];rw[if_neg (Ae c1)]
 simp only[go_sem,c1,GN,B8];rw[if_pos (Ad c1)];cases c2:decide ((sh.length:Int)=(g.length:Int))
 . simp only[go_sem,c2];rw[if_neg (λ h=>Ae c2 (by omega))]
 . simp only[go_sem,c2];rw[if_pos (by have:=Ad c2;omega)]
def Aat(g:List (List Int))(D:List Int)(v:Nat):Int:=if 0<D.getD v 0 then ((g.getD v []).find? (λ w=>decide (D.getD w.toNat 0=D.getD v 0 - 1))).getD (-1) else -1
theorem No{g:List (List Int)}(hg:Eg g)(sh:List Bool){goal:Nat}(EX:goal<g.length){v:Nat}(hv:v<g.length):-1<=(DC g sh goal).getD v 0/\(DC g sh goal).getD v 0<=24:=by
 rcases (ZY hg sh goal EX).2 v hv with h | h | h<;>omega
theorem M3{g:List (List Int)}(hg:Eg g){u:Nat}(hu:u<g.length):(g.getD u []).length<=24:=by
 have hP:=hg.2 u hu;have key:∀k,k<=(g.getD u []).length->∀j,j<k->(j:Int)<=(g.getD u []).getD j 0:=by
   intro k
   induction k with
   | zero=>intro _ j hj;omega
   | succ k ihk=>
     intro hk j hj;rcases AG.1 hj with h5 | rfl
     . exact ihk (by omega) j h5
     . have h6:=hP j (by omega);unfold Ji at h6;rcases j with _ | j
       . exact h6.1
       . have h7:=ihk (by omega) j (by omega);have h8:=h6.2.2.2 (by omega);rw[show j+1 - 1=j from rfl] at h8;omega
 have hl:=hg.1;rcases BV (g.getD u []).length with h5 | h5
 . omega
 . have h6:=key _ (Ai _) ((g.getD u []).length - 1) (by omega);obtain ⟨w,h7,h8,_⟩:=Ta hg hu (k:=(g.getD u []).length - 1) (by omega);omega
def jm1(j:Nat):Int:=(j:Int) - 1
theorem Aqq(g:List (List Int))(sh:List Bool)(goal:Nat)(hg:Eg g)(Jp:sh.length=g.length)(EX:goal<g.length):
   BZ prog 156 [.p (.sl (Cr g)),.p (.sl (CT sh)),.p (.int .i64 (goal:Nat))] [] λ h r=>h=[]/\∃o:List Int,r= .p (.sl (BX o))/\o.length=g.length/\∀v,v<g.length->o.getD v 0=Aat g (DC g sh goal) v:=by
 have hlen:=hg.1;have hDl:=Np g sh goal;have hDr:∀v,v<g.length->-1<=(DC g sh goal).getD v 0/\(DC g sh goal).getD v 0<=24:=λ v hv=>No hg sh EX hv;have hd:=XO g sh goal hg Jp EX;refine B1 func156 rfl Afx (by simp[Tryz.f156]) ?_;simp only[go_sem];refine Cq ((hd)) ?_;generalize DC g sh goal=ds at*;clear hd;simp only[go_sem,B8];refine ⟨by omega,?_⟩;refine B5 (λ q:Nat×List Int=>⟨[(0,.p (.sl (Cr g))),(7,.p (.sl (BX ds))),(8,.ref 18 0 g.length g.length),(9,.p (.int .i64 (q.1:Nat)))],[(18,.arr 3 1 (BX q.2))],67⟩)
   (λ q=>q.1<=g.length/\q.2.length=g.length/\∀v,v<q.1->q.2.getD v 0=Aat g ds v) (λ q=>g.length - q.1) (0,List.replicate g.length 0) ⟨AE _,by simp,λ j hj=>absurd hj (AZ _)⟩ (Wk.forget (by simp[ZF,BX])) ?_
 rintro ⟨v,o⟩ m ⟨hv,ho,DK⟩ ih;simp only at hv ho DK;simp only[go_sem,B8];refine Cx (λ h2=>?_) (λ h2=>?_);rotate_left
 . simp only[go_sem];refine BY ?_;simp only[go_sem];have:v=g.length:=by simp at h2;omega
   subst this;refine ⟨by rw[BW];omega,o,?_,ho,DK⟩;rw[AL (by rw[BW];omega)]
 have Xv:v<g.length:=by simp at h2;omega
 have Xu:=Cg v (by omega);have Ov:(0:Int)<=(v:Int)/\(v:Int)<(g.length:Int):=by omega
 have hgv:=GP g v Xv;have CS:∀k,k<(g.getD v []).length->∃w:Nat,(g.getD v []).getD k 0=(w:Int)/\w<g.length/\w≠v:=λ k hk=>Ta hg Xv hk;have Xx:=M3 hg Xv;have hDv:=Cj ds v (by omega);have hDvr:=hDr v Xv;have hhv:Aat g ds v=if 0<ds.getD v 0 then ((g.getD v []).find? (λ w=>decide (ds.getD w.toNat 0=ds.getD v 0 - 1))).getD (-1) else -1:=rfl
 generalize g.getD v []=row at*;generalize hdv:ds.getD v 0=dv at*;have hwl:IntKind.i64.wrap ((row.length:Int) - 1)=jm1 row.length:=by unfold jm1;rw[B3]<;>omega
 simp only[go_sem,B8,BW,ho,Ab,Ov,hgv,hwl];refine B5 (λ j:Nat=>⟨[(0,.p (.sl (Cr g))),(7,.p (.sl (BX ds))),(8,.ref 18 0 g.length g.length),(9,.p (.int .i64 (v:Nat))),(10,.p (.int .i64 (jm1 j)))],
     [(18,.arr 3 1 (BX (o.set v (((row.drop j).find? (λ w=>decide (ds.getD w.toNat 0=dv - 1))).getD (-1)))))],67⟩)
   (λ j=>j<=row.length/\(j=row.length∨0<dv)) (λ j=>j) row.length ⟨Ai _,.inl rfl⟩ (Wk.forget (by simp[ZF,Db,KI,BA])) ?_
 rintro j m2 ⟨hj,hjd⟩ JP;have EZ:∀x,∀u,u<v+1->x=Aat g ds v->(o.set v x).getD u 0=Aat g ds u:=λ x u hu hx=>by
   rw[D1];by_cases e:v=u
   . subst e;rw[if_pos ⟨rfl,by omega⟩];exact hx
   . rw[if_neg (λ h=>e h.1)];exact DK u (by omega)
 rcases j with _ | j
 . have hz:¬(0:Int)<=jm1 0:=by unfold jm1;omega
   simp only[go_sem,hz,Xu];refine ih (v+1,o.set v ((row.find? (λ w=>decide (ds.getD w.toNat 0=dv - 1))).getD (-1))) _ ⟨Xv,by simp[ho],λ u hu=>EZ _ u hu ?_⟩ (by simp only;omega) ?_
   . rw[hhv];rcases hjd with h3 | h3
     . have:row=[]:=List.length_eq_zero_iff.1 h3.symm;subst this;simp
     . rw[if_pos h3]
   . (refine Wk.forget ?_;simp[ZF];done)
 . have hj1:jm1 (j+1)=(j:Int):=by unfold jm1;omega
   have hjn:(0:Int)<=(j:Int):=by omega
   have p5:IntKind.i64.wrap ((j:Int) - 1)=jm1 j:=by unfold jm1;rw[B3]<;>omega
   cases c1:decide (0<dv)
   . have hjl:j+1=row.length:=by
       rcases hjd with h3 | h3
       . exact h3
       . exact absurd h3 (Ae c1)
     have PI:row.drop (j+1)=[]:=by rw[hjl];simp
     rw[PI];simp only[go_sem,hj1,hjn,BW,hDl,Ab,Ov,hDv,c1,Xu];refine ih (v+1,o.set v (-1)) _ ⟨Xv,by simp[ho],λ u hu=>EZ _ u hu ?_⟩ (by simp only;omega) ?_
     . rw[hhv,if_neg (Ae c1)]
     . (refine Wk.forget ?_;simp[ZF];done)
   have Yi:j<row.length:=by omega
   obtain ⟨w,hw,hwl2,hwne⟩:=CS j Yi;have hgj:=Cj row j Yi;rw[hw] at hgj;have hj0:(0:Int)<=(j:Int)/\(j:Int)<(row.length:Int):=by omega
   have LA:(0:Int)<=(w:Int)/\(w:Int)<(g.length:Int):=by omega
   have hDw:=Cj ds w (by omega);have hwd:IntKind.i64.wrap (dv - 1)=dv - 1:=by rw[B3]<;>omega
   have TU:row.drop j=(w:Int)::row.drop (j+1):=by rw[DO row j 0 Yi,hw]
   simp only[go_sem,hj1,hjn,BW,B8,hDl,Ab,Ov,hDv,c1,hgv,hgj,hj0];refine CH mixed (p:=[(0,0),(1,0),(2,0),(3,0),(4,0),(5,0),(6,0),(7,0),(8,0),(9,0)]) (by kernel_rfl) (by simp[C8,get]) ?_;simp only[go_sem,BW,hDl,Ab,Ov,hDv,hDw,LA,hwd];cases c2:decide (ds.getD w 0=dv - 1)
   . simp only[go_sem,c2,p5];refine JP j _ ⟨by omega,.inr (Ad c1)⟩ (by omega) ?_;rw[TU,List.find?_cons_of_neg (by simp only[Ab];simpa using Ae c2)]
     (refine Wk.forget ?_;simp[ZF];done)
   . simp only[go_sem,c2,p5,BW,A5,ho,Ab,Ov];refine JP j _ ⟨by omega,.inr (Ad c1)⟩ (by omega) ?_;rw[TU,List.find?_cons_of_pos (by simp only[Ab];exact c2)];generalize ((row.drop (j+1)).find? (λ w=>decide (ds.getD w.toNat 0=dv - 1))).getD (-1)=y0;rw[show o.set v ((some (w:Int)).getD (-1))=(o.set v y0).set v (w:Int) by simp,Db (o.set v y0)]
     (refine Wk.forget ?_;simp[ZF,KI];done)
theorem Yo(l:List Int):LI 1 (BX l):=by
 intro e he;unfold BX at he;obtain ⟨x,_,rfl⟩:=AP.1 he;rfl
theorem Akt{g:List (List Int)}(hg:Eg g)(sh:List Bool){goal cur:Nat}(EX:goal<g.length)(hc:cur<g.length)(Dl:cur≠goal)(h0:0<=(DC g sh goal).getD cur 0):
   ∃w:Nat,Aat g (DC g sh goal) cur=(w:Int)/\w<g.length/\(DC g sh goal).getD w 0=(DC g sh goal).getD cur 0 - 1/\1<=(DC g sh goal).getD cur 0:=by
 have hdp:=(ZY hg sh goal EX).2 cur hc;generalize DC g sh goal=ds at*;rcases hdp with h | h | ⟨h1,h2,w,h3,h4⟩
 . omega
 . exact absurd h.2 Dl
 . unfold Aat;rw[if_pos (by omega)];have hs:((g.getD cur []).find? (λ w=>decide (ds.getD w.toNat 0=ds.getD cur 0 - 1))).isSome:=by
     rw[List.find?_isSome];exact ⟨w,h3,Ag h4⟩
   obtain ⟨u,hu⟩:=Bx.1 hs;have hm:=List.mem_of_find?_eq_some hu;have hp:ds.getD u.toNat 0=ds.getD cur 0 - 1:=by have:=List.find?_some hu;simpa using this
   obtain ⟨k,hk,hku⟩:=AA.1 hm;obtain ⟨x,IH,HZ,_⟩:=Ta hg hc hk;rw[getD_eq hk,hku] at IH;rw[hu];subst IH;exact ⟨x,rfl,HZ,by simpa using hp,h1⟩
theorem Alk(g:List (List Int))(sh:List Bool)(src goal:Nat)(hg:Eg g)(Jp:sh.length=g.length)(EX:goal<g.length)(Af6:src<g.length)(h0:0<=(DC g sh goal).getD src 0):
   BZ prog 124 [.p (.sl (Cr g)),.p (.sl (CT sh)),.p (.int .i64 (src:Nat)),.p (.int .i64 (goal:Nat))] [] λ h r=>h=[]/\∃o:List Int,r= .p (.sl (BX o))/\1<=o.length/\o.length<=26:=by
 have hDl:=Np g sh goal;have Zq:∀cur,cur<g.length->cur≠goal->0<=(DC g sh goal).getD cur 0->_:=λ cur hc Dl h=>Akt hg sh EX hc Dl h;have Aqp:=(No hg sh EX Af6).2;have hd:=XO g sh goal hg Jp EX;have hh:=Aqq g sh goal hg Jp EX;refine B1 func124 rfl Age (by simp[Tryz.f124]) ?_;simp only[go_sem];refine Cq ((hd)) ?_;generalize DC g sh goal=ds at*;clear hd;have hDv:=Cj ds src (by omega);have hs0:(0:Int)<=(src:Int)/\(src:Int)<(g.length:Int):=by omega
 have Aqr:¬ds.getD src 0<0:=by omega
 simp only[go_sem,BW,hDl,Ab,hDv,hs0,Aqr];refine DF hh ?_;rintro h' r ⟨rfl,hp,rfl,hpl,hpv⟩;simp only[go_sem];refine B5 (λ q:Nat×List Int=>⟨[(2,.p (.int .i64 (q.1:Nat))),(3,.p (.int .i64 (goal:Nat))),(9,.p (.sl (BX hp))),(10,.ref 24 0 q.2.length q.2.length)],[(24,.arr 3 1 (BX q.2))],37⟩)
   (λ q=>q.1<g.length/\0<=ds.getD q.1 0/\1<=q.2.length/\(q.2.length:Int)+ds.getD q.1 0<=25) (λ q=>(ds.getD q.1 0).toNat) (src,[(src:Int)]) ⟨Af6,h0,Ai _,by show ((1:Nat):Int)+ds.getD src 0<=25;omega⟩ (Wk.forget (by simp[ZF,BX])) ?_
 rintro ⟨cur,o⟩ m ⟨hc,V8,q0,UJ⟩ ih;simp only at hc V8 q0 UJ;simp only[go_sem];cases c1:decide ((cur:Int)=(goal:Int))
 . have Dl:cur≠goal:=λ e=>Ae c1 (by rw[e]);obtain ⟨w,RW,U8,hw3,hw4⟩:=Zq cur hc Dl V8;have hgc:=Cj hp cur (by omega);rw[hpv cur hc,RW] at hgc;have Vb:(0:Int)<=(cur:Int)/\(cur:Int)<(g.length:Int):=by omega
   simp only[go_sem,c1,BW,hpl,Ab,hgc,Vb];refine ⟨⟨EB _ _ rfl,by omega⟩,?_⟩;refine ih (w,o++[(w:Int)]) _ ⟨U8,by simp only;omega,by simp,by show (((o++[(w:Int)]).length:Nat):Int)+ds.getD w 0<=25;rw[Au,List.length_singleton];omega⟩ (by simp only;omega) ?_
   (refine Wk.forget ?_;simp[ZF,D5,BW];done)
 . simp only[go_sem,c1];refine BY ?_;simp only[go_sem];refine ⟨by rw[BW],o,?_,q0,by omega⟩;rw[G8 _ _ (Ai _)]
theorem s9(g:List (List Int))(sh:List Bool)(v:Nat)(hg:Eg g)(Jp:sh.length=g.length)(hv:v<g.length):
   BZ prog 86 [.p (.sl (Cr g)),.p (.sl (CT sh)),.p (.int .i64 (v:Nat))] [] λ h r=>h=[]/\∃o:List Int,r= .p (.sl (BX o))/\o.length<=30:=by
 have hDl:=Np g sh v;have hd:=XO g sh v hg Jp hv;have hf:=λ src hs h0=>Alk g sh src v hg Jp hv hs h0;have Qj:=GO sh v (by omega);have Ov:(0:Int)<=(v:Int)/\(v:Int)<(g.length:Int):=by omega
 refine B1 func86 rfl Alv (by simp[Tryz.f86]) ?_;simp only[go_sem,GN,Jp,Ab,Qj,Ov];cases hs:sh.getD v false;rotate_left
 . simp only[go_sem,hs];refine BY ?_;simp only[go_sem];exact ⟨[],rfl,by simp⟩
 simp only[go_sem,hs];refine Cq ((hd)) ?_;generalize DC g sh v=ds at*;clear hd hs Qj;have CS:∀k,k<(g.getD v []).length->∃w:Nat,(g.getD v []).getD k 0=(w:Int)/\w<g.length/\w≠v:=λ k hk=>Ta hg hv hk;have Xx:=M3 hg hv;have hgv:=GP g v hv;generalize g.getD v []=row at*;simp only[go_sem];refine B5 (λ q:Nat×Int=>⟨[(0,.p (.sl (Cr g))),(1,.p (.sl (CT sh))),(2,.p (.int .i64 (v:Nat))),(7,.p (.sl (BX ds))),(8,.p (.int .i64 q.2)),(9,.p (.int .i64 (q.1:Nat)))],[],72⟩)
   (λ q=>q.1<=row.length/\(q.2=-1∨∃b:Nat,q.2=(b:Int)/\b<g.length/\0<=ds.getD b 0)) (λ q=>row.length - q.1) (0,-1) ⟨AE _,.inl rfl⟩ (Wk.forget (by simp[ZF])) ?_
 rintro ⟨k,bst⟩ m ⟨hk,hb⟩ ih;simp only at hk hb;simp only[go_sem,B8,BW,Ab,hgv,Ov];refine Cx (λ h3=>?_) (λ h3=>?_)
 . have Nh:k<row.length:=by simp at h3;omega
   have H0:=Cg k (by omega);obtain ⟨w,hw,hwl,_⟩:=CS k Nh;have NK:=Cj row k Nh;rw[hw] at NK;have Hu:(0:Int)<=(k:Int)/\(k:Int)<(row.length:Int):=by omega
   have LA:(0:Int)<=(w:Int)/\(w:Int)<(g.length:Int):=by omega
   have hDw:=Cj ds w (by omega);simp only[go_sem,B8,BW,Ab,hgv,Ov,NK,Hu];refine CH mixed (p:=[(0,0),(1,0),(2,0),(3,0),(4,0),(5,0),(6,0),(7,0),(8,0),(9,0),(10,0),(11,0),(12,0),(13,0),(14,0),(15,0),(16,0),(17,0),(18,0),(19,0)]) (by kernel_rfl) (by simp[C8,get]) ?_;cases c1:decide (0<=ds.getD w 0)
   . simp only[go_sem,BW,hDl,Ab,hDw,LA,c1,H0];refine ih (k+1,bst) _ ⟨Nh,hb⟩ (by simp only;omega) ?_
     (refine Wk.forget ?_;simp[ZF];done)
   have hnw:∃b:Nat,(w:Int)=(b:Int)/\b<g.length/\0<=ds.getD b 0:=⟨w,rfl,hwl,Ad c1⟩;rcases hb with rfl | ⟨b,rfl,TV,hb0⟩
   . simp only[go_sem,BW,hDl,Ab,hDw,LA,c1,H0];refine ih (k+1,(w:Int)) _ ⟨Nh,.inr hnw⟩ (by simp only;omega) ?_
     (refine Wk.forget ?_;simp[ZF];done)
   . have hDb:=Cj ds b (by omega);have hbi:(0:Int)<=(b:Int)/\(b:Int)<(g.length:Int):=by omega
     have hbn:¬(b:Int)<0:=by omega
     cases c2:decide (ds.getD w 0<ds.getD b 0)
     . simp only[go_sem,BW,hDl,Ab,hDw,LA,c1,hbn,hDb,hbi,c2,H0];refine ih (k+1,(b:Int)) _ ⟨Nh,.inr ⟨b,rfl,TV,hb0⟩⟩ (by simp only;omega) ?_
       (refine Wk.forget ?_;simp[ZF];done)
     . simp only[go_sem,BW,hDl,Ab,hDw,LA,c1,hbn,hDb,hbi,c2,H0];refine ih (k+1,(w:Int)) _ ⟨Nh,.inr hnw⟩ (by simp only;omega) ?_
       (refine Wk.forget ?_;simp[ZF];done)
 . rcases hb with rfl | ⟨b,rfl,TV,hb0⟩
   . simp only[go_sem];refine BY ?_;simp only[go_sem];exact ⟨[],rfl,by simp⟩
   . have hbn:¬(b:Int)<0:=by omega
     simp only[go_sem,hbn];refine DF (hf b TV hb0) ?_;rintro h' r ⟨rfl,o,rfl,q0,UJ⟩;have hwo:IntKind.i64.wrap ((o.length:Int) - 1)=((o.length - 1:Nat):Int):=by rw[B3]<;>omega
     simp only[go_sem,BW,hwo,Ab,Li];have htl:(o.take (o.length - 1)).length<=o.length:=by simp
     refine ⟨⟨by omega,Yo _⟩,?_⟩;refine ⟨⟨Yo _,by omega⟩,?_⟩;refine BY ?_;simp only[go_sem];refine ⟨?_,(v:Int)::o.take (o.length - 1),?_,by simp;omega⟩
     . simp[BX]
     . simp[BX,List.take_take]
theorem Al8(g:List (List Int))(sh:List Bool)(hg:Eg g)(hsm:Qx g)(Jp:sh.length=g.length):
   BZ prog 47 [.p (.sl (Cr g)),.p (.sl (CT sh))] [] λ h r=>h=[]/\∃o:List Int,r= .Dg [.p (.int .i64 (o.length:Nat)),.p (.sl (BX o)),.p (.int .i64 0)]/\o.length<=30:=by
 have ht:=λ v hv=>s9 g sh v hg Jp hv;have hl:=hg.1;refine B1 func47 rfl Amj (by simp[Tryz.f47]) ?_;simp only[go_sem];refine Cq ((Ahl g sh hsm)) ?_;rw[if_pos hg,if_pos Jp];simp only[go_sem];refine B5 (λ q:Nat×List Int=>⟨[(0,.p (.sl (Cr g))),(1,.p (.sl (CT sh))),(8,.p (.sl (BX q.2))),(9,.p (.int .i64 (q.1:Nat)))],[],46⟩)
   (λ q=>q.1<=g.length/\q.2.length<=30) (λ q=>g.length - q.1) (0,[]) ⟨AE _,by simp⟩ ((Wk.nil (t:=8) (q:=42) (sz:=1) 3 rfl rfl (by decide)).trans ((Wk.pure (t:=8) (id:=42) (sz:=1) (e:=3) (es:=[]) rfl rfl).trans (Wk.forget (by simp[ZF,BX])))) ?_
 rintro ⟨v,bst⟩ m ⟨hv,hb⟩ ih;simp only at hv hb;simp only[go_sem,B8];refine Cx (λ h3=>?_) (λ h3=>?_)
 . have Xv:v<g.length:=by simp at h3;omega
   have Xu:=Cg v (by omega);simp only[go_sem];refine DF (ht v Xv) ?_;rintro h' r ⟨rfl,o,rfl,ho⟩;simp only[go_sem,BW];cases c1:decide (0<(o.length:Int))
   . simp only[go_sem,BW,c1,Xu];refine ih (v+1,bst) _ ⟨Xv,hb⟩ (by simp only;omega) ?_
     (refine Wk.forget ?_;simp[ZF];done)
   cases c2:decide ((bst.length:Int)=0);rotate_left
   . simp only[go_sem,BW,c1,c2,Xu];refine ih (v+1,o) _ ⟨Xv,ho⟩ (by simp only;omega) ?_
     (refine Wk.forget ?_;simp[ZF];done)
   cases c3:decide ((o.length:Int)<(bst.length:Int))
   . simp only[go_sem,BW,c1,c2,c3,Xu];refine ih (v+1,bst) _ ⟨Xv,hb⟩ (by simp only;omega) ?_
     (refine Wk.forget ?_;simp[ZF];done)
   . simp only[go_sem,BW,c1,c2,c3,Xu];refine ih (v+1,o) _ ⟨Xv,ho⟩ (by simp only;omega) ?_
     (refine Wk.forget ?_;simp[ZF];done)
 . simp only[go_sem,BW];refine BY ?_;simp only[go_sem];exact ⟨bst,rfl,hb⟩
def cellsV(n:Nt):Int:=(n.blocks.length:Int)+Dk n.spurs
theorem Vs{nb:Nat}{l:List C3}(h:DV nb l):∀(k i:Nat),i+k<=l.length->Dk (l.take i)<=Dk (l.take (i+k))
 | 0,_,_=>BP _
 | k+1,i,hk=>by
   have h1:=Vs h k i (by omega);have h2:=h (i+k) (by omega);obtain ⟨_,_,_,_,h5,_,_⟩:=h2;rw[show i+(k+1)=(i+k)+1 by omega,CB l (i+k) Cm (by omega),D4];omega
theorem L0{nb:Nat}{l:List C3}(h:DV nb l){i:Nat}(hi:i<l.length):
   (nb:Int)<=(l.getD i Cm).base/\(l.getD i Cm).base+(l.getD i Cm).Co<=(nb:Int)+Dk l/\(l.getD i Cm).base=(nb:Int)+Dk (l.take i):=by
 obtain ⟨_,_,_,_,h5,h6,h7⟩:=h i hi;have h1:=Ie nb l i (by omega) (λ j hj=>h j (by omega));have h2:=Vs h (l.length - (i+1)) (i+1) (by omega);rw[show i+1+(l.length - (i+1))=l.length by omega,At,CB l i Cm hi,D4] at h2;omega
theorem SS{nb:Nat}{l:List C3}(h:DV nb l):0<=Dk l/\Dk l<=4*l.length:=by
 have:=Ie nb l l.length (Ai _) h;rw[At] at this;exact this
theorem Anu(n:Nt)(hn:validN n):BZ prog 49 [.agg n.cs] [] λ h r=>h=[]/\r= .p (.int .i64 (cellsV n)):=by
 obtain ⟨e1,e2,e3,e4,e5,FT,e7,e8⟩:=hn;have Vc:=e1.2.1;refine B1 func49 rfl Amh (by simp[Tryz.f49]) ?_;simp only[go_sem,Nt.cs,Cf];refine B5 (λ i:Nat=>⟨[(1,.ptr 1 0),(3,.p (.int .i64 ((n.blocks.length:Int)+Dk (n.spurs.take i)))),(4,.p (.int .i64 (i:Nat)))],[(1,.box (Nt.cs n))],24⟩)
   (λ i=>i<=n.spurs.length) (λ i=>n.spurs.length - i) 0 (AE _) (Wk.forget (by simp[ZF,Nt.cs,Dk])) ?_
 rintro i m hi ih;simp only[go_sem,Nt.cs,Cb];refine Cx (λ h2=>?_) (λ h2=>?_)
 . have Ct:i<n.spurs.length:=by simp at h2;omega
   have hw:=Cg i (by omega);have hg:=Fa n.spurs i Ct;have Dx:(0:Int)<=(i:Int)/\(i:Int)<(n.spurs.length:Int):=by omega
   have hr:=Ie n.blocks.length n.spurs (i+1) Ct (λ j hj=>FT j (by omega));have p6:Dk (n.spurs.take (i+1))=Dk (n.spurs.take i)+(n.spurs.getD i Cm).Co:=by rw[CB n.spurs i Cm Ct,D4]
   rw[p6] at hr;have hwb:IntKind.i64.wrap ((n.blocks.length:Int)+Dk (n.spurs.take i)+(n.spurs.getD i Cm).Co)=(n.blocks.length:Int)+Dk (n.spurs.take i)+(n.spurs.getD i Cm).Co:=by rw[B3]<;>omega
   simp only[go_sem,Nt.cs,Cb,Ab,hg,Dx,hwb,hw];refine ih (i+1) _ Ct (by omega) ?_
   (refine Wk.forget ?_;simp[ZF,Nt.cs,p6,Int.add_assoc];done)
 . simp only[go_sem];have:i=n.spurs.length:=by simp at h2;omega
   subst this;rw[At];rfl
def Ph(sh:List Bool)(s:C3):Bool:=!sh.getD s.HW.toNat false&&(!sh.getD s.out.toNat false&&(List.range s.Co.toNat).all λ j=>!sh.getD (s.base.toNat+j) false)
theorem Apu(n:Nt)(hn:validN n)(sh:List Bool)(Jp:(sh.length:Int)=cellsV n)(s:Nat)(hs:s<n.spurs.length):
   BZ prog 87 [.agg n.cs,.p (.sl (CT sh)),.p (.int .i64 (s:Nat))] [] λ h r=>h=[]/\r= .p (.bool (Ph sh (n.spurs.getD s Cm))):=by
 obtain ⟨e1,e2,e3,e4,e5,FT,e7,e8⟩:=hn;have Vc:=e1.2.1;obtain ⟨i1,i2,i3,i4,i5,i6,i7⟩:=FT s hs;obtain ⟨r1,r2,r3⟩:=L0 FT hs;have DK:=SS FT;have hg:=Fa n.spurs s hs;have hs0:(0:Int)<=(s:Int)/\(s:Int)<(n.spurs.length:Int):=by omega
 unfold cellsV at Jp;refine B1 func87 rfl Alu (by simp[Tryz.f87]) ?_;simp only[go_sem,Nt.cs,Cb,Ab,hg,hs0];generalize n.spurs.getD s Cm=sp at*;clear hg;obtain ⟨nm,dp,HW,out,sl,bs⟩:=sp;simp only at i1 i2 i3 i4 i5 i6 i7 r1 r2 r3;obtain ⟨a,rfl⟩:∃a:Nat,HW=(a:Int):=⟨HW.toNat,by omega⟩;obtain ⟨b,rfl⟩:∃b:Nat,out=(b:Int):=⟨out.toNat,by omega⟩;obtain ⟨c,rfl⟩:∃c:Nat,bs=(c:Int):=⟨bs.toNat,by omega⟩;obtain ⟨d,rfl⟩:∃d:Nat,sl=(d:Int):=⟨sl.toNat,by omega⟩;have ha:=GO sh a (by omega);have hb:=GO sh b (by omega);have ha0:(0:Int)<=(a:Int)/\(a:Int)<(sh.length:Int):=by omega
 have hb0:(0:Int)<=(b:Int)/\(b:Int)<(sh.length:Int):=by omega
 have hO:Ph sh ⟨nm,dp,a,b,d,c⟩=(!sh.getD a false&&(!sh.getD b false&&(List.range d).all λ j=>!sh.getD (c+j) false)):=by simp[Ph]
 cases c1:sh.getD a false;rotate_left
 . simp only[go_sem,GN,Ab,ha,ha0,c1];rw[hO,c1];simp
 cases c2:sh.getD b false;rotate_left
 . simp only[go_sem,GN,Ab,ha,ha0,c1,hb,hb0,c2];rw[hO,c1,c2];simp
 simp only[go_sem,GN,Ab,ha,ha0,c1,hb,hb0,c2];rw[hO,c1,c2];refine B5 (λ j:Nat=>⟨[(1,.p (.sl (CT sh))),(7,.ptr 7 0),(8,.p (.int .i64 ((c+j:Nat):Int)))],[(7,.box [.p (.str nm),.p (.bool dp),.p (.int .i64 (a:Nat)),.p (.int .i64 (b:Nat)),.p (.int .i64 (d:Nat)),.p (.int .i64 (c:Nat))])],41⟩)
   (λ j=>j<=d/\∀u,u<j->sh.getD (c+u) false=false) (λ j=>d - j) 0 ⟨AE _,λ u hu=>absurd hu (AZ _)⟩ (Wk.forget (by simp[ZF])) ?_
 rintro j m ⟨hj,Asy⟩ ih;have hwe:IntKind.i64.wrap ((c:Int)+(d:Int))=(c:Int)+(d:Int):=by rw[B3]<;>omega
 simp only[go_sem,hwe];refine Cx (λ h2=>?_) (λ h2=>?_)
 . have Yi:j<d:=by simp at h2;omega
   have hw:=Cg (c+j) (by omega);have hgj:=GO sh (c+j) (by omega);have hj0:(0:Int)<=((c+j:Nat):Int)/\((c+j:Nat):Int)<(sh.length:Int):=by omega
   simp only[go_sem,GN,Ab,hgj,hj0];cases c3:sh.getD (c+j) false
   . simp only[go_sem,c3,hw];refine ih (j+1) _ ⟨Yi,λ u hu=>?_⟩ (by omega) ?_
     . rcases AG.1 hu with h5 | rfl
       . exact Asy u h5
       . exact c3
     . (refine Wk.forget ?_;simp[ZF,Nat.add_assoc];done)
   . simp only[go_sem,c3];have hex:((List.range d).all λ j=>!sh.getD (c+j) false)=false:=by
       rw[List.all_eq_false];exact ⟨j,List.mem_range.2 Yi,by rw[c3];simp⟩
     rw[hex]
 . simp only[go_sem];have:j=d:=by simp at h2;omega
   subst this;have Ke:((List.range j).all λ j=>!sh.getD (c+j) false)=true:=by
     rw[AB];intro u hu;rw[Asy u (List.mem_range.1 hu)];rfl
   rw[Ke]
def slotsV(sh:List Bool):List C3->Int
 | []=>0
 | s::r=>(if s.CA&&Ph sh s then s.Co else 0)+slotsV sh r
theorem L1(sh:List Bool)(l:List C3)(s:C3):slotsV sh (l++[s])=slotsV sh l+(if s.CA&&Ph sh s then s.Co else 0):=by
 induction l with
 | nil=>simp[slotsV]
 | cons x r ih=>simp only[AT,slotsV,ih];omega
theorem Oa(sh:List Bool){nb:Nat}{l:List C3}(h:DV nb l):∀k,k<=l.length->0<=slotsV sh (l.take k)/\slotsV sh (l.take k)<=4*k
 | 0,_=>by simp[slotsV]
 | k+1,hk=>by
   have h1:=Oa sh h k (by omega);obtain ⟨_,_,_,_,h5,h6,_⟩:=h k (by omega);rw[CB l k Cm (by omega),L1];split<;>omega
theorem Aj0(n:Nt)(hn:validN n)(sh:List Bool)(Jp:(sh.length:Int)=cellsV n):
   BZ prog 48 [.agg n.cs,.p (.sl (CT sh))] [] λ h r=>h=[]/\r= .p (.int .i64 (slotsV sh n.spurs)):=by
 have hO:=λ s hs=>Apu n hn sh Jp s hs;obtain ⟨e1,e2,e3,e4,e5,FT,e7,e8⟩:=hn;refine B1 func48 rfl Ami (by simp[Tryz.f48]) ?_;simp only[go_sem,Nt.cs];refine B5 (λ i:Nat=>⟨[(1,.p (.sl (CT sh))),(2,.ptr 2 0),(5,.p (.int .i64 (slotsV sh (n.spurs.take i)))),(6,.p (.int .i64 (i:Nat)))],[(2,.box (Nt.cs n))],35⟩)
   (λ i=>i<=n.spurs.length) (λ i=>n.spurs.length - i) 0 (AE _) (Wk.forget (by simp[ZF,Nt.cs,slotsV])) ?_
 rintro i m hi ih;simp only[go_sem,Nt.cs,Cb];refine Cx (λ h2=>?_) (λ h2=>?_)
 . have Ct:i<n.spurs.length:=by simp at h2;omega
   have hw:=Cg i (by omega);have hg:=Fa n.spurs i Ct;have Dx:(0:Int)<=(i:Int)/\(i:Int)<(n.spurs.length:Int):=by omega
   have hr:=Oa sh FT i hi;have p6:slotsV sh (n.spurs.take (i+1))=slotsV sh (n.spurs.take i)+(if (n.spurs.getD i Cm).CA&&Ph sh (n.spurs.getD i Cm) then (n.spurs.getD i Cm).Co else 0):=by rw[CB n.spurs i Cm Ct,L1]
   have hOi:=hO i Ct;obtain ⟨_,_,_,_,i5,i6,_⟩:=FT i Ct;generalize n.spurs.getD i Cm=s at*;have hwb:IntKind.i64.wrap (slotsV sh (n.spurs.take i)+s.Co)=slotsV sh (n.spurs.take i)+s.Co:=by rw[B3]<;>omega
   generalize slotsV sh (n.spurs.take i)=S at*;cases c1:s.CA
   . simp only[go_sem,Nt.cs,Cb,Ab,hg,Dx,c1,hw];refine ih (i+1) _ Ct (by omega) ?_
     (refine Wk.forget ?_;simp[ZF,Nt.cs,p6,c1];done)
   simp only[go_sem,Nt.cs,Cb,Ab,hg,Dx,c1];refine Cq ((hOi)) ?_;cases c2:Ph sh s
   . simp only[go_sem,c2,hw];refine ih (i+1) _ Ct (by omega) ?_
     (refine Wk.forget ?_;simp[ZF,Nt.cs,p6,c1,c2];done)
   . simp only[go_sem,Nt.cs,Cb,Ab,hg,Dx,c1,c2,hwb,hw];refine ih (i+1) _ Ct (by omega) ?_
     (refine Wk.forget ?_;simp[ZF,Nt.cs,p6,c1,c2];done)
 . simp only[go_sem];have:i=n.spurs.length:=by simp at h2;omega
   subst this;rw[At]
theorem YC(n:Nat):List.take n (List.replicate n [Pd.bool false])=CT (List.replicate n false):=by simp[CT]
theorem D0{n:Nt}(hn:validN n):Eg n.next/\Qx n.next/\n.next.length=n.blocks.length:=by
 obtain ⟨⟨h1,h2,h3,h4⟩,_⟩:=hn;refine ⟨⟨by omega,λ i hi=>?_⟩,⟨by omega,λ r hr=>?_⟩,h3⟩
 . rw[h3];exact (h4 i (by omega)).2.2
 . obtain ⟨i,hi,rfl⟩:=AA.1 hr;have:=(h4 i (by omega)).2.1;rw[getD_eq hi] at this;omega
theorem I8{n:Nt}(hn:validN n):Qw n:=by
 have hg:=D0 hn;obtain ⟨⟨h1,h2,h3,h4⟩,h5,h6,h7,_⟩:=hn;exact ⟨by omega,hg.2.1,by omega,by omega⟩
theorem Alh(n:Nt)(hn:validN n):BZ prog 21 [.agg n.cs] [] λ h r=>h=[]/\∃(o:List Int) (sl cap:Int),r= .Dg [.agg [.p (.int .i64 (o.length:Nat)),.p (.sl (BX o)),.p (.int .i64 sl),.p (.int .i64 cap)],.p (.int .i64 0)]/\cap<=sl/\sl=slotsV (List.replicate (cellsV n).toNat false) n.spurs:=by
 have hV:=Ad8 n (I8 hn);rw[Ag hn] at hV;obtain ⟨hg,hsm,Lb⟩:=D0 hn;have hG:=Al8 n.next (List.replicate n.next.length false) hg hsm (by simp)
 have hC:=Anu n hn;have hS:=λ (c:Nat) (hc:(c:Int)=cellsV n)=>Aj0 n hn (List.replicate c false) (by simpa using hc);have FT:=hn.2.2.2.2.2.1;have Vc:=hn.1.2.1;have hs6:=hn.2.1;have DK:=SS FT;obtain ⟨c,hc⟩:∃c:Nat,cellsV n=(c:Int):=⟨(cellsV n).toNat,by unfold cellsV;omega⟩;have Vb:c<=48:=by unfold cellsV at hc;omega
 have hS:=hS c hc.symm;have hsr:=Oa (List.replicate c false) FT n.spurs.length (Ai _);rw[At] at hsr;rw[hc] at hC ⊢;rw[Ab];generalize slotsV (List.replicate c false) n.spurs=S at*;rw[Lb] at hG;refine B1 func21 rfl An1 (by simp[Tryz.f21]) ?_;simp only[go_sem,Nt.cs];refine Cq ((hV)) ?_;simp only[go_sem,Nt.cs];refine CH mixed (p:=[(0,0),(1,0),(2,0),(3,0),(4,0),(5,1),(6,2),(7,0),(8,0),(9,0),(10,0),(11,0),(12,0),(13,0)]) (by kernel_rfl) (by simp[C8,get]) ?_;simp only[go_sem,Nt.cs,Cf,Ab,BH,YC];refine ⟨by omega,?_⟩;refine o5 hG ?_;rintro h' r ⟨rfl,o,rfl,ho⟩;simp only[go_sem,Nt.cs];refine CH mixed (p:=[(0,0),(1,0),(2,0),(3,0),(8,1),(4,2),(5,1),(6,2),(7,0),(9,3)]) (by kernel_rfl) (by simp[C8,get]) ?_;simp only[go_sem,Nt.cs];refine Gq ((hC)) ?_;simp only[go_sem,Nt.cs,Ab,BH,YC];refine ⟨by omega,?_⟩;refine Gq ((hS)) ?_;simp only[go_sem,Nt.cs];cases c1:decide (0<(o.length:Int))
 . simp only[go_sem,c1];refine BY ?_;simp only[go_sem];exact ⟨o,S,S,rfl,BP _,rfl⟩
 . have RW:IntKind.i64.wrap ((o.length:Int) - 1)=(o.length:Int) - 1:=by rw[B3]<;>omega
   simp only[go_sem,c1,RW];refine BY ?_;simp only[go_sem];exact ⟨o,S,_,rfl,by omega,rfl⟩
def RG(s:C3):List Int:=if s.CA=true then (List.range s.Co.toNat).map (λ j=>s.base+((j:Nat):Int)) else []
def GI(l:List C3):List Int:=l.flatMap RG
theorem NT(l:List C3)(s:C3):GI (l++[s])=GI l++RG s:=by simp[GI]
theorem Vy{s:C3}{x:Int}:x∈RG s↔NF x s=true:=by
 unfold RG NF;by_cases h:s.CA=true
 . rw[if_pos h,h];simp only[AP,List.mem_range,Bl,Ao,Aq];constructor
   . rintro ⟨j,hj,rfl⟩;omega
   . rintro ⟨h1,h2⟩;exact ⟨(x - s.base).toNat,by omega,by omega⟩
 . have h2:s.CA=false:=by simpa using h
   rw[if_neg h,h2];simp
theorem YK(s:C3):(RG s).Nodup:=by
 unfold RG;split
 . rw[List.nodup_iff_pairwise_ne,List.pairwise_map];exact (List.pairwise_lt_range).imp λ h=>by omega
 . exact List.nodup_nil
theorem RF{nb:Nat}{l:List C3}(h:DV nb l):∀k,k<=l.length->(GI (l.take k)).Nodup/\∀x∈GI (l.take k),x<(nb:Int)+Dk (l.take k)
 | 0,_=>by simp[GI]
 | k+1,hk=>by
   obtain ⟨h1,h2⟩:=RF h k (by omega);have hs:=h k (by omega);rw[CB l k Cm (by omega),NT,D4];generalize l.getD k Cm=s at*;obtain ⟨_,_,_,_,h5,h6,h7⟩:=hs;have hm:∀x∈RG s,s.base<=x/\x<s.base+s.Co:=λ x hx=>by
     have:=Vy.1 hx;unfold NF at this;simp at this;exact ⟨this.2.1,this.2.2⟩
   refine ⟨?_,λ x hx=>?_⟩
   . rw[Bt];refine ⟨h1,YK s,λ x hx y hy e=>?_⟩;have h8:=h2 x hx;have h9:=hm y hy;omega
   . rcases Av.1 hx with hx | hx
     . have:=h2 x hx;omega
     . have:=hm x hx;omega
theorem Ala(c k:Nat):(List.replicate c false).getD k false=false:=by
 simp only[List.getD,Bb];split<;>rfl
theorem Ae7(c:Nat)(s:C3):Ph (List.replicate c false) s=true:=by
 unfold Ph;simp only[Ala];simp
theorem RD{nb:Nat}{l:List C3}(h:DV nb l)(c:Nat):∀k,k<=l.length->slotsV (List.replicate c false) (l.take k)=((GI (l.take k)).length:Int)
 | 0,_=>by simp[slotsV,GI]
 | k+1,hk=>by
   have h1:=RD h c k (by omega);have hs:=h k (by omega);rw[CB l k Cm (by omega),L1,NT,Au,h1,Ae7];obtain ⟨_,_,_,_,h5,h6,h7⟩:=hs;generalize l.getD k Cm=s at*;unfold RG;cases hd:s.CA
   . simp
   . simp;omega
theorem Afg{nb:Nat}{l:List C3}(h:DV nb l)(c:Nat){rb:List Int}(hr:(rb.length:Int)<slotsV (List.replicate c false) l):∃s∈l,∃j:Nat,s.CA=true/\(j:Int)<s.Co/\s.base+(j:Int)∉rb:=by
 have h1:=RD h c l.length (Ai _);have h2:=(RF h l.length (Ai _)).1;rw[At] at h1 h2;have Dl:¬∀x∈GI l,x∈rb:=λ hh=>by have:=Ajo _ rb h2 hh;omega
 have:∃x,x∈GI l/\x∉rb:=Classical.byContradiction λ hc=>Dl λ x hx=>Classical.byContradiction λ HZ=>hc ⟨x,hx,HZ⟩;obtain ⟨x,hx,HZ⟩:=this;obtain ⟨s,hs,HE⟩:=Br.1 hx;have h3:=Vy.1 HE;unfold NF at h3;simp at h3;exact ⟨s,hs,(x - s.base).toNat,h3.1,by omega,by rw[show s.base+(((x - s.base).toNat:Nat):Int)=x by omega];exact HZ⟩
def RP(b i:Nat)(r:List Int):Prop:=r.Pairwise (· < ·)/\(∀x∈r,0<=x/\x<(b:Int)/\x≠(i:Int))/\r.length<=4/\(1<b->(((i+1) % b:Nat):Int)∈r)
theorem RP.row{b i:Nat}{r:List Int}(h:RP b i r):HQ b i r:=by
 intro k hk;obtain ⟨h1,h2,_,_⟩:=h;have h3:=h2 _ (CK r k 0 hk);refine ⟨h3.1,h3.2.1,h3.2.2,λ Hu=>?_⟩;rw[getD_eq hk,getD_eq (show k - 1<r.length by omega)];exact List.pairwise_iff_getElem.1 h1 (k - 1) k (by omega) hk (by omega)
theorem RP.ins{b i:Nat}{r:List Int}{x:Int}(h:RP b i r)(h0:0<=x)(hb:x<(b:Int))(hi:x≠(i:Int))(hn:x∉r)(hl:r.length<4):RP b i (Kv r x):=by
 obtain ⟨h1,h2,h3,h4⟩:=h;refine ⟨Akg r x h1 hn,λ y hy=>?_,by rw[Akf];omega,λ Sq=>(TD r x _).2 (.inr (h4 Sq))⟩;rcases (TD r x y).1 hy with rfl | hy
 . exact ⟨h0,hb,hi⟩
 . exact h2 y hy
theorem KJ(l:List (List Int))(i:Nat):((Cr l)[i]?.getD []).tail=[]:=by
 unfold Cr;rw[AQ];cases l[i]?<;>rfl
theorem Apk(l:List Int)(at_ b:Nat)(bl:List ER)(nx:List (List Int))(II:at_<1000000)(Sq:1<=b)(hb:b<=10)(TV:bl.length=b)(V4:nx.length=b)(Bc3:∀i,i<b->nx.getD i []=[]):
   BZ prog 57 [.ptr 1000000 0,.ptr 1000001 0]
     [(1000000,.box (C9 l at_)),(1000001,.box [.ref 1000002 0 b b,.ref 1000003 0 b b,.cl [],.cl [],.p (.int .i64 0),.p (.int .i64 0),.p (.int .i64 0),.p (.int .i64 0)]),(1000002,.arr 76 3 (C2 bl)),(1000003,.arr 22 1 (Cr nx))]
     λ h r=>∃at2 nx2,at2<=at_+20/\nx2.length=b/\(∀i,i<b->RP b i (nx2.getD i []))/\r= .Dg []/\
       h=[(1000000,.box (C9 l at2)),(1000001,.box [.ref 1000002 0 b b,.ref 1000003 0 b b,.cl [],.cl [],.p (.int .i64 0),.p (.int .i64 0),.p (.int .i64 0),.p (.int .i64 0)]),(1000002,.arr 76 3 (C2 bl)),(1000003,.arr 22 1 (Cr nx2))]:=by
 refine B1 func57 rfl Amc (by simp[Tryz.f57]) ?_;simp only[go_sem,C9];refine ⟨by rw[Cf];exact TV.symm,?_⟩;refine B5 (λ q:Nat×List (List Int)=>⟨[(0,.ptr 1000000 0),(1,.ptr 1000001 0),(4,.p (.int .i64 (b:Nat))),(5,.p (.int .i64 (q.1:Nat)))],
     [(1000000,.box [.p (.sl (BX l)),.p (.int .i64 (at_:Nat))]),(1000001,.box [.ref 1000002 0 b b,.ref 1000003 0 b b,.cl [],.cl [],.p (.int .i64 0),.p (.int .i64 0),.p (.int .i64 0),.p (.int .i64 0)]),(1000002,.arr 76 3 (C2 bl)),(1000003,.arr 22 1 (Cr q.2))],98⟩)
   (λ q=>q.1<=b/\q.2.length=b/\(∀j,j<q.1->RP b j (q.2.getD j []))/\(∀j,q.1<=j->j<b->q.2.getD j []=[])) (λ q=>b - q.1) (0,nx) ⟨AE _,V4,λ j hj=>absurd hj (AZ _),λ j _ hj=>Bc3 j hj⟩ (Wk.forget (by simp[ZF,Cr])) ?_
 rintro ⟨i,g⟩ m ⟨hi,hgl,Al0,Ako⟩ ih;simp only at hi hgl Al0 Ako;cases c1:decide ((i:Int)<(b:Int));rotate_left
 . cases c2:decide (1<(b:Int));rotate_left
   . have hib:i<b:=by have:=Ad c1;omega
     have Yk:1<b:=by have:=Ad c2;omega
     have hw:=Cg i (by omega);have Zr:((i+1:Nat):Int).tmod (b:Int)=(((i+1) % b:Nat):Int):=by rw[Int.tmod_eq_emod_of_nonneg (by omega)];omega
     have Dl:¬(b:Int)=0:=by omega
     have Dx:(0:Int)<=(i:Int)/\(i:Int)<(b:Int):=by omega
     simp only[go_sem,c1,c2];refine CH mixed (p:=[(0,0),(1,0),(2,0),(3,0),(4,0),(5,0),(6,0),(7,0),(8,0),(9,1),(10,0),(11,3)]) (by kernel_rfl) (by simp[C8,get]) ?_;simp only[go_sem,hw,Zr,Dl,B8,hgl,Ab,Dx];refine ih (i+1,g.set i [(((i+1) % b:Nat):Int)]) _ ⟨hib,by simpa using hgl,λ j hj=>?_,λ j hj hjb=>?_⟩ (by simp only;omega) ?_
     . rw[D1];by_cases e:i=j
       . subst e;rw[if_pos ⟨rfl,by omega⟩];have hm:(i+1) % b<b:=Nat.mod_lt _ (by omega);have Sl:(i+1) % b≠i:=by
           intro h;rcases Nat.lt_or_ge (i+1) b with h5 | h5
           . rw[Nat.mod_eq_of_lt h5] at h;omega
           . have:i+1=b:=by omega
             rw[this,Nat.mod_self] at h;omega
         refine ⟨List.pairwise_singleton _ _,λ x hx=>?_,by simp,λ _=>by simp⟩;rw[Aw] at hx;subst hx;omega
       . rw[if_neg (λ h=>e h.1)];exact Al0 j (by omega)
     . rw[D1,if_neg (by omega)];exact Ako j (by omega) hjb
     . (refine Wk.forget ?_;simp[ZF,MH,KJ,BX];done)
   . have hb0:b=1:=by have:=Ae c2;omega
     have NJ:i=0:=by have:=Ad c1;omega
     have hRP:∀u,u<b->RP b u (g.getD u []):=λ u hu=>by
       rw[Ako u (by omega) hu];exact ⟨List.Pairwise.nil,λ x hx=>absurd hx (by simp),by simp,λ h=>absurd h (by omega)⟩
     simp only[go_sem,c1,c2];refine Cq ((C4 l at_ 4 (by omega) (CD _ (by omega) (by omega)))) ?_;obtain ⟨k0,Hu,hk4⟩:=CO l at_ 4 (by omega);simp only[go_sem,C9,Hu];refine B5 (λ q:Nat×Nat×List (List Int)=>⟨[(0,.ptr 1000000 0),(1,.ptr 1000001 0),(4,.p (.int .i64 (b:Nat))),(6,.p (.int .i64 (q.1:Nat)))],
         [(1000000,.box [.p (.sl (BX l)),.p (.int .i64 (q.2.1:Nat))]),(1000001,.box [.ref 1000002 0 b b,.ref 1000003 0 b b,.cl [],.cl [],.p (.int .i64 0),.p (.int .i64 0),.p (.int .i64 0),.p (.int .i64 0)]),(1000002,.arr 76 3 (C2 bl)),(1000003,.arr 22 1 (Cr q.2.2))],98⟩)
       (λ q=>q.1<=3/\q.2.1<=at_+1+3*(3 - q.1)/\q.2.2.length=b/\∀i,i<b->RP b i (q.2.2.getD i [])) (λ q=>q.1) (k0,at_+1,g) ⟨by simp only;omega,by simp only;omega,hgl,hRP⟩ (Wk.forget (by simp[ZF,Cr])) ?_
     rintro ⟨k,a,g2⟩ m2 ⟨hk3,Ke,EU,Hx⟩ JP;simp only at hk3 Ke EU Hx;cases d1:decide (0<(k:Int))
     . simp only[go_sem,d1];refine C0 ?_;simp only[go_sem];refine ⟨a,g2,by omega,EU,Hx,?_⟩;first | exact ⟨rfl,rfl⟩ | rfl | simp
     cases d2:decide (2<(b:Int))
     . simp only[go_sem,d1,d2];refine C0 ?_;simp only[go_sem];refine ⟨a,g2,by omega,EU,Hx,?_⟩;first | exact ⟨rfl,rfl⟩ | rfl | simp
     have hkp:1<=k:=by have:=Ad d1;omega
     obtain ⟨k,rfl⟩:∃j,k=j+1:=⟨k - 1,by omega⟩;have H0:=HM k (by omega);have hb3:2<b:=by have:=Ad d2;omega
     have hbz:(0:Int)<(b:Int):=by omega
     obtain ⟨ii,hii,Bbv⟩:=CO l a b hbz;obtain ⟨jj,hjj,Bbu⟩:=CO l (a+1) b hbz;have J4:(0:Int)<=(ii:Int)/\(ii:Int)<(b:Int):=by omega
     have It:=GP g2 ii (by omega);have hRl:=(Hx ii (by omega)).2.2.1;simp only[go_sem,d1,d2];refine Cq ((C4 l a b (by omega) (CD _ (by omega) (by omega)))) ?_;simp only[go_sem,C9,hii];refine Cq ((C4 l (a+1) b (by omega) (CD _ (by omega) (by omega)))) ?_;simp only[go_sem,C9,hjj];refine Cq ((C4 l (a+1+1) 3 (by omega) (CD _ (by omega) (by omega)))) ?_;simp only[go_sem,C9];have TO:(((ii:Int)+2)).tmod (b:Int)=(((ii+2) % b:Nat):Int):=by
       rw[show (ii:Int)+2=((ii+2:Nat):Int) by omega,Int.tmod_eq_emod_of_nonneg (by omega)];exact (Int.natCast_emod _ _).symm
     have V2:IntKind.i64.wrap ((ii:Int)+2)=(ii:Int)+2:=by rw[B3]<;>omega
     have Al3:¬(b:Int)=0:=by omega
     have Sl:(ii+2) % b<b:=Nat.mod_lt _ (by omega);cases d3:decide (0<Me l (a+1+1) 3)
     . skip
       have hJ0:(0:Int)<=((jj:Nat):Int)/\((jj:Nat):Int)<(b:Int):=by omega
       cases d4:decide ((ii:Int)=((jj:Nat):Int));rotate_left
       . simp only[go_sem,d3,H0,d4,H0];refine JP (k,a+1+1+1,g2) _ ⟨by simp only;omega,by simp only;omega,EU,Hx⟩ (by simp only;omega) ?_
         (refine Wk.forget ?_;simp[ZF];done)
       simp only[go_sem,d3,H0,d4,B8,EU,Ab,It,J4];refine Cq ((Mw (g2.getD ii []) ((jj:Nat):Int) (by omega))) ?_;cases d5:decide (((jj:Nat):Int)∈g2.getD ii []);rotate_left
       . simp only[go_sem,d5,H0];refine JP (k,a+1+1+1,g2) _ ⟨by simp only;omega,by simp only;omega,EU,Hx⟩ (by simp only;omega) ?_
         (refine Wk.forget ?_;simp[ZF];done)
       cases d6:decide (((g2.getD ii []).length:Int)<4)
       . simp only[go_sem,d5,B8,BW,EU,Ab,It,J4,d6,H0];refine JP (k,a+1+1+1,g2) _ ⟨by simp only;omega,by simp only;omega,EU,Hx⟩ (by simp only;omega) ?_
         (refine Wk.forget ?_;simp[ZF];done)
       simp only[go_sem,d5,B8,BW,EU,Ab,It,J4,d6];refine CH mixed (p:=[(0,0),(1,0),(2,0),(3,0),(4,0),(5,0),(6,0),(7,0),(8,0),(9,0),(10,0),(11,0),(12,0),(13,2),(14,0),(15,3)]) (by kernel_rfl) (by simp[C8,get]) ?_;simp only[go_sem,B8,BW,EU,Ab,It,J4];refine Gq ((Na (g2.getD ii []) ((jj:Nat):Int) (by omega))) ?_;simp only[go_sem,B8,EU,Ab,J4,H0];refine JP (k,a+1+1+1,g2.set ii (Kv (g2.getD ii []) ((jj:Nat):Int))) _ ⟨by simp only;omega,by simp only;omega,by simpa using EU,λ u hu=>?_⟩ (by simp only;omega) ?_
       . rw[D1];by_cases e:ii=u
         . subst e;rw[if_pos ⟨rfl,by omega⟩];exact (Hx ii hu).ins hJ0.1 hJ0.2 (λ h=>Ae d4 h.symm) (Ae d5) (by have:=Ad d6;omega)
         . rw[if_neg (λ h=>e h.1)];exact Hx u hu
       . (refine Wk.forget ?_;simp[ZF,MH,KJ];done)
     . generalize (ii+2) % b=J at TO Sl;have hJ0:(0:Int)<=((J:Nat):Int)/\((J:Nat):Int)<(b:Int):=by omega
       cases d4:decide ((ii:Int)=((J:Nat):Int));rotate_left
       . simp only[go_sem,d3,V2,TO,Al3,d4,H0];refine JP (k,a+1+1+1,g2) _ ⟨by simp only;omega,by simp only;omega,EU,Hx⟩ (by simp only;omega) ?_
         (refine Wk.forget ?_;simp[ZF];done)
       simp only[go_sem,d3,V2,TO,Al3,d4,B8,EU,Ab,It,J4];refine Cq ((Mw (g2.getD ii []) ((J:Nat):Int) (by omega))) ?_;cases d5:decide (((J:Nat):Int)∈g2.getD ii []);rotate_left
       . simp only[go_sem,d5,H0];refine JP (k,a+1+1+1,g2) _ ⟨by simp only;omega,by simp only;omega,EU,Hx⟩ (by simp only;omega) ?_
         (refine Wk.forget ?_;simp[ZF];done)
       cases d6:decide (((g2.getD ii []).length:Int)<4)
       . simp only[go_sem,d5,B8,BW,EU,Ab,It,J4,d6,H0];refine JP (k,a+1+1+1,g2) _ ⟨by simp only;omega,by simp only;omega,EU,Hx⟩ (by simp only;omega) ?_
         (refine Wk.forget ?_;simp[ZF];done)
       simp only[go_sem,d5,B8,BW,EU,Ab,It,J4,d6];refine CH mixed (p:=[(0,0),(1,0),(2,0),(3,0),(4,0),(5,0),(6,0),(7,0),(8,0),(9,0),(10,0),(11,0),(12,0),(13,2),(14,0),(15,3)]) (by kernel_rfl) (by simp[C8,get]) ?_;simp only[go_sem,B8,BW,EU,Ab,It,J4];refine Gq ((Na (g2.getD ii []) ((J:Nat):Int) (by omega))) ?_;simp only[go_sem,B8,EU,Ab,J4,H0];refine JP (k,a+1+1+1,g2.set ii (Kv (g2.getD ii []) ((J:Nat):Int))) _ ⟨by simp only;omega,by simp only;omega,by simpa using EU,λ u hu=>?_⟩ (by simp only;omega) ?_
       . rw[D1];by_cases e:ii=u
         . subst e;rw[if_pos ⟨rfl,by omega⟩];exact (Hx ii hu).ins hJ0.1 hJ0.2 (λ h=>Ae d4 h.symm) (Ae d5) (by have:=Ad d6;omega)
         . rw[if_neg (λ h=>e h.1)];exact Hx u hu
       . (refine Wk.forget ?_;simp[ZF,MH,KJ];done)
 . have hie:i=b:=by have:=Ae c1;omega
   have hRP:∀u,u<b->RP b u (g.getD u []):=λ u hu=>Al0 u (by omega);simp only[go_sem,c1,c1];refine Cq ((C4 l at_ 4 (by omega) (CD _ (by omega) (by omega)))) ?_;obtain ⟨k0,Hu,hk4⟩:=CO l at_ 4 (by omega);simp only[go_sem,C9,Hu];refine B5 (λ q:Nat×Nat×List (List Int)=>⟨[(0,.ptr 1000000 0),(1,.ptr 1000001 0),(4,.p (.int .i64 (b:Nat))),(6,.p (.int .i64 (q.1:Nat)))],
       [(1000000,.box [.p (.sl (BX l)),.p (.int .i64 (q.2.1:Nat))]),(1000001,.box [.ref 1000002 0 b b,.ref 1000003 0 b b,.cl [],.cl [],.p (.int .i64 0),.p (.int .i64 0),.p (.int .i64 0),.p (.int .i64 0)]),(1000002,.arr 76 3 (C2 bl)),(1000003,.arr 22 1 (Cr q.2.2))],98⟩)
     (λ q=>q.1<=3/\q.2.1<=at_+1+3*(3 - q.1)/\q.2.2.length=b/\∀i,i<b->RP b i (q.2.2.getD i [])) (λ q=>q.1) (k0,at_+1,g) ⟨by simp only;omega,by simp only;omega,hgl,hRP⟩ (Wk.forget (by simp[ZF,Cr])) ?_
   rintro ⟨k,a,g2⟩ m2 ⟨hk3,Ke,EU,Hx⟩ JP;simp only at hk3 Ke EU Hx;cases d1:decide (0<(k:Int))
   . simp only[go_sem,d1];refine C0 ?_;simp only[go_sem];refine ⟨a,g2,by omega,EU,Hx,?_⟩;first | exact ⟨rfl,rfl⟩ | rfl | simp
   cases d2:decide (2<(b:Int))
   . simp only[go_sem,d1,d2];refine C0 ?_;simp only[go_sem];refine ⟨a,g2,by omega,EU,Hx,?_⟩;first | exact ⟨rfl,rfl⟩ | rfl | simp
   have hkp:1<=k:=by have:=Ad d1;omega
   obtain ⟨k,rfl⟩:∃j,k=j+1:=⟨k - 1,by omega⟩;have H0:=HM k (by omega);have hb3:2<b:=by have:=Ad d2;omega
   have hbz:(0:Int)<(b:Int):=by omega
   obtain ⟨ii,hii,Bbv⟩:=CO l a b hbz;obtain ⟨jj,hjj,Bbu⟩:=CO l (a+1) b hbz;have J4:(0:Int)<=(ii:Int)/\(ii:Int)<(b:Int):=by omega
   have It:=GP g2 ii (by omega);have hRl:=(Hx ii (by omega)).2.2.1;simp only[go_sem,d1,d2];refine Cq ((C4 l a b (by omega) (CD _ (by omega) (by omega)))) ?_;simp only[go_sem,C9,hii];refine Cq ((C4 l (a+1) b (by omega) (CD _ (by omega) (by omega)))) ?_;simp only[go_sem,C9,hjj];refine Cq ((C4 l (a+1+1) 3 (by omega) (CD _ (by omega) (by omega)))) ?_;simp only[go_sem,C9];have TO:(((ii:Int)+2)).tmod (b:Int)=(((ii+2) % b:Nat):Int):=by
     rw[show (ii:Int)+2=((ii+2:Nat):Int) by omega,Int.tmod_eq_emod_of_nonneg (by omega)];exact (Int.natCast_emod _ _).symm
   have V2:IntKind.i64.wrap ((ii:Int)+2)=(ii:Int)+2:=by rw[B3]<;>omega
   have Al3:¬(b:Int)=0:=by omega
   have Sl:(ii+2) % b<b:=Nat.mod_lt _ (by omega);cases d3:decide (0<Me l (a+1+1) 3)
   . skip
     have hJ0:(0:Int)<=((jj:Nat):Int)/\((jj:Nat):Int)<(b:Int):=by omega
     cases d4:decide ((ii:Int)=((jj:Nat):Int));rotate_left
     . simp only[go_sem,d3,H0,d4,H0];refine JP (k,a+1+1+1,g2) _ ⟨by simp only;omega,by simp only;omega,EU,Hx⟩ (by simp only;omega) ?_
       (refine Wk.forget ?_;simp[ZF];done)
     simp only[go_sem,d3,H0,d4,B8,EU,Ab,It,J4];refine Cq ((Mw (g2.getD ii []) ((jj:Nat):Int) (by omega))) ?_;cases d5:decide (((jj:Nat):Int)∈g2.getD ii []);rotate_left
     . simp only[go_sem,d5,H0];refine JP (k,a+1+1+1,g2) _ ⟨by simp only;omega,by simp only;omega,EU,Hx⟩ (by simp only;omega) ?_
       (refine Wk.forget ?_;simp[ZF];done)
     cases d6:decide (((g2.getD ii []).length:Int)<4)
     . simp only[go_sem,d5,B8,BW,EU,Ab,It,J4,d6,H0];refine JP (k,a+1+1+1,g2) _ ⟨by simp only;omega,by simp only;omega,EU,Hx⟩ (by simp only;omega) ?_
       (refine Wk.forget ?_;simp[ZF];done)
     simp only[go_sem,d5,B8,BW,EU,Ab,It,J4,d6];refine CH mixed (p:=[(0,0),(1,0),(2,0),(3,0),(4,0),(5,0),(6,0),(7,0),(8,0),(9,0),(10,0),(11,0),(12,0),(13,2),(14,0),(15,3)]) (by kernel_rfl) (by simp[C8,get]) ?_;simp only[go_sem,B8,BW,EU,Ab,It,J4];refine Gq ((Na (g2.getD ii []) ((jj:Nat):Int) (by omega))) ?_;simp only[go_sem,B8,EU,Ab,J4,H0];refine JP (k,a+1+1+1,g2.set ii (Kv (g2.getD ii []) ((jj:Nat):Int))) _ ⟨by simp only;omega,by simp only;omega,by simpa using EU,λ u hu=>?_⟩ (by simp only;omega) ?_
     . rw[D1];by_cases e:ii=u
       . subst e;rw[if_pos ⟨rfl,by omega⟩];exact (Hx ii hu).ins hJ0.1 hJ0.2 (λ h=>Ae d4 h.symm) (Ae d5) (by have:=Ad d6;omega)
       . rw[if_neg (λ h=>e h.1)];exact Hx u hu
     . (refine Wk.forget ?_;simp[ZF,MH,KJ];done)
   . generalize (ii+2) % b=J at TO Sl;have hJ0:(0:Int)<=((J:Nat):Int)/\((J:Nat):Int)<(b:Int):=by omega
     cases d4:decide ((ii:Int)=((J:Nat):Int));rotate_left
     . simp only[go_sem,d3,V2,TO,Al3,d4,H0];refine JP (k,a+1+1+1,g2) _ ⟨by simp only;omega,by simp only;omega,EU,Hx⟩ (by simp only;omega) ?_
       (refine Wk.forget ?_;simp[ZF];done)
     simp only[go_sem,d3,V2,TO,Al3,d4,B8,EU,Ab,It,J4];refine Cq ((Mw (g2.getD ii []) ((J:Nat):Int) (by omega))) ?_;cases d5:decide (((J:Nat):Int)∈g2.getD ii []);rotate_left
     . simp only[go_sem,d5,H0];refine JP (k,a+1+1+1,g2) _ ⟨by simp only;omega,by simp only;omega,EU,Hx⟩ (by simp only;omega) ?_
       (refine Wk.forget ?_;simp[ZF];done)
     cases d6:decide (((g2.getD ii []).length:Int)<4)
     . simp only[go_sem,d5,B8,BW,EU,Ab,It,J4,d6,H0];refine JP (k,a+1+1+1,g2) _ ⟨by simp only;omega,by simp only;omega,EU,Hx⟩ (by simp only;omega) ?_
       (refine Wk.forget ?_;simp[ZF];done)
     simp only[go_sem,d5,B8,BW,EU,Ab,It,J4,d6];refine CH mixed (p:=[(0,0),(1,0),(2,0),(3,0),(4,0),(5,0),(6,0),(7,0),(8,0),(9,0),(10,0),(11,0),(12,0),(13,2),(14,0),(15,3)]) (by kernel_rfl) (by simp[C8,get]) ?_;simp only[go_sem,B8,BW,EU,Ab,It,J4];refine Gq ((Na (g2.getD ii []) ((J:Nat):Int) (by omega))) ?_;simp only[go_sem,B8,EU,Ab,J4,H0];refine JP (k,a+1+1+1,g2.set ii (Kv (g2.getD ii []) ((J:Nat):Int))) _ ⟨by simp only;omega,by simp only;omega,by simpa using EU,λ u hu=>?_⟩ (by simp only;omega) ?_
     . rw[D1];by_cases e:ii=u
       . subst e;rw[if_pos ⟨rfl,by omega⟩];exact (Hx ii hu).ins hJ0.1 hJ0.2 (λ h=>Ae d4 h.symm) (Ae d5) (by have:=Ad d6;omega)
       . rw[if_neg (λ h=>e h.1)];exact Hx u hu
     . (refine Wk.forget ?_;simp[ZF,MH,KJ];done)
def Ab7(i:Nat):List UInt8:=if i<10 then [UInt8.ofNat (48+i)] else [UInt8.ofNat (48+i / 10),UInt8.ofNat (48+i % 10)]
theorem Ank(i:Nat)(h:i<100):E1 i=Ab7 i:=by
 unfold Ab7;by_cases h1:i<10
 . rw[if_pos h1,Ex i h1]
 . rw[if_neg h1,Is i h1,Ex (i / 10) (by omega)];rfl
theorem Anj:∀i,i<24->∀j,j<24->Ab7 i=Ab7 j->i=j:=by decide
theorem Aq4:∀i,i<24->CL (98::Ab7 i)=true:=by decide
theorem Aq3:∀i,i<24->CL (115::Ab7 i)=true:=by decide
structure Aoj(n:Nt):Prop where
 nb:1<=n.blocks.length/\n.blocks.length<=10
 bl:∀i,i<n.blocks.length->(n.blocks.getD i DG).name=98::E1 i/\UN (n.blocks.getD i DG)
 nl:n.next.length=n.blocks.length
 nx:∀i,i<n.blocks.length->RP n.blocks.length i (n.next.getD i [])
 ns:3<=n.spurs.length/\n.spurs.length<=5
 sp:∀i,i<n.spurs.length->(n.spurs.getD i Cm).name=115::E1 i/\(i=0->(n.spurs.getD i Cm).CA=true)/\(i=1∨i=2->(n.spurs.getD i Cm).CA=false)
 ss:DV n.blocks.length n.spurs
 rl:n.B0.length<=3
 rb:Ee n.spurs n.B0
 cf:H4 n.cq n.ca n.cd n.cp
theorem Om{n:Nt}(i:Nat)(hi:i<(Dd n).length):(Dd n).getD i []=if i<n.blocks.length then (n.blocks.getD i DG).name else (n.spurs.getD (i - n.blocks.length) Cm).name:=by
 have hl:(Dd n).length=n.blocks.length+n.spurs.length:=by simp[Dd]
 have EP:i<n.blocks.length+n.spurs.length:=by omega
 rw[getD_eq hi];unfold Dd at hi ⊢;by_cases h:i<n.blocks.length
 . rw[if_pos h,List.getElem_append_left (by simpa using h),List.getElem_map,getD_eq h]
 . rw[if_neg h,List.getElem_append_right (by simpa using h),List.getElem_map,getD_eq (show i - n.blocks.length<n.spurs.length by omega)];simp
theorem Aoj.valid{n:Nt}(h:Aoj n):validN n:=by
 obtain ⟨nb,bl,nl,nx,ns,sp,ss,rl,rb,cf⟩:=h;refine ⟨⟨nb.1,by omega,nl,λ i hi=>⟨(bl i hi).2,(nx i hi).2.2.1,(nx i hi).row⟩⟩,by omega,λ i hi=>?_,by omega,cf,ss,rb,?_⟩
 . have hl:(Dd n).length=n.blocks.length+n.spurs.length:=by simp[Dd]
   have key:∀j,j<(Dd n).length->∃c d,(Dd n).getD j []=c::Ab7 d/\d<24/\((j<n.blocks.length/\c=98/\d=j)∨(n.blocks.length<=j/\c=115/\d=j - n.blocks.length)):=by
     intro j hj;rw[Om j hj];by_cases h1:j<n.blocks.length
     . rw[if_pos h1,(bl j h1).1,Ank j (by omega)];exact ⟨98,j,rfl,by omega,.inl ⟨h1,rfl,rfl⟩⟩
     . rw[if_neg h1,(sp (j - n.blocks.length) (by omega)).1,Ank _ (by omega)];exact ⟨115,j - n.blocks.length,rfl,by omega,.inr ⟨by omega,rfl,rfl⟩⟩
   obtain ⟨c,d,h1,h2,h3⟩:=key i hi;refine ⟨?_,λ k hk=>?_⟩
   . rw[h1];rcases h3 with ⟨_,rfl,_⟩ | ⟨_,rfl,_⟩
     . exact Aq4 d h2
     . exact Aq3 d h2
   . obtain ⟨c2,d2,h4,h5,h6⟩:=key k (by omega);rw[h1,h4];intro he;rw[List.cons.injEq] at he;have hd:=Anj d h2 d2 h5 he.2;rcases h3 with ⟨_,rfl,rfl⟩ | ⟨_,rfl,rfl⟩<;>rcases h6 with ⟨_,rfl,rfl⟩ | ⟨_,rfl,rfl⟩
     . omega
     . exact absurd he.1 (by decide)
     . exact absurd he.1 (by decide)
     . omega
 . have h0:=(sp 0 (by omega)).2.1 rfl;rw[List.length_filter_pos_iff];exact ⟨_,CK n.spurs 0 Cm (by omega),h0⟩
theorem H2{α:Type}(l:List α)(x y:α)(i:Nat):(l++[x]).getD i y=if i<l.length then l.getD i y else if i=l.length then x else y:=by
 simp only[List.getD];by_cases h:i<l.length
 . rw[if_pos h,AW h]
 . rw[if_neg h,Bg (by omega)];by_cases h2:i=l.length
   . rw[if_pos h2,h2];simp
   . rw[if_neg h2];have:1<=i - l.length:=by omega
     obtain ⟨m,hm⟩:∃m,i - l.length=m+1:=⟨i - l.length - 1,by omega⟩;rw[hm];simp
def Avj(bl:List ER):Prop:=∀i,i<bl.length->(bl.getD i DG).name=98::E1 i/\UN (bl.getD i DG)
theorem Ahu{bl:List ER}(h:Avj bl)(x y:Int)(hx:-4<=x/\x<=4)(hy:-4<=y/\y<=4):Avj (bl++[⟨98::E1 bl.length,x,y⟩]):=by
 intro i hi;rw[H2];by_cases h1:i<bl.length
 . rw[if_pos h1];exact h i h1
 . have h2:i=bl.length:=by simp at hi;omega
   rw[if_neg h1,if_pos h2,h2];exact ⟨rfl,by unfold UN;simp only;omega⟩
def YI(nb:Nat)(l:List C3):Prop:=∀i,i<l.length->(l.getD i Cm).name=115::E1 i/\(i=0->(l.getD i Cm).CA=true)/\(i=1∨i=2->(l.getD i Cm).CA=false)/\Lx nb (nb+Dk (l.take i)) (l.getD i Cm)
theorem IP{sp:List C3}{rb:List Int}{x:Int}(h:Ee sp rb)(h1:sp.any (NF x)=true)(h2:x∉rb):Ee sp (rb++[x]):=by
 intro i hi;rw[H2];by_cases h3:i<rb.length
 . rw[if_pos h3,List.take_append_of_le_length (by omega)];exact h i h3
 . have h4:i=rb.length:=by simp at hi;omega
   subst h4;rw[if_neg h3,if_pos rfl,List.take_left' rfl];exact ⟨h1,h2⟩
theorem YI.spurs{nb:Nat}{l:List C3}(h:YI nb l):DV nb l:=λ i hi=>(h i hi).2.2.2
theorem YI.rng{nb:Nat}{l:List C3}(h:YI nb l):0<=Dk l/\Dk l<=4*l.length:=SS h.spurs
theorem YI.snoc{nb:Nat}{l:List C3}(h:YI nb l)(dp:Bool)(x y z:Int)(hx:0<=x/\x<(nb:Int))(hy:0<=y/\y<(nb:Int))(hz:1<=z/\z<=4)(h0:l.length=0->dp=true)(h1:l.length=1∨l.length=2->dp=false):
   YI nb (l++[⟨115::E1 l.length,dp,x,y,z,(nb:Int)+Dk l⟩]):=by
 intro i hi;rw[H2];by_cases h2:i<l.length
 . rw[if_pos h2,List.take_append_of_le_length (by omega)];exact h i h2
 . have h3:i=l.length:=by simp at hi;omega
   subst h3;rw[if_neg h2,if_pos rfl,List.take_left' rfl];exact ⟨rfl,h0,h1,hx.1,hx.2,hy.1,hy.2,hz.1,hz.2,rfl⟩
def Nt.os(n:Nt):List D:=[.ref 0 0 n.blocks.length n.blocks.length,.ref 1 0 n.next.length n.next.length,.ref 2 0 n.spurs.length n.spurs.length,.ref 3 0 n.B0.length n.B0.length,.p (.int .i64 n.cq),.p (.int .i64 n.ca),.p (.int .i64 n.cd),.p (.int .i64 n.cp)]
theorem Ajt(R:Nt->Int->Prop)(hR:∀n:Nt,validN n->BZ prog 21 [.agg n.cs] [] λ h r=>h=[]/\∃(o:List Int) (sl cap:Int),r= .Dg [.agg [.p (.int .i64 (o.length:Nat)),.p (.sl (BX o)),.p (.int .i64 sl),.p (.int .i64 cap)],.p (.int .i64 0)]/\cap<=sl/\sl=slotsV (List.replicate (cellsV n).toNat false) n.spurs/\R n cap)
   (l:List Int) (at_ On:Nat) (II:at_<100000) (SC:1<=On) (Sl:On<=10):
   BZ prog 24 [.ptr 1000000 0,.p (.int .i64 (On:Nat))] [(1000000,.box (C9 l at_))]
     λ h r=>∃at2 n,at2<=at_+200/\(Aoj n/\∃cap,R {n with B0:=[]} cap/\(n.B0.length=0∨(n.B0.length:Int)<=cap))/\h=[(1000000,.box (C9 l at2)),(0,.arr 76 3 (C2 n.blocks)),(1,.arr 22 1 (Cr n.next)),(2,.arr 68 6 (C1 n.spurs)),(3,.arr 3 1 (BX n.B0))]/\r= .agg n.os:=by
 refine B1 func24 rfl Amz (by simp[Tryz.f24]) ?_;simp only[go_sem,C9];refine Cq ((C4 l at_ On (by omega) (CD _ (by omega) (by omega)))) ?_;obtain ⟨k0,Hu,Q5⟩:=CO l at_ On (by omega);have Axa:IntKind.i64.wrap (1+(k0:Int))=((k0+1:Nat):Int):=by rw[B3]<;>omega
 simp only[go_sem,C9,Hu,Axa];refine B5 (λ q:Nat×Nat×List ER=>⟨[(0,.ptr 1000000 0),(4,.ptr 4 0),(5,.ptr 5 0),(6,.p (.int .i64 (q.1:Nat)))],
     [(1000000,.box [.p (.sl (BX l)),.p (.int .i64 (q.2.1:Nat))]),(4,.box [.cl [],.cl [],.cl [],.cl [],.p (.int .i64 0),.p (.int .i64 0),.p (.int .i64 0),.p (.int .i64 0)]),
      (5,.box [.ref 43 0 q.2.2.length q.2.2.length,.ref 48 0 q.2.2.length q.2.2.length,.cl [],.cl [],.p (.int .i64 0),.p (.int .i64 0),.p (.int .i64 0),.p (.int .i64 0)]),(43,.arr 76 3 (C2 q.2.2)),(48,.arr 22 1 (Cr (List.replicate q.2.2.length [])))],191⟩)
   (λ q=>q.1+q.2.2.length=k0+1/\q.2.1=at_+1+2*q.2.2.length/\Avj q.2.2) (λ q=>q.1) (k0+1,at_+1,[]) ⟨by simp,by simp,λ i hi=>by simp at hi⟩
   ((Wk.Hl (id:=5) (j:=0) (q:=43) (sz:=3) 76 rfl rfl rfl (by decide)).trans ((Wk.Hl (id:=5) (j:=1) (q:=48) (sz:=1) 22 rfl rfl rfl (by decide)).trans (Wk.forget (by simp[ZF,C2,Cr])))) ?_
 rintro ⟨k,a,bl⟩ m ⟨hk,ha,TV⟩ ih;simp only at hk ha TV;cases c1:decide (0<(k:Int));rotate_left
 . obtain ⟨k,rfl⟩:∃j,k=j+1:=⟨k - 1,by have:=Ad c1;omega⟩;have H0:=HM k (by omega);obtain ⟨x,hx,hx9⟩:=CO l a 9 (by omega);obtain ⟨y,hy,hy9⟩:=CO l (a+1) 9 (by omega);have hwx:IntKind.i64.wrap ((x:Int) - 4)=(x:Int) - 4:=by rw[B3]<;>omega
   have hwy:IntKind.i64.wrap ((y:Int) - 4)=(y:Int) - 4:=by rw[B3]<;>omega
   have Yj:=Jz 15 bl.length (by omega);simp only[go_sem,c1,Cf];refine Dm [(5,.box [.ref 43 0 bl.length bl.length,.ref 48 0 bl.length bl.length,.cl [],.cl [],.p (.int .i64 0),.p (.int .i64 0),.p (.int .i64 0),.p (.int .i64 0)])] mixed (p:=[(0,0),(1,0),(2,0),(5,0),(8,0),(3,2),(4,0),(6,2),(7,0),(9,2),(10,0),(11,0),(12,1),(13,2),(14,0),(15,3)]) (by kernel_rfl) (by simp[C8,get]) ?_;simp only[go_sem];refine Gq ((Nq bl.length (by omega))) ?_;simp only[go_sem];refine ⟨by unfold maxLen;omega,?_⟩;refine Gq ((C4 l a 9 (by omega) (CD _ (by omega) (by omega)))) ?_;simp only[go_sem,C9,hx,hwx];refine Gq ((C4 l (a+1) 9 (by omega) (CD _ (by omega) (by omega)))) ?_;simp only[go_sem,C9,hy,hwy,Cf];refine ⟨⟨EB _ _ rfl,by omega⟩,?_⟩;(try simp only[go_sem]);refine Ap0 rfl Adi Ain rfl rfl ?_;simp only[go_sem,B8,BH];refine ⟨⟨EB _ _ rfl,by omega⟩,?_⟩;simp only[go_sem,H0];refine ih (k,a+1+1,bl++[⟨98::E1 bl.length,(x:Int) - 4,(y:Int) - 4⟩]) _ ⟨by simp;omega,by simp;omega,Ahu TV _ _ (by omega) (by omega)⟩ (by simp only;omega) ?_
   (refine Wk.forget ?_;simp[ZF,Ws,Cf,Cr,BX,List.replicate_succ'];done)
 have hkz:k=0:=by have:=Ae c1;omega
 subst hkz;have hnb:bl.length=k0+1:=by omega
 clear ih Axa;simp only[go_sem,c1,Cf];refine DF (Apk l a bl.length bl (List.replicate bl.length []) (by omega) (by omega) (by omega) rfl (by simp) (λ i hi=>by simp[List.getD,hi])) ?_;rintro h' r ⟨a2,nx,ha2,Lb,V4,rfl,rfl⟩;have Bbo:1<=bl.length/\bl.length<=10:=by omega
 have ha3:a2<=at_+100:=by omega
 clear hk ha hnb Hu Q5 ha2;simp only[go_sem,C9,Cf];refine Cq ((C4 l a2 3 (by omega) (CD _ (by omega) (by omega)))) ?_;obtain ⟨k3,hk3,hk4⟩:=CO l a2 3 (by omega);have Ax9:IntKind.i64.wrap (3+(k3:Int))=((k3+3:Nat):Int):=by rw[B3]<;>omega
 simp only[go_sem,C9,hk3,Ax9];refine B5 (λ q:Nat×Nat×List C3=>⟨[(0,.ptr 1000000 0),(4,.ptr 4 0),(5,.ptr 5 0),(8,.p (.int .i64 ((bl.length:Int)+Dk q.2.2))),(9,.p (.int .i64 (q.1:Nat)))],
     [(1000000,.box [.p (.sl (BX l)),.p (.int .i64 (q.2.1:Nat))]),(4,.box [.cl [],.cl [],.cl [],.cl [],.p (.int .i64 0),.p (.int .i64 0),.p (.int .i64 0),.p (.int .i64 0)]),
      (5,.box [.ref 43 0 bl.length bl.length,.ref 48 0 bl.length bl.length,.ref 102 0 q.2.2.length q.2.2.length,.cl [],.p (.int .i64 0),.p (.int .i64 0),.p (.int .i64 0),.p (.int .i64 0)]),(43,.arr 76 3 (C2 bl)),(48,.arr 22 1 (Cr nx)),(102,.arr 68 6 (C1 q.2.2))],191⟩)
   (λ q=>q.1+q.2.2.length=k3+3/\q.2.1<=a2+1+4*q.2.2.length/\YI bl.length q.2.2) (λ q=>q.1) (k3+3,a2+1,[]) ⟨by simp,by simp,λ i hi=>by simp at hi⟩
   ((Wk.Hl (id:=5) (j:=2) (q:=102) (sz:=6) 68 rfl rfl rfl (by decide)).trans (Wk.forget (by simp[ZF,C1,Dk]))) ?_
 rintro ⟨k,a,sp⟩ m2 ⟨hk,ha,FT⟩ ih;simp only at hk ha FT;have hsr:=FT.rng;cases c2:decide (0<(k:Int));rotate_left
 . obtain ⟨k,rfl⟩:∃j,k=j+1:=⟨k - 1,by have:=Ad c2;omega⟩;have H0:=HM k (by omega);have Yj:=Jz 15 sp.length (by omega);have hbz:(0:Int)<(bl.length:Int):=by omega
   by_cases Dx:sp.length=0
   . have NJ:((sp.length:Nat):Int)=0:=by omega
     have hd:decide (((sp.length:Nat):Int)=0)=true:=Ag NJ;simp only[go_sem,c2,Cb];refine Dm [(5,.box [.ref 43 0 bl.length bl.length,.ref 48 0 bl.length bl.length,.ref 102 0 sp.length sp.length,.cl [],.p (.int .i64 0),.p (.int .i64 0),.p (.int .i64 0),.p (.int .i64 0)]),(43,.arr 76 3 (C2 bl))] mixed (p:=[(0,0),(3,0),(4,0),(14,0),(15,0),(16,0),(17,0),(19,0),(20,0),(21,0),(22,0),(24,0),(27,0),(29,1),(1,2),(2,0),(5,0),(6,0),(7,0),(8,0),(9,0),(10,2),(11,0),(12,0),(13,0),(18,2),(23,2),(25,2),(26,0),(28,0),(30,3)]) (by kernel_rfl) (by simp[C8,get]) ?_;simp only[go_sem,hd,Cf];refine Gq ((Nq sp.length (by omega))) ?_;simp only[go_sem,hd,Cf];refine ⟨by unfold maxLen;omega,?_⟩;obtain ⟨x,hx,hxb⟩:=CO l a bl.length hbz;obtain ⟨y,hy,hyb⟩:=CO l (a+1) bl.length hbz;obtain ⟨z,hz,hzb⟩:=CO l (a+1+1) 3 (by omega);have hwz:IntKind.i64.wrap (1+(z:Int))=1+(z:Int):=by rw[B3]<;>omega
     have hwb:IntKind.i64.wrap ((bl.length:Int)+Dk sp+(1+(z:Int)))=(bl.length:Int)+Dk sp+(1+(z:Int)):=by rw[B3]<;>omega
     refine Gq ((C4 l a bl.length (by omega) (CD _ (by omega) (by omega)))) ?_;simp only[go_sem,C9,hx];refine Gq ((C4 l (a+1) bl.length (by omega) (CD _ (by omega) (by omega)))) ?_;simp only[go_sem,C9,hy];refine Gq ((C4 l (a+1+1) 3 (by omega) (CD _ (by omega) (by omega)))) ?_;simp only[go_sem,C9,hz,hwz,hwb,Cb];refine ⟨⟨EB _ _ rfl,by omega⟩,?_⟩;simp only[go_sem,H0];refine ih (k,a+1+1+1,sp++[⟨115::E1 sp.length,true,(x:Int),(y:Int),1+(z:Int),(bl.length:Int)+Dk sp⟩]) _ ⟨by simp;omega,by simp;omega,FT.snoc _ _ _ _ (by omega) (by omega) (by omega) (λ _=>rfl) (λ h=>by omega)⟩ (by simp only;omega) ?_
     (refine Wk.forget ?_;simp[ZF,Nk,Cb,D4,Int.add_assoc];done)
   by_cases EP:sp.length<=2
   . have hd:decide (((sp.length:Nat):Int)=0)=false:=Ah (by omega);have Jt:decide (2<((sp.length:Nat):Int))=false:=Ah (by omega);simp only[go_sem,c2,Cb];refine Dm [(5,.box [.ref 43 0 bl.length bl.length,.ref 48 0 bl.length bl.length,.ref 102 0 sp.length sp.length,.cl [],.p (.int .i64 0),.p (.int .i64 0),.p (.int .i64 0),.p (.int .i64 0)]),(43,.arr 76 3 (C2 bl))] mixed (p:=[(0,0),(3,0),(4,0),(14,0),(15,0),(16,0),(17,0),(19,0),(20,0),(21,0),(22,0),(24,0),(27,0),(29,1),(1,2),(2,0),(5,0),(6,0),(7,0),(8,0),(9,0),(10,2),(11,0),(12,0),(13,0),(18,2),(23,2),(25,2),(26,0),(28,0),(30,3)]) (by kernel_rfl) (by simp[C8,get]) ?_;simp only[go_sem,hd,Jt,Cf];refine Gq ((Nq sp.length (by omega))) ?_;simp only[go_sem,hd,Jt,Cf];refine ⟨by unfold maxLen;omega,?_⟩;obtain ⟨x,hx,hxb⟩:=CO l a bl.length hbz;obtain ⟨y,hy,hyb⟩:=CO l (a+1) bl.length hbz;obtain ⟨z,hz,hzb⟩:=CO l (a+1+1) 3 (by omega);have hwz:IntKind.i64.wrap (1+(z:Int))=1+(z:Int):=by rw[B3]<;>omega
     have hwb:IntKind.i64.wrap ((bl.length:Int)+Dk sp+(1+(z:Int)))=(bl.length:Int)+Dk sp+(1+(z:Int)):=by rw[B3]<;>omega
     refine Gq ((C4 l a bl.length (by omega) (CD _ (by omega) (by omega)))) ?_;simp only[go_sem,C9,hx];refine Gq ((C4 l (a+1) bl.length (by omega) (CD _ (by omega) (by omega)))) ?_;simp only[go_sem,C9,hy];refine Gq ((C4 l (a+1+1) 3 (by omega) (CD _ (by omega) (by omega)))) ?_;simp only[go_sem,C9,hz,hwz,hwb,Cb];refine ⟨⟨EB _ _ rfl,by omega⟩,?_⟩;simp only[go_sem,H0];refine ih (k,a+1+1+1,sp++[⟨115::E1 sp.length,false,(x:Int),(y:Int),1+(z:Int),(bl.length:Int)+Dk sp⟩]) _ ⟨by simp;omega,by simp;omega,FT.snoc _ _ _ _ (by omega) (by omega) (by omega) (λ h=>by omega) (λ _=>rfl)⟩ (by simp only;omega) ?_
     (refine Wk.forget ?_;simp[ZF,Nk,Cb,D4,Int.add_assoc];done)
   . have hd:decide (((sp.length:Nat):Int)=0)=false:=Ah (by omega);have Jt:decide (2<((sp.length:Nat):Int))=true:=Ag (by omega);simp only[go_sem,c2,Cb];refine Dm [(5,.box [.ref 43 0 bl.length bl.length,.ref 48 0 bl.length bl.length,.ref 102 0 sp.length sp.length,.cl [],.p (.int .i64 0),.p (.int .i64 0),.p (.int .i64 0),.p (.int .i64 0)]),(43,.arr 76 3 (C2 bl))] mixed (p:=[(0,0),(3,0),(4,0),(14,0),(15,0),(16,0),(17,0),(19,0),(20,0),(21,0),(22,0),(24,0),(27,0),(29,1),(1,2),(2,0),(5,0),(6,0),(7,0),(8,0),(9,0),(10,2),(11,0),(12,0),(13,0),(18,2),(23,2),(25,2),(26,0),(28,0),(30,3)]) (by kernel_rfl) (by simp[C8,get]) ?_;simp only[go_sem,hd,Jt,Cf];refine Gq ((Nq sp.length (by omega))) ?_;simp only[go_sem,hd,Jt,Cf];refine ⟨by unfold maxLen;omega,?_⟩;refine Gq ((C4 l a 2 (by omega) (CD _ (by omega) (by omega)))) ?_;simp only[go_sem,C9,hd,Jt];obtain ⟨x,hx,hxb⟩:=CO l (a+1) bl.length hbz;obtain ⟨y,hy,hyb⟩:=CO l ((a+1)+1) bl.length hbz;obtain ⟨z,hz,hzb⟩:=CO l ((a+1)+1+1) 3 (by omega);have hwz:IntKind.i64.wrap (1+(z:Int))=1+(z:Int):=by rw[B3]<;>omega
     have hwb:IntKind.i64.wrap ((bl.length:Int)+Dk sp+(1+(z:Int)))=(bl.length:Int)+Dk sp+(1+(z:Int)):=by rw[B3]<;>omega
     refine Gq ((C4 l (a+1) bl.length (by omega) (CD _ (by omega) (by omega)))) ?_;simp only[go_sem,C9,hx];refine Gq ((C4 l ((a+1)+1) bl.length (by omega) (CD _ (by omega) (by omega)))) ?_;simp only[go_sem,C9,hy];refine Gq ((C4 l ((a+1)+1+1) 3 (by omega) (CD _ (by omega) (by omega)))) ?_;simp only[go_sem,C9,hz,hwz,hwb,Cb];refine ⟨⟨EB _ _ rfl,by omega⟩,?_⟩;simp only[go_sem,H0];refine ih (k,(a+1)+1+1+1,sp++[⟨115::E1 sp.length,(decide (Me l a 2=0)),(x:Int),(y:Int),1+(z:Int),(bl.length:Int)+Dk sp⟩]) _ ⟨by simp;omega,by simp;omega,FT.snoc _ _ _ _ (by omega) (by omega) (by omega) (λ h=>by omega) (λ h=>by omega)⟩ (by simp only;omega) ?_
     (refine Wk.forget ?_;simp[ZF,Nk,Cb,D4,Int.add_assoc];done)
 have Bbr:k=0:=by have:=Ae c2;omega
 subst Bbr;have hns:3<=sp.length/\sp.length<=5:=by omega
 have ha4:a<=at_+130:=by omega
 clear ih hk ha Ax9 hk3;obtain ⟨q1,UI,Bbg⟩:=CO l a 4 (by omega);obtain ⟨q2,V3,Auo⟩:=CO l (a+1) 3 (by omega);obtain ⟨q3,hq3,hq3b⟩:=CO l (a+1+1) 3 (by omega);obtain ⟨q4,hq4,hq4b⟩:=CO l (a+1+1+1) 8 (by omega);obtain ⟨q5,hq5,hq5b⟩:=CO l (a+1+1+1+1) 3 (by omega);have RW:IntKind.i64.wrap (1+(q1:Int))=1+(q1:Int):=by rw[B3]<;>omega
 have hw4:IntKind.i64.wrap (1+(q4:Int))=1+(q4:Int):=by rw[B3]<;>omega
 have hw5:IntKind.i64.wrap (1+(q5:Int))=((q5+1:Nat):Int):=by rw[B3]<;>omega
 have hP:∀rb:List Int,rb.length<=3->Ee sp rb->Aoj ⟨bl,nx,sp,rb,1+q1,q2,q3,1+q4⟩:=λ rb GG Ht=>
   ⟨Bbo,TV,Lb,V4,hns,λ i hi=>⟨(FT i hi).1,(FT i hi).2.1,(FT i hi).2.2.1⟩,FT.spurs,GG,Ht,by unfold H4;simp only;omega⟩
 have hF:BZ prog 21 [.agg [.p (.sl (C2 bl)),.p (.sl (Cr nx)),.p (.sl (C1 sp)),.p (.sl []),.p (.int .i64 (1+q1)),.p (.int .i64 q2),.p (.int .i64 q3),.p (.int .i64 (1+q4))]] [] _:=
   hR ⟨bl,nx,sp,[],1+q1,q2,q3,1+q4⟩ (hP [] (by simp) (λ i hi=>by simp at hi)).valid
 have e1:=Wr bl bl.length (Ai _);have e2:=Ah7 nx bl.length (by omega);have e3:=Wp sp sp.length (Ai _);simp only[go_sem,c2];refine Cq ((C4 l a 4 (by omega) (CD _ (by omega) (by omega)))) ?_;simp only[go_sem,C9,UI,RW];refine Cq ((C4 l (a+1) 3 (by omega) (CD _ (by omega) (by omega)))) ?_;simp only[go_sem,C9,V3];refine Cq ((C4 l (a+1+1) 3 (by omega) (CD _ (by omega) (by omega)))) ?_;simp only[go_sem,C9,hq3];refine Cq ((C4 l (a+1+1+1) 8 (by omega) (CD _ (by omega) (by omega)))) ?_;simp only[go_sem,C9,hq4,hw4,Cf,B8,Lb,Cb,e1,e2,e3];refine As7 rfl rfl hF (by simp[KR,Sy,ev,get,Cf,B8,Lb,Cb,e1,e2,e3]) ?_;rintro h' r ⟨rfl,o,slv,cap,rfl,Ju,Bbe,hRc⟩;refine ⟨rfl,?_⟩;simp only[go_sem];refine Cq ((C4 l (a+1+1+1+1) 3 (by omega) (CD _ (by omega) (by omega)))) ?_;simp only[go_sem,C9,hq5,hw5];refine B5 (λ q:Nat×Nat×List Int=>⟨[(0,.ptr 1000000 0),(4,.ptr 4 0),(5,.ptr 5 0),(12,.ptr 12 0),(14,.p (.int .i64 (q.1:Nat)))],
     [(1000000,.box [.p (.sl (BX l)),.p (.int .i64 (q.2.1:Nat))]),(4,.box [.cl [],.cl [],.cl [],.cl [],.p (.int .i64 0),.p (.int .i64 0),.p (.int .i64 0),.p (.int .i64 0)]),
      (5,.box [.ref 43 0 bl.length bl.length,.ref 48 0 bl.length bl.length,.ref 102 0 sp.length sp.length,.ref 188 0 q.2.2.length q.2.2.length,.p (.int .i64 (1+q1)),.p (.int .i64 q2),.p (.int .i64 q3),.p (.int .i64 (1+q4))]),
      (12,.box [.p (.int .i64 (o.length:Nat)),.Qs,.p (.int .i64 slv),.p (.int .i64 cap)]),(43,.arr 76 3 (C2 bl)),(48,.arr 22 1 (Cr nx)),(102,.arr 68 6 (C1 sp)),(188,.arr 3 1 (BX q.2.2))],191⟩)
   (λ q=>q.1+q.2.2.length<=q5+1/\q.2.1+q.1<=a+10/\Ee sp q.2.2/\(q.2.2.length=0∨(q.2.2.length:Int)<=cap)) (λ q=>q.1) (q5+1,a+1+1+1+1+1,[]) ⟨by simp,by simp only;omega,λ i hi=>by simp at hi,.inl rfl⟩
   ((Wk.Hl (id:=5) (j:=3) (q:=188) (sz:=1) 3 rfl rfl rfl (by decide)).trans (Wk.forget (by simp[ZF,BX]))) ?_
 rintro ⟨k,b,rb⟩ m3 ⟨hk,hb,Qi,hrc⟩ ih;simp only at hk hb Qi hrc;have e4:=G8 rb rb.length (Ai _);cases c3:decide (0<(k:Int))
 . simp only[go_sem,c3];refine C0 ?_;simp only[go_sem,Cf,B8,Lb,Cb,BW];refine ⟨b,⟨bl,nx,sp,rb,1+q1,q2,q3,1+q4⟩,by omega,⟨hP rb (by omega) Qi,cap,hRc,hrc⟩,?_⟩;simp[Nt.os,C9,Lb]
 cases c4:decide ((rb.length:Int)<cap)
 . simp only[go_sem,c3,c4,BW];refine C0 ?_;simp only[go_sem,Cf,B8,Lb,Cb,BW];refine ⟨b,⟨bl,nx,sp,rb,1+q1,q2,q3,1+q4⟩,by omega,⟨hP rb (by omega) Qi,cap,hRc,hrc⟩,?_⟩;simp[Nt.os,C9,Lb]
 simp only[go_sem,c3,c4,BW];have Xx:rb.length<=3:=by omega
 have hss:=FT.spurs;refine B5 (λ q:Nat×List Int=>⟨[(0,.ptr 1000000 0),(4,.ptr 4 0),(5,.ptr 5 0),(12,.ptr 12 0),(14,.p (.int .i64 (k:Nat))),(15,.ref 177 0 q.2.length q.2.length),(16,.p (.int .i64 (q.1:Nat)))],
     [(1000000,.box [.p (.sl (BX l)),.p (.int .i64 (b:Nat))]),(4,.box [.cl [],.cl [],.cl [],.cl [],.p (.int .i64 0),.p (.int .i64 0),.p (.int .i64 0),.p (.int .i64 0)]),
      (5,.box [.ref 43 0 bl.length bl.length,.ref 48 0 bl.length bl.length,.ref 102 0 sp.length sp.length,.ref 188 0 rb.length rb.length,.p (.int .i64 (1+q1)),.p (.int .i64 q2),.p (.int .i64 q3),.p (.int .i64 (1+q4))]),
      (12,.box [.p (.int .i64 (o.length:Nat)),.Qs,.p (.int .i64 slv),.p (.int .i64 cap)]),(43,.arr 76 3 (C2 bl)),(48,.arr 22 1 (Cr nx)),(102,.arr 68 6 (C1 sp)),(188,.arr 3 1 (BX rb)),(177,.arr 3 1 (BX q.2))],191⟩)
   (λ q=>q.1<=sp.length/\q.2.length<=4*q.1/\(∀x∈q.2,sp.any (NF x)=true/\x∉rb)/\∀u,u<q.1->∀j:Nat,(sp.getD u Cm).CA=true->(j:Int)<(sp.getD u Cm).Co->(sp.getD u Cm).base+(j:Int)∈rb∨(sp.getD u Cm).base+(j:Int)∈q.2)
   (λ q=>sp.length - q.1) (0,[]) ⟨AE _,by simp,λ x hx=>by simp at hx,λ u hu=>absurd hu (AZ _)⟩
   ((Wk.nil (t:=15) (q:=177) (sz:=1) 3 rfl rfl (by decide)).trans (Wk.forget (by simp[ZF,BX]))) ?_
 rintro ⟨i,fr⟩ m4 ⟨hi,OW,hfr,Auz⟩ VZ;simp only at hi OW hfr Auz;cases c5:decide ((i:Int)<(sp.length:Int));rotate_left
 . have hit:i<sp.length:=by have:=Ad c5;omega
   have V2:=Cg i (by omega);have Qj:=Fa sp i hit;have Dx:(0:Int)<=(i:Int)/\(i:Int)<(sp.length:Int):=by omega
   have ET:=CK sp i Cm hit;obtain ⟨_,_,_,_,g5,g6,g7⟩:=hss i hit;obtain ⟨g8,g9,_⟩:=L0 hss hit;generalize p7:sp.getD i Cm=s at*;simp only[go_sem,c5,Cb];refine B5 (λ q:Nat×List Int=>⟨[(0,.ptr 1000000 0),(4,.ptr 4 0),(5,.ptr 5 0),(12,.ptr 12 0),(14,.p (.int .i64 (k:Nat))),(15,.ref 177 0 q.2.length q.2.length),(16,.p (.int .i64 (i:Nat))),(17,.p (.int .i64 (q.1:Nat)))],
       [(1000000,.box [.p (.sl (BX l)),.p (.int .i64 (b:Nat))]),(4,.box [.cl [],.cl [],.cl [],.cl [],.p (.int .i64 0),.p (.int .i64 0),.p (.int .i64 0),.p (.int .i64 0)]),
      (5,.box [.ref 43 0 bl.length bl.length,.ref 48 0 bl.length bl.length,.ref 102 0 sp.length sp.length,.ref 188 0 rb.length rb.length,.p (.int .i64 (1+q1)),.p (.int .i64 q2),.p (.int .i64 q3),.p (.int .i64 (1+q4))]),
      (12,.box [.p (.int .i64 (o.length:Nat)),.Qs,.p (.int .i64 slv),.p (.int .i64 cap)]),(43,.arr 76 3 (C2 bl)),(48,.arr 22 1 (Cr nx)),(102,.arr 68 6 (C1 sp)),(188,.arr 3 1 (BX rb)),(177,.arr 3 1 (BX q.2))],191⟩)
     (λ q=>q.1<=4/\(q.1:Int)<=s.Co/\q.2.length<=4*i+q.1/\(∀x∈q.2,sp.any (NF x)=true/\x∉rb)/\(∀u,u<i->∀j:Nat,(sp.getD u Cm).CA=true->(j:Int)<(sp.getD u Cm).Co->(sp.getD u Cm).base+(j:Int)∈rb∨(sp.getD u Cm).base+(j:Int)∈q.2)/\∀j:Nat,j<q.1->s.base+(j:Int)∈rb∨s.base+(j:Int)∈q.2)
     (λ q=>4 - q.1) (0,fr) ⟨by simp,by simp only;omega,by simp only;omega,hfr,Auz,λ j hj=>absurd hj (AZ _)⟩ (Wk.forget (by simp[ZF,BX])) ?_
   rintro ⟨j,f2⟩ m5 ⟨hj4,hjs,Bc2,hf2,Acm,hcj⟩ U6;simp only at hj4 hjs Bc2 hf2 Acm hcj;have Zn:(¬((j:Int)<s.Co)∨s.CA=false)->∀u,u<i+1->∀j:Nat,(sp.getD u Cm).CA=true->(j:Int)<(sp.getD u Cm).Co->(sp.getD u Cm).base+(j:Int)∈rb∨(sp.getD u Cm).base+(j:Int)∈f2:=by
     intro hx u hu v hd hv;rcases AG.1 hu with h5 | rfl
     . exact Acm u h5 v hd hv
     . rw[p7] at hd hv ⊢;rcases hx with hx | hx
       . exact hcj v (by omega)
       . rw[hx] at hd;cases hd
   cases c6:decide ((j:Int)<s.Co)
   . simp only[go_sem,Cb,Ab,Qj,Dx,c6,V2];refine VZ (i+1,f2) _ ⟨hit,by simp only;omega,hf2,Zn (.inl (Ae c6))⟩ (by simp only;omega) ?_
     (refine Wk.forget ?_;simp[ZF];done)
   cases c7:s.CA
   . simp only[go_sem,Cb,Ab,Qj,Dx,c6,c7,V2];refine VZ (i+1,f2) _ ⟨hit,by simp only;omega,hf2,Zn (.inr c7)⟩ (by simp only;omega) ?_
     (refine Wk.forget ?_;simp[ZF];done)
   have Yi:=Ad c6;have p5:=Cg j (by omega);have hwx:IntKind.i64.wrap (s.base+(j:Int))=s.base+(j:Int):=by rw[B3]<;>omega
   have LW:sp.any (NF (s.base+(j:Int)))=true:=by
     rw[A4];exact ⟨s,ET,by unfold NF;rw[c7];simp;omega⟩
   simp only[go_sem,Cb,Ab,Qj,Dx,c6,c7,hwx,BW,e4];refine OQ rfl rfl ?_;simp only[go_sem,JB];refine Ux (Aqv rb (s.base+(j:Int)) (by omega)) ?_;rintro h' r ⟨rfl,rfl⟩;simp only[go_sem];cases c8:decide (s.base+(j:Int)∈rb);rotate_left
   . simp only[go_sem,c8,p5];refine U6 (j+1,f2) _ ⟨by simp only;omega,by simp only;omega,by simp only;omega,hf2,Acm,λ v hv=>?_⟩ (by simp only;omega) ?_
     . rcases AG.1 hv with h5 | rfl
       . exact hcj v h5
       . exact .inl (Ad c8)
     . (refine Wk.forget ?_;simp[ZF];done)
   . simp only[go_sem,c8,BW];refine ⟨⟨EB _ _ rfl,by omega⟩,?_⟩;simp only[go_sem,p5];refine U6 (j+1,f2++[s.base+(j:Int)]) _ ⟨by simp only;omega,by simp only;omega,by simp;omega,λ x hx=>?_,λ u hu v hd hv=>?_,λ v hv=>?_⟩ (by simp only;omega) ?_
     . rcases Av.1 hx with hx | hx
       . exact hf2 x hx
       . rw[Aw] at hx;subst hx;exact ⟨LW,Ae c8⟩
     . rcases Acm u hu v hd hv with h5 | h5
       . exact .inl h5
       . exact .inr (BO _ h5)
     . rcases AG.1 hv with h5 | rfl
       . rcases hcj v h5 with h6 | h6
         . exact .inl h6
         . exact .inr (BO _ h6)
       . exact .inr (by simp)
     . (refine Wk.forget ?_;simp[ZF,D5,BW];done)
 have hie:i=sp.length:=by have:=Ae c5;omega
 subst hie;obtain ⟨s,hs,j,hd,hj,Aur⟩:=Afg hss _ (rb:=rb) (by have:=Ad c4;rw[Bbe] at Ju;exact Int.lt_of_lt_of_le this Ju);obtain ⟨u,hu,rfl⟩:=AA.1 hs;have Ay4:0<fr.length:=by
   have h5:=Auz u hu j (by rw[getD_eq hu];exact hd) (by rw[getD_eq hu];exact hj);rw[getD_eq hu] at h5;exact List.length_pos_of_mem (h5.resolve_left Aur)
 obtain ⟨v,hv,Q0⟩:=CO l b fr.length (by omega);have hkp:1<=k:=by have:=Ad c3;omega
 obtain ⟨k,rfl⟩:∃j,k=j+1:=⟨k - 1,by omega⟩;have H0:=HM k (by omega);have hgv:=Cj fr v (by omega);have Ov:(0:Int)<=(v:Int)/\(v:Int)<(fr.length:Int):=by omega
 have hx:=hfr _ (CK fr v 0 (by omega));simp only[go_sem,c5,Cb];refine Dm [(5,.box [.ref 43 0 bl.length bl.length,.ref 48 0 bl.length bl.length,.ref 102 0 sp.length sp.length,.ref 188 0 rb.length rb.length,.p (.int .i64 (1+q1)),.p (.int .i64 q2),.p (.int .i64 q3),.p (.int .i64 (1+q4))]),(177,.arr 3 1 (BX fr))] mixed (p:=[(0,0),(1,0),(2,0),(3,0),(4,0),(5,0),(6,2),(7,0),(8,0),(9,1),(10,2),(11,0),(12,3)]) (by kernel_rfl) (by simp[C8,get]) ?_;simp only[go_sem,BW];refine Gq ((C4 l b fr.length (by omega) (CD _ (by omega) (by omega)))) ?_;simp only[go_sem,C9,hv,BW,Ab,hgv,Ov];refine ⟨⟨EB _ _ rfl,by omega⟩,?_⟩;simp only[go_sem,H0];refine ih (k,b+1,rb++[fr.getD v 0]) _ ⟨by simp;omega,by simp only;omega,IP Qi hx.1 hx.2,.inr (by have:=Ad c4;simp;omega)⟩ (by simp only;omega) ?_
 (refine Wk.forget ?_;simp[ZF,D5,BW];done)
theorem Aq1(l:List Int)(at_ On:Nat)(II:at_<100000)(SC:1<=On)(Sl:On<=10):
   BZ prog 24 [.ptr 1000000 0,.p (.int .i64 (On:Nat))] [(1000000,.box (C9 l at_))]
     λ h r=>∃at2 n,at2<=at_+200/\Aoj n/\h=[(1000000,.box (C9 l at2)),(0,.arr 76 3 (C2 n.blocks)),(1,.arr 22 1 (Cr n.next)),(2,.arr 68 6 (C1 n.spurs)),(3,.arr 3 1 (BX n.B0))]/\r= .agg n.os:=
 (Ajt (λ _ _=>True) (λ n hn=>(Alh n hn).mono λ _ _ ⟨h1,o,sl,cap,h2,h3,h4⟩=>⟨h1,o,sl,cap,h2,h3,h4,trivial⟩) l at_ On II SC Sl).mono
   λ _ _ ⟨at2,n,h1,h2,h3⟩=>⟨at2,n,h1,h2.1,h3⟩
def UL(n:Nt)(x:Int):List UInt8:=(n.blocks.getD x.toNat DG).name
def KO(b:ER):Dc:=⟨1,0,[b.name],[b.x,b.y]⟩
def K8(n:Nt)(i:Nat)(x:Int):Dc:=⟨2,0,[(n.blocks.getD i DG).name,UL n x],[]⟩
def U4(n:Nt)(i:Nat):List Dc:=(n.next.getD i []).map (K8 n i)
def Gz(n:Nt)(s:C3):Dc:=⟨if s.CA then 4 else 3,0,[s.name,UL n s.HW,UL n s.out],[s.Co]⟩
def Sh(x:Int)(s:C3):Bool:=decide (s.base<=x)&&decide (x<s.base+s.Co)
def L5(r:Int)(s:C3):Dc:=⟨5,0,[s.name],[r - s.base+1]⟩
def W6(n:Nt)(r:Int)(k:Nat):List Dc:=((n.spurs.take k).filter (Sh r)).map (L5 r)
def G9(n:Nt):List Dc:=n.blocks.map KO
def GQ(n:Nt)(i:Nat):List Dc:=(List.range i).flatMap (U4 n)
def JA(n:Nt):List Dc:=n.spurs.map (Gz n)
def HA(n:Nt)(i:Nat):List Dc:=(n.B0.take i).flatMap λ r=>W6 n r n.spurs.length
def GR(n:Nt):List Dc:=G9 n++GQ n n.blocks.length++JA n++HA n n.B0.length++[⟨6,0,[],[n.cq,n.ca,n.cd,n.cp]⟩]
def Ek:Nat->List Dc->List Dc
 | _,[]=>[]
 | i,x::r=>⟨x.word,(i:Int)+1,x.names,x.B7⟩::Ek (i+1) r
def DD(n:Nt):List Dc:=Ek 0 (GR n)
theorem Kn:∀(i:Nat) (l:List Dc),(Ek i l).length=l.length
 | _,[]=>rfl
 | i,_::r=>by simp[Ek,Kn (i+1) r]
theorem OL(n:Nt)(i:Nat):GQ n (i+1)=GQ n i++U4 n i:=by simp[GQ,List.range_succ,List.flatMap_append]
theorem OK(n:Nt)(i:Nat)(h:i<n.B0.length):HA n (i+1)=HA n i++W6 n (n.B0.getD i 0) n.spurs.length:=by
 unfold HA;rw[CB n.B0 i 0 h,List.flatMap_append];simp
theorem Y0:∀(i:Nat) (a b:List Dc),Ek i (a++b)=Ek i a++Ek (i+a.length) b
 | _,[],_=>by simp[Ek]
 | i,x::r,b=>by simp only[AT,Ek,Y0 (i+1) r b,Ar];rw[show i+1+r.length=i+(r.length+1) by omega]
theorem Iq{α β:Type}(f:α->List β)(k:Nat):∀l:List α,(∀x∈l,(f x).length<=k)->(l.flatMap f).length<=l.length*k
 | [],_=>by simp
 | x::r,h=>by
   have h1:=h x (by simp);have h2:=Iq f k r (λ y hy=>h y (by simp[hy]));simp only[List.flatMap_cons,Au,Ar,Bf,Nat.one_mul];omega
theorem MI(n:Nat):Lib.decDigits n=E1 n:=by
 induction n using Nat.strongRecOn with
 | ind n ih=>
   rw[Lib.decDigits,E1];by_cases h:n<10
   . rw[dif_pos h,dif_pos h]
   . rw[dif_neg h,dif_neg h,ih (n / 10) (by omega)]
theorem Aen(n:Int):Lib.itoa n=P7 n:=by
 unfold Lib.itoa P7;by_cases h:n<0
 . rw[if_pos h,if_pos h,MI,show n.natAbs=(-n).toNat by omega]
 . rw[if_neg h,if_neg h,MI]
theorem YR:∀(ns l:List (List UInt8)) (d:Dc),(∀s∈ns,CL s=true)->rd ns.length (ns++l) d=rd 0 l {d with names:=d.names++ns}
 | [],l,d,_=>by simp
 | s::r,l,d,h=>by
   have h1:=YR r l {d with names:=d.names++[s]} (λ x hx=>h x (by simp[hx]));simp only[Ar,AT,rd,h s (by simp),AM];rw[h1];simp
theorem Ac1:∀(ks:List Int) (d:Dc),(∀n∈ks,-9999<=n/\n<=9999)->rd 0 (ks.map P7) d=({d with B7:=d.B7++ks},0)
 | [],d,_=>by simp[rd]
 | n::r,d,h=>by
   have h0:=h n (by simp);have hn:=Ae9 n (by omega) (by omega);rw[if_pos h0] at hn;have h1:=Ac1 r {d with B7:=d.B7++[n]} (λ x hx=>h x (by simp[hx]));simp only[AD,rd,hn,AM];rw[h1];simp
def EM(x:Dc):List (List UInt8):=(ED x.word.toNat).word::x.names++x.B7.map P7
theorem s7(j:Nat)(h1:1<=j)(h2:j<7):Lu (ED j).word=(j:Int):=by
 rcases j with _ | _ | _ | _ | _ | _ | _ | j
 . omega
 all_goals first | omega | decide
theorem GY(x:Dc):CX x=true↔(1<=x.word/\x.word<=6)/\(x.B7.length:Int)=(CG x.word).2/\((x.names.length:Int)=(CG x.word).1∨((CG x.word).1<(x.names.length:Int)/\x.word=2))/\
   (∀s∈x.names,CL s=true)/\∀n∈x.B7,-9999<=n/\n<=9999:=by
 unfold CX;simp only[Ao,BT,Aq,AB,BS,Bool.or_eq_false_iff,BB,Int.not_lt]
theorem Ae8(x:Dc)(h:CX x=true):QM x.line (EM x)=(x,0):=by
 obtain ⟨h1,h2,h3,h4,h5⟩:=(GY x).1 h;obtain ⟨word,line,names,B7⟩:=x;simp only at h1 h2 h3 h4 h5;obtain ⟨j,rfl⟩:∃j:Nat,word=(j:Int):=⟨word.toNat,by omega⟩;obtain ⟨_,_,_,hs4,hs5⟩:=TZ j (by omega) (by omega);have hw:=s7 j (by omega) (by omega);simp only[EM,QM,Ab,AT];rw[hw,if_neg (by omega),if_neg (by simp;omega)];have hk:(names++B7.map P7).length - (CG j).2.toNat=names.length:=by simp;omega
 rw[hk,YR names _ _ h4,Ac1 _ _ h5];simp
def PQ:List Dc->List Ln->List Ln×Int
 | [],acc=>(acc,0)
 | x::r,acc=>if CX x then PQ r (acc++[⟨x.line,EM x⟩]) else ([],20)
theorem ZC:∀(d:List Dc) (acc:List Ln),(∀x∈d,CX x=true)->PQ d acc=(acc++d.map λ x=>⟨x.line,EM x⟩,0)
 | [],acc,_=>by simp[PQ]
 | x::r,acc,h=>by
   simp only[PQ,h x (by simp),AM];rw[ZC r _ (λ y hy=>h y (by simp[hy]))];simp
theorem RM:∀(d acc:List Dc),(∀x∈d,CX x=true)->parseV (d.map λ x=>⟨x.line,EM x⟩) acc=(acc++d,0,0)
 | [],acc,_=>by simp[parseV]
 | x::r,acc,h=>by
   simp only[AD,parseV,Ae8 x (h x (by simp)),AM];rw[RM r _ (λ y hy=>h y (by simp[hy]))];simp
def Ape(d:List Dc):Prop:=d.length<=2000000/\∀x∈d,x.names.length<=2000000/\x.B7.length<=2000000
theorem T1(k:Nat):∀(d:List Dc) (acc:List Ln),(∀x∈d,x.names.length<=k/\x.B7.length<=k)->(∀x∈acc,x.fs.length<=1+2*k)->(PQ d acc).1.length<=acc.length+d.length/\∀x∈(PQ d acc).1,x.fs.length<=1+2*k
 | [],acc,_,h=>by simpa [PQ] using h
 | x::r,acc,hd,h=>by
   simp only[PQ];split
   . have hx:=hd x (by simp);have ih:=T1 k r (acc++[⟨x.line,EM x⟩]) (λ y hy=>hd y (by simp[hy])) (λ y hy=>by
       rcases Av.1 hy with h1 | h1
       . exact h y h1
       . simp only[Aw] at h1;subst h1;simp[EM];omega)
     simp only[Au,Ar,Az] at ih ⊢;exact ⟨by omega,ih.2⟩
   . simp
theorem YZ:∀(i:Nat) (l:List Dc) (x:Dc),x∈Ek i l->∃y∈l,x.names=y.names/\x.B7=y.B7
 | _,[],x,h=>by simp[Ek] at h
 | i,y::r,x,h=>by
   simp only[Ek,AF] at h;rcases h with rfl | h
   . exact ⟨y,by simp,rfl,rfl⟩
   . obtain ⟨z,hz,h1⟩:=YZ (i+1) r x h;exact ⟨z,by simp[hz],h1⟩
theorem Z2(n:Nt)(hn:validN n):Ape (DD n):=by
 obtain ⟨⟨Sq,Vc,Lb,Mq⟩,hs6,Ox,Yg,hcf,FT,Qi,hdp⟩:=hn;have Sp:(GQ n n.blocks.length).length<=n.blocks.length*4:=by
   have:=Iq (U4 n) 4 (List.range n.blocks.length) (λ i hi=>by
     have:=(Mq i (List.mem_range.1 hi)).2.1;simp only[U4,A8];omega)
   simpa [GQ] using this
 have hl4:(HA n n.B0.length).length<=n.B0.length*6:=by
   have:=Iq (λ r=>W6 n r n.spurs.length) 6 (n.B0.take n.B0.length) (λ r _=>by
     simp only[W6,A8];exact Bw (List.length_filter_le _ _) (by simp;omega))
   simpa [HA] using this
 have ET:∀x∈GR n,x.names.length<=3/\x.B7.length<=4:=by
   intro x hx;simp only[GR,Av,Aw] at hx;rcases hx with (((hx | hx) | hx) | hx) | rfl
   . obtain ⟨b,_,rfl⟩:=AP.1 hx;simp[KO]
   . obtain ⟨i,_,hx⟩:=Br.1 hx;obtain ⟨y,_,rfl⟩:=AP.1 hx;simp[K8]
   . obtain ⟨b,_,rfl⟩:=AP.1 hx;simp[Gz]
   . obtain ⟨r,_,hx⟩:=Br.1 hx;obtain ⟨y,_,rfl⟩:=AP.1 hx;simp[L5]
   . simp
 refine ⟨?_,λ x hx=>?_⟩
 . have:(GR n).length<=2000000:=by
     simp only[GR,Au,G9,JA,A8,Ar,Az];omega
   simpa [DD,Kn] using this
 . obtain ⟨y,hy,h1,h2⟩:=YZ 0 _ x hx;have:=ET y hy;rw[h1,h2];omega
theorem SZ(c:UInt8)(t:List UInt8):∀s:List UInt8,CU c (s++c::t)=CU c s++CU c t
 | []=>by simp[CU]
 | b::r=>by
   have ih:=SZ c t r;simp only[AT,CU];split
   . rw[ih];rfl
   . rw[ih];cases hs:CU c r with
     | nil=>exact (Vw c r hs).elim
     | cons x xs=>rfl
def G2(s:List UInt8):Bool:=decide (s≠[])&&(decide (s.length<=12)&&s.all λ b=>HF b.toNat)
def FA:Int->List Ln->Bool
 | _,[]=>true
 | last,x::r=>decide (last<x.num)&&(decide (x.fs≠[])&&(x.fs.all G2&&FA x.num r))
def FG:List (List UInt8)->List UInt8
 | []=>[]
 | x::r=>x++r.flatMap λ y=>32::y
def FP:Nat->List Ln->List UInt8
 | _,[]=>[]
 | k,x::r=>List.replicate (x.num.toNat - k) 10++(FG x.fs++10::FP (x.num.toNat+1) r)
def Pw(l:List Ln):List UInt8×Int:=if FA 0 l then (if 6000<(FP 1 l).length then ([],1) else (FP 1 l,0)) else ([],20)
def Qu:List (List UInt8)->Nat
 | []=>0
 | s::r=>s.length+1+Qu r
def Yb:List Ln->Nat
 | []=>0
 | x::r=>Qu x.fs+Yb r
def Hn:Int->List Ln->Int
 | k,[]=>k
 | _,x::r=>Hn x.num r
theorem Jv{last:Int}{x:Ln}{r:List Ln}:FA last (x::r)=true↔last<x.num/\x.fs≠[]/\(∀s∈x.fs,G2 s=true)/\FA x.num r=true:=by
 simp only[FA,Ao,Aq,AB]
theorem I1{s:List UInt8}:G2 s=true↔s≠[]/\s.length<=12/\∀b∈s,HF b.toNat=true:=by
 simp only[G2,Ao,Aq,AB]
theorem Alj(r:List (List UInt8)):(r.flatMap λ y=>32::y).length=Qu r:=by
 induction r with
 | nil=>rfl
 | cons x r ih=>simp[Qu,ih];omega
theorem N5:∀fs:List (List UInt8),fs≠[]->(FG fs).length+1=Qu fs
 | [],h=>(h rfl).elim
 | x::r,_=>by simp only[FG,Qu,Au,Alj];omega
theorem Apb:∀fs:List (List UInt8),fs≠[]->1<=Qu fs
 | [],h=>(h rfl).elim
 | x::r,_=>by simp only[Qu];omega
theorem Qt:∀(l:List Ln) (k:Nat),FA k l=true->((FP (k+1) l).length:Int)+k+l.length=Yb l+Hn k l/\(l.length:Int)<=Yb l/\(k:Int)<=Hn k l
 | [],k,_=>by simp[FP,Yb,Hn]
 | x::r,k,h=>by
   obtain ⟨h1,h2,h3,h4⟩:=Jv.1 h;obtain ⟨n,hn⟩:∃n:Nat,x.num=(n:Int):=⟨x.num.toNat,by omega⟩;rw[hn] at h4 h1;obtain ⟨h5,h6,h7⟩:=Qt r n h4;have h8:=N5 x.fs h2;have h9:=Apb x.fs h2;simp only[FP,Yb,Hn,hn,Au,Ar,BH,Ab];omega
theorem Aem(l:List Ln)(h:FA 0 l=true):(6000<(FP 1 l).length)↔((6000:Int) - min (Hn 0 l) 6001<(Yb l:Int) - l.length):=by
 obtain ⟨h1,h2,h3⟩:=Qt l 0 h;simp only[A2] at h1;have h4:((0:Nat):Int)=0:=rfl;rw[h4] at h1 h3;omega
theorem X4{b:UInt8}(h:HF b.toNat=true):¬(b.toNat:Int)=35/\¬(b.toNat:Int)=32/\¬(b.toNat:Int)=9/\b≠10/\b≠35:=by
 unfold HF at h;simp only[Ao,Aq,BS,BB] at h;refine ⟨by omega,by omega,by omega,?_,?_⟩
 . rintro rfl;simp at h
 . rintro rfl;simp at h
theorem Ali:∀(s t cur:List UInt8) (acc:List (List UInt8)),(∀b∈s,HF b.toNat=true)->cur.length+s.length<=12->H9 (s++t) (some cur) acc=H9 t (some (cur++s)) acc
 | [],t,cur,acc,_,_=>by simp
 | b::r,t,cur,acc,h,hl=>by
   have hb:=h b (by simp);obtain ⟨h1,h2,h3,_,_⟩:=X4 hb;simp only[Ar] at hl;simp only[AT,H9,h1,h2,h3,hb,AM,A9,or_self,AY];rw[if_neg (by omega),Ali r t (cur++[b]) acc (λ x hx=>h x (by simp[hx])) (by simp;omega)];simp
theorem ZD(s t:List UInt8)(acc:List (List UInt8))(h:G2 s=true):H9 (s++t) none acc=H9 t (some s) acc:=by
 obtain ⟨h1,h2,h3⟩:=I1.1 h;cases s with
 | nil=>exact (h1 rfl).elim
 | cons b r=>
   obtain ⟨h4,h5,h6,_,_⟩:=X4 (h3 b (by simp));rw[List.cons_append,Afj _ _ _ h4 h5 h6,<-List.cons_append,Ali _ _ _ _ h3 (by simpa using h2)];simp
theorem ZG:∀(r:List (List UInt8)) (s:List UInt8) (acc:List (List UInt8)),(∀y∈r,G2 y=true)->H9 (r.flatMap λ y=>32::y) (some s) acc=(acc++s::r,0)
 | [],s,acc,_=>by simp[H9]
 | y::r,s,acc,h=>by
   have h0:((32:UInt8).toNat:Int)=32:=rfl;simp only[List.flatMap_cons,AT,H9,h0];rw[if_neg (by decide),if_pos (Or.inl trivial),ZD _ _ _ (h y (by simp)),ZG r y _ (λ x hx=>h x (by simp[hx]))];simp
theorem Afi:∀fs:List (List UInt8),fs≠[]->(∀s∈fs,G2 s=true)->H9 (FG fs) none []=(fs,0)
 | [],h,_=>(h rfl).elim
 | x::r,_,h=>by
   simp only[FG];rw[ZD _ _ _ (h x (by simp)),ZG r x [] (λ y hy=>h y (by simp[hy]))];simp
theorem Vv(c:UInt8):∀w:List UInt8,c∉w->CU c w=[w]
 | [],_=>rfl
 | b::r,h=>by
   have h1:b≠c:=λ e=>h (by simp[e]);simp only[CU,if_neg h1,Vv c r (λ e=>h (by simp[e]))]
theorem y9(c:UInt8)(w t:List UInt8)(h:c∉w):CU c (w++c::t)=w::CU c t:=by
 rw[SZ,Vv c w h];rfl
theorem Aa7{b:UInt8}:∀{fs:List (List UInt8)},b∈FG fs->b=32∨∃s∈fs,b∈s
 | [],h=>by simp[FG] at h
 | x::r,h=>by
   simp only[FG,Av,Br,AF] at h;rcases h with h | ⟨y,hy,h | h⟩
   . exact .inr ⟨x,by simp,h⟩
   . exact .inl h
   . exact .inr ⟨y,by simp[hy],h⟩
theorem Aig{fs:List (List UInt8)}(h:∀s∈fs,G2 s=true):(10:UInt8)∉FG fs/\(35:UInt8)∉FG fs:=by
 constructor<;>intro hm;all_goals
   rcases Aa7 hm with h1 | ⟨s,hs,h1⟩
   . cases h1
   . have h2:=X4 ((I1.1 (h s hs)).2.2 _ h1);first | exact h2.2.2.2.1 rfl | exact h2.2.2.2.2 rfl
theorem S2:∀(n:Nat) (t:List UInt8) (k:Nat) (acc:List Ln),I9 (CU 10 (List.replicate n 10++t)) k acc=I9 (CU 10 t) (k+n) acc
 | 0,t,k,acc=>by simp
 | n+1,t,k,acc=>by
   simp only[List.replicate_succ,AT,CU,AM,I9,H9,Az,Nat.lt_irrefl,A9];rw[S2 n t (k+1) acc,Nat.add_assoc,Nat.add_comm 1 n]
theorem VC:∀(l:List Ln) (k:Nat) (acc:List Ln),FA k l=true->I9 (CU 10 (FP (k+1) l)) (k+1) acc=(acc++l,0,0)
 | [],k,acc,_=>by simp[FP,CU,I9,H9]
 | x::r,k,acc,h=>by
   obtain ⟨h1,h2,h3,h4⟩:=Jv.1 h;obtain ⟨num,fs⟩:=x;obtain ⟨n,rfl⟩:∃n:Nat,num=(n:Int):=⟨num.toNat,by simp only at h1;omega⟩;simp only at h1 h2 h3 h4;simp only[FP,Ab];rw[S2,y9 10 _ _ (Aig h3).1,show k+1+(n - (k+1))=n by omega];simp only[I9,Afi fs h2 h3,AM];rw[if_pos (by cases fs with | nil=>exact (h2 rfl).elim | cons a b=>simp),VC r n _ h4];simp
theorem ZH(l:List Ln)(h:FA 0 l=true)(hl:(FP 1 l).length<=6000):Dp (FP 1 l)=(l,0,0):=by
 unfold Dp;rw[if_neg (by omega)];have:=VC l 0 [] h
 simpa using this
theorem Arf(c:Int)(h:r8 c=true):HF c=true:=by
 rw[Fb] at h;simp only[GU,BT,Ao,Aq] at h;simp only[HF,Ao,Aq,BS,BB];omega
theorem VQ{s:List UInt8}(h:CL s=true):G2 s=true/\s.length<=12:=by
 cases s with
 | nil=>simp[CL] at h
 | cons b r=>
   simp only[CL,Ao,Aq,AB] at h;exact ⟨I1.2 ⟨by simp,h.1.1,λ c hc=>Arf _ (h.2 c hc)⟩,h.1.1⟩
theorem Z1:∀(n:Nat),∀b∈E1 n,HF b.toNat=true:=by
 intro n
 induction n using Nat.strongRecOn with
 | _ n ih=>
   intro b hb;have key:∀d:Nat,d<10->HF ((UInt8.ofNat (48+d)).toNat:Nat)=true:=by
     intro d hd;have:((UInt8.ofNat (48+d)).toNat:Int)=48+d:=by simp;omega
     rw[this];simp only[HF,Ao,Aq,BS,BB];omega
   by_cases h:n<10
   . rw[Ex n h] at hb;simp only[Aw] at hb;subst hb;exact key n h
   . rw[Is n h] at hb;rcases Av.1 hb with h1 | h1
     . exact ih (n / 10) (by omega) b h1
     . simp only[Aw] at h1;subst h1;exact key (n % 10) (by omega)
theorem Ar9(n:Nat):E1 n≠[]:=by
 by_cases h:n<10
 . rw[Ex n h];simp
 . rw[Is n h];simp
theorem ZZ{n:Int}(h0:-9999<=n)(h1:n<=9999):G2 (P7 n)=true/\(P7 n).length<=5:=by
 unfold P7;split
 . have hl:=Jz 3 (-n).toNat (by omega);refine ⟨I1.2 ⟨by simp,by simp;omega,λ b hb=>?_⟩,by simp;omega⟩;rcases AF.1 hb with rfl | hb
   . decide
   . exact Z1 _ b hb
 . have hl:=Jz 3 n.toNat (by omega);exact ⟨I1.2 ⟨Ar9 _,by omega,Z1 _⟩,by omega⟩
theorem Afh(j:Nat)(h1:1<=j)(h2:j<7):G2 (ED j).word=true/\(ED j).word.length<=7:=by
 have hj:j=1∨j=2∨j=3∨j=4∨j=5∨j=6:=by omega
 rcases hj with rfl | rfl | rfl | rfl | rfl | rfl<;>decide
def wD(x:Dc):Nat:=8+13*x.names.length+6*x.B7.length
def Oo(x:Dc):Ln:=⟨x.line,EM x⟩
theorem Air(a b:List (List UInt8)):Qu (a++b)=Qu a+Qu b:=by
 induction a with
 | nil=>simp[Qu]
 | cons x r ih=>simp only[AT,Qu,ih];omega
theorem WW(k:Nat):∀l:List (List UInt8),(∀s∈l,s.length<=k)->Qu l<=(k+1)*l.length
 | [],_=>by simp[Qu]
 | x::r,h=>by
   have h1:=h x (by simp);have h2:=WW k r (λ s hs=>h s (by simp[hs]));simp only[Qu,Ar,Nat.mul_add,Nat.mul_one];omega
theorem Ahe(x:Dc)(h:CX x=true):(Oo x).fs≠[]/\(∀s∈(Oo x).fs,G2 s=true)/\Qu (Oo x).fs<=wD x:=by
 obtain ⟨⟨RW,U8⟩,_,_,hn,hk⟩:=(GY x).1 h;have hf:=Afh x.word.toNat (by omega) (by omega);refine ⟨by simp[Oo,EM],λ s hs=>?_,?_⟩
 . simp only[Oo,EM,AT,AF,Av,AP] at hs;rcases hs with rfl | hs | ⟨k,JF,rfl⟩
   . exact hf.1
   . exact (VQ (hn s hs)).1
   . exact (ZZ (hk k JF).1 (hk k JF).2).1
 . have h1:=WW 12 x.names (λ s hs=>(VQ (hn s hs)).2);have h2:=WW 5 (x.B7.map P7) (λ s hs=>by
     obtain ⟨k,JF,rfl⟩:=AP.1 hs;exact (ZZ (hk k JF).1 (hk k JF).2).2)
   simp only[A8] at h2;simp only[Oo,EM,AT,Qu,Air,wD];have:=hf.2;omega
def Ny(l:List Dc):Nat:=(l.map wD).sum
theorem Ais(a b:List Dc):Ny (a++b)=Ny a+Ny b:=by simp[Ny]
theorem O6(k:Nat):∀l:List Dc,(∀x∈l,wD x<=k)->Ny l<=k*l.length
 | [],_=>by simp[Ny]
 | x::r,h=>by
   have h1:=h x (by simp);have h2:=O6 k r (λ y hy=>h y (by simp[hy]));simp only[Ny,AD,List.sum_cons,Ar,Nat.mul_add,Nat.mul_one] at h2 ⊢;omega
theorem VL:∀(i:Nat) (L:List Dc),(∀x∈L,CX x=true)->FA i ((Ek i L).map Oo)=true/\Hn i ((Ek i L).map Oo)=(i:Int)+L.length/\Yb ((Ek i L).map Oo)<=Ny L
 | i,[],_=>by simp[Ek,FA,Hn,Yb,Ny]
 | i,x::r,h=>by
   have hx:=h x (by simp);obtain ⟨h1,h2,h3⟩:=VL (i+1) r (λ y hy=>h y (by simp[hy]));have hd:=Ahe ⟨x.word,(i:Int)+1,x.names,x.B7⟩ hx;simp only[Ek,AD];have Va:(Oo ⟨x.word,(i:Int)+1,x.names,x.B7⟩).num=((i+1:Nat):Int):=by simp[Oo]
   refine ⟨Jv.2 ⟨by rw[Va];omega,hd.1,hd.2.1,by rw[Va];exact h1⟩,?_,?_⟩
   . simp only[Hn,Va,h2,Ar];omega
   . have h4:wD ⟨x.word,(i:Int)+1,x.names,x.B7⟩=wD x:=rfl;simp only[Yb,Ny,AD,List.sum_cons];have:=hd.2.2;unfold Ny at h3;omega
theorem Tl:∀(i:Nat) (L:List Dc),(∀x∈L,CX x=true)->∀x∈Ek i L,CX x=true
 | _,[],_=>by simp[Ek]
 | i,x::r,h=>by
   intro y hy;simp only[Ek,AF] at hy;rcases hy with rfl | hy
   . exact h x (by simp)
   . exact Tl (i+1) r (λ z hz=>h z (by simp[hz])) y hy
theorem Mh{α:Type}{l:List α}{x:α}(d:α)(h:x∈l):∃i,i<l.length/\l.getD i d=x:=by
 obtain ⟨i,hi,rfl⟩:=AA.1 h;exact ⟨i,hi,by simp[List.getD,hi]⟩
theorem Aec(n:Nt)(h:Fp n):(∀b∈n.blocks,CL b.name=true)/\∀s∈n.spurs,CL s.name=true:=by
 have key:∀x∈Dd n,CL x=true:=λ x hx=>by
   obtain ⟨i,hi,rfl⟩:=Mh [] hx;exact (h i hi).1
 exact ⟨λ b hb=>key _ (by simp only[Dd,Av,AP];exact .inl ⟨b,hb,rfl⟩),λ s hs=>key _ (by simp only[Dd,Av,AP];exact .inr ⟨s,hs,rfl⟩)⟩
theorem Z3(n:Nt)(hn:validN n):(∀x∈GR n,CX x=true)/\Ny (GR n)<=6000/\(GR n).length<=400:=by
 obtain ⟨⟨Sq,Vc,Lb,Mq⟩,hs6,Ox,Yg,hcf,FT,Qi,hdp⟩:=hn;obtain ⟨hnb,hns⟩:=Aec n Ox;have hbn:∀x:Int,0<=x->x<n.blocks.length->CL (UL n x)=true:=λ x h0 h1=>by
   unfold UL;exact hnb _ (CK n.blocks x.toNat DG (by omega))
 have h1:∀x∈G9 n,CX x=true/\wD x<=33:=by
   intro x hx;obtain ⟨b,hb,rfl⟩:=AP.1 hx;obtain ⟨i,hi,rfl⟩:=Mh DG hb;have hxy:=(Mq i hi).1;unfold UN at hxy;refine ⟨(GY _).2 ⟨by simp[KO],by simp[KO,CG],.inl (by simp[KO,CG]),by simpa [KO] using hnb _ hb,?_⟩,by simp[wD,KO]⟩;simp only[KO,AF,List.not_mem_nil,or_false];rintro k (rfl | rfl)<;>omega
 have h2:∀x∈GQ n n.blocks.length,CX x=true/\wD x<=34:=by
   intro x hx;obtain ⟨i,hi,hx⟩:=Br.1 hx;obtain ⟨y,hy,rfl⟩:=AP.1 hx;have TS:=List.mem_range.1 hi;obtain ⟨k,hk,rfl⟩:=Mh 0 hy;have CS:=(Mq i TS).2.2 k hk;refine ⟨(GY _).2 ⟨by simp[K8],by simp[K8,CG],.inl (by simp[K8,CG]),?_,by simp[K8]⟩,by simp[wD,K8]⟩;simp only[K8,AF,List.not_mem_nil,or_false];rintro s (rfl | rfl)
   . exact hnb _ (CK n.blocks i DG TS)
   . exact hbn _ CS.1 CS.2.1
 have h3:∀x∈JA n,CX x=true/\wD x<=53:=by
   intro x hx;obtain ⟨s,hs,rfl⟩:=AP.1 hx;have Aus:=hns s hs;obtain ⟨i,hi,rfl⟩:=Mh Cm hs;obtain ⟨g1,g2,g3,g4,g5,g6,_⟩:=FT i hi;generalize n.spurs.getD i Cm=s at*;have hw:(if s.CA then (4:Int) else 3)=3∨(if s.CA then (4:Int) else 3)=4:=by cases s.CA<;>simp
   refine ⟨(GY _).2 ⟨by simp only[Gz];omega,?_,.inl ?_,?_,?_⟩,by simp[wD,Gz]⟩
   . rcases hw with hw | hw<;>simp[Gz,CG,hw]
   . rcases hw with hw | hw<;>simp[Gz,CG,hw]
   . simp only[Gz,AF,List.not_mem_nil,or_false];rintro t (rfl | rfl | rfl)
     . exact Aus
     . exact hbn _ (by omega) (by omega)
     . exact hbn _ (by omega) (by omega)
   . simp only[Gz,AF,List.not_mem_nil,or_false];rintro k rfl;omega
 have h4:∀x∈HA n n.B0.length,CX x=true/\wD x<=27:=by
   intro x hx;obtain ⟨r,_,hx⟩:=Br.1 hx;obtain ⟨s,hs,rfl⟩:=AP.1 hx;obtain ⟨LB,Mp⟩:=List.mem_filter.1 hs;have p8:=BN LB;have Aus:=hns s p8;obtain ⟨i,hi,rfl⟩:=Mh Cm p8;obtain ⟨g1,g2,g3,g4,g5,g6,_⟩:=FT i hi;generalize n.spurs.getD i Cm=s at*;simp only[Sh,Ao,Aq] at Mp;refine ⟨(GY _).2 ⟨by simp[L5],by simp[L5,CG],.inl (by simp[L5,CG]),by simpa [L5] using Aus,?_⟩,by simp[wD,L5]⟩;simp only[L5,AF,List.not_mem_nil,or_false];rintro k rfl;omega
 have h5:CX ⟨6,0,[],[n.cq,n.ca,n.cd,n.cp]⟩=true:=by
   unfold H4 at hcf;refine (GY _).2 ⟨by simp,by simp[CG],.inl (by simp[CG]),by simp,?_⟩;simp only[AF,List.not_mem_nil,or_false];rintro k (rfl | rfl | rfl | rfl)<;>omega
 have Sp:(GQ n n.blocks.length).length<=n.blocks.length*4:=by
   have:=Iq (U4 n) 4 (List.range n.blocks.length) (λ i hi=>by
     have:=(Mq i (List.mem_range.1 hi)).2.1;simp only[U4,A8];omega)
   simpa [GQ] using this
 have hl4:(HA n n.B0.length).length<=n.B0.length*6:=by
   have:=Iq (λ r=>W6 n r n.spurs.length) 6 (n.B0.take n.B0.length) (λ r _=>by
     simp only[W6,A8];exact Bw (List.length_filter_le _ _) (by simp;omega))
   simpa [HA] using this
 refine ⟨λ x hx=>?_,?_,?_⟩
 . simp only[GR,Av,Aw] at hx;rcases hx with (((hx | hx) | hx) | hx) | rfl
   . exact (h1 x hx).1
   . exact (h2 x hx).1
   . exact (h3 x hx).1
   . exact (h4 x hx).1
   . exact h5
 . have s1:=O6 33 (G9 n) (λ x hx=>(h1 x hx).2);have s2:=O6 34 (GQ n n.blocks.length) (λ x hx=>(h2 x hx).2);have s3:=O6 53 (JA n) (λ x hx=>(h3 x hx).2);have s4:=O6 27 (HA n n.B0.length) (λ x hx=>(h4 x hx).2);have s5:Ny [(⟨6,0,[],[n.cq,n.ca,n.cd,n.cp]⟩:Dc)]=32:=by simp[Ny,wD]
   have e1:(G9 n).length=n.blocks.length:=by simp[G9]
   have e3:(JA n).length=n.spurs.length:=by simp[JA]
   simp only[GR,Ais,s5];rw[e1] at s1;rw[e3] at s3;omega
 . simp only[GR,Au,G9,JA,A8,Ar,Az];omega
theorem Y7:∀(l:List Ln) (k:Int),FA k l=true->(∀x∈l,x.num<=Hn k l)/\k<=Hn k l
 | [],k,_=>by simp[Hn]
 | x::r,k,h=>by
   obtain ⟨h1,_,_,h2⟩:=Jv.1 h;obtain ⟨h3,h4⟩:=Y7 r x.num h2;refine ⟨λ y hy=>?_,by simp only[Hn];omega⟩;rcases AF.1 hy with rfl | hy
   . exact h4
   . exact h3 y hy
theorem Aiq:∀l:List (List UInt8),l.length<=Qu l
 | []=>by simp[Qu]
 | x::r=>by have:=Aiq r;simp only[Qu,Ar];omega
theorem Abs:∀(l:List Ln) (x:Ln),x∈l->Qu x.fs<=Yb l
 | [],x,h=>by simp at h
 | y::r,x,h=>by
   simp only[Yb];rcases AF.1 h with rfl | h
   . omega
   . have:=Abs r x h;omega
theorem Um(n:Nt)(hn:validN n):(∀x∈DD n,CX x=true)/\FA 0 ((DD n).map Oo)=true/\(FP 1 ((DD n).map Oo)).length<=6000/\(DD n).length<=400/\∀x∈(DD n).map Oo,x.num<=400/\x.fs.length<=6000:=by
 obtain ⟨h1,h2,h3⟩:=Z3 n hn;obtain ⟨h4,h5,h6⟩:=VL 0 (GR n) h1;have h7:=Qt ((DD n).map Oo) 0 h4;have h8:=Y7 _ _ h4;have h9:∀x∈(DD n).map Oo,x.num<=400/\x.fs.length<=6000:=λ x hx=>by
   have Ve:=Aiq x.fs;have h13:=Abs _ x hx;have h14:Yb ((DD n).map Oo)<=Ny (GR n):=h6;have JI:x.num<=Hn ((0:Nat):Int) ((Ek 0 (GR n)).map Oo):=h8.1 x hx;rw[h5] at JI;refine ⟨?_,by omega⟩;omega
 refine ⟨Tl 0 _ h1,h4,?_,by simpa [DD,Kn] using h3,h9⟩;have e1:((DD n).map Oo).length=(GR n).length:=by simp[DD,Kn]
 have e2:Hn ((0:Nat):Int) ((DD n).map Oo)=((0:Nat):Int)+(GR n).length:=h5;have e3:Yb ((DD n).map Oo)<=Ny (GR n):=h6;have e4:((FP 1 ((DD n).map Oo)).length:Int)+((0:Nat):Int)+((DD n).map Oo).length=Yb ((DD n).map Oo)+Hn ((0:Nat):Int) ((DD n).map Oo):=h7.1;omega
end Go.Am
end
