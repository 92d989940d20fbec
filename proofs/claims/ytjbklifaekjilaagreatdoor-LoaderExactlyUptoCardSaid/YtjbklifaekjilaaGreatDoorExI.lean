/- Texts of this proof, what it rests on, merged: part I. -/
import Derived.Lib.MapLaws
import Derived.Test.YtjbklifaekjilaaGreatDoorExH
noncomputable section
namespace Go.Am
open Go Go.Proofs Go.RowKit
open Tryz
set_option maxRecDepth 100000
set_option linter.unusedVariables false
set_option linter.unusedSimpArgs false
set_option maxHeartbeats 2000000
end Go.Am
end
noncomputable section
namespace Go.Am
open Go Go.Proofs
open Tryz
set_option maxRecDepth 100000
set_option linter.unusedVariables false
set_option linter.unusedSimpArgs false
set_option maxHeartbeats 2000000
def Asm(r:List UInt8×Int):D:= .Dr [.p (.str r.1),.p (.int .i64 r.2)]
theorem Ail(s:List UInt8):B1 prog 71 [.p (.str s)] [] λ h r=>h=[]/\r= .p (.int .i64 (Jn s)):=by
 refine B0 func71 rfl Amd (by simp[Tryz.f71]) ?_;by_cases h1:s=[98,108,111,99,107]
 . simp only[go_sem,eq_true h1];subst h1;rfl
 by_cases h2:s=[108,97,110,101]
 . simp only[go_sem,h1,eq_true h2];subst h2;rfl
 by_cases h3:s=[115,116,97,116,105,111,110]
 . simp only[go_sem,h1,h2,eq_true h3];subst h3;rfl
 by_cases h4:s=[100,101,112,111,116]
 . simp only[go_sem,h1,h2,h3,eq_true h4];subst h4;rfl
 by_cases h5:s=[114,111,98,111,116]
 . simp only[go_sem,h1,h2,h3,h4,eq_true h5];subst h5;rfl
 by_cases h6:s=[99,111,110,102,105,103]
 . simp only[go_sem,h1,h2,h3,h4,h5,eq_true h6];subst h6;rfl
 . simp only[go_sem,h1,h2,h3,h4,h5,h6];simp[Jn,Ir,Fk,Be h1,Be h2,Be h3,Be h4,Be h5,Be h6]
theorem Atu(num:Int)(fs:List (List UInt8))(hfs:fs.length<=10000000):B1 prog 36 [.agg [.p (.int .i64 num),.p (.sl (Cw fs))]] [] λ h r=>h=[]/\r= .Dr [(Jy num fs).1.d,.p (.int .i64 (Jy num fs).2)]:=by
 refine B0 func36 rfl An2 (by simp[Tryz.f36]) ?_;cases fs with
 | nil=>
   simp only[go_sem,B3];refine BX ?_;simp only[go_sem];try simp[Jy,II,Dc.d,Cw,BY]
 | cons w rest=>
   simp only[Al] at hfs;have Dl:¬((rest.length+1:Nat):Int)=0:=by omega
   have Bc0:(0:Int)<((rest.length+1:Nat):Int):=by omega
   have hg0:(Cw (w::rest)).getD 0 []=[.str w]:=rfl;simp only[go_sem,B3,Dl];refine CH mixed (p:=[(0,0),(1,0),(2,0),(3,0),(5,0),(6,0),(8,1),(4,2),(7,0),(9,3)]) (by kernel_rfl) (by simp[C3,get]) ?_;simp only[go_sem,B3,Bc0,hg0,Bz];refine Gq (Ail w) ?_;obtain ⟨j,hj,hjw⟩:=VD w;by_cases Vm:(j:Int)=0
   . simp only[go_sem,hjw,Vm];refine BX ?_;simp only[go_sem];simp[Jy,hjw,Vm,II,Dc.d,Cw,BY]
   obtain ⟨Lg,-,-,hs4,hs5⟩:=Ub j hj (by omega);have hj6:j=1∨j=2∨j=3∨j=4∨j=5∨j=6:=by omega
   have Vp:(Cx j).1<=3/\(Cx j).2<=4/\((j:Int)=2->(Cx j).1=2/\(Cx j).2=0):=by
     rcases hj6 with rfl | rfl | rfl | rfl | rfl | rfl<;>decide
   have LG:Jy num (w::rest)=if (rest.length:Int)<(Cx j).1+(Cx j).2∨((Cx j).1+(Cx j).2<(rest.length:Int)/\(j:Int)≠2) then (II,5) else rd (rest.length - (Cx j).2.toNat) rest ⟨j,num,[],[]⟩:=by
     simp only[Jy,hjw,Vm,Bd]
   rw[LG];clear LG Lg;simp only[go_sem,hjw,Vm];refine Cq (YK j) ?_;generalize hA:(Cx j).1=a at*;generalize hB:(Cx j).2=b at*;obtain ⟨ha3,hb4,h2ab⟩:=Vp;have w1:IntKind.i64.wrap (((rest.length+1:Nat):Int) - 1)=(rest.length:Int):=by rw[B2]<;>omega
   have w2:IntKind.i64.wrap (a+b)=a+b:=by rw[B2]<;>omega
   have bad:((rest.length:Int)<a+b∨(a+b<(rest.length:Int)/\(j:Int)≠2))∨¬((rest.length:Int)<a+b∨(a+b<(rest.length:Int)/\(j:Int)≠2)):=Classical.em _;rcases bad with bad | OY
   . rw[if_pos bad];have c1:¬(rest.length:Int)=a+b:=by omega
     by_cases c2:(j:Int)=2
     . have c3:(rest.length:Int)<a:=by omega
       simp only[go_sem,B3,w1,w2,c1,c2,c3];refine BX ?_;simp only[go_sem];simp[II,Dc.d,Cw,BY]
     . simp only[go_sem,B3,w1,w2,c1,c2];refine BX ?_;simp only[go_sem];simp[II,Dc.d,Cw,BY]
   . rw[if_neg OY];have w3:IntKind.i64.wrap ((rest.length:Int) - b)=((rest.length - b.toNat:Nat):Int):=by rw[B2]<;>omega
     have hKle:rest.length - b.toNat<=rest.length:=Nat.sub_le _ _;generalize hK:rest.length - b.toNat=K at*;have cc:(rest.length:Int)=a+b∨(¬(rest.length:Int)=a+b/\(j:Int)=2/\¬(rest.length:Int)<a):=by
       by_cases c1:(rest.length:Int)=a+b
       . exact .inl c1
       . exact .inr ⟨c1,by omega,by omega⟩
     have c1d:∀x:Bool,x=decide ((rest.length:Int)=a+b)->decide ((rest.length:Int)=a+b)=x:=λ _ h=>h.symm;cases hc1:decide ((rest.length:Int)=a+b);all_goals
       first
         | (have U1:decide ((j:Int)=2)=true:=by simp at hc1;simp;omega
            have hc3:decide ((rest.length:Int)<a)=false:=by simp at hc1 U1;simp;omega
            simp only[go_sem,B3,w1,w2,w3,hc1,U1,hc3])
         | simp only[go_sem,B3,w1,w2,w3,hc1]
       refine B4 (λ q:Nat×List (List UInt8)×List Int=>⟨[(1,.ptr 1 0),(2,.ptr 2 0),(4,.ptr 4 0),(5,.p (.int .i64 (K:Nat))),(7,.p (.int .i64 (rest.length:Nat))),(8,.p (.int .i64 (q.1:Nat)))],
           [(1,.box [.p (.int .i64 num),.p (.sl (Cw (w::rest)))]),(2,.box [.p (.int .i64 0),.p (.int .i64 0),.cl [],.cl []]),
            (4,.box [.p (.int .i64 j),.p (.int .i64 num),.ref 80 0 q.2.1.length q.2.1.length,.ref 94 0 q.2.2.length q.2.2.length]),(80,.arr 9 1 (Cw q.2.1)),(94,.arr 3 1 (BY q.2.2))],97⟩)
         (λ q=>q.1<=rest.length/\q.2.1.length<=q.1/\q.2.2.length<=q.1/\rd (K - q.1) (rest.drop q.1) ⟨j,num,q.2.1,q.2.2⟩=rd K rest ⟨j,num,[],[]⟩)
         (λ q=>rest.length - q.1) (0,[],[]) ⟨AD _,by simp,by simp,by simp⟩
         ((Wk.Fq (id:=4) (j:=2) (q:=80) (sz:=1) 9 rfl rfl rfl (by decide)).trans ((Wk.Fq (id:=4) (j:=3) (q:=94) (sz:=1) 3 rfl rfl rfl (by decide)).trans (Wk.forget (by simp[ZF,Cw,BY])))) ?_
       rintro ⟨i,ns,ks⟩ n ⟨hi,XA,hn2,he⟩ ih;simp only at hi XA hn2 he;simp only[go_sem];refine Cv (λ h2=>?_) (λ h2=>?_)
       . have Cr:i<rest.length:=by simp at h2;omega
         have hw:=Ca i (by omega);have hw':IntKind.i64.wrap (1+(i:Int))=((i+1:Nat):Int):=by rw[B2]<;>omega
         have T6:rest.drop i=rest.getD i []::rest.drop (i+1):=by rw[AW Cr];simp[List.getD,Cr]
         rw[T6] at he;have I3:((i+1:Nat):Int)<((rest.length+1:Nat):Int):=by omega
         have C0:(0:Int)<=((i+1:Nat):Int):=by omega
         have hg:=Dz (w::rest) (i+1) (by simp;omega);simp only[List.getD_cons_succ] at hg;generalize hs:rest.getD i []=s at he hg;simp only[go_sem,Ab,B3,hg,hw',I3,C0];by_cases hK0:i<K
         . have hKd:decide ((i:Int)<(K:Int))=true:=by simp;omega
           simp only[go_sem,hKd];refine Cq (PF _) ?_;rw[show K - i=(K - (i+1))+1 by omega] at he;cases SQ:CY s
           . simp only[go_sem,SQ];refine BX ?_;simp only[go_sem];rw[<-he];simp[rd,SQ,II,Dc.d,Cw,BY]
           . simp only[go_sem,SQ,hw,B3];refine ⟨⟨Dq _ _ rfl,by omega⟩,?_⟩;refine ih (i+1,ns++[s],ks) _ ⟨Cr,by simp only[Aq,Al,Ax];omega,by simp only;omega,by rw[<-he];simp only[rd,SQ,AP]⟩ (by simp only;omega) ?_
             (refine Wk.forget ?_;simp[ZF,Dx,B3];done)
         . have hKd:decide ((i:Int)<(K:Int))=false:=by simp;omega
           simp only[go_sem,hKd];refine Cq (Aa9 _) ?_;rw[show K - i=0 by omega] at he;cases SQ:(Ka s).2
           . simp only[go_sem,SQ];refine BX ?_;simp only[go_sem];rw[<-he];simp[rd,SQ,II,Dc.d,Cw,BY]
           . simp only[go_sem,SQ,hw,BW];refine ⟨⟨Dq _ _ rfl,by omega⟩,?_⟩;refine ih (i+1,ns,ks++[(Ka s).1]) _ ⟨Cr,by simp only;omega,by simp only[Aq,Al,Ax];omega,by rw[<-he,show K - (i+1)=0 by omega];simp only[rd,SQ,AP]⟩ (by simp only;omega) ?_
             (refine Wk.forget ?_;simp[ZF,DN,BW];done)
       . simp only[go_sem];have T1:i=rest.length:=by simp at h2;omega
         subst T1;refine BX ?_;simp only[go_sem];rw[A2] at he;simp only[rd] at he;rw[<-he,FN _ _ (Ai _),Gt _ _ (Ai _)];simp[Dc.d,B3,BW]
theorem Aiu(j:Nat)(h1:1<=j)(h6:j<7):B1 prog 99 [.p (.int .i64 (j:Nat))] [] λ h r=>h=[]/\r= .p (.str (E3 j).word):=by
 refine B0 func99 rfl Alw (by simp[Tryz.f99]) ?_;have hj:j=1∨j=2∨j=3∨j=4∨j=5∨j=6:=by omega
 rcases hj with rfl | rfl | rfl | rfl | rfl | rfl<;>
 . simp only[go_sem];try rfl
theorem Adc(d:Dc)(hd:d.names.length<=10000000/\d.B7.length<=10000000):B1 prog 75 [d.d] [] λ h r=>h=[]/\r= .p (.bool (Da d)):=by
 obtain ⟨word,line,names,B7⟩:=d;simp only at hd;refine B0 func75 rfl ZJ (by simp[Tryz.f75]) ?_;by_cases h1:word<1
 . have hv:Da ⟨word,line,names,B7⟩=false:=by simp[Da];intro h;omega
   simp only[go_sem,Dc.d,h1,hv]
 by_cases h2:6<word
 . have hv:Da ⟨word,line,names,B7⟩=false:=by simp[Da];intro h;omega
   simp only[go_sem,Dc.d,h1,h2,hv]
 have hv:Da ⟨word,line,names,B7⟩=(decide ((B7.length:Int)=(Cx word).2)&&((decide ((names.length:Int)=(Cx word).1)||(decide ((Cx word).1<(names.length:Int))&&decide (word=2)))&&
   (names.all CY&&B7.all λ n=>!(decide (n< -9999)||decide (9999<n))))):=by
   have:decide ((1:Int)<=word/\word<=6)=true:=by simp;omega
   simp only[Da,this,Ba]
 rw[hv];clear hv;simp only[go_sem,Dc.d,h1,h2];refine Cq ((YK word)) ?_;generalize hA:(Cx word).1=a at*;generalize hB:(Cx word).2=b at*;cases c1:decide ((B7.length:Int)=b)
 . simp only[go_sem,c1,BW,B3];try simp
 cases c2:decide ((names.length:Int)<a);rotate_left
 . have e1:=Ad c2;have c3:decide ((names.length:Int)=a)=false:=by rw[A6];omega
   have c4:decide (a<(names.length:Int))=false:=by rw[A6];omega
   simp only[go_sem,c1,c2,BW,B3];try simp[c3,c4]
 have e2:=Ae c2;have hpq:∀Q:Bool,(decide (a<(names.length:Int))&&!decide (word=2))=false->((decide ((names.length:Int)=a)||(decide (a<(names.length:Int))&&decide (word=2)))&&Q)=Q:=by
   intro Q hq;cases c3:decide (a<(names.length:Int))<;>cases c4:decide (word=2)
   . have:decide ((names.length:Int)=a)=true:=by have:=Ae c3;rw[decide_eq_true_iff];omega
     simp[this]
   . have:decide ((names.length:Int)=a)=true:=by have:=Ae c3;rw[decide_eq_true_iff];omega
     simp[this]
   . simp[c3,c4] at hq
   . simp
 have hpz:(decide (a<(names.length:Int))&&!decide (word=2))=true->∀Q:Bool,((decide ((names.length:Int)=a)||(decide (a<(names.length:Int))&&decide (word=2)))&&Q)=false:=by
   intro hq Q;simp only[As,BA,Au,A6] at hq;have:decide ((names.length:Int)=a)=false:=by rw[A6];omega
   simp[this,hq.2]
 cases hq:(decide (a<(names.length:Int))&&!decide (word=2));rotate_left
 . rw[hpz hq];rw[As,BA] at hq;simp only[go_sem,c1,c2,hq.1,hq.2,BW,B3];try rfl
 rw[hpq _ hq];cases c3:decide (a<(names.length:Int))<;>cases c4:decide (word=2)
 case true.false=>rw[c3,c4] at hq;cases hq
 all_goals
   simp only[go_sem,c1,c2,c3,c4,BW,B3];refine B4 (λ i:Nat=>⟨[(1,.ptr 1 0),(5,.p (.int .i64 (i:Nat)))],[(1,.box [.p (.int .i64 word),.p (.int .i64 line),.p (.sl (Cw names)),.p (.sl (BY B7))])],80⟩)
     (λ i=>i<=names.length/\(names.take i).all CY=true) (λ i=>names.length - i) 0 ⟨AD _,by simp⟩ (Wk.forget (by simp[ZF])) ?_
   rintro i n ⟨hi,ha⟩ ih;cases c5:decide ((i:Int)<(names.length:Int))
   . have:i=names.length:=by have:=Ae c5;omega
     subst this;clear ih;rw[Ar] at ha;simp only[go_sem,c5,B3];rw[ha];refine B4 (λ i:Nat=>⟨[(1,.ptr 1 0),(6,.p (.int .i64 (i:Nat)))],[(1,.box [.p (.int .i64 word),.p (.int .i64 line),.p (.sl (Cw names)),.p (.sl (BY B7))])],80⟩)
       (λ i=>i<=B7.length/\(B7.take i).all (λ n=>!(decide (n< -9999)||decide (9999<n)))=true) (λ i=>B7.length - i) 0 ⟨AD _,by simp⟩ (Wk.forget (by simp[ZF])) ?_
     rintro i n ⟨hi,hb⟩ ih;cases c6:decide ((i:Int)<(B7.length:Int))
     . have:i=B7.length:=by have:=Ae c6;omega
       subst this;rw[Ar] at hb;simp only[go_sem,c6,BW];rw[hb];try rfl
     . have hit:i<B7.length:=by have:=Ad c6;omega
       have hg:=Ch B7 i hit;have C0:(0:Int)<=(i:Int)/\(i:Int)<(B7.length:Int):=by omega
       have QB:=CI B7 i 0 hit;have Dw:∀y,B7.getD i 0=y->(!(decide (y< -9999)||decide (9999<y)))=false->B7.all (λ n=>!(decide (n< -9999)||decide (9999<n)))=false:=by
         intro y hy hf;rw[List.all_eq_false];exact ⟨_,CB B7 i 0 hit,by rw[hy,hf];simp⟩
       generalize B7.getD i 0=y at*;cases c7:decide (y< -9999)
       . cases c8:decide (9999<y)
         . simp only[go_sem,c6,BW,Ab,hg,C0,c7,c8,Ca i (by omega)];refine ih (i+1) _ ⟨hit,by rw[QB,List.all_append,hb];simp[c7,c8]⟩ (by omega) (Wk.forget (by simp[ZF]))
         . simp only[go_sem,c6,BW,Ab,hg,C0,c7,c8];rw[Dw y rfl (by rw[c7,c8];rfl)];try rfl
       . simp only[go_sem,c6,BW,Ab,hg,C0,c7];rw[Dw y rfl (by rw[c7];rfl)];try rfl
   . have hit:i<names.length:=by have:=Ad c5;omega
     have hg:=Dz names i hit;have C0:(0:Int)<=(i:Int)/\(i:Int)<(names.length:Int):=by omega
     have QB:=CI names i [] hit;have Dw:∀y,names.getD i []=y->CY y=false->names.all CY=false:=by
       intro y hy hf;rw[List.all_eq_false];exact ⟨_,CB names i [] hit,by rw[hy,hf];simp⟩
     generalize names.getD i []=y at*;simp only[go_sem,c5,B3,Ab,hg,C0];refine Cq ((PF y)) ?_;cases c6:CY y
     . simp only[go_sem];rw[Dw y rfl c6];try rfl
     . simp only[go_sem,Ca i (by omega)];refine ih (i+1) _ ⟨hit,by rw[QB,List.all_append,ha];simp[c6]⟩ (by omega) (Wk.forget (by simp[ZF]))
theorem Ar5(d:List Dc)(hd:d.length<=10000000)(hs:∀x∈d,x.names.length<=10000000/\x.B7.length<=10000000):
   B1 prog 54 [.p (.sl (DM d))] [] λ h r=>h=[]/\r=Ayf (Qc d []):=by
 refine B0 func54 rfl Amr (by simp[Tryz.f54]) ?_;simp only[go_sem,CO];refine B4 (λ q:Nat×List Ln=>⟨[(0,.p (.sl (DM d))),(5,.p (.int .i64 (q.1:Nat))),(4,.ref 66 0 q.2.length q.2.length)],[(66,.arr 80 2 (EO q.2))],68⟩)
   (λ q=>q.1<=d.length/\q.2.length<=q.1/\Qc (d.drop q.1) q.2=Qc d []) (λ q=>d.length - q.1) (0,[]) ⟨AD _,by simp,by simp⟩ ((Wk.nil (t:=4) (q:=66) (sz:=2) 80 rfl rfl (by decide)).trans (Wk.forget (by simp[ZF,EO]))) ?_
 rintro ⟨i,acc⟩ n ⟨hi,ha,he⟩ ih;simp only at hi ha he;cases c1:decide ((i:Int)<(d.length:Int))
 . have:i=d.length:=by have:=Ae c1;omega
   subst this;simp only[go_sem,CO,c1];refine BX ?_;simp only[go_sem];rw[A2] at he;simp only[Qc] at he;rw[<-he,Rx _ _ (Ai _)];exact ⟨(CM acc).symm,rfl⟩
 have Cr:i<d.length:=by have:=Ad c1;omega
 have hw:=Ca i (by omega);have T6:=C8 d i II Cr;rw[T6] at he;have hx:=hs _ (CB d i II Cr);have hg:=ZW d i Cr;generalize hxe:d.getD i II=x at*;have C0:(0:Int)<=(i:Int)/\(i:Int)<(d.length:Int):=by omega
 simp only[go_sem,CO,Ab,hg,C0,c1];refine Cq ((Adc x ⟨hx.1,hx.2⟩)) ?_;cases hv:Da x
 . simp only[go_sem];refine BX ?_;simp only[go_sem];simp only[Qc,hv] at he;rw[<-he];rfl
 obtain ⟨Xw,hw2,hw3,hw4,hw5⟩:=(HL x).1 hv;obtain ⟨word,line,names,B7⟩:=x;simp only at Xw hw2 hw3 hw4 hw5 hx hg;obtain ⟨j,rfl⟩:∃j:Nat,word=(j:Int):=⟨word.toNat,by omega⟩;have hfw:[[Pd.str (E3 j).word]]++Cw names=Cw ((E3 j).word::names):=rfl;have Af8:JS 1 (Cw names):=by simp[JS,Cw]
 simp only[go_sem];refine CH mixed (p:=[(0,0),(1,0),(2,0),(3,0),(4,0),(5,0),(6,0),(7,0),(8,0),(9,0),(12,0),(13,0),(14,0),(15,0),(16,0),(19,1),(10,2),(11,1),(17,2),(18,0),(20,3)]) (by kernel_rfl) (by simp[C3,get]) ?_;simp only[go_sem,CO,Ab,hg,C0];refine Gq ((Aiu j (by omega) (by omega))) ?_;simp only[go_sem,CO,Ab,hg,C0,hfw,B3];refine ⟨⟨Af8,by omega,by omega⟩,?_⟩;refine B4 (λ q:Nat×List (List UInt8)=>⟨[(0,.p (.sl (DM d))),(5,.p (.int .i64 (i:Nat))),(4,.ref 66 0 acc.length acc.length),(6,.ptr 6 0),(7,.p (.int .i64 (q.1:Nat)))],
     [(6,.box [.p (.int .i64 line),.ref 31 0 q.2.length q.2.length]),(31,.arr 9 1 (Cw q.2)),(66,.arr 80 2 (EO acc))],68⟩)
   (λ q=>q.1<=B7.length/\q.2.length<=10000001+q.1/\q.2++(B7.drop q.1).map Vv=F9 ⟨j,line,names,B7⟩) (λ q=>B7.length - q.1) (0,(E3 j).word::names) ⟨AD _,by simp;omega,by simp[F9]⟩
   (Wk.forget (by simp[ZF,BW,Cw])) ?_
 rintro ⟨m,fs⟩ n2 ⟨hm,hfs,he2⟩ HG;simp only at hm hfs he2;cases c2:decide ((m:Int)<(B7.length:Int));rotate_left
 . have hmt:m<B7.length:=by have:=Ad c2;omega
   have hwm:=Ca m (by omega);have hgm:=Ch B7 m hmt;have hnm:=hw5 _ (CB B7 m 0 hmt);rw[C8 B7 m 0 hmt] at he2;generalize hk:B7.getD m 0=k at*;have hm0:(0:Int)<=(m:Int)/\(m:Int)<(B7.length:Int):=by omega
   simp only[go_sem,BW,CO,Ab,hg,C0,hgm,hm0,c2];refine Di [(6,.box [.p (.int .i64 line),.ref 31 0 fs.length fs.length])] mixed (p:=[(0,0),(1,0),(2,0),(3,0),(4,0),(5,0),(6,0),(7,0),(8,0),(9,0),(10,2),(11,1),(12,2),(13,0),(14,3)]) (by kernel_rfl) (by simp[C3,get]) ?_;simp only[go_sem,BW,CO,Ab,hg,C0,hgm,hm0];refine Gq ((Ahj k (by omega) (by omega))) ?_;simp only[go_sem,B3];refine ⟨⟨Dq _ _ rfl,by omega⟩,?_⟩;simp only[go_sem,hwm];refine HG (m+1,fs++[Vv k]) _ ⟨hmt,by simp;omega,by rw[<-he2];simp⟩ (by simp only;omega) ?_
   (refine Wk.forget ?_;simp[ZF,Dx,B3];done)
 . have hml:m=B7.length:=by have:=Ae c2;omega
   subst hml;simp only[A2,BE,List.append_nil] at he2;simp only[go_sem,B3,CM,BW,CO,Ab,hg,C0,FN fs fs.length (Ai _),hw,c2];refine ⟨⟨Dq _ _ rfl,by omega⟩,?_⟩;simp only[Qc,hv,AP] at he;refine ih (i+1,acc++[⟨line,fs⟩]) _ ⟨Cr,by simp;omega,by rw[he2];exact he⟩ (by simp only;omega) ?_
   (refine Wk.forget ?_;simp[ZF,Jk,CM];done)
theorem Yp(l:List (List UInt8))(x:List UInt8)(h:l≠[]):FP (l++[x])=FP l++[32]++x:=by
 cases l with
 | nil=>exact (h rfl).elim
 | cons y r=>simp[FP]
theorem Ac0(a b:List (List UInt8)):Ld (a++b)=Ld a+Ld b:=by
 induction a with
 | nil=>simp[Ld]
 | cons x r ih=>simp only[A5,Ld,ih];omega
theorem Aiw(l:List (List UInt8))(i:Nat):Ld (l.take i)<=Ld l:=by
 have:=Ac0 (l.take i) (l.drop i);rw[List.take_append_drop] at this;omega
theorem Ad8(l:List (List UInt8)):(FP l).length<=Ld l:=by
 cases l with
 | nil=>simp[FP,Ld]
 | cons x r=>have:=Ow (x::r) (by simp);omega
theorem Aik(fs:List (List UInt8))(hl:fs.length<=100000000)(hs:Ld fs<=1000000000000):B1 prog 101 [.p (.sl (Cw fs))] [] λ h r=>h=[]/\r= .p (.str (FP fs)):=by
 refine B0 func101 rfl Ah3 (by simp[Tryz.f101]) ?_;simp only[go_sem];refine B4 (λ i:Nat=>⟨[(0,.p (.sl (Cw fs))),(3,.p (.str (FP (fs.take i)))),(4,.p (.int .i64 (i:Nat)))],[],22⟩) (λ i=>i<=fs.length) (λ i=>fs.length - i) 0 (AD _) (Wk.forget (by simp[ZF,List.take_zero,FP])) ?_;intro i n hi ih;simp only[go_sem,B3];refine Cv (λ h1=>?_) (λ h1=>?_)
 . have Cr:i<fs.length:=by simp at h1;omega
   have C0:(0:Int)<=(i:Int)/\(i:Int)<(fs.length:Int):=by omega
   have hw:=Ca i (by omega);have hg:=Dz fs i Cr;have Zn:fs.take (i+1)=fs.take i++[fs.getD i []]:=by
     rw[List.take_succ_eq_append_getElem Cr];simp[List.getD,Cr]
   have Ax1:=Aiw fs (i+1);have hszl:=Ad8 (fs.take i);rw[Zn,Ac0] at Ax1;generalize hx:fs.getD i []=x at*;simp only[Ld] at Ax1;by_cases h0:i=0
   . subst h0;have hx0:fs.take (0+1)=[x]:=by rw[Zn];simp
     have hd:(0:Int)<(fs.length:Int):=by omega
     have Bau:IntKind.i64.wrap 1=1:=rfl;simp only[go_sem,B3,Ab,hg,hd,Int.reduceToNat,List.take_zero,FP];refine ⟨by unfold maxLen;simp[FP];omega,?_⟩;refine ih (0+1) _ Cr (by omega) (Wk.forget (by simp[ZF,hx0,FP,List.flatMap_nil,Bau]))
   . have Dl:fs.take i≠[]:=by
       intro h;have:=congrArg List.length h;simp at this;rcases this with h | h
       . exact h0 h
       . subst h;simp at Cr
     have hd:(0:Int)<(i:Int):=by omega
     have hsn:=Yp (fs.take i) x Dl;rw[<-Zn] at hsn;simp only[go_sem,B3,Ab,hg,hd,C0];refine ⟨by unfold maxLen;simp;omega,by unfold maxLen;simp;omega,?_⟩;simp only[go_sem,hw];refine ih (i+1) _ Cr (by omega) (Wk.forget (by simp[ZF,hsn]))
 . have Wf:i=fs.length:=by simp at h1;omega
   subst Wf;simp only[go_sem,Ar]
theorem Afm(l:List Ln)(hl:l.length<=4000000/\∀x∈l,x.fs.length<=4000000/\∀s∈x.fs,s.length<=4000000):B1 prog 100 [.p (.sl (EO l))] [] λ h r=>h=[]/\r= .p (.bool (E4 0 l)):=by
 obtain ⟨hl,hz⟩:=hl;refine B0 func100 rfl Ah4 (by simp[Tryz.f100]) ?_;simp only[go_sem];refine B4 (λ i:Nat=>⟨[(0,.p (.sl (EO l))),(3,.p (.int .i64 (i:Nat)))],[],82⟩)
   (λ i=>i<=l.length/\(i=0∨(0<i/\1<=(l.getD (i - 1) Y7).num))/\E4 (if i=0 then 0 else (l.getD (i - 1) Y7).num) (l.drop i)=E4 0 l) (λ i=>l.length - i) 0 ⟨AD _,.inl rfl,by simp⟩ (Wk.forget (by simp[ZF])) ?_
 rintro i n ⟨hi,XA,hf⟩ ih;simp only[go_sem,CM];refine Cv (λ h1=>?_) (λ h1=>?_);rotate_left
 . have Wf:i=l.length:=by simp at h1;omega
   subst Wf;simp only[go_sem];rw[<-hf];simp[E4]
 have Cr:i<l.length:=by simp at h1;omega
 have C0:(0:Int)<=(i:Int)/\(i:Int)<(l.length:Int):=by omega
 have hw:=Ca i (by omega);have hg:=M9 l i Cr;have hzx:=hz _ (CB l i Y7 Cr);rw[C8 l i Y7 Cr] at hf;generalize hx:l.getD i Y7=x at*;obtain ⟨num,fs⟩:=x;simp only at hg hzx;rcases XA with h0 | ⟨h0,hp1⟩
 . simp only[h0,AP] at hf;rw[<-h0] at hf;have H7:¬(0:Int)<(i:Int):=by omega
   simp only[go_sem];refine CH mixed (p:=[(0,0),(1,0),(2,0),(3,0),(4,0),(5,0),(6,0),(7,0),(8,0),(9,0),(10,0),(11,0),(12,0),(13,0),(14,0),(15,0),(16,0),(17,0),(18,0),(19,0),(20,0),(21,0),(22,0),(23,0),(24,0),(25,0),(26,0),(27,0),(28,0),(29,0),(30,0),(31,0),(32,0)]) (by kernel_rfl) (by simp[C3,get]) ?_;by_cases c1:num<1
   . simp only[go_sem,CM,Ab,hg,C0,H7,c1];have:¬0<num:=by omega
     rw[<-hf];simp[E4,this]
   by_cases c2:(fs.length:Int)=0
   . simp only[go_sem,CM,B3,Ab,hg,C0,H7,c1,c2];have:fs=[]:=AY (by omega);rw[<-hf];simp[E4,this]
   simp only[go_sem,CM,B3,Ab,hg,C0,H7,c1,c2];have Dl:fs≠[]:=by rintro rfl;simp at c2
   have R4:0<num:=by omega
   have h1n:1<=num:=by omega
   refine B4 (λ j:Nat=>⟨[(0,.p (.sl (EO l))),(3,.p (.int .i64 (i:Nat))),(4,.p (.int .i64 (j:Nat)))],[],82⟩) (λ j=>j<=fs.length/\(fs.drop j).all FC=fs.all FC) (λ j=>fs.length - j) 0 ⟨AD _,by simp⟩ (Wk.forget (by simp[ZF])) ?_;rintro j n2 ⟨hj,Hf⟩ HG;simp only[go_sem,CM,Ab,hg,C0,B3];refine Cv (λ h2=>?_) (λ h2=>?_)
   . have Zs:j<fs.length:=by simp at h2;omega
     have Vm:(0:Int)<=(j:Int)/\(j:Int)<(fs.length:Int):=by omega
     have Ye:=Ca j (by omega);have hgj:=Dz fs j Zs;have hsx:=hzx.2 _ (CB fs j [] Zs);rw[C8 fs j [] Zs] at Hf;generalize fs.getD j []=s at*;simp only[go_sem,CM,Ab,hg,C0,B3,hgj,Vm];have Abn:FC s=false->E4 0 l=false:=λ h=>by
       have:fs.all FC=false:=by rw[<-Hf];simp[h]
       rw[<-hf];simp[E4,this]
     by_cases p7:s=[]
     . subst p7;simp only[go_sem];rw[Abn rfl]
     by_cases Aky:(12:Int)<(s.length:Int)
     . simp only[go_sem,p7,Aky];have:¬s.length<=12:=by omega
       rw[Abn (by simp[FC,this])]
     simp only[go_sem,p7,Aky];have Akx:s.length<=12:=by omega
     have hpp:FC s=s.all λ b=>Iu b.toNat:=by simp[FC,p7,Akx]
     refine B4 (λ q:Nat=>⟨[(0,.p (.sl (EO l))),(3,.p (.int .i64 (i:Nat))),(4,.p (.int .i64 (j:Nat))),(5,.p (.str s)),(6,.p (.int .i64 (q:Nat)))],[],82⟩) (λ q=>q<=s.length/\((s.drop q).all λ b=>Iu b.toNat)=FC s) (λ q=>s.length - q) 0 ⟨AD _,by simp[hpp]⟩ (Wk.forget (by simp[ZF])) ?_;rintro q n3 ⟨hq,hqa⟩ ih3;simp only[go_sem];refine Cv (λ h3=>?_) (λ h3=>?_)
     . have hqt:q<s.length:=by simp at h3;omega
       have hq0:(0:Int)<=(q:Int)/\(q:Int)<(s.length:Int):=by omega
       have hwq:=Ca q (by omega);rw[C8 s q 0 hqt] at hqa;generalize hb:s.getD q 0=b at*;simp only[go_sem,Ab,hq0,hb];refine Cq ((Ni (b.toNat:Int))) ?_;cases ha:Iu b.toNat
       . simp only[go_sem,ha];rw[Abn (by rw[<-hqa];simp[ha])]
       . simp only[go_sem,ha,hwq];refine ih3 (q+1) _ ⟨hqt,by rw[<-hqa];simp[ha]⟩ (by omega) (Wk.forget (by simp[ZF]))
     . have hqe:q=s.length:=by simp at h3;omega
       subst hqe;rw[A2] at hqa;simp only[List.all_nil] at hqa;simp only[go_sem,Ye];refine HG (j+1) _ ⟨Zs,by rw[<-Hf];simp[<-hqa]⟩ (by omega) (Wk.forget (by simp[ZF]))
   . have hje:j=fs.length:=by simp at h2;omega
     subst hje;rw[A2] at Hf;simp only[List.all_nil] at Hf;simp only[go_sem,hw];refine ih (i+1) _ ⟨Cr,.inr ⟨by omega,by rw[Nat.add_sub_cancel,hx];simp only;omega⟩,?_⟩ (by omega) (Wk.forget (by simp[ZF]));rw[<-hf,if_neg (by omega),Nat.add_sub_cancel,hx];simp only[E4,<-Hf,Dl,R4,decide_true,Ba,ne_eq,not_false_eq_true]
 . rw[if_neg (by omega)] at hf;have hgp:=M9 l (i - 1) (by omega);generalize hy:l.getD (i - 1) Y7=y at*;obtain ⟨pn,pf⟩:=y;simp only at hgp hf hp1;have H7:(0:Int)<(i:Int):=by omega
   have hip:(0:Int)<=((i - 1:Nat):Int)/\((i - 1:Nat):Int)<(l.length:Int):=by omega
   have hwp:IntKind.i64.wrap ((i:Int) - 1)=((i - 1:Nat):Int):=by rw[B2]<;>omega
   simp only[go_sem];refine CH mixed (p:=[(0,0),(1,0),(2,0),(3,0),(4,0),(5,0),(6,0),(7,0),(8,0),(9,0),(10,0),(11,0),(12,0),(13,0),(14,0),(15,0),(16,0),(17,0),(18,0),(19,0),(20,0),(21,0),(22,0),(23,0),(24,0),(25,0),(26,0),(27,0),(28,0),(29,0),(30,0),(31,0),(32,0)]) (by kernel_rfl) (by simp[C3,get]) ?_;by_cases c1:num<1
   . simp only[go_sem,CM,Ab,hg,C0,H7,c1];have:¬pn<num:=by omega
     rw[<-hf];simp[E4,this]
   by_cases c0:num<=pn
   . simp only[go_sem,CM,Ab,hg,C0,H7,c1,hwp,hip,hgp,c0];have:¬pn<num:=by omega
     rw[<-hf];simp[E4,this]
   by_cases c2:(fs.length:Int)=0
   . simp only[go_sem,CM,B3,Ab,hg,C0,H7,c1,c2,hwp,hip,hgp,c0];have:fs=[]:=AY (by omega);rw[<-hf];simp[E4,this]
   simp only[go_sem,CM,B3,Ab,hg,C0,H7,c1,c2,hwp,hip,hgp,c0];have Dl:fs≠[]:=by rintro rfl;simp at c2
   have R4:pn<num:=by omega
   have h1n:1<=num:=by omega
   refine B4 (λ j:Nat=>⟨[(0,.p (.sl (EO l))),(3,.p (.int .i64 (i:Nat))),(4,.p (.int .i64 (j:Nat)))],[],82⟩) (λ j=>j<=fs.length/\(fs.drop j).all FC=fs.all FC) (λ j=>fs.length - j) 0 ⟨AD _,by simp⟩ (Wk.forget (by simp[ZF])) ?_;rintro j n2 ⟨hj,Hf⟩ HG;simp only[go_sem,CM,Ab,hg,C0,B3];refine Cv (λ h2=>?_) (λ h2=>?_)
   . have Zs:j<fs.length:=by simp at h2;omega
     have Vm:(0:Int)<=(j:Int)/\(j:Int)<(fs.length:Int):=by omega
     have Ye:=Ca j (by omega);have hgj:=Dz fs j Zs;have hsx:=hzx.2 _ (CB fs j [] Zs);rw[C8 fs j [] Zs] at Hf;generalize fs.getD j []=s at*;simp only[go_sem,CM,Ab,hg,C0,B3,hgj,Vm];have Abn:FC s=false->E4 0 l=false:=λ h=>by
       have:fs.all FC=false:=by rw[<-Hf];simp[h]
       rw[<-hf];simp[E4,this]
     by_cases p7:s=[]
     . subst p7;simp only[go_sem];rw[Abn rfl]
     by_cases Aky:(12:Int)<(s.length:Int)
     . simp only[go_sem,p7,Aky];have:¬s.length<=12:=by omega
       rw[Abn (by simp[FC,this])]
     simp only[go_sem,p7,Aky];have Akx:s.length<=12:=by omega
     have hpp:FC s=s.all λ b=>Iu b.toNat:=by simp[FC,p7,Akx]
     refine B4 (λ q:Nat=>⟨[(0,.p (.sl (EO l))),(3,.p (.int .i64 (i:Nat))),(4,.p (.int .i64 (j:Nat))),(5,.p (.str s)),(6,.p (.int .i64 (q:Nat)))],[],82⟩) (λ q=>q<=s.length/\((s.drop q).all λ b=>Iu b.toNat)=FC s) (λ q=>s.length - q) 0 ⟨AD _,by simp[hpp]⟩ (Wk.forget (by simp[ZF])) ?_;rintro q n3 ⟨hq,hqa⟩ ih3;simp only[go_sem];refine Cv (λ h3=>?_) (λ h3=>?_)
     . have hqt:q<s.length:=by simp at h3;omega
       have hq0:(0:Int)<=(q:Int)/\(q:Int)<(s.length:Int):=by omega
       have hwq:=Ca q (by omega);rw[C8 s q 0 hqt] at hqa;generalize hb:s.getD q 0=b at*;simp only[go_sem,Ab,hq0,hb];refine Cq ((Ni (b.toNat:Int))) ?_;cases ha:Iu b.toNat
       . simp only[go_sem,ha];rw[Abn (by rw[<-hqa];simp[ha])]
       . simp only[go_sem,ha,hwq];refine ih3 (q+1) _ ⟨hqt,by rw[<-hqa];simp[ha]⟩ (by omega) (Wk.forget (by simp[ZF]))
     . have hqe:q=s.length:=by simp at h3;omega
       subst hqe;rw[A2] at hqa;simp only[List.all_nil] at hqa;simp only[go_sem,Ye];refine HG (j+1) _ ⟨Zs,by rw[<-Hf];simp[<-hqa]⟩ (by omega) (Wk.forget (by simp[ZF]))
   . have hje:j=fs.length:=by simp at h2;omega
     subst hje;rw[A2] at Hf;simp only[List.all_nil] at Hf;simp only[go_sem,hw];refine ih (i+1) _ ⟨Cr,.inr ⟨by omega,by rw[Nat.add_sub_cancel,hx];simp only;omega⟩,?_⟩ (by omega) (Wk.forget (by simp[ZF]));rw[<-hf,if_neg (by omega),Nat.add_sub_cancel,hx];simp only[E4,<-Hf,Dl,R4,decide_true,Ba,ne_eq,not_false_eq_true]
theorem Akn(l:List Ln)(hl:l.length<=4000000/\∀x∈l,x.fs.length<=4000000/\x.num<=9223372036854775807/\∀s∈x.fs,s.length<=4000000):B1 prog 55 [.p (.sl (EO l))] [] λ h r=>h=[]/\r=Asm (PO l):=by
 refine B0 func55 rfl Amq (by simp[Tryz.f55]) ?_;simp only[go_sem];refine Cq ((Afm l ⟨hl.1,λ x hx=>⟨(hl.2 x hx).1,(hl.2 x hx).2.2⟩⟩)) ?_;obtain ⟨hl,hz⟩:=hl;cases Ok:E4 0 l
 . simp only[go_sem,Ok];rw[show PO l=([],20) by simp[PO,Ok]];refine BX ?_;simp only[go_sem];rfl
 simp only[go_sem,Ok];have big:6000<(Hj 1 l).length->PO l=([],1):=λ h=>by simp[PO,Ok,h]
 refine B4 (λ q:Nat×Nat×List UInt8=>⟨[(0,.p (.sl (EO l))),(4,.p (.str q.2.2)),(5,.p (.int .i64 (q.2.1:Nat))),(6,.p (.int .i64 (q.1:Nat)))],[],50⟩)
   (λ q=>q.1<=l.length/\(1<=q.2.1/\q.2.1<=q.2.2.length+1/\q.2.2.length<=6000)/\E4 ((q.2.1 - 1:Nat):Int) (l.drop q.1)=true/\q.2.2++Hj q.2.1 (l.drop q.1)=Hj 1 l) (λ q=>l.length - q.1) (0,1,[])
   ⟨Nat.zero_le _,by simp,by simpa using Ok,by simp⟩ (Wk.forget (by simp[ZF])) ?_
 rintro ⟨i,num,txt⟩ n ⟨hi,SB,hf,ht⟩ ih;simp only at hi SB hf ht;simp only[go_sem,CM];refine Cv (λ h1=>?_) (λ h1=>?_);rotate_left
 . have Wf:i=l.length:=by simp at h1;omega
   subst Wf;rw[A2] at ht;simp only[Hj,List.append_nil] at ht;subst ht;simp only[go_sem];have Vm:PO l=(Hj 1 l,0):=by
     have:¬6000<(Hj 1 l).length:=by omega
     simp[PO,Ok,this]
   rw[Vm];refine BX ?_;simp only[go_sem];rfl
 have Cr:i<l.length:=by simp at h1;omega
 have C0:(0:Int)<=(i:Int)/\(i:Int)<(l.length:Int):=by omega
 have hw:=Ca i (by omega);have hg:=M9 l i Cr;have hzx:=hz _ (CB l i Y7 Cr);rw[C8 l i Y7 Cr] at hf ht;generalize l.getD i Y7=x at*;obtain ⟨xn,fs⟩:=x;obtain ⟨f1,f2,f3,f4⟩:=LK.1 hf;simp only at hg hzx f1 f2 f3 f4;obtain ⟨m,rfl⟩:∃m:Nat,xn=(m:Int):=⟨xn.toNat,by omega⟩;simp only[Hj,Ab] at ht;have hlen:=congrArg List.length ht;simp only[Aq,BB,Al] at hlen;have hwl:=Ow fs f2;have hle:num<=m:=by omega
 have hws:IntKind.i64.wrap ((m:Int) - (num:Int))=((m - num:Nat):Int):=by rw[B2]<;>omega
 by_cases Axs:(6000:Int)<((m - num:Nat):Int)
 . simp only[go_sem,CM,Ab,hg,C0,hws,Axs];rw[big (by omega)];refine BX ?_;simp only[go_sem];rfl
 simp only[go_sem,CM,Ab,hg,C0,hws,Axs];have hwords:Ld fs<=60000000:=by
   have key:∀r:List (List UInt8),(∀s∈r,FC s=true)->Ld r<=13*r.length:=by
     intro r
     induction r with
     | nil=>intro _;simp[Ld]
     | cons s r ih=>intro h;have h1:=ih (λ y hy=>h y (by simp[hy]));have h2:=(Nz.1 (h s (by simp))).2.1;simp only[Ld,Al];omega
   have:=key fs f3;omega
 refine B4 (λ q:Nat=>⟨[(0,.p (.sl (EO l))),(4,.p (.str (txt++List.replicate (q - num) 10))),(5,.p (.int .i64 (q:Nat))),(6,.p (.int .i64 (i:Nat)))],[],50⟩) (λ q=>num<=q/\q<=m) (λ q=>m - q) num ⟨Ai _,hle⟩ (Wk.forget (by simp[ZF,Nat.sub_self,List.replicate_zero,List.append_nil])) ?_;rintro q n2 ⟨TW,Vk⟩ HG;simp only[go_sem,CM,Ab,hg,C0];refine Cv (λ h2=>?_) (λ h2=>?_)
 . have hqm:q<m:=by simp at h2;omega
   have hwq:=Ca q (by omega);have Afb:txt++List.replicate (q - num) 10++[10]=txt++List.replicate (q+1 - num) (10:UInt8):=by
     rw[show q+1 - num=(q - num)+1 by omega,List.replicate_succ',A8]
   simp only[go_sem,hwq];refine ⟨by unfold maxLen;simp;omega,?_⟩;refine HG (q+1) _ ⟨by omega,by omega⟩ (by omega) (Wk.forget (by simp[ZF,Afb]))
 . have hqe:q=m:=by simp at h2;omega
   subst hqe;have hwq:=Ca q (by omega);simp only[go_sem,CM,Ab,hg,C0];refine Cq ((Aik fs (by omega) (by omega))) ?_;simp only[go_sem];refine ⟨by unfold maxLen;simp;omega,by unfold maxLen;simp;omega,?_⟩;have htx:txt++List.replicate (q - num) 10++(FP fs++[10])++Hj (q+1) (l.drop (i+1))=Hj 1 l:=by rw[<-ht];simp
   have hlen2:(txt++List.replicate (q - num) 10++(FP fs++[10])).length=txt.length+(q - num)+((FP fs).length+1):=by simp;omega
   generalize txt++List.replicate (q - num) 10++(FP fs++[10])=t2 at*;have Axm:=congrArg List.length htx;rw[Aq] at Axm;by_cases Axz:(6000:Int)<(t2.length:Int)
   . simp only[go_sem,hwq,Axz];rw[big (by omega)];refine BX ?_;simp only[go_sem];rfl
   . simp only[go_sem,hwq,Axz,hw];refine ih (i+1,q+1,t2) _ ⟨Cr,⟨by simp only;omega,by simp only;omega,by simp only;omega⟩,by simpa using f4,htx⟩ (by simp only;omega) (Wk.forget (by simp[ZF]))
theorem Aos(n:Int)(h0:0<=n)(h1:n<4294967296):((BitVec.ofInt 64 n&&& BitVec.ofInt 64 4294967295).toNat:Int)=n:=by
 obtain ⟨m,rfl⟩:=Int.eq_ofNat_of_zero_le h0;have h2:m<4294967296:=by omega
 rw[BitVec.toNat_and];have e1:(BitVec.ofInt 64 (m:Int)).toNat=m:=by
   simp only[BitVec.toNat_ofInt];omega
 have e2:(BitVec.ofInt 64 4294967295).toNat=2 ^ 32 - 1:=by decide
 rw[e1,e2,Nat.and_two_pow_sub_one_eq_mod];omega
theorem VO(n:Int)(h0:0<=n)(h1:n<4294967296):n.fdiv 4294967296=0:=by
 rw[Int.fdiv_eq_ediv_of_nonneg _ (by omega)];omega
theorem VC(n:Int)(h0:0<=n)(h1:n<4294967296):IntKind.u64.wrap n=n:=by
 simp[IntKind.wrap,IntKind.bits,IntKind.signed];omega
theorem Ak9(n:Int)(h0:0<=n)(h1:n<4294967296):
   B1 prog 163 [.p (.int .u64 1),.p (.int .u64 n)] [] λ h d=>h=[]/\d= .Dr [.p (.int .u64 0),.p (.int .u64 n)]:=by
 refine B0 func163 rfl Afy (by simp[Tryz.f163]) ?_;simp only[go_sem,h0,h1];all_goals (try refine BX ?_)
 have pw:(2:Int) ^ min 32 64=4294967296:=by decide
 have w0:=VC 0 (by omega) (by omega);have w1:=VC 1 (by omega) (by omega);have a1:=Aos 1 (by omega) (by omega);have a0:=Aos 0 (by omega) (by omega);have an:=Aos n h0 h1
 repeat erw [an]
 repeat erw [a1]
 simp only[pw,VO n h0 h1,VO 1 (by omega) (by omega),VO 0 (by omega) (by omega),VC n h0 h1,w0,w1,Int.zero_mul,Int.mul_zero,Int.zero_add,Int.add_zero,Int.one_mul]
 repeat erw [a0]
 simp only[pw,VO n h0 h1,VO 1 (by omega) (by omega),VO 0 (by omega) (by omega),VC n h0 h1,w0,w1,Int.zero_mul,Int.mul_zero,Int.zero_add,Int.add_zero,Int.one_mul];simp only[go_sem]
theorem Au3(n:Int)(h0:0<=n)(h1:n<4294967296):
   B1 prog 133 [.p (.int .u64 1),.p (.int .u64 n)] [] λ h d=>h=[]/\d= .Dr [.p (.int .u64 0),.p (.int .u64 n)]:=by
 refine B0 func133 rfl Agc (by simp[Tryz.f133]) ?_;simp only[go_sem,h0,h1];refine Cq ((Ak9 n h0 h1)) ?_;simp only[go_sem];all_goals (try refine BX ?_)
 all_goals (try simp only[go_sem])
theorem Iy{g:List (List Int)}(hg:D0 g){u:Nat}(hu:u<g.length){w:Int}(hw:w∈g.getD u []):0<=w/\w<(g.length:Int)/\w≠(u:Int):=by
 obtain ⟨k,hk,rfl⟩:=AA.1 hw;have:=hg.2 u hu k hk;unfold Jz at this;have e1:(g.getD u []).getD k 0=(g.getD u [])[k]:=getD_eq hk;rw[e1] at this;exact ⟨this.1,this.2.1,this.2.2.1⟩
structure DS(g:List (List Int))(sh:List Bool)(goal:Nat)(o:List Int):Prop where
 len:o.length=g.length
 lo:∀v,v<g.length->-1<=o.getD v 0
 zero:∀v,v<g.length->(o.getD v 0=0↔v=goal)
 prev:∀v,v<g.length->1<=o.getD v 0->∃w∈g.getD v [],o.getD w.toNat 0=o.getD v 0 - 1
 next:∀v,v<g.length->sh.getD v false=false->∀w∈g.getD v [],0<=o.getD w.toNat 0->0<=o.getD v 0/\o.getD v 0<=o.getD w.toNat 0+1
 shut:∀v,v<g.length->sh.getD v false=true->o.getD v 0=-1
theorem DS.le{g:List (List Int)}(hg:D0 g){sh:List Bool}{goal:Nat}{o p:List Int}(ho:DS g sh goal o)(hp:DS g sh goal p):
   ∀(k:Nat) (v:Nat),v<g.length->o.getD v 0=(k:Int)->0<=p.getD v 0/\p.getD v 0<=(k:Int)
 | 0,v,hv,h=>by
   have h1:=(ho.zero v hv).1 h;have h2:=(hp.zero v hv).2 h1;omega
 | k+1,v,hv,h=>by
   obtain ⟨w,hw,hd⟩:=ho.prev v hv (by omega);have hr:=Iy hg hv hw;have ih:=DS.le hg ho hp k w.toNat (by omega) (by omega);have hs:sh.getD v false=false:=by
     cases e:sh.getD v false
     . rfl
     . have:=ho.shut v hv e;omega
   have:=hp.next v hv hs w hw ih.1
   omega
theorem DS.uniq{g:List (List Int)}(hg:D0 g){sh:List Bool}{goal:Nat}{o p:List Int}(ho:DS g sh goal o)(hp:DS g sh goal p):o=p:=by
 apply List.ext_getElem (by rw[ho.len,hp.len]);intro v h1 h2;have hv:v<g.length:=by rw[<-ho.len];exact h1
 have e1:o.getD v 0=o[v]:=getD_eq h1;have e2:p.getD v 0=p[v]:=getD_eq h2;rw[<-e1,<-e2];have l1:=ho.lo v hv;have l2:=hp.lo v hv;by_cases c:0<=o.getD v 0
 . have a:=DS.le hg ho hp (o.getD v 0).toNat v hv (by omega);have b:=DS.le hg hp ho (p.getD v 0).toNat v hv (by omega);omega
 . by_cases c2:0<=p.getD v 0
   . have b:=DS.le hg hp ho (p.getD v 0).toNat v hv (by omega);omega
   . omega
def NX(g:List (List Int))(sh:List Bool)(d:Int)(v:Nat)(o:List Int):Prop:=
 ∀u,u<g.length->sh.getD u false=false->∀w∈g.getD u [],0<=o.getD w.toNat 0->(o.getD w.toNat 0<d - 1∨(o.getD w.toNat 0=d - 1/\u<v))->0<=o.getD u 0/\o.getD u 0<=o.getD w.toNat 0+1
theorem Aip{g:List (List Int)}(hg:D0 g){sh:List Bool}{goal:Nat}{d:Int}{v:Nat}{o:List Int}(hv:v<g.length)(hd:1<=d)(h:DP g goal d o)(hx:NX g sh d v o):NX g sh d (v+1) (Kv g sh d v o):=by
 unfold Kv;split
 . rename_i h1;intro u hu hs w hw h0 hc;by_cases e:u=v
   . subst e;have h2:0<=o.getD u 0:=by
       rcases h1 with h1 | h1
       . rw[hs] at h1;cases h1
       . exact h1
     rcases hc with hc | hc
     . exact hx u hu hs w hw h0 (.inl hc)
     . refine ⟨h2,?_⟩;rcases h.2 u hu with h3 | h3 | h3<;>omega
   . exact hx u hu hs w hw h0 (by omega)
 . rename_i h1;split
   . rename_i h2;have Aqv:o.getD v 0<0:=by
       rcases Int.lt_or_le (o.getD v 0) 0 with h3 | h3
       . exact h3
       . exact absurd (Or.inr h3) h1
     intro u hu hs w hw;have hr:=Iy hg hu hw;rw[DX,DX];have hl:=h.1;by_cases e2:v=w.toNat
     . rw[if_pos ⟨e2,by omega⟩];intro _ hc;omega
     . rw[if_neg (λ h=>e2 h.1)];intro h0 hc;by_cases e:v=u
       . subst e;rw[if_pos ⟨rfl,by omega⟩];refine ⟨by omega,?_⟩;rcases Int.lt_or_le (o.getD w.toNat 0) (d - 1) with h3 | h3
         . have:=hx v hu hs w hw h0 (.inl h3);omega
         . omega
       . rw[if_neg (λ h=>e h.1)];exact hx u hu hs w hw h0 (by omega)
   . rename_i h2;intro u hu hs w hw h0 hc;by_cases e:u=v
     . subst e;rcases hc with hc | hc
       . exact hx u hu hs w hw h0 (.inl hc)
       . exact absurd (AU.2 ⟨w,hw,Ag hc.1⟩) h2
     . exact hx u hu hs w hw h0 (by omega)
theorem YA{g:List (List Int)}(hg:D0 g){sh:List Bool}{goal:Nat}{d:Int}(hd:1<=d):∀(f v:Nat) (o:List Int),v+f<=g.length->DP g goal d o->NX g sh d v o->NX g sh d (v+f) (Jo g sh d f v o)
 | 0,_,_,_,_,h=>h
 | f+1,v,o,hv,h,hx=>by
   have:=YA hg hd f (v+1) _ (by omega) (Yy hg (sh:=sh) (by omega) hd h) (Aip hg (by omega) hd h hx);rw[show v+1+f=v+(f+1) by omega] at this;exact this
theorem Z8{g:List (List Int)}(hg:D0 g){sh:List Bool}{goal:Nat}:∀(f d:Nat) (o:List Int),1<=d->DP g goal ((d - 1:Nat):Int) o->NX g sh d 0 o->NX g sh ((d+f:Nat):Int) 0 (J4 g sh f d o)/\DP g goal ((d+f - 1:Nat):Int) (J4 g sh f d o)
 | 0,d,o,hd,h,hx=>⟨hx,h⟩
 | f+1,d,o,hd,h,hx=>by
   have hD:DP g goal (d:Int) o:=h.mono (by omega);have h1:=S2 (sh:=sh) hg (d:=(d:Int)) (by omega) g.length 0 o (by omega) hD;have h2:=YA (sh:=sh) hg (d:=(d:Int)) (by omega) g.length 0 o (by omega) hD hx;have h3:NX g sh ((d+1:Nat):Int) 0 (Jo g sh d g.length 0 o):=λ u hu hs w hw h0 hc=>by
     refine h2 u hu hs w hw h0 ?_;rcases Int.lt_or_le ((Jo g sh d g.length 0 o).getD w.toNat 0) ((d:Int) - 1) with h4 | h4
     . exact .inl h4
     . exact .inr ⟨by omega,by omega⟩
   have:=Z8 hg f (d+1) _ (by omega) (show DP g goal ((d+1 - 1:Nat):Int) _ by rw[show d+1 - 1=d by omega];exact h1) h3;rw[show d+1+f=d+(f+1) by omega] at this;exact this
theorem S1{g:List (List Int)}{sh:List Bool}{d:Int}{v u:Nat}{o:List Int}(h:0<=o.getD u 0∨sh.getD u false=true):(Kv g sh d v o).getD u 0=o.getD u 0:=by
 unfold Kv;split
 . rfl
 . rename_i h1;split
   . rw[DX];by_cases e:v=u
     . subst e;rcases h with h | h
       . exact absurd (Or.inr h) h1
       . exact absurd (Or.inl h) h1
     . rw[if_neg (λ h=>e h.1)]
   . rfl
theorem Oy{g:List (List Int)}{sh:List Bool}{d:Int}{u:Nat}:∀(f v:Nat) (o:List Int),(0<=o.getD u 0∨sh.getD u false=true)->(Jo g sh d f v o).getD u 0=o.getD u 0
 | 0,_,_,_=>rfl
 | f+1,v,o,h=>by
   rw[Jo,Oy f (v+1) _ (by rw[S1 h];exact h),S1 h]
theorem UD{g:List (List Int)}{sh:List Bool}{u:Nat}:∀(f d:Nat) (o:List Int),(0<=o.getD u 0∨sh.getD u false=true)->(J4 g sh f d o).getD u 0=o.getD u 0
 | 0,_,_,_=>rfl
 | f+1,d,o,h=>by
   rw[J4,UD f (d+1) _ (by rw[Oy _ _ _ h];exact h),Oy _ _ _ h]
theorem DP.chain{g:List (List Int)}(hg:D0 g){goal:Nat}{m:Int}{o:List Int}(h:DP g goal m o):∀(k v:Nat),v<g.length->o.getD v 0=(k:Int)->∃l:List Int,l.Nodup/\l.length=k+1/\∀x∈l,0<=x/\x<(g.length:Int)/\0<=o.getD x.toNat 0/\o.getD x.toNat 0<=(k:Int)
 | 0,v,hv,e=>⟨[(v:Int)],by simp,rfl,λ x hx=>by
     simp only[Aw] at hx;subst hx;simp only[Ab];omega⟩
 | k+1,v,hv,e=>by
   rcases h.2 v hv with h3 | h3 | ⟨_,_,w,hw,h4⟩
   . omega
   . omega
   . have hr:=Iy hg hv hw;obtain ⟨l,h5,h6,h7⟩:=DP.chain hg h k w.toNat (by omega) (by omega);refine ⟨(v:Int)::l,?_,by simp[h6],?_⟩
     . rw[BD];refine ⟨λ hm=>?_,h5⟩;have:=h7 _ hm;simp only[Ab] at this;omega
     . intro x hx;rcases AG.1 hx with rfl | hx
       . simp only[Ab];omega
       . have:=h7 x hx;omega
theorem Uz{g:List (List Int)}(hg:D0 g){sh:List Bool}{goal:Nat}(ER:goal<g.length)(ho:sh.getD goal false=false):DS g sh goal (Dn g sh goal):=by
 have Afb:∀v,v<g.length->(List.replicate g.length (-1:Int)).getD v 0=-1:=λ v hv=>by simp[List.getD,hv]
 have e0:Dn g sh goal=J4 g sh (g.length - 1) 1 ((List.replicate g.length (-1)).set goal 0):=by
   unfold Dn;rw[ho];rfl
 have hz:∀u,u<g.length->((List.replicate g.length (-1:Int)).set goal 0).getD u 0=if u=goal then 0 else -1:=λ u hu=>by
   rw[DX];by_cases e:goal=u
   . rw[if_pos ⟨e,by simpa using ER⟩,if_pos e.symm]
   . rw[if_neg (λ h=>e h.1),if_neg (λ h=>e h.symm),Afb u hu]
 have hD0:DP g goal ((1 - 1:Nat):Int) ((List.replicate g.length (-1)).set goal 0):=⟨by simp,λ u hu=>by
   rw[hz u hu];by_cases e:u=goal
   . rw[if_pos e];exact .inr (.inl ⟨rfl,e⟩)
   . rw[if_neg e];exact .inl rfl⟩
 have hN0:NX g sh ((1:Nat):Int) 0 ((List.replicate g.length (-1)).set goal 0):=λ u hu hs w hw h0 hc=>by omega
 obtain ⟨hN,hD⟩:=Z8 hg (g.length - 1) 1 _ (Ai _) hD0 hN0;have hk:∀u,u<g.length->(u=goal∨sh.getD u false=true)->(Dn g sh goal).getD u 0=if u=goal then 0 else -1:=λ u hu hc=>by
   rw[e0,UD _ _ _ ?_,hz u hu];rcases hc with hc | hc
   . left;rw[hz u hu,if_pos hc];omega
   . exact .inr hc
 rw[<-e0] at hN hD;rw[show 1+(g.length - 1)=g.length by omega] at hN hD;refine ⟨NQ g sh goal,?_,?_,?_,?_,?_⟩
 . intro v hv;rcases hD.2 v hv with h | h | h<;>omega
 . intro v hv;constructor
   . intro e;rcases hD.2 v hv with h | h | h
     . omega
     . exact h.2
     . omega
   . rintro rfl;have:=hk v hv (.inl rfl);rw[if_pos rfl] at this;exact this
 . intro v hv h1;rcases hD.2 v hv with h | h | h
   . omega
   . omega
   . exact h.2.2
 . intro v hv hs w hw h0;have hr:=Iy hg hv hw;rcases Int.lt_or_le ((Dn g sh goal).getD w.toNat 0) ((g.length:Int) - 1) with h4 | h4
   . exact hN v hv hs w hw h0 (.inl h4)
   . have hb:∀u,u<g.length->(Dn g sh goal).getD u 0<=(g.length:Int) - 1:=λ u hu=>by
       rcases hD.2 u hu with h | h | h<;>omega
     have hw2:=hb w.toNat (by omega);have SA:=hb v hv;refine ⟨?_,by omega⟩;rcases Int.lt_or_le ((Dn g sh goal).getD v 0) 0 with h5 | h5
     . exfalso;obtain ⟨l,h6,h7,h8⟩:=DP.chain hg hD (g.length - 1) w.toNat (by omega) (by omega);have:=Ak0 ((v:Int)::l) ((List.range g.length).map (λ j=>((j:Nat):Int))) (by
         rw[BD];refine ⟨λ hm=>?_,h6⟩;have:=h8 _ hm;simp only[Ab] at this;omega) (λ x hx=>by
         rw[AT];rcases AG.1 hx with rfl | hx
         . exact ⟨v,List.mem_range.2 hv,rfl⟩
         . have:=h8 x hx;exact ⟨x.toNat,List.mem_range.2 (by omega),by omega⟩)
       simp only[Al,Bb,List.length_range] at this;omega
     . exact h5
 . intro v hv hs;have:=hk v hv (.inr hs);rw[if_neg (λ e=>by rw[e,ho] at hs;cases hs)] at this;exact this
def Hw(o:List Int)(b w:Int):Int:=if 0<=o.getD w.toNat 0/\(b<0∨o.getD w.toNat 0<o.getD b.toNat 0) then w else b
def IX(o row:List Int):Int:=row.foldl (Hw o) (-1)
def PY(o row:List Int)(m:Int):Int:=(row.find? λ w=>decide (o.getD w.toNat 0=m)).getD (-1)
theorem UJ(o:List Int)(m:Int):∀(row:List Int) (b:Int),0<=b->o.getD b.toNat 0=m->(∀w∈row,0<=o.getD w.toNat 0->m<=o.getD w.toNat 0)->row.foldl (Hw o) b=b
 | [],_,_,_,_=>rfl
 | w::row,b,hb,he,h=>by
   have e:Hw o b w=b:=by
     unfold Hw;rw[if_neg];rintro ⟨h1,h2⟩;have:=h w (by simp) h1;omega
   rw[Bt,e];exact UJ o m row b hb he (λ x hx=>h x (by simp[hx]))
theorem UK(o:List Int)(m:Int)(hm:0<=m):∀(row:List Int) (b:Int),(∀w∈row,0<=w)->(b=-1∨(0<=b/\m<o.getD b.toNat 0))->(∀w∈row,0<=o.getD w.toNat 0->m<=o.getD w.toNat 0)->(∃w∈row,o.getD w.toNat 0=m)->row.foldl (Hw o) b=PY o row m
 | [],_,_,_,_,h=>by obtain ⟨w,hw,_⟩:=h;simp at hw
 | w::row,b,hp,hb,h,hx=>by
   have hw:=h w (by simp);rw[Bt];unfold PY;by_cases c:o.getD w.toNat 0=m
   . have e:Hw o b w=w:=by
       unfold Hw;rw[if_pos ⟨by omega,by omega⟩]
     rw[e,UJ o m row w (hp w (by simp)) c (λ x hx=>h x (by simp[hx]))];rw[List.find?_cons,Ag c];rfl
   . have HH:∃x∈row,o.getD x.toNat 0=m:=by
       obtain ⟨x,h1,h2⟩:=hx;rcases AG.1 h1 with rfl | h1
       . exact absurd h2 c
       . exact ⟨x,h1,h2⟩
     have r7:Hw o b w=-1∨(0<=Hw o b w/\m<o.getD (Hw o b w).toNat 0):=by
       unfold Hw;split
       . rename_i h1;exact .inr ⟨hp w (by simp),by omega⟩
       . exact hb
     rw[UK o m hm row _ (λ x hx=>hp x (by simp[hx])) r7 (λ x hx=>h x (by simp[hx])) HH];unfold PY;rw[List.find?_cons,Ah c]
theorem Lb(o:List Int):∀(row:List Int) (b:Int),row.foldl (Hw o) b=b∨(row.foldl (Hw o) b∈row/\0<=o.getD (row.foldl (Hw o) b).toNat 0)
 | [],_=> .inl rfl
 | w::row,b=>by
   rw[Bt];rcases Lb o row (Hw o b w) with h | h
   . rw[h];unfold Hw;split
     . rename_i h1;exact .inr ⟨by simp,h1.1⟩
     . exact .inl rfl
   . exact .inr ⟨by simp[h.1],h.2⟩
theorem DS.Aoq{g:List (List Int)}(hg:D0 g){sh:List Bool}{goal:Nat}{o:List Int}(ho:DS g sh goal o){v:Nat}(hv:v<g.length)(h1:1<=o.getD v 0):
   IX o (g.getD v [])=PY o (g.getD v []) (o.getD v 0 - 1):=by
 have hs:sh.getD v false=false:=by
   cases e:sh.getD v false
   . rfl
   . have:=ho.shut v hv e;omega
 exact UK o _ (by omega) _ _ (λ w hw=>(Iy hg hv hw).1) (.inl rfl) (λ w hw h0=>by have:=ho.next v hv hs w hw h0;omega) (ho.prev v hv h1)
theorem Al6{o row:List Int}{m:Int}(h:∃w∈row,o.getD w.toNat 0=m):PY o row m∈row/\o.getD (PY o row m).toNat 0=m:=by
 unfold PY;obtain ⟨w,hw,he⟩:=h;cases c:row.find? λ w=>decide (o.getD w.toNat 0=m) with
 | none=>rw[List.find?_eq_none] at c;exact absurd (Ag he) (c w hw)
 | some x=>exact ⟨List.mem_of_find?_eq_some c,by simpa using List.find?_some c⟩
def Yr(g:List (List Int))(o:List Int):Nat->Int->List Int
 | 0,_=>[]
 | f+1,v=>v::Yr g o f (PY o (g.getD v.toNat []) (o.getD v.toNat 0 - 1))
def HC(g:List (List Int))(sh:List Bool)(v:Nat):List Int:=
 if sh.getD v false=true then []
 else
   let o:=Dn g sh v
   let b:=IX o (g.getD v [])
   if b<0 then [] else (v:Int)::Yr g o (o.getD b.toNat 0).toNat b
theorem SY(g:List (List Int))(o:List Int):∀(f:Nat) (v:Int),(Yr g o f v).length=f
 | 0,_=>rfl
 | f+1,v=>by rw[Yr,Al,SY]
def LJ(Aoq w:List Int):List Int:=if 0<w.length/\(Aoq.length=0∨w.length<Aoq.length) then w else Aoq
def JG(g:List (List Int))(sh:List Bool):List Int:=((List.range g.length).map (HC g sh)).foldl LJ []
def Kb(d:List Int):Nat:=d.countP λ x=>decide (x<0)
theorem Tz{d:List Int}{v:Nat}{x:Int}(hv:v<d.length)(h:d.getD v 0<0)(hx:0<=x):Kb (d.set v x)+1=Kb d:=by
 have e:d.getD v 0=d[v]:=getD_eq hv;rw[e] at h;have hp:0<Kb d:=by
   unfold Kb;rw[List.countP_pos_iff];exact ⟨d[v],AM hv,Ag h⟩
 have h2:Kb (d.set v x)=Kb d - 1:=by
   unfold Kb;rw[List.countP_set (h:=hv),if_pos (Ag h),if_neg (by simpa using hx)];rfl
 omega
structure BF(g:List (List Int))(sh:List Bool)(goal:Nat)(w:Int)(v:Nat)(d q:List Int):Prop where
 len:d.length=g.length
 lo:∀u,u<g.length->-1<=d.getD u 0
 zero:∀u,u<g.length->(d.getD u 0=0↔u=goal)
 prev:∀u,u<g.length->1<=d.getD u 0->∃y∈g.getD u [],d.getD y.toNat 0=d.getD u 0 - 1
 shut:∀u,u<g.length->sh.getD u false=true->d.getD u 0=-1
 qin:∀x∈q,0<=x/\x<(g.length:Int)/\0<=d.getD x.toNat 0
 sorted:q.Pairwise λ x y=>d.getD x.toNat 0<=d.getD y.toNat 0
 top:∀x∈q,∀u,u<g.length->d.getD u 0<=d.getD x.toNat 0+1
 done:∀y:Int,0<=y->y<(g.length:Int)->0<=d.getD y.toNat 0->y∉q->∀u,u<g.length->(y=w->u<v)->sh.getD u false=false->y∈g.getD u []->0<=d.getD u 0/\d.getD u 0<=d.getD y.toNat 0+1
 bnd:∀u,u<g.length->d.getD u 0+(Kb d:Nat)<=(g.length:Int) - 1
 Ajw:q.length+Kb d<=g.length
 cur:0<=w->w<(g.length:Int)/\0<=d.getD w.toNat 0/\(∀u,u<g.length->d.getD u 0<=d.getD w.toNat 0+1)/\∀x∈q,d.getD w.toNat 0<=d.getD x.toNat 0
theorem BF.init{g:List (List Int)}{sh:List Bool}{goal:Nat}(ER:goal<g.length)(ho:sh.getD goal false=false):BF g sh goal (-1) 0 ((List.replicate g.length (-1)).set goal 0) [(goal:Int)]:=by
 have hz:∀u,u<g.length->((List.replicate g.length (-1:Int)).set goal 0).getD u 0=if u=goal then 0 else -1:=λ u hu=>by
   rw[DX];by_cases e:goal=u
   . rw[if_pos ⟨e,by simpa using ER⟩,if_pos e.symm]
   . rw[if_neg (λ h=>e h.1),if_neg (λ h=>e h.symm)];simp[List.getD,hu]
 have hr:Kb (List.replicate g.length (-1))=g.length:=by
   unfold Kb;rw[List.countP_replicate];simp
 have hn:Kb ((List.replicate g.length (-1)).set goal 0)+1=g.length:=by
   rw[Tz (by simpa using ER) (by simp[List.getD,ER]) (by omega),hr]
 refine ⟨by simp,λ u hu=>?_,λ u hu=>?_,λ u hu h=>?_,λ u hu h=>?_,λ x hx=>?_,by simp,λ x hx u hu=>?_,λ y hy Yd hy3 hy4 u hu=>?_,λ u hu=>?_,by simp only[List.length_singleton];omega,λ h=>by omega⟩
 . rw[hz u hu];split<;>omega
 . rw[hz u hu];split<;>simp_all
 . rw[hz u hu] at h;split at h<;>omega
 . rw[hz u hu,if_neg];rintro rfl;rw[ho] at h;cases h
 . rw[Aw] at hx;subst hx;rw[show ((goal:Nat):Int).toNat=goal by omega,hz goal ER,if_pos rfl];omega
 . rw[Aw] at hx;subst hx;rw[show ((goal:Nat):Int).toNat=goal by omega,hz goal ER,if_pos rfl,hz u hu];split<;>omega
 . rw[hz _ (by omega)] at hy3;split at hy3
   . rename_i e;exact absurd (Aw.2 (by omega)) hy4
   . omega
 . rw[hz u hu];split<;>omega
theorem BF.pop{g:List (List Int)}{sh:List Bool}{goal:Nat}{d q:List Int}{w:Int}{w0:Int}{v:Nat}(h:BF g sh goal w0 v d (w::q))(hv:w0<0∨v=g.length):BF g sh goal w 0 d q:=by
 have hw:=h.qin w (by simp);refine ⟨h.len,h.lo,h.zero,h.prev,h.shut,λ x hx=>h.qin x (by simp[hx]),(BH.1 h.sorted).2,λ x hx=>h.top x (by simp[hx]),?_,h.bnd,by have:=h.Ajw;simp only[Al] at this;omega,λ _=>⟨hw.2.1,hw.2.2,h.top w (by simp),λ x hx=>(BH.1 h.sorted).1 x hx⟩⟩;intro y hy Yd hy3 hy4 u hu hc hs hm;by_cases e:y=w
 . have:=hc e;omega
 . refine h.done y hy Yd hy3 (λ hx=>?_) u hu (λ e2=>by omega) hs hm;rcases AG.1 hx with h1 | h1
   . exact e h1
   . exact hy4 h1
theorem BF.skip{g:List (List Int)}{sh:List Bool}{goal:Nat}{d q:List Int}{w:Int}{v:Nat}(h:BF g sh goal w v d q)(Lf:0<=w)(hc:0<=d.getD v 0∨sh.getD v false=true∨w∉g.getD v []):BF g sh goal w (v+1) d q:=by
 refine ⟨h.len,h.lo,h.zero,h.prev,h.shut,h.qin,h.sorted,h.top,?_,h.bnd,h.Ajw,h.cur⟩;intro y hy Yd hy3 hy4 u hu hv hs hm;by_cases e:u=v
 . subst e;by_cases e2:y=w
   . subst e2;rcases hc with hc | hc | hc
     . exact ⟨hc,(h.cur Lf).2.2.1 u hu⟩
     . rw[hs] at hc;cases hc
     . exact absurd hm hc
   . exact h.done y hy Yd hy3 hy4 u hu (λ e3=>absurd e3 e2) hs hm
 . exact h.done y hy Yd hy3 hy4 u hu (λ e3=>by have:=hv e3;omega) hs hm
theorem BF.push{g:List (List Int)}{sh:List Bool}{goal:Nat}{d q:List Int}{w:Int}{v:Nat}(h:BF g sh goal w v d q)(Lf:0<=w)(hv:v<g.length)(hd:d.getD v 0<0)(hs:sh.getD v false=false)(hm:w∈g.getD v []):
   BF g sh goal w (v+1) (d.set v (d.getD w.toNat 0+1)) (q++[(v:Int)]):=by
 obtain ⟨hc1,U1,hc3,hc4⟩:=h.cur Lf;have hl:=h.len;have EM:∀u,(d.set v (d.getD w.toNat 0+1)).getD u 0=if u=v then d.getD w.toNat 0+1 else d.getD u 0:=λ u=>by
   rw[DX];by_cases e:v=u
   . rw[if_pos ⟨e,by omega⟩,if_pos e.symm]
   . rw[if_neg (λ h=>e h.1),if_neg (λ h=>e h.symm)]
 have Dl:∀y:Int,0<=d.getD y.toNat 0->(d.set v (d.getD w.toNat 0+1)).getD y.toNat 0=d.getD y.toNat 0:=λ y hy=>by
   rw[EM,if_neg];intro e;rw[e] at hy;omega
 have hn:=Tz (d:=d) (v:=v) (x:=d.getD w.toNat 0+1) (by omega) hd (by omega);refine ⟨by simpa using hl,λ u hu=>?_,λ u hu=>?_,λ u hu h1=>?_,λ u hu h1=>?_,λ x hx=>?_,?_,λ x hx u hu=>?_,?_,λ u hu=>?_,?_,λ _=>⟨hc1,?_,λ u hu=>?_,λ x hx=>?_⟩⟩
 . rw[EM];have:=h.lo u hu;split<;>omega
 . rw[EM];by_cases e:u=v
   . subst e;rw[if_pos rfl];have:=h.zero u hu;constructor
     . intro h1;omega
     . intro h1;have:=this.2 h1;omega
   . rw[if_neg e];exact h.zero u hu
 . rw[EM] at h1;by_cases e:u=v
   . subst e;exact ⟨w,hm,by rw[Dl w U1,EM,if_pos rfl];omega⟩
   . rw[if_neg e] at h1;obtain ⟨y,hy,Yd⟩:=h.prev u hu h1;exact ⟨y,hy,by rw[Dl y (by omega),EM,if_neg e];exact Yd⟩
 . rw[EM,if_neg]
   . exact h.shut u hu h1
   . rintro rfl;rw[hs] at h1;cases h1
 . rcases Av.1 hx with hx | hx
   . have:=h.qin x hx;exact ⟨this.1,this.2.1,by rw[Dl x this.2.2];exact this.2.2⟩
   . rw[Aw] at hx;subst hx;exact ⟨by omega,by omega,by rw[EM,if_pos (by omega)];omega⟩
 . rw[BK];refine ⟨?_,by simp,?_⟩
   . refine h.sorted.imp_of_mem λ {a b} ha hb Vp=>?_;rw[Dl a (h.qin a ha).2.2,Dl b (h.qin b hb).2.2];exact Vp
   . intro a ha b hb;rw[Aw] at hb;subst hb;rw[Dl a (h.qin a ha).2.2,EM,if_pos (by omega)];have:=hc3 a.toNat (by have:=h.qin a ha;omega);exact this
 . rcases Av.1 hx with hx | hx
   . have h1:=h.qin x hx;rw[Dl x h1.2.2,EM];have:=hc4 x hx;have:=h.top x hx u hu;split<;>omega
   . rw[Aw] at hx;subst hx;rw[EM,EM,if_pos (show ((v:Nat):Int).toNat=v by omega)];have:=hc3 u hu;split<;>omega
 . intro y hy Yd hy3 hy4 u hu hc hsu hmu;have hyv:y≠(v:Int):=λ e=>hy4 (by simp[e]);have Awx:y.toNat≠v:=by omega
   rw[EM,if_neg Awx] at hy3;have hyq:y∉q:=λ e=>hy4 (by simp[e]);rw[EM,EM,if_neg Awx];by_cases e:u=v
   . subst e;rw[if_pos rfl];by_cases e2:y=w
     . subst e2;omega
     . have:=h.done y hy Yd hy3 hyq u hu (λ e3=>absurd e3 e2) hsu hmu;omega
   . rw[if_neg e];exact h.done y hy Yd hy3 hyq u hu (λ e3=>by have:=hc e3;omega) hsu hmu
 . rw[EM];have h1:=h.bnd u hu;have h2:=h.bnd w.toNat (by omega);split<;>omega
 . have:=h.Ajw;simp only[Aq,List.length_singleton];omega
 . rw[Dl w U1];exact U1
 . rw[Dl w U1,EM];have:=hc3 u hu;split<;>omega
 . rw[Dl w U1];rcases Av.1 hx with hx | hx
   . rw[Dl x (h.qin x hx).2.2];exact hc4 x hx
   . rw[Aw] at hx;subst hx;rw[EM,if_pos (by omega)];omega
theorem BF.end{g:List (List Int)}(hg:D0 g){sh:List Bool}{goal:Nat}{d:List Int}{w:Int}{v:Nat}(h:BF g sh goal w v d [])(hv:w<0∨v=g.length):DS g sh goal d:=
 ⟨h.len,h.lo,h.zero,h.prev,λ u hu hs y hy h0=>by
   have hr:=Iy hg hu hy;exact h.done y (by omega) (by omega) h0 (by simp) u hu (λ e=>by omega) hs hy,h.shut⟩
theorem Adu{g:List (List Int)}(hg:D0 g){u:Nat}(hu:u<g.length){i j:Nat}(hi:i<j)(hj:j<(g.getD u []).length):(g.getD u []).getD i 0<(g.getD u []).getD j 0:=by
 induction j with
 | zero=>omega
 | succ j ih=>
   have h1:=hg.2 u hu (j+1) hj;unfold Jz at h1;have h2:=h1.2.2.2 (by omega);rw[show j+1 - 1=j by omega] at h2;by_cases e:i=j
   . subst e;exact h2
   . have:=ih (by omega) (by omega);omega
theorem Aea(l:List Ln)(hl:l.length<=10000000)(hf:∀x∈l,x.fs.length<=10000000):B1 prog 15 [.p (.sl (EO l))] [] λ h r=>h=[]/\r=OL (parseV l []):=by
 refine B0 func15 rfl Anl (by simp[Tryz.f15]) ?_;simp only[go_sem,CM];refine B4 (λ q:Nat×List Dc=>⟨[(0,.p (.sl (EO l))),(6,.p (.int .i64 (q.1:Nat))),(5,.ref 34 0 q.2.length q.2.length)],[(34,.arr 82 4 (DM q.2))],36⟩)
   (λ q=>q.1<=l.length/\q.2.length<=q.1/\parseV (l.drop q.1) q.2=parseV l []) (λ q=>l.length - q.1) (0,[]) ⟨AD _,by simp,by simp⟩ ((Wk.nil (t:=5) (q:=34) (sz:=4) 82 rfl rfl (by decide)).trans (Wk.forget (by simp[ZF,DM]))) ?_
 rintro ⟨i,acc⟩ n ⟨hi,hn,he⟩ ih;simp only at hi hn he;simp only[go_sem,CM];refine Cv (λ h2=>?_) (λ h2=>?_)
 . have Cr:i<l.length:=by simp at h2;omega
   have hw:=Ca i (by omega);have hb:=hf _ (CB l i Y7 Cr);have I3:(i:Int)<(l.length:Int):=by omega
   have C0:(0:Int)<=(i:Int):=by omega
   rw[C8 l i Y7 Cr] at he;have hg:=M9 l i Cr;generalize l.getD i Y7=x at*;simp only[go_sem,Ab,CM,hg,I3,C0];refine Cq (Atu x.num x.fs hb) ?_;by_cases hz:(Jy x.num x.fs).2=0
   . simp only[go_sem,Dc.d,hz,hw,CO];refine ⟨⟨Dq _ _ rfl,by omega⟩,?_⟩;refine ih (i+1,acc++[(Jy x.num x.fs).1]) _ ⟨Cr,by simp only[Aq,Al,Ax];omega,by rw[<-he];simp only[parseV,hz,AP]⟩ (by simp only;omega) ?_
     (refine Wk.forget ?_;simp[ZF,FO,CO];done)
   . simp only[go_sem,Dc.d,hz];refine CH mixed (p:=[(0,0),(1,0),(2,0),(3,0),(4,0),(5,0),(6,0),(7,0),(8,0)]) (by kernel_rfl) (by simp[C3,get]) ?_;simp only[go_sem,Ab,CM,hg,I3,C0];refine BX ?_;simp only[go_sem];rw[<-he];simp[parseV,hz,OL,DM]
 . simp only[go_sem];have T1:i=l.length:=by simp at h2;omega
   subst T1;refine BX ?_;simp only[go_sem];rw[A2] at he;rw[<-he];simp[parseV,OL,CO,WE]
theorem Tm:∀(k:Nat) (l:List (List UInt8)) (d:Dc),(rd k l d).1.names.length<=d.names.length+l.length/\(rd k l d).1.B7.length<=d.B7.length+l.length
 | _,[],d=>by simp[rd]
 | 0,s::r,d=>by
   simp only[rd];split
   . have:=Tm 0 r {d with B7:=d.B7++[(Ka s).1]};simp at this ⊢;omega
   . simp[II]
 | k+1,s::r,d=>by
   simp only[rd];split
   . have:=Tm k r {d with names:=d.names++[s]};simp at this ⊢;omega
   . simp[II]
theorem Aa8(num:Int)(fs:List (List UInt8)):(Jy num fs).1.names.length<=fs.length/\(Jy num fs).1.B7.length<=fs.length:=by
 unfold Jy;cases fs with
 | nil=>simp[II]
 | cons w rest=>
   simp only;split
   . simp[II]
   . split
     . simp[II]
     . have:=Tm (rest.length - (Cx (Jn w)).2.toNat) rest ⟨Jn w,num,[],[]⟩;simp at this ⊢;omega
theorem Pz(B:Nat):∀(l:List Ln) (acc:List Dc),(∀x∈l,x.fs.length<=B)->(∀d∈acc,d.names.length<=B/\d.B7.length<=B)->
   (parseV l acc).1.length<=acc.length+l.length/\∀d∈(parseV l acc).1,d.names.length<=B/\d.B7.length<=B
 | [],acc,_,h=>⟨by simp[parseV],h⟩
 | x::r,acc,hl,h=>by
   simp only[parseV];split
   . have h1:=Pz B r (acc++[(Jy x.num x.fs).1]) (λ y hy=>hl y (by simp[hy])) (λ d hd=>by
       simp only[Av,Aw] at hd;rcases hd with hd | rfl
       . exact h d hd
       . have:=Aa8 x.num x.fs;have:=hl x (by simp);omega)
     refine ⟨by have:=h1.1;simp at this ⊢;omega,h1.2⟩
   . simp
def HF{σ ε:Type}(f:σ->Option ε):σ⊕ε->Option ε
 | .inl s=>f s
 | .inr e=>some e
theorem B6{σ ε:Type}(f:σ->Option ε)(s:σ):HF f (.inl s)=f s:=rfl
theorem BZ{σ ε:Type}(f:σ->Option ε)(e:ε):HF f (.inr e)=some e:=rfl
def G3{σ ε:Type}(step:σ->Option (σ⊕ε)):Nat->σ->Option ε
 | 0,_=>none
 | n+1,s=>(step s).bind (HF (G3 step n))
def CA{σ ε:Type}(step:σ->Option (σ⊕ε))(s:σ):Option ε:=
 open Classical in if h:∃n e,G3 step n s=some e then some (Classical.choose (Classical.choose_spec h)) else none
theorem OP{σ ε:Type}{step:σ->Option (σ⊕ε)}:∀{n m:Nat} {s:σ} {e:ε},G3 step n s=some e->n<=m->G3 step m s=some e
 | 0,_,_,_,h,_=>by simp[G3] at h
 | n+1,0,_,_,_,h=>by omega
 | n+1,m+1,s,e,h,hm=>by
   simp only[G3] at h ⊢;cases hs:step s with
   | none=>rw[hs] at h;simp at h
   | some y=>
     rw[hs] at h;cases y with
     | inl s'=>exact OP (n:=n) (m:=m) (by simpa [HF] using h) (by omega)
     | inr e'=>simpa [HF] using h
theorem KL{σ ε:Type}{step:σ->Option (σ⊕ε)}{s:σ}{e:ε}:CA step s=some e↔∃n,G3 step n s=some e:=by
 constructor
 . intro h;unfold CA at h;split at h
   . rename_i hh;have h1:=Classical.choose_spec (Classical.choose_spec hh);rw[Ac h] at h1;exact ⟨_,h1⟩
   . cases h
 . rintro ⟨n,hn⟩;unfold CA;have hh:∃n e,G3 step n s=some e:=⟨n,e,hn⟩;rw[dif_pos hh];have h1:=Classical.choose_spec (Classical.choose_spec hh);have a:=OP h1 (Nat.le_max_left _ n);have b:=OP hn (Nat.le_max_right (Classical.choose hh) n);rw[a] at b;exact b
theorem CW{σ ε:Type}(step:σ->Option (σ⊕ε))(s:σ):CA step s=(step s).bind (HF (CA step)):=by
 apply Option.ext;intro e;rw[KL];constructor
 . rintro ⟨n,hn⟩;cases n with
   | zero=>simp[G3] at hn
   | succ n=>
     simp only[G3] at hn;cases hs:step s with
     | none=>rw[hs] at hn;simp at hn
     | some y=>
       rw[hs] at hn;cases y with
       | inl s'=>exact KL.2 ⟨n,by simpa [HF] using hn⟩
       | inr e'=>simpa [HF] using hn
 . intro h;cases hs:step s with
   | none=>rw[hs] at h;simp at h
   | some y=>
     rw[hs] at h;cases y with
     | inl s'=>
       obtain ⟨n,hn⟩:=KL.1 (show CA step s'=some e by simpa [HF] using h);exact ⟨n+1,by simpa [G3,hs,HF] using hn⟩
     | inr e'=>exact ⟨1,by simpa [G3,hs,HF] using h⟩
theorem Q8{σ ε:Type}{step:σ->Option (σ⊕ε)}(I:σ->Prop)(μ:σ->Nat)(Q:ε->Prop)
   (h:∀s,I s->∃y,step s=some y/\match y with | .inl s'=>I s'/\μ s'<μ s | .inr e=>Q e) (s:σ) (h0:I s):∃e,CA step s=some e/\Q e:=by
 have key:∀n s,I s->μ s<n->∃e,CA step s=some e/\Q e:=by
   intro n
   induction n with
   | zero=>intro s _ h;omega
   | succ n ih=>
     intro s hs hm;obtain ⟨y,h1,h2⟩:=h s hs;rw[CW,h1];cases y with
     | inl s'=>exact ih s' h2.1 (by have:=h2.2;omega)
     | inr e=>exact ⟨e,rfl,h2⟩
 exact key _ s h0 (Nat.lt_succ_self _)
theorem Jf{σ ε:Type}{step:σ->Option (σ⊕ε)}(n:Nat)(S:Nat->σ)(out:ε)(early:Nat->Option ε)
   (h1:∀i,i<n->(∀j,j<i->early j=none)->step (S i)=some (match early i with | some e=> .inr e | none=> .inl (S (i+1)))) (h2:(∀j,j<n->early j=none)->step (S n)=some (.inr out)):
   CA step (S 0)=some (((List.range n).findSome? early).getD out):=by
 have key:∀m i,i+m=n->(∀j,j<i->early j=none)->CA step (S i)=some ((((List.range n).drop i).findSome? early).getD out):=by
   intro m
   induction m with
   | zero=>
     intro i hi hj;obtain rfl:i=n:=by omega
     rw[CW,h2 hj,Bx (by simp)];rfl
   | succ m ih=>
     intro i hi hj;rw[CW,h1 i (by omega) hj];have hd:(List.range n).drop i=i::(List.range n).drop (i+1):=by
       rw[AW (by simp;omega)];simp
     rw[hd,List.findSome?_cons];cases he:early i with
     | some e=>simp[HF]
     | none=>
       simp only[Aa,HF];exact ih (i+1) (by omega) (λ j hj2=>by
         by_cases e:j=i
         . rw[e];exact he
         . exact hj j (by omega))
 have:=key n 0 (by omega) (λ j hj=>by omega)
 simpa using this
section
variable {P:Program} {st:St} {x:Code} {k:Kt}
theorem CP{σ ε:Type}{step:σ->Option (σ⊕ε)}{s0:σ}{e:ε}(hr:CA step s0=some e)(S:σ->St)(hw:Wk st (S s0))
   (hs:∀s n,(step s).bind (HF (G3 step n))=some e->(∀s' st',G3 step n s'=some e->Wk st' (S s')->L P x k n st')->X P x (.lp x n k) (S s)):X P (.loop x) k st:=by
 obtain ⟨n,hn⟩:=KL.1 hr;have key:∀n s,G3 step n s=some e->L P x k n (S s):=by
   intro n
   induction n with
   | zero=>intro s h;simp[G3] at h
   | succ n ih=>intro s h;exact ⟨S s,Wk.refl _,hs s n h λ s' st' h' hw'=>Ai6 hw' (ih s' h')⟩
 exact X4 _ (Ai6 hw (key n s0 hn))
end
def CL{α:Type}(l:List α)(i:Int):Option α:=if 0<=i then l[i.toNat]? else none
theorem HW{α:Type}{l:List α}{i:Int}{x:α}(h:CL l i=some x):(0<=i/\i<(l.length:Int))/\l[i.toNat]?=some x:=by
 unfold CL at h;split at h
 . have:=(Ao.1 h).1;exact ⟨by omega,h⟩
 . cases h
theorem B8{α:Type}{l:List α}{i:Int}{x:α}(h:CL l i=some x):0<=i/\i<(l.length:Int):=(HW h).1
theorem B9{α:Type}{l:List α}{i:Int}{x:α}(f:α->List Pd)(h:CL l i=some x):(l.map f).getD i.toNat []=f x:=by
 simp[List.getD,(HW h).2]
theorem GM{α:Type}(l:List α)(i:Nat):CL l (i:Int)=l[i]?:=by
 unfold CL;rw[if_pos (by omega)];rfl
structure o5 where
 cq:Int
 ca:Int
 cd:Int
 cp:Int
theorem Qo:BY []=[]:=rfl
theorem Qk:Cw []=[]:=rfl
theorem Qi:C1 []=[]:=rfl
theorem Qp:Cj []=[]:=rfl
theorem Qq:DM []=[]:=rfl
theorem Qm:EO []=[]:=rfl
theorem Qn:CV []=[]:=rfl
theorem Ql:CQ []=[]:=rfl
theorem K1(l:List Bool):(C1 l).length=l.length:=by simp[C1]
theorem K5(l:List (List Int)):(Cj l).length=l.length:=by simp[Cj]
theorem K2(l:List Eh):(CV l).length=l.length:=by simp[CV]
theorem E5(l:List C5):(CQ l).length=l.length:=by simp[CQ]
theorem Abe(l:List Int)(x:Int):BY l++[[.int .i64 x]]=BY (l++[x]):=by simp[BY]
theorem Abf(l:List (List Int)):Cj l++[[.sl []]]=Cj (l++[[]]):=by simp[Cj,BY]
theorem Abd(l:List Eh)(a:List UInt8)(b c:Int):CV l++[[.str a,.int .i64 b,.int .i64 c]]=CV (l++[⟨a,b,c⟩]):=by simp[CV]
theorem Abc(l:List C5)(a:List UInt8)(b:Bool)(c d e f:Int):CQ l++[[.str a,.bool b,.int .i64 c,.int .i64 d,.int .i64 e,.int .i64 f]]=CQ (l++[⟨a,b,c,d,e,f⟩]):=by simp[CQ]
theorem Ur(l:List Bool)(x:Bool):C1 (l++[x])=C1 l++[[.bool x]]:=by simp[C1]
theorem Ux(l:List (List Int))(x:List Int):Cj (l++[x])=Cj l++[[.sl (BY x)]]:=by simp[Cj]
theorem Uv(l:List Eh)(x:Eh):CV (l++[x])=CV l++[[.str x.name,.int .i64 x.x,.int .i64 x.y]]:=by simp[CV]
theorem Uu(l:List C5)(x:C5):CQ (l++[x])=CQ l++[[.str x.name,.bool x.Cz,.int .i64 x.HA,.int .i64 x.out,.int .i64 x.Cs,.int .i64 x.base]]:=by simp[CQ]
theorem Ahc(l:List Int)(i:Nat)(x:Int):(BY l).set i [.int .i64 x]=BY (l.set i x):=by simp[BY,Bl]
theorem Ahe(l:List (List Int))(i:Nat)(x:List Int):(Cj l).set i [.sl (BY x)]=Cj (l.set i x):=by simp[Cj,Bl]
theorem Ahb(l:List C5)(i:Nat)(a:List UInt8)(b:Bool)(c d e f:Int):(CQ l).set i [.str a,.bool b,.int .i64 c,.int .i64 d,.int .i64 e,.int .i64 f]=CQ (l.set i ⟨a,b,c,d,e,f⟩):=by simp[CQ,Bl]
theorem LL(l:List Int):(BY l).take l.length=BY l:=by simp[BY,<-List.map_take]
theorem O3(l:List (List UInt8)):(Cw l).take l.length=Cw l:=by simp[Cw,<-List.map_take]
theorem O2(l:List Bool):(C1 l).take l.length=C1 l:=by simp[C1,<-List.map_take]
theorem O7(l:List (List Int)):(Cj l).take l.length=Cj l:=by simp[Cj,<-List.map_take]
theorem O8(l:List Dc):(DM l).take l.length=DM l:=by simp[DM,<-List.map_take]
theorem O5(l:List Ln):(EO l).take l.length=EO l:=by simp[EO,<-List.map_take]
theorem O6(l:List Eh):(CV l).take l.length=CV l:=by simp[CV,<-List.map_take]
theorem O4(l:List C5):(CQ l).take l.length=CQ l:=by simp[CQ,<-List.map_take]
theorem Arb(l:List Int)(a b:Nat):((BY l).take b).drop a=BY ((l.take b).drop a):=by simp[BY]
theorem Anu(n:Nat):List.replicate n [Pd.int .i64 0]=BY (List.replicate n 0):=by simp[BY]
theorem Ah8(n:Nat):List.replicate n [Pd.bool false]=C1 (List.replicate n false):=by simp[C1]
theorem E6(l:List Int):JS 1 (BY l):=by simp[JS,BY]
theorem Anv(l:List (List Int)):JS 1 (Cj l):=by simp[JS,Cj]
theorem Ant(l:List Eh):JS 3 (CV l):=by simp[JS,CV]
theorem Ans(l:List C5):JS 6 (CQ l):=by simp[JS,CQ]
theorem Wy(l:List Bool)(i:Nat)(x:Bool):C1 (l.set i x)=(C1 l).set i [.bool x]:=by simp[C1,Bl]
theorem WD(l:List (List Int))(i:Nat)(x:List Int):Cj (l.set i x)=(Cj l).set i [.sl (BY x)]:=by simp[Cj,Bl]
theorem WG(l:List Dc)(i:Nat)(x:Dc):DM (l.set i x)=(DM l).set i [.int .i64 x.word,.int .i64 x.line,.sl (Cw x.names),.sl (BY x.B7)]:=by simp[DM,Bl]
theorem WC(l:List Eh)(i:Nat)(x:Eh):CV (l.set i x)=(CV l).set i [.str x.name,.int .i64 x.x,.int .i64 x.y]:=by simp[CV,Bl]
theorem Rw(l:List C5)(i:Nat)(x:C5):CQ (l.set i x)=(CQ l).set i [.str x.name,.bool x.Cz,.int .i64 x.HA,.int .i64 x.out,.int .i64 x.Cs,.int .i64 x.base]:=by simp[CQ,Bl]
theorem ZU(x:Int):BY [x]=[[.int .i64 x]]:=rfl
theorem ZS(x:List UInt8):Cw [x]=[[.str x]]:=rfl
theorem ZR(x:Bool):C1 [x]=[[.bool x]]:=rfl
theorem Uw(x:Int)(l:List Int):BY (x::l)=[.int .i64 x]::BY l:=rfl
theorem Ut(x:List UInt8)(l:List (List UInt8)):Cw (x::l)=[.str x]::Cw l:=rfl
theorem Us(x:Bool)(l:List Bool):C1 (x::l)=[.bool x]::C1 l:=rfl
theorem Uy(x:List Int)(l:List (List Int)):Cj (x::l)=[.sl (BY x)]::Cj l:=rfl
attribute [go_sem] BW B3 K1 K5 CO CM K2 E5
attribute [go_sem] List.length_set Abf Abe Abd Abc
attribute [go_sem] Ahc Ahe Ahb
attribute [go_sem] LL O3 O2 O7 O8 O5 O6 O4 Anu Ah8 Int.toNat_natCast
attribute [go_sem] KK.fit DI DW Aah TB Xk Pd.flat TD Akc Akg Aad Aae Xl Ace Acf
attribute [go_sem] Arb
theorem bE{α β:Type}{a:Option α}{f:α->Option β}{r:β}(h:a.bind f=some r):∃x,a=some x/\f x=some r:=by
 cases a with
 | none=>cases h
 | some x=>exact ⟨x,rfl,h⟩
theorem bK{α β γ:Type}{a:Option α}{f:α->Option β}{k:β->Option γ}{r:γ}(h:(a.bind f).bind k=some r):∃x,a=some x/\(f x).bind k=some r:=by
 cases a with
 | none=>cases h
 | some x=>exact ⟨x,rfl,h⟩
theorem gE{α:Type}{c:Bool}{x:Option α}{r:α}(h:cond c x none=some r):c=true/\x=some r:=by
 cases c with
 | false=>cases h
 | true=>exact ⟨rfl,h⟩
theorem gK{α γ:Type}{c:Bool}{x:Option α}{k:α->Option γ}{r:γ}(h:(cond c x none).bind k=some r):c=true/\x.bind k=some r:=by
 cases c with
 | false=>cases h
 | true=>exact ⟨rfl,h⟩
theorem ZE:(type_of% @Qo)/\(type_of% @Qk)/\(type_of% @Qi)/\(type_of% @Qp)/\(type_of% @Qq)/\(type_of% @Qm)/\(type_of% @Qn)/\(type_of% @Ql)/\(type_of% @Xk)/\(type_of% @Xl)/\(type_of% @Uw)/\(type_of% @Ut)/\(type_of% @Us)/\(type_of% @Uy)/\(type_of% @ZU)/\(type_of% @ZS)/\(type_of% @ZR)/\(type_of% @DN)/\(type_of% @Dx)/\(type_of% @Ur)/\(type_of% @Ux)/\(type_of% @FO)/\(type_of% @Jk)/\(type_of% @Uv)/\(type_of% @Uu)/\(type_of% @Dd)/\(type_of% @Qj)/\(type_of% @Wy)/\(type_of% @WD)/\(type_of% @WG)/\(type_of% @WC)/\(type_of% @Rw)/\(type_of% @BW)/\(type_of% @B3)/\(type_of% @K1)/\(type_of% @K5)/\(type_of% @CO)/\(type_of% @CM)/\(type_of% @K2)/\(type_of% @E5):=⟨@Qo,@Qk,@Qi,@Qp,@Qq,@Qm,@Qn,@Ql,@Xk,@Xl,@Uw,@Ut,@Us,@Uy,@ZU,@ZS,@ZR,@DN,@Dx,@Ur,@Ux,@FO,@Jk,@Uv,@Uu,@Dd,@Qj,@Wy,@WD,@WG,@WC,@Rw,@BW,@B3,@K1,@K5,@CO,@CM,@K2,@E5⟩
theorem ZB:(type_of% @LL)/\(type_of% @O3)/\(type_of% @O2)/\(type_of% @O7)/\(type_of% @O8)/\(type_of% @O5)/\(type_of% @O6)/\(type_of% @O4)/\(type_of% @BW)/\(type_of% @B3)/\(type_of% @K1)/\(type_of% @K5)/\(type_of% @CO)/\(type_of% @CM)/\(type_of% @K2)/\(type_of% @E5)/\(type_of% @Qo)/\(type_of% @Qk)/\(type_of% @Qi)/\(type_of% @Qp)/\(type_of% @Qq)/\(type_of% @Qm)/\(type_of% @Qn)/\(type_of% @Ql):=⟨@LL,@O3,@O2,@O7,@O8,@O5,@O6,@O4,@BW,@B3,@K1,@K5,@CO,@CM,@K2,@E5,@Qo,@Qk,@Qi,@Qp,@Qq,@Qm,@Qn,@Ql⟩
def PH(a0:Int)(a1:Int):Option (Int):=
 cond (decide (a1<=1)) (some 0) (cond (decide (¬a1=0)) (cond (decide ((Int.tmod a0 a1)<0)) (some (IntKind.i64.wrap ((Int.tmod a0 a1)+a1))) (some (Int.tmod a0 a1))) none)
theorem HV(a0:Int)(a1:Int)(r:Int)(hr:PH a0 a1=some r):
   B1 prog 28 [.p (.int .i64 a0),.p (.int .i64 a1)] [] λ h d=>h=[]/\d= .p (.int .i64 r):=by
 refine B0 func28 rfl ZQ (by simp[Tryz.f28]) ?_;unfold PH at hr;cases c1:decide (a1<=1)
 . simp only[c1,Aj] at hr;obtain ⟨c2,hr⟩:=gE hr;have f3:=Ad c2;cases c4:decide ((Int.tmod a0 a1)<0)
   . simp only[c4,Aj] at hr;cases hr;(try simp only[go_sem,c1,f3,c4]);all_goals ((try refine BX ?_);(try simp only[go_sem,c1,f3,c4]);try first | rfl | exact ⟨rfl,rfl⟩ | (simp;done))
   simp only[c4,Ak] at hr;cases hr;(try simp only[go_sem,c1,f3,c4]);all_goals ((try refine BX ?_);(try simp only[go_sem,c1,f3,c4]);try first | rfl | exact ⟨rfl,rfl⟩ | (simp;done))
 simp only[c1,Ak] at hr;cases hr;try simp only[go_sem,c1]
 all_goals ((try refine BX ?_);(try simp only[go_sem,c1]);try first | rfl | exact ⟨rfl,rfl⟩ | (simp;done))
theorem Q5(a:Int)(n:Nat)(h1:1<=n)(h2:n<=10000000):∃k:Nat,k<n/\PH a (n:Int)=some (k:Int):=by
 unfold PH;by_cases c1:(n:Int)<=1
 . rw[Ag c1,Ak];exact ⟨0,by omega,rfl⟩
 . rw[Ah c1,Aj,Ag (show ¬(n:Int)=0 by omega),Ak];have h3:=Int.tmod_lt_of_pos a (show (0:Int)<n by omega);have h4:-(n:Int)<Int.tmod a n:=by
     have:=Int.lt_tmod_of_pos a (show (0:Int)<n by omega);exact this
   by_cases c2:Int.tmod a n<0
   . rw[Ag c2,Ak,B2 (by omega) (by omega)];exact ⟨(Int.tmod a n+n).toNat,by omega,by congr 1;omega⟩
   . rw[Ah c2,Aj];exact ⟨(Int.tmod a n).toNat,by omega,by congr 1;omega⟩
theorem Akf(l:List Int)(at_ OO:Nat)(Ji:at_<90000)(Wd:1<=OO)(SC:OO<=10):
   B1 prog 20 [.ptr 1000000 0,.p (.int .i64 (OO:Nat))] [(1000000,.box (Dg l at_))]
     λ h r=>∃at2 n,at2<=at_+300/\(validN n/\n.blocks.length<=10)/\h=[(1000000,.box (Dg l at2))]/\r= .agg n.cs:=by
 refine B0 func20 rfl Ang (by simp[Tryz.f20]) ?_;simp only[go_sem,Dg];refine Ec (Aqb l at_ OO (by omega) Wd SC) ?_;rintro h' r ⟨a,n,ha,hP,rfl,rfl⟩;have IC:=hP.valid;obtain ⟨⟨nb1,nb2⟩,_,N6,hnx,p9,_,hss,Yh,Yi,_⟩:=hP;obtain ⟨bl,nx,sp,rb,cq,ca,cd,cp⟩:=n;simp only at nb1 nb2 N6 hnx p9 hss Yh Yi;obtain ⟨q1,TW,Bb3⟩:=CT l a 3 (by omega);have hV:∀(nx':List (List Int)) (rb':List Int),(nx'.length=bl.length/\∀i,i<bl.length->(nx'.getD i []).length<=4/\Ig bl.length i (nx'.getD i []))->EE sp rb'->rb'.length<=8->validN ⟨bl,nx',sp,rb',cq,ca,cd,cp⟩/\(⟨bl,nx',sp,rb',cq,ca,cd,cp⟩:Nt).blocks.length<=10:=by
   intro nx' rb' hn Hy HB;obtain ⟨⟨v1,v2,v3,v4⟩,v5,v6,v7,v8,v9,v10,v11⟩:=IC;exact ⟨⟨⟨v1,v2,hn.1,λ i hi=>⟨(v4 i hi).1,(hn.2 i hi).1,(hn.2 i hi).2⟩⟩,v5,v6,HB,v8,v9,Hy,v11⟩,nb2⟩
 have hN0:nx.length=bl.length/\∀i,i<bl.length->(nx.getD i []).length<=4/\Ig bl.length i (nx.getD i []):=by
   obtain ⟨⟨v1,v2,v3,v4⟩,_⟩:=IC;exact ⟨v3,λ i hi=>(v4 i hi).2⟩
 have Bb0:=Ie bl.length sp sp.length (Ai _) hss;rw[Ar] at Bb0;have e1:=WA bl bl.length (Ai _);have e3:=Wz sp sp.length (Ai _);have e4:=Gt rb rb.length (Ai _);simp only[go_sem,Nt.os,Dg];refine Cq ((C6 l a 3 (by omega) (CJ _ (by omega) (by omega)))) ?_;simp only[go_sem,Dg,TW];cases c1:decide ((q1:Int)=0)
 . obtain ⟨q2,Vk,Auk⟩:=CT l (a+1) 3 (by omega);have P0:nx.length=nx.length:=rfl;have e2:List.take bl.length (Cj nx)=Cj nx:=AE (by simp[Cj];omega);simp only[go_sem,c1];refine Cq ((C6 l (a+1) 3 (by omega) (CJ _ (by omega) (by omega)))) ?_;simp only[go_sem,Dg,Vk];cases c3:decide ((q2:Int)=0)
   . simp only[go_sem,c3];refine BX ?_;simp only[go_sem,Cf,Cb,N6,P0,Cd,BW,e1,e2,e3,e4];refine ⟨(a+1)+1,⟨bl,nx,sp,rb,cq,ca,cd,cp⟩,by omega,hV nx rb hN0 Yi (by omega),?_⟩;first | exact ⟨rfl,rfl⟩ | rfl | (simp[Nt.cs];done)
   simp only[go_sem,c3];refine B4 (λ q:Nat×List Int=>⟨[(0,.ptr 1000000 0),(4,.ptr 4 0),(5,.ptr 5 0),(6,.p (.int .i64 (q.1:Nat)))],
       [(1000000,.box [.p (.sl (BY l)),.p (.int .i64 (((a+1)+1:Nat):Int))]),(4,.box [.cl [],.cl [],.cl [],.cl [],.p (.int .i64 0),.p (.int .i64 0),.p (.int .i64 0),.p (.int .i64 0)]),
        (5,.box [.ref 10011 0 bl.length bl.length,.ref 20011 0 nx.length nx.length,.ref 30011 0 sp.length sp.length,.ref 40011 0 q.2.length q.2.length,.p (.int .i64 cq),.p (.int .i64 ca),.p (.int .i64 cd),.p (.int .i64 cp)]),
        (10011,.arr 76 3 (CV bl)),(20011,.arr 22 1 (Cj nx)),(30011,.arr 68 6 (CQ sp)),(40011,.arr 3 1 (BY q.2))],83⟩)
     (λ q=>q.1<=sp.length/\q.2.length<=8/\EE sp q.2) (λ q=>sp.length - q.1) (0,rb) ⟨AD _,by simp only;omega,Yi⟩ (Wk.forget (by simp[ZF,P0])) ?_
   rintro ⟨i,r1⟩ m4 ⟨hi,hr8,Hy⟩ R1;simp only at hi hr8 Hy;have e4:=Gt r1 r1.length (Ai _);cases c5:decide ((i:Int)<(sp.length:Int))
   . simp only[go_sem,Cd,c5];refine BX ?_;simp only[go_sem,Cf,Cb,N6,P0,Cd,BW,e1,e2,e3,e4];refine ⟨(a+1)+1,⟨bl,nx,sp,r1,cq,ca,cd,cp⟩,by omega,hV nx r1 hN0 Hy (by omega),?_⟩;first | exact ⟨rfl,rfl⟩ | rfl | (simp[Nt.cs];done)
   have hit:i<sp.length:=by have:=Ad c5;omega
   have Wb:=Ca i (by omega);have QD:=Eo sp i hit;have C0:(0:Int)<=(i:Int)/\(i:Int)<(sp.length:Int):=by omega
   have E0:=CB sp i Co hit;obtain ⟨_,_,_,_,g5,g6,g7⟩:=hss i hit;obtain ⟨g8,g9,_⟩:=Mq hss hit;generalize hse:sp.getD i Co=s at*;simp only[go_sem,c5,Cd];refine B4 (λ q:Nat×List Int=>⟨[(0,.ptr 1000000 0),(4,.ptr 4 0),(5,.ptr 5 0),(6,.p (.int .i64 (i:Nat))),(7,.p (.int .i64 (q.1:Nat)))],
       [(1000000,.box [.p (.sl (BY l)),.p (.int .i64 (((a+1)+1:Nat):Int))]),(4,.box [.cl [],.cl [],.cl [],.cl [],.p (.int .i64 0),.p (.int .i64 0),.p (.int .i64 0),.p (.int .i64 0)]),
        (5,.box [.ref 10011 0 bl.length bl.length,.ref 20011 0 nx.length nx.length,.ref 30011 0 sp.length sp.length,.ref 40011 0 q.2.length q.2.length,.p (.int .i64 cq),.p (.int .i64 ca),.p (.int .i64 cd),.p (.int .i64 cp)]),
        (10011,.arr 76 3 (CV bl)),(20011,.arr 22 1 (Cj nx)),(30011,.arr 68 6 (CQ sp)),(40011,.arr 3 1 (BY q.2))],83⟩)
     (λ q=>q.1<=4/\(q.1:Int)<=s.Cs/\q.2.length<=8/\EE sp q.2) (λ q=>4 - q.1) (0,r1) ⟨by simp,by simp only;omega,hr8,Hy⟩ (Wk.forget (by simp[ZF,P0])) ?_
   rintro ⟨j,r2⟩ m5 ⟨hj4,hjs,MP,HB⟩ Vh;simp only at hj4 hjs MP HB;cases c6:decide ((j:Int)<s.Cs)
   . simp only[go_sem,Cd,Ab,QD,C0,c6,Wb];refine R1 (i+1,r2) _ ⟨hit,MP,HB⟩ (by simp only;omega) ?_
     (refine Wk.forget ?_;simp[ZF];done)
   cases c7:s.Cz
   . simp only[go_sem,Cd,Ab,QD,C0,c6,c7,Wb];refine R1 (i+1,r2) _ ⟨hit,MP,HB⟩ (by simp only;omega) ?_
     (refine Wk.forget ?_;simp[ZF];done)
   cases c8:decide ((r2.length:Int)<8)
   . simp only[go_sem,Cd,BW,Ab,QD,C0,c6,c7,c8,Wb];refine R1 (i+1,r2) _ ⟨hit,MP,HB⟩ (by simp only;omega) ?_
     (refine Wk.forget ?_;simp[ZF];done)
   have hj6:(j:Int)<s.Cs:=Ad c6;have hr7:r2.length<8:=by have:=Ad c8;omega
   have Ye:=Ca j (by omega);have hwx:IntKind.i64.wrap (s.base+(j:Int))=s.base+(j:Int):=by rw[B2]<;>omega
   simp only[go_sem,Cd,BW,Ab,QD,C0,c6,c7,c8,hwx];refine Pe rfl rfl (MU r2 (s.base+(j:Int)) (by omega)) (by simp[GS,Nl,ev,get,AE,ZB]) ?_;rintro h' r ⟨rfl,rfl⟩;refine ⟨rfl,rfl,?_⟩;cases c9:decide (s.base+(j:Int)∈r2);rotate_left
   . simp only[go_sem,c9,Ye];refine Vh (j+1,r2) _ ⟨by simp only;omega,by simp only;omega,MP,HB⟩ (by simp only;omega) ?_
     (refine Wk.forget ?_;simp[ZF];done)
   have Rl:=Ae c9;have Ml:sp.any (Md (s.base+(j:Int)))=true:=by
       rw[AU];exact ⟨s,E0,by unfold Md;rw[c7];simp;omega⟩
   simp only[go_sem,c9,BW];refine ⟨⟨Dq _ _ rfl,by omega⟩,?_⟩;simp only[go_sem,Ye];refine Vh (j+1,r2++[s.base+(j:Int)]) _ ⟨by simp only;omega,by simp only;omega,by simp;omega,I0 HB Ml Rl⟩ (by simp only;omega) ?_
   (refine Wk.forget ?_;simp[ZF,DN,BW];done)
 cases c2:decide (1<(bl.length:Int))
 . obtain ⟨q2,Vk,Auk⟩:=CT l (a+1) 3 (by omega);have P0:nx.length=nx.length:=rfl;have e2:List.take bl.length (Cj nx)=Cj nx:=AE (by simp[Cj];omega);simp only[go_sem,c1,c2,Cf];refine Cq ((C6 l (a+1) 3 (by omega) (CJ _ (by omega) (by omega)))) ?_;simp only[go_sem,Dg,Vk];cases c3:decide ((q2:Int)=0)
   . simp only[go_sem,c3];refine BX ?_;simp only[go_sem,Cf,Cb,N6,P0,Cd,BW,e1,e2,e3,e4];refine ⟨(a+1)+1,⟨bl,nx,sp,rb,cq,ca,cd,cp⟩,by omega,hV nx rb hN0 Yi (by omega),?_⟩;first | exact ⟨rfl,rfl⟩ | rfl | (simp[Nt.cs];done)
   simp only[go_sem,c3];refine B4 (λ q:Nat×List Int=>⟨[(0,.ptr 1000000 0),(4,.ptr 4 0),(5,.ptr 5 0),(6,.p (.int .i64 (q.1:Nat)))],
       [(1000000,.box [.p (.sl (BY l)),.p (.int .i64 (((a+1)+1:Nat):Int))]),(4,.box [.cl [],.cl [],.cl [],.cl [],.p (.int .i64 0),.p (.int .i64 0),.p (.int .i64 0),.p (.int .i64 0)]),
        (5,.box [.ref 10011 0 bl.length bl.length,.ref 20011 0 nx.length nx.length,.ref 30011 0 sp.length sp.length,.ref 40011 0 q.2.length q.2.length,.p (.int .i64 cq),.p (.int .i64 ca),.p (.int .i64 cd),.p (.int .i64 cp)]),
        (10011,.arr 76 3 (CV bl)),(20011,.arr 22 1 (Cj nx)),(30011,.arr 68 6 (CQ sp)),(40011,.arr 3 1 (BY q.2))],83⟩)
     (λ q=>q.1<=sp.length/\q.2.length<=8/\EE sp q.2) (λ q=>sp.length - q.1) (0,rb) ⟨AD _,by simp only;omega,Yi⟩ (Wk.forget (by simp[ZF,P0])) ?_
   rintro ⟨i,r1⟩ m4 ⟨hi,hr8,Hy⟩ R1;simp only at hi hr8 Hy;have e4:=Gt r1 r1.length (Ai _);cases c5:decide ((i:Int)<(sp.length:Int))
   . simp only[go_sem,Cd,c5];refine BX ?_;simp only[go_sem,Cf,Cb,N6,P0,Cd,BW,e1,e2,e3,e4];refine ⟨(a+1)+1,⟨bl,nx,sp,r1,cq,ca,cd,cp⟩,by omega,hV nx r1 hN0 Hy (by omega),?_⟩;first | exact ⟨rfl,rfl⟩ | rfl | (simp[Nt.cs];done)
   have hit:i<sp.length:=by have:=Ad c5;omega
   have Wb:=Ca i (by omega);have QD:=Eo sp i hit;have C0:(0:Int)<=(i:Int)/\(i:Int)<(sp.length:Int):=by omega
   have E0:=CB sp i Co hit;obtain ⟨_,_,_,_,g5,g6,g7⟩:=hss i hit;obtain ⟨g8,g9,_⟩:=Mq hss hit;generalize hse:sp.getD i Co=s at*;simp only[go_sem,c5,Cd];refine B4 (λ q:Nat×List Int=>⟨[(0,.ptr 1000000 0),(4,.ptr 4 0),(5,.ptr 5 0),(6,.p (.int .i64 (i:Nat))),(7,.p (.int .i64 (q.1:Nat)))],
       [(1000000,.box [.p (.sl (BY l)),.p (.int .i64 (((a+1)+1:Nat):Int))]),(4,.box [.cl [],.cl [],.cl [],.cl [],.p (.int .i64 0),.p (.int .i64 0),.p (.int .i64 0),.p (.int .i64 0)]),
        (5,.box [.ref 10011 0 bl.length bl.length,.ref 20011 0 nx.length nx.length,.ref 30011 0 sp.length sp.length,.ref 40011 0 q.2.length q.2.length,.p (.int .i64 cq),.p (.int .i64 ca),.p (.int .i64 cd),.p (.int .i64 cp)]),
        (10011,.arr 76 3 (CV bl)),(20011,.arr 22 1 (Cj nx)),(30011,.arr 68 6 (CQ sp)),(40011,.arr 3 1 (BY q.2))],83⟩)
     (λ q=>q.1<=4/\(q.1:Int)<=s.Cs/\q.2.length<=8/\EE sp q.2) (λ q=>4 - q.1) (0,r1) ⟨by simp,by simp only;omega,hr8,Hy⟩ (Wk.forget (by simp[ZF,P0])) ?_
   rintro ⟨j,r2⟩ m5 ⟨hj4,hjs,MP,HB⟩ Vh;simp only at hj4 hjs MP HB;cases c6:decide ((j:Int)<s.Cs)
   . simp only[go_sem,Cd,Ab,QD,C0,c6,Wb];refine R1 (i+1,r2) _ ⟨hit,MP,HB⟩ (by simp only;omega) ?_
     (refine Wk.forget ?_;simp[ZF];done)
   cases c7:s.Cz
   . simp only[go_sem,Cd,Ab,QD,C0,c6,c7,Wb];refine R1 (i+1,r2) _ ⟨hit,MP,HB⟩ (by simp only;omega) ?_
     (refine Wk.forget ?_;simp[ZF];done)
   cases c8:decide ((r2.length:Int)<8)
   . simp only[go_sem,Cd,BW,Ab,QD,C0,c6,c7,c8,Wb];refine R1 (i+1,r2) _ ⟨hit,MP,HB⟩ (by simp only;omega) ?_
     (refine Wk.forget ?_;simp[ZF];done)
   have hj6:(j:Int)<s.Cs:=Ad c6;have hr7:r2.length<8:=by have:=Ad c8;omega
   have Ye:=Ca j (by omega);have hwx:IntKind.i64.wrap (s.base+(j:Int))=s.base+(j:Int):=by rw[B2]<;>omega
   simp only[go_sem,Cd,BW,Ab,QD,C0,c6,c7,c8,hwx];refine Pe rfl rfl (MU r2 (s.base+(j:Int)) (by omega)) (by simp[GS,Nl,ev,get,AE,ZB]) ?_;rintro h' r ⟨rfl,rfl⟩;refine ⟨rfl,rfl,?_⟩;cases c9:decide (s.base+(j:Int)∈r2);rotate_left
   . simp only[go_sem,c9,Ye];refine Vh (j+1,r2) _ ⟨by simp only;omega,by simp only;omega,MP,HB⟩ (by simp only;omega) ?_
     (refine Wk.forget ?_;simp[ZF];done)
   have Rl:=Ae c9;have Ml:sp.any (Md (s.base+(j:Int)))=true:=by
       rw[AU];exact ⟨s,E0,by unfold Md;rw[c7];simp;omega⟩
   simp only[go_sem,c9,BW];refine ⟨⟨Dq _ _ rfl,by omega⟩,?_⟩;simp only[go_sem,Ye];refine Vh (j+1,r2++[s.base+(j:Int)]) _ ⟨by simp only;omega,by simp only;omega,by simp;omega,I0 HB Ml Rl⟩ (by simp only;omega) ?_
   (refine Wk.forget ?_;simp[ZF,DN,BW];done)
 . obtain ⟨u,hu,hub⟩:=CT l (a+1) bl.length (by omega);obtain ⟨q2,Vk,Auk⟩:=CT l (a+2) 3 (by omega);have hu0:(0:Int)<=(u:Int)/\(u:Int)<(nx.length:Int):=by omega
   have hN1:(nx.set u []).length=bl.length/\∀i,i<bl.length->((nx.set u []).getD i []).length<=4/\Ig bl.length i ((nx.set u []).getD i []):=by
     refine ⟨by simp[hN0.1],λ i hi=>?_⟩;by_cases h:u=i
     . subst h;have:(nx.set u []).getD u []=[]:=by simp[List.getD,show u<nx.length by omega]
       rw[this];exact ⟨by simp,λ k hk=>by simp at hk⟩
     . have:(nx.set u []).getD i []=nx.getD i []:=by simp[List.getD,h]
       rw[this];exact hN0.2 i hi
   have P0:(nx.set u []).length=nx.length:=by simp
   have e2:List.take bl.length (Cj (nx.set u []))=Cj (nx.set u []):=AE (by simp[Cj];omega);have hsn:(Cj nx).set u [.sl []]=Cj (nx.set u []):=by simp[Cj,BY,Bl]
   simp only[go_sem,c1,c2,Cf];refine Di [(10011,.arr 76 3 (CV bl)),(5,.box [.ref 10011 0 bl.length bl.length,.ref 20011 0 nx.length nx.length,.ref 30011 0 sp.length sp.length,.ref 40011 0 rb.length rb.length,.p (.int .i64 cq),.p (.int .i64 ca),.p (.int .i64 cd),.p (.int .i64 cp)]),(20011,.arr 22 1 (Cj nx))] mixed (p:=[(0,0),(1,0),(2,0),(3,0),(4,0),(5,0),(6,2),(7,0),(8,3)]) (by kernel_rfl) (by simp[C3,get]) ?_;simp only[go_sem,Cf];refine Gq ((C6 l (a+1) bl.length (by omega) (CJ _ (by omega) (by omega)))) ?_;have hgu:(Cj nx).getD u []=[.sl (BY (nx.getD u []))]:=by simp[Cj,List.getD,show u<nx.length by omega]
   simp only[go_sem,Dg,hu,Cb,Ab,hu0,hgu,hsn];refine Cq ((C6 l (a+2) 3 (by omega) (CJ _ (by omega) (by omega)))) ?_;simp only[go_sem,Dg,Vk];cases c3:decide ((q2:Int)=0)
   . simp only[go_sem,c3];refine BX ?_;simp only[go_sem,Cf,Cb,N6,P0,Cd,BW,e1,e2,e3,e4];refine ⟨(a+2)+1,⟨bl,(nx.set u []),sp,rb,cq,ca,cd,cp⟩,by omega,hV (nx.set u []) rb hN1 Yi (by omega),?_⟩;first | exact ⟨rfl,rfl⟩ | rfl | (simp[Nt.cs];done)
   simp only[go_sem,c3];refine B4 (λ q:Nat×List Int=>⟨[(0,.ptr 1000000 0),(4,.ptr 4 0),(5,.ptr 5 0),(6,.p (.int .i64 (q.1:Nat)))],
       [(1000000,.box [.p (.sl (BY l)),.p (.int .i64 (((a+2)+1:Nat):Int))]),(4,.box [.cl [],.cl [],.cl [],.cl [],.p (.int .i64 0),.p (.int .i64 0),.p (.int .i64 0),.p (.int .i64 0)]),
        (5,.box [.ref 10011 0 bl.length bl.length,.ref 20011 0 nx.length nx.length,.ref 30011 0 sp.length sp.length,.ref 40011 0 q.2.length q.2.length,.p (.int .i64 cq),.p (.int .i64 ca),.p (.int .i64 cd),.p (.int .i64 cp)]),
        (10011,.arr 76 3 (CV bl)),(20011,.arr 22 1 (Cj (nx.set u []))),(30011,.arr 68 6 (CQ sp)),(40011,.arr 3 1 (BY q.2))],83⟩)
     (λ q=>q.1<=sp.length/\q.2.length<=8/\EE sp q.2) (λ q=>sp.length - q.1) (0,rb) ⟨AD _,by simp only;omega,Yi⟩ (Wk.forget (by simp[ZF,P0])) ?_
   rintro ⟨i,r1⟩ m4 ⟨hi,hr8,Hy⟩ R1;simp only at hi hr8 Hy;have e4:=Gt r1 r1.length (Ai _);cases c5:decide ((i:Int)<(sp.length:Int))
   . simp only[go_sem,Cd,c5];refine BX ?_;simp only[go_sem,Cf,Cb,N6,P0,Cd,BW,e1,e2,e3,e4];refine ⟨(a+2)+1,⟨bl,(nx.set u []),sp,r1,cq,ca,cd,cp⟩,by omega,hV (nx.set u []) r1 hN1 Hy (by omega),?_⟩;first | exact ⟨rfl,rfl⟩ | rfl | (simp[Nt.cs];done)
   have hit:i<sp.length:=by have:=Ad c5;omega
   have Wb:=Ca i (by omega);have QD:=Eo sp i hit;have C0:(0:Int)<=(i:Int)/\(i:Int)<(sp.length:Int):=by omega
   have E0:=CB sp i Co hit;obtain ⟨_,_,_,_,g5,g6,g7⟩:=hss i hit;obtain ⟨g8,g9,_⟩:=Mq hss hit;generalize hse:sp.getD i Co=s at*;simp only[go_sem,c5,Cd];refine B4 (λ q:Nat×List Int=>⟨[(0,.ptr 1000000 0),(4,.ptr 4 0),(5,.ptr 5 0),(6,.p (.int .i64 (i:Nat))),(7,.p (.int .i64 (q.1:Nat)))],
       [(1000000,.box [.p (.sl (BY l)),.p (.int .i64 (((a+2)+1:Nat):Int))]),(4,.box [.cl [],.cl [],.cl [],.cl [],.p (.int .i64 0),.p (.int .i64 0),.p (.int .i64 0),.p (.int .i64 0)]),
        (5,.box [.ref 10011 0 bl.length bl.length,.ref 20011 0 nx.length nx.length,.ref 30011 0 sp.length sp.length,.ref 40011 0 q.2.length q.2.length,.p (.int .i64 cq),.p (.int .i64 ca),.p (.int .i64 cd),.p (.int .i64 cp)]),
        (10011,.arr 76 3 (CV bl)),(20011,.arr 22 1 (Cj (nx.set u []))),(30011,.arr 68 6 (CQ sp)),(40011,.arr 3 1 (BY q.2))],83⟩)
     (λ q=>q.1<=4/\(q.1:Int)<=s.Cs/\q.2.length<=8/\EE sp q.2) (λ q=>4 - q.1) (0,r1) ⟨by simp,by simp only;omega,hr8,Hy⟩ (Wk.forget (by simp[ZF,P0])) ?_
   rintro ⟨j,r2⟩ m5 ⟨hj4,hjs,MP,HB⟩ Vh;simp only at hj4 hjs MP HB;cases c6:decide ((j:Int)<s.Cs)
   . simp only[go_sem,Cd,Ab,QD,C0,c6,Wb];refine R1 (i+1,r2) _ ⟨hit,MP,HB⟩ (by simp only;omega) ?_
     (refine Wk.forget ?_;simp[ZF];done)
   cases c7:s.Cz
   . simp only[go_sem,Cd,Ab,QD,C0,c6,c7,Wb];refine R1 (i+1,r2) _ ⟨hit,MP,HB⟩ (by simp only;omega) ?_
     (refine Wk.forget ?_;simp[ZF];done)
   cases c8:decide ((r2.length:Int)<8)
   . simp only[go_sem,Cd,BW,Ab,QD,C0,c6,c7,c8,Wb];refine R1 (i+1,r2) _ ⟨hit,MP,HB⟩ (by simp only;omega) ?_
     (refine Wk.forget ?_;simp[ZF];done)
   have hj6:(j:Int)<s.Cs:=Ad c6;have hr7:r2.length<8:=by have:=Ad c8;omega
   have Ye:=Ca j (by omega);have hwx:IntKind.i64.wrap (s.base+(j:Int))=s.base+(j:Int):=by rw[B2]<;>omega
   simp only[go_sem,Cd,BW,Ab,QD,C0,c6,c7,c8,hwx];refine Pe rfl rfl (MU r2 (s.base+(j:Int)) (by omega)) (by simp[GS,Nl,ev,get,AE,ZB]) ?_;rintro h' r ⟨rfl,rfl⟩;refine ⟨rfl,rfl,?_⟩;cases c9:decide (s.base+(j:Int)∈r2);rotate_left
   . simp only[go_sem,c9,Ye];refine Vh (j+1,r2) _ ⟨by simp only;omega,by simp only;omega,MP,HB⟩ (by simp only;omega) ?_
     (refine Wk.forget ?_;simp[ZF];done)
   have Rl:=Ae c9;have Ml:sp.any (Md (s.base+(j:Int)))=true:=by
       rw[AU];exact ⟨s,E0,by unfold Md;rw[c7];simp;omega⟩
   simp only[go_sem,c9,BW];refine ⟨⟨Dq _ _ rfl,by omega⟩,?_⟩;simp only[go_sem,Ye];refine Vh (j+1,r2++[s.base+(j:Int)]) _ ⟨by simp only;omega,by simp only;omega,by simp;omega,I0 HB Ml Rl⟩ (by simp only;omega) ?_
   (refine Wk.forget ?_;simp[ZF,DN,BW];done)
def GH(a0:Int):Option (Bool):=
 some (!decide (a0=a0))
theorem L1(a0:Int)(r:Bool)(hr:GH a0=some r):
   B1 prog 178 [.p (.int .i64 a0)] [] λ h d=>h=[]/\d= .p (.bool r):=by
 refine B0 func178 rfl Aft (by simp[Tryz.f178]) ?_;unfold GH at hr;cases hr;try simp only[go_sem]
 all_goals ((try refine BX ?_);(try simp only[go_sem]);try first | rfl | exact ⟨rfl,rfl⟩ | (simp;done))
def Hl(a0:Int)(a1:Int):Option (Bool):=
 Option.bind (GH a0) λ x1=>cond x1 (Option.bind (GH a1) λ x4=>cond x4 (some (decide (a0<a1))) (some true)) (some (decide (a0<a1)))
theorem Tg(a0:Int)(a1:Int)(r:Bool)(hr:Hl a0 a1=some r):
   B1 prog 150 [.p (.int .i64 a0),.p (.int .i64 a1)] [] λ h d=>h=[]/\d= .p (.bool r):=by
 refine B0 func150 rfl Ag4 (by simp[Tryz.f150]) ?_;unfold Hl at hr;obtain ⟨x1,g2,hr⟩:=bE hr;try simp only[go_sem]
 refine Cq (L1 a0 _ g2) ?_;cases c3:x1
 . simp only[c3,Aj] at hr;cases hr;(try simp only[go_sem,c3]);all_goals ((try refine BX ?_);(try simp only[go_sem,c3]);try first | rfl | exact ⟨rfl,rfl⟩ | (simp;done))
 simp only[c3,Ak] at hr;obtain ⟨x4,g5,hr⟩:=bE hr;try simp only[go_sem,c3]
 refine Cq (L1 a1 _ g5) ?_;cases c6:x4
 . simp only[c6,Aj] at hr;cases hr;(try simp only[go_sem,c3,c6]);all_goals ((try refine BX ?_);(try simp only[go_sem,c3,c6]);try first | rfl | exact ⟨rfl,rfl⟩ | (simp;done))
 simp only[c6,Ak] at hr;cases hr;try simp only[go_sem,c3,c6]
 all_goals ((try refine BX ?_);(try simp only[go_sem,c3,c6]);try first | rfl | exact ⟨rfl,rfl⟩ | (simp;done))
def MK(a1:Int):(List Int)×Int->Option (((List Int)×Int)⊕(((List Int)×Int)))
 | (OA,Oz)=>cond (decide (a1<Oz)) (Option.bind (CL OA Oz) λ RI=>Option.bind (CL OA (IntKind.i64.wrap (Oz - 1))) λ Ma=>Option.bind (Hl RI Ma) λ x29=>cond x29 (Option.bind (CL (OA.set (Int.toNat Oz) Ma) (IntKind.i64.wrap (Oz - 1))) λ x32=>some (Sum.inl (((OA.set (Int.toNat Oz) Ma).set (Int.toNat (IntKind.i64.wrap (Oz - 1))) RI),(IntKind.i64.wrap (Oz - 1))))) (some (Sum.inr (OA,Oz)))) (some (Sum.inr (OA,Oz)))
def KP(a1:Int)(a2:Int):(List Int)×Int->Option (((List Int)×Int)⊕(((List Int)×Int)))
 | (v3,v4)=>cond (decide (v4<a2)) (Option.bind (CA (MK a1) (v3,v4)) (λ (v36,v37)=>some (Sum.inl (v36,(IntKind.i64.wrap (v4+1)))))) (some (Sum.inr (v3,v4)))
def SP(a0:List Int)(a1:Int)(a2:Int):Option ((List Int)):=
 Option.bind (CA (KP a1 a2) (a0,(IntKind.i64.wrap (a1+1)))) (λ (v38,v39)=>some v38)
theorem Aeu(a0:List Int)(a1:Int)(a2:Int)(r:(List Int))(hr:SP a0 a1 a2=some r):
   B1 prog 144 [.ref 1000000 0 a0.length a0.length,.p (.int .i64 a1),.p (.int .i64 a2)] [(1000000,.arr 3 1 (BY a0))] λ h d=>h=[(1000000,.arr 3 1 (BY r))]/\d= .Dr []:=by
 refine B0 func144 rfl Ag5 (by simp[Tryz.f144]) ?_;unfold SP at hr;obtain ⟨e8,g9,hr⟩:=bE hr;try simp only[go_sem]
 refine CP g9 (λ q:(List Int)×Int=>⟨[(0,.ref 1000000 0 q.1.length q.1.length),(1,.p (.int .i64 a1)),(2,.p (.int .i64 a2)),(6,.p (.int .i64 q.2))],[(1000000,.arr 3 1 (BY q.1))],49⟩) ((Wk.forget (by simp[ZF,ZE]))) ?_;rintro ⟨v3,v4⟩ m7 FF ih6;rw[KP.eq_1] at FF;cases IW:decide (v4<a2)
 . simp only[IW,Aj] at FF;simp only[Aa,BZ] at FF;cases FF;(try dsimp only at hr);cases hr;(try simp only[go_sem,IW]);all_goals ((try refine Cm ?_);(try simp only[go_sem,IW]);try first | rfl | exact ⟨rfl,rfl⟩ | (simp;done))
 simp only[IW,Ak] at FF;obtain ⟨e18,g19,FF⟩:=bK FF;try simp only[go_sem,IW]
 refine CP g19 (λ q:(List Int)×Int=>⟨[(0,.ref 1000000 0 q.1.length q.1.length),(1,.p (.int .i64 a1)),(2,.p (.int .i64 a2)),(6,.p (.int .i64 v4)),(7,.p (.int .i64 q.2))],[(1000000,.arr 3 1 (BY q.1))],49⟩) ((Wk.forget (by simp[ZF,ZE]))) ?_;rintro ⟨OA,Oz⟩ m17 LH Bam;rw[MK.eq_1] at LH;try simp only[go_sem]
 refine CH mixed (p:=[(0,0),(1,0),(2,0),(3,0),(4,0),(5,0),(6,0),(7,0),(8,0),(9,0),(10,0),(11,0),(12,0),(13,2),(14,0)]) (by kernel_rfl) (by simp[C3,get]) ?_;cases Qu:decide (a1<Oz)
 . simp only[Qu,Aj] at LH;simp only[Aa,BZ] at LH;cases LH;(try dsimp only at FF);simp only[Aa,B6] at FF;(try simp only[go_sem,Qu]);exact ih6 (OA,(IntKind.i64.wrap (v4+1))) _ FF ((Wk.forget (by simp[ZF,ZE])))
 simp only[Qu,Ak] at LH;obtain ⟨RI,g22,LH⟩:=bK LH;have f23:=B8 g22;have f24:(BY OA).getD (Int.toNat Oz) []=[(.int .i64 RI)]:=B9 _ g22;obtain ⟨Ma,g26,LH⟩:=bK LH;have f27:=B8 g26;have f28:(BY OA).getD (Int.toNat (IntKind.i64.wrap (Oz - 1))) []=[(.int .i64 Ma)]:=B9 _ g26;obtain ⟨x29,g30,LH⟩:=bK LH;try simp only[go_sem,Qu,f23,f24,f27,f28]
 refine Gq (Tg RI Ma _ g30) ?_;cases QE:x29
 . simp only[QE,Aj] at LH;simp only[Aa,BZ] at LH;cases LH;(try dsimp only at FF);simp only[Aa,B6] at FF;(try simp only[go_sem,Qu,QE]);exact ih6 (OA,(IntKind.i64.wrap (v4+1))) _ FF ((Wk.forget (by simp[ZF,ZE,QE])))
 simp only[QE,Ak] at LH;try simp only[go_sem,Qu,QE]
 refine CH mixed (p:=[(0,0),(1,0),(2,0),(3,0),(4,0),(5,0),(6,0),(7,0),(8,0),(9,0),(10,0),(11,0),(12,0),(13,0),(14,0),(15,4),(16,4),(17,4)]) (by kernel_rfl) (by simp[C3,get]) ?_;obtain ⟨x32,g33,LH⟩:=bK LH;have f34:=B8 g33;have f35:(BY (OA.set (Int.toNat Oz) Ma)).getD (Int.toNat (IntKind.i64.wrap (Oz - 1))) []=[(.int .i64 x32)]:=B9 _ g33;simp only[Aa,B6] at LH;try simp only[go_sem,f27,f28,f23,f24,f34,f35]
 exact Bam (((OA.set (Int.toNat Oz) Ma).set (Int.toNat (IntKind.i64.wrap (Oz - 1))) RI),(IntKind.i64.wrap (Oz - 1))) _ LH ((Wk.forget (by simp[ZF,ZE,QE])))
def Fo(a0:C5):Option (Bool):=
 some a0.Cz
theorem Mv(a0:C5)(r:Bool)(hr:Fo a0=some r):
   B1 prog 65 [.agg [.p (.str a0.name),.p (.bool a0.Cz),.p (.int .i64 a0.HA),.p (.int .i64 a0.out),.p (.int .i64 a0.Cs),.p (.int .i64 a0.base)]] [] λ h d=>h=[]/\d= .p (.bool r):=by
 refine B0 func65 rfl Amh (by simp[Tryz.f65]) ?_;unfold Fo at hr;cases hr;try simp only[go_sem]
 all_goals ((try refine BX ?_);(try simp only[go_sem]);try first | rfl | exact ⟨rfl,rfl⟩ | (simp;done))
def DL(a0:List C5):Int->Option ((Int)⊕(Int⊕Int))
 | v2=>cond (decide (v2<((a0.length:Nat):Int))) (Option.bind (CL a0 v2) λ x9=>Option.bind (Fo (⟨x9.name,x9.Cz,x9.HA,x9.out,x9.Cs,x9.base⟩:C5)) λ Mc=>cond Mc (some (Sum.inr (.inr ((v2:Int))))) (some (Sum.inl (IntKind.i64.wrap (v2+1))))) (some (Sum.inr (.inl v2)))
def ED(a0:List C5):Option (Int):=
 Option.bind (CA (DL a0) 0) (λ | .inl Mn=>some (-1) | .inr (r17)=>some r17)
theorem Lp(a0:List C5)(r:Int)(hr:ED a0=some r):
   B1 prog 89 [.p (.sl (CQ a0)),.fn 65 []] [] λ h d=>h=[]/\d= .p (.int .i64 r):=by
 refine B0 func89 rfl Alz (by simp[Tryz.f89]) ?_;unfold ED at hr;obtain ⟨e6,g7,hr⟩:=bE hr;try simp only[go_sem]
 refine CP g7 (λ q:Int=>⟨[(0,.p (.sl (CQ a0))),(1,.fn 65 []),(7,.p (.int .i64 ((a0.length:Nat):Int))),(8,.p (.int .i64 q))],[],19⟩) ((Wk.forget (by simp[ZF,ZE]))) ?_;rintro v2 m5 F7 R1;rw[DL.eq_1] at F7;cases c8:decide (v2<((a0.length:Nat):Int))
 . simp only[c8,Aj] at F7;simp only[Aa,BZ] at F7;cases F7;(try dsimp only at hr);cases hr;(try simp only[go_sem,c8]);all_goals ((try refine BX ?_);(try simp only[go_sem,c8]);try first | rfl | exact ⟨rfl,rfl⟩ | (simp;done))
 simp only[c8,Ak] at F7;obtain ⟨x9,g10,F7⟩:=bK F7;have f11:=B8 g10;have f12:(CQ a0).getD (Int.toNat v2) []=[(.str x9.name),(.bool x9.Cz),(.int .i64 x9.HA),(.int .i64 x9.out),(.int .i64 x9.Cs),(.int .i64 x9.base)]:=B9 _ g10;obtain ⟨Mc,g14,F7⟩:=bK F7;try simp only[go_sem,c8,f11,f12]
 refine Cq (Mv (⟨x9.name,x9.Cz,x9.HA,x9.out,x9.Cs,x9.base⟩:C5) _ g14) ?_;cases IV:Mc
 . simp only[IV,Aj] at F7;simp only[Aa,B6] at F7;(try simp only[go_sem,IV]);exact R1 (IntKind.i64.wrap (v2+1)) _ F7 ((Wk.forget (by simp[ZF,ZE,IV])))
 simp only[IV,Ak] at F7;simp only[Aa,BZ] at F7;cases F7;try dsimp only at hr
 cases hr;try simp only[go_sem,IV]
 all_goals ((try refine BX ?_);(try simp only[go_sem,IV]);try first | rfl | exact ⟨rfl,rfl⟩ | (simp;done))
def NS(a0:List C5):Option (Bool):=
 Option.bind (ED a0) λ x1=>some (decide (0<=x1))
theorem j9(a0:List C5)(r:Bool)(hr:NS a0=some r):
   B1 prog 64 [.p (.sl (CQ a0)),.fn 65 []] [] λ h d=>h=[]/\d= .p (.bool r):=by
 refine B0 func64 rfl Ami (by simp[Tryz.f64]) ?_;unfold NS at hr;obtain ⟨x1,g2,hr⟩:=bE hr;try simp only[go_sem]
 refine Cq (Lp a0 _ g2) ?_;cases hr;try simp only[go_sem]
 all_goals ((try refine BX ?_);(try simp only[go_sem]);try first | rfl | exact ⟨rfl,rfl⟩ | (simp;done))
def Fe:List Int->Int->List Int
 | [],x=>[x]
 | y::r,x=>if x<y then x::y::r else y::Fe r x
def Dh(l:List Int):List Int:=l.foldl Fe []
theorem PT(l:List Int)(x:Int):(Fe l x).length=l.length+1:=by
 induction l with
 | nil=>rfl
 | cons y r ih=>simp only[Fe];split<;>simp[ih]
theorem Ud(l p:List Int):(l.foldl Fe p).length=p.length+l.length:=by
 induction l generalizing p with
 | nil=>simp
 | cons x r ih=>simp only[Bt,ih,PT,Al];omega
theorem Kw(l:List Int):(Dh l).length=l.length:=by simp[Dh,Ud]
theorem PS(l:List Int)(x y:Int):y∈Fe l x↔y=x∨y∈l:=by
 induction l with
 | nil=>simp[Fe]
 | cons z r ih=>
   simp only[Fe];split
   . simp
   . simp only[AG,ih];constructor
     . rintro (h | h | h)<;>simp[h]
     . rintro (h | h | h)<;>simp[h]
theorem R0(l:List Int)(x:Int)(h:l.Pairwise (· <= ·)):(Fe l x).Pairwise (· <= ·):=by
 induction l with
 | nil=>simp[Fe]
 | cons y r ih=>
   obtain ⟨h1,h2⟩:=BH.1 h;simp only[Fe];split
   . refine BH.2 ⟨λ z hz=>?_,h⟩;rcases AG.1 hz with rfl | hz
     . omega
     . have:=h1 z hz;omega
   . refine BH.2 ⟨λ z hz=>?_,ih h2⟩;rcases (PS r x z).1 hz with rfl | hz
     . omega
     . exact h1 z hz
theorem Xr(p:List Int)(y x:Int)(h:x<y):Fe (p++[y]) x=Fe p x++[y]:=by
 induction p with
 | nil=>simp[Fe,h]
 | cons z r ih=>
   simp only[A5,Fe];split
   . rfl
   . rw[ih];rfl
theorem Xs(p:List Int)(y x:Int)(hs:(p++[y]).Pairwise (· <= ·))(h:¬x<y):Fe (p++[y]) x=p++[y,x]:=by
 induction p with
 | nil=>simp[Fe,h]
 | cons z r ih=>
   simp only[A5,BH] at hs;have:=hs.1 y (by simp);simp only[A5,Fe];rw[if_neg (by omega),ih hs.2]
theorem Ac6{α:Type}(p q:List α)(x y:α):(p++x::q).set p.length y=p++y::q:=by
 induction p with
 | nil=>rfl
 | cons z r ih=>simp[ih]
theorem Au5(a b:Int):Hl a b=some (decide (a<b)):=by
 unfold Hl GH;simp
theorem Zh(l:List Int):∀(n:Nat) (p:List Int) (x:Int) (q:List Int),p.length=n->p.Pairwise (· <= ·)->n<10000000->∃j,CA (MK 0) (p++x::q,(n:Int))=some (Fe p x++q,j)
 | 0,p,x,q,hp,_,_=>by
   obtain rfl:p=[]:=AY hp;refine ⟨0,?_⟩;rw[CW,MK.eq_1];simp[Fe,HF]
 | n+1,p,x,q,hp,hs,hn=>by
   obtain ⟨r,y,rfl⟩:∃r y,p=r++[y]:=by
     rcases List.eq_nil_or_concat p with h | ⟨r,y,h⟩
     . subst h;simp at hp
     . exact ⟨r,y,by simpa using h⟩
   have hr:r.length=n:=by simpa using hp
   have hw:IntKind.i64.wrap (((n+1:Nat):Int) - 1)=(n:Int):=by rw[IntKind.wrap_i64];omega
   have i1:CL ((r++[y])++x::q) ((n+1:Nat):Int)=some x:=by
     rw[GM];simp[<-hr,AN]
   have i2:CL ((r++[y])++x::q) (n:Int)=some y:=by
     rw[GM];simp[<-hr,AN]
   have s1:((r++[y])++x::q).set (n+1) y=r++y::y::q:=by
     have:=Ac6 (r++[y]) q x y;rw[show (r++[y]).length=n+1 by simp[hr]] at this;rw[this];simp
   have i3:CL (((r++[y])++x::q).set (n+1) y) (n:Int)=some y:=by
     rw[s1,GM];simp[<-hr,AN]
   have s2:(((r++[y])++x::q).set (n+1) y).set n x=r++x::(y::q):=by
     rw[s1,<-hr];exact Ac6 r (y::q) y x
   rw[CW,MK.eq_1];have c1:decide ((0:Int)<((n+1:Nat):Int))=true:=Ag (by omega);rw[c1,Ak,i1,Aa,hw,i2,Aa,Au5,Aa];by_cases hxy:x<y
   . have c2:decide (x<y)=true:=by simpa using hxy
     rw[c2,Ak,show Int.toNat ((n+1:Nat):Int)=n+1 from rfl,i3,Aa,Aa,B6,show Int.toNat (n:Int)=n from rfl,s2];have OR:r.Pairwise (· <= ·):=(BK.1 hs).1;obtain ⟨j,hj⟩:=Zh l n r x (y::q) hr OR (by omega);refine ⟨j,?_⟩;rw[hj,Xr _ _ _ hxy];simp
   . have c2:decide (x<y)=false:=by simpa using hxy
     rw[c2,Aj,Aa,BZ];refine ⟨((n+1:Nat):Int),?_⟩;rw[Xs _ _ _ hs hxy];simp
theorem V8:∀(q p:List Int),p.Pairwise (· <= ·)->p.length+q.length<10000000->∃j,CA (KP 0 ((p.length+q.length:Nat):Int)) (p++q,(p.length:Int))=some (q.foldl Fe p,j)
 | [],p,hs,hn=>by
   rw[CW,KP.eq_1];simp[HF]
 | x::q,p,hs,hn=>by
   have hl:p.length+(x::q).length=(Fe p x).length+q.length:=by rw[PT];simp;omega
   rw[CW,KP.eq_1];have c1:decide ((p.length:Int)<((p.length+(x::q).length:Nat):Int))=true:=Ag (by simp only[Al];omega);obtain ⟨j,hj⟩:=Zh [] p.length p x q rfl hs (by simp at hn;omega);have hw:IntKind.i64.wrap ((p.length:Int)+1)=((Fe p x).length:Int):=by rw[IntKind.wrap_i64,PT];simp at hn;omega
   rw[c1,Ak,hj,Aa,Aa,B6,hw,hl];obtain ⟨j2,hj2⟩:=V8 q (Fe p x) (R0 p x hs) (by rw[PT];simp at hn;omega);exact ⟨j2,by rw[hj2];rfl⟩
theorem Zg(l:List Int)(hl:l.length<10000000):SP l 0 (l.length:Int)=some (Dh l):=by
 unfold SP;cases l with
 | nil=>
   rw[CW,KP.eq_1];simp[HF,Dh,IntKind.wrap_i64]
 | cons x r=>
   have hw:IntKind.i64.wrap (0+1)=(([x]:List Int).length:Int):=by rw[IntKind.wrap_i64];simp
   obtain ⟨j,hj⟩:=V8 r [x] (by simp) (by simp at hl ⊢;omega);rw[hw,show ((x::r).length:Int)=(([x]:List Int).length+r.length:Nat) by simp;omega,show x::r=[x]++r from rfl,hj];rfl
theorem Akl(n:Nat)(hn:n<=12):B1 prog 154 [.p (.int .u64 n)] [] λ h r=>h=[]/\∃m:Int,r= .p (.int .i64 m):=by
 have c1:decide ((4294967296:Int)<=(n:Int))=false:=by simp;omega
 have c2:decide ((65536:Int)<=(n:Int))=false:=by simp;omega
 have c3:decide ((256:Int)<=(n:Int))=false:=by simp;omega
 have w1:IntKind.u8.wrap (n:Int)=(n:Int):=by simp only[IntKind.wrap,IntKind.signed,IntKind.bits];first | omega | (simp;omega)
 have r1:(0:Int)<=(n:Int)/\(n:Int)<256:=by omega
 refine B0 func154 rfl Ag3 (by simp[Tryz.f154]) ?_;simp only[go_sem,c1,c2,c3,w1];refine ⟨by simp;omega,?_⟩;exact ⟨_,rfl⟩
theorem Au6(n:Nat)(hn:n<=12):B1 prog 115 [.p (.int .u64 n)] [] λ h r=>h=[]/\∃m:Int,r= .p (.int .i64 m):=by
 refine B0 func115 rfl Agq (by simp[Tryz.f115]) ?_;simp only[go_sem];refine Ec (Akl n hn) ?_;rintro h' r ⟨rfl,m,rfl⟩;simp only[go_sem];exact ⟨m,rfl⟩
theorem Ae9(l:List Int)(hl:l.length<=12)(m:Int):B1 prog 114 [.ref 1000000 0 l.length l.length,.p (.int .i64 0),.p (.int .i64 l.length),.p (.int .i64 m)] [(1000000,.arr 3 1 (BY l))]
   λ h r=>h=[(1000000,.arr 3 1 (BY (Dh l)))]/\r= .Dr []:=by
 have w1:IntKind.i64.wrap ((l.length:Int) - 0)=(l.length:Int):=by rw[IntKind.wrap_i64];omega
 have c1:decide ((l.length:Int)<=12)=true:=by simp;omega
 refine B0 func114 rfl Agr (by simp[Tryz.f114]) ?_;simp only[go_sem];refine X4 1 ?_;rw[Avp];refine ⟨_,Wk.refl _,?_⟩;simp only[go_sem,w1,c1,BW];refine Pc rfl rfl ?_;simp only[go_sem,JL];refine UO (Aeu l 0 l.length _ (Zg l (by omega))) ?_;rintro h' r ⟨rfl,rfl⟩;simp only[go_sem];all_goals (try refine Cm ?_)
 all_goals (try simp only[go_sem])
theorem Aj6(l:List Int)(hl:l.length<=12):B1 prog 66 [.ref 1000000 0 l.length l.length] [(1000000,.arr 3 1 (BY l))] λ h r=>h=[(1000000,.arr 3 1 (BY (Dh l)))]/\r= .Dr []:=by
 have w1:IntKind.u64.wrap (l.length:Int)=(l.length:Int):=by simp only[IntKind.wrap,IntKind.signed,IntKind.bits];first | omega | (simp;omega)
 refine B0 func66 rfl Amg (by simp[Tryz.f66]) ?_;simp only[go_sem,BW,w1];refine Ec (Au6 l.length hl) ?_;rintro h' r ⟨rfl,m,rfl⟩;simp only[go_sem,BW];refine Pc rfl rfl ?_;simp only[go_sem,JL];refine UO (Ae9 l hl m) ?_;rintro h' r ⟨rfl,rfl⟩;simp only[go_sem];all_goals (try refine Cm ?_)
 all_goals (try simp only[go_sem])
theorem Aj5(rows:List (List Int))(i k:Nat)(hi:i<rows.length)(hl:(rows.getD i []).length<=12):
   B1 prog 66 [.nr 1000000 i (rows.getD i []).length k] [(1000000,.Dp 22 3 1 k (encR rows) none)] λ h r=>h=[(1000000,.Dp 22 3 1 k (encR (rows.set i (Dh (rows.getD i [])))) none)]/\r= .Dr []:=by
 have hg:(encR rows)[i]?=some (BY (rows.getD i [])):=by simp[encR,List.getD,hi]
 refine (US (ps:=[]) hg (BW _).symm (Aj6 (rows.getD i []) hl) (R':=λ es r=>es=BY (Dh (rows.getD i []))/\r= .Dr []) ?_).mono ?_
 . rintro h' r ⟨rfl,rfl⟩;exact ⟨_,rfl,by rw[BW,Kw],.inl rfl,rfl,rfl⟩
 . rintro h' r ⟨N9,rfl,_,rfl,rfl⟩;exact ⟨by rw[ZT],rfl⟩
def nt0:Nt:=⟨[],[],[],[],0,0,0,0⟩
def CD.init:CD:=⟨[],[],[],4,2,1,8,[],[],[],0,[],false⟩
def FX:CD->List Dc->Option (Int×Int)×CD
 | b,[]=>(none,b)
 | b,d::r=>if (b.Et d).1=0 then FX (b.Et d).2 r else (some (d.line,(b.Et d).1),b)
def Gy(n:Int)(sp:List C5)(ba:List Int):List C5:=List.zipWith (λ s x=>{s with base:=n+x}) sp ba
def Ph(sp:List C5)(p:Int×Int):Int:=(sp.getD p.1.toNat Co).base+p.2 - 1
def CD.net(b:CD):Nt:=⟨b.bl,b.nx.map Dh,Gy b.bl.length b.sp b.ba,b.pl.map (Ph (Gy b.bl.length b.sp b.ba)),b.cq,b.ca,b.cd,b.cp⟩
def nbuildV(d:List Dc):Nt×Int×Int:=match FX CD.init d with
 | (some (l,e),_)=>(nt0,l,e)
 | (none,b)=>if decide (b.bl.length=0)=true then (nt0,0,15) else if b.sp.any (·.Cz)=false then (nt0,0,16) else (b.net,0,0)
def CD.Bac(b:CD):List D:=[.ref 901 0 b.bl.length b.bl.length,.Dt 902 b.nx.length,.ref 903 0 b.sp.length b.sp.length,.cl [],.p (.int .i64 b.cq),.p (.int .i64 b.ca),.p (.int .i64 b.cd),.p (.int .i64 b.cp),
 .mv 14,.mv 15,.ref 906 0 b.ba.length b.ba.length,.p (.int .i64 b.sl),.ref 907 0 b.pl.length b.pl.length,.p (.bool b.cf)]
def CD.lh(b:CD)(k:Nat):Hp:=[(17,.box b.Bac),(901,.arr 76 3 (CV b.bl)),(902,.Dp 22 3 1 k (encR b.nx) none),(903,.arr 68 6 (CQ b.sp)),
 (14,.mp (Kr b.mb)),(15,.mp (Kr b.ms)),(906,.arr 3 1 (BY b.ba)),(907,.arr 120 2 (IG b.pl))]
theorem CD.PK(b:CD)(k:Nat):b.lh k=[(17,.box [.ref 901 0 b.bl.length b.bl.length,.Dt 902 b.nx.length,.ref 903 0 b.sp.length b.sp.length,.cl [],.p (.int .i64 b.cq),.p (.int .i64 b.ca),.p (.int .i64 b.cd),.p (.int .i64 b.cp),
 .mv 14,.mv 15,.ref 906 0 b.ba.length b.ba.length,.p (.int .i64 b.sl),.ref 907 0 b.pl.length b.pl.length,.p (.bool b.cf)]),(901,.arr 76 3 (CV b.bl)),(902,.Dp 22 3 1 k (encR b.nx) none),(903,.arr 68 6 (CQ b.sp)),
 (14,.mp (Kr b.mb)),(15,.mp (Kr b.ms)),(906,.arr 3 1 (BY b.ba)),(907,.arr 120 2 (IG b.pl))]:=rfl
theorem BI.init:BI CD.init:=by
 refine ⟨by simp[CD.init],rfl,λ x i h=>?_,λ x i h=>?_,λ i=>by simp[CD.init],by simp[CD.init],rfl,by simp[CD.init],by simp[CD.init],by simp[CD.init],by simp[CD.init],by simp[CD.init]⟩<;>simp[CD.init,Eg] at h
theorem BI.l9:∀(l:List Dc) {b:CD},BI b->BI (FX b l).2
 | [],b,h=>h
 | d::r,b,h=>by
   simp only[FX];split
   . exact BI.l9 r (h.add d)
   . exact h
theorem Ahh(l:List Dc)(i:Nat)(h:i<l.length):(DM l).getD i []=[.int .i64 (l.getD i II).word,.int .i64 (l.getD i II).line,.sl (Cw (l.getD i II).names),.sl (BY (l.getD i II).B7)]:=by simp[DM,List.getD,h]
theorem Avc(l:List C5)(hl:l.length<10000000):NS l=some (l.any (·.Cz)):=by
 have h:=Jf (step:=DL l) l.length (λ i=>(i:Int)) (Sum.inl (l.length:Int)) (λ i=>if (l.getD i Co).Cz=true then some (Sum.inr (i:Int)) else none)
   (λ i hi _=>by
     have hx:CL l (i:Int)=some (l.getD i Co):=by rw[GM];simp[List.getD,hi]
     rw[DL.eq_1,Ag (by omega:(i:Int)<((l.length:Nat):Int)),Ak,hx,Aa];simp only[Fo,Aa];cases c:(l.getD i Co).Cz
     . simp[Ca i (by omega)]
     . simp)
   (λ _=>by rw[DL.eq_1,Ah (by omega:¬((l.length:Nat):Int)<((l.length:Nat):Int)),Aj])
 unfold NS ED;rw[show ((0:Nat):Int)=0 from rfl] at h;rw[h];cases hf:(List.range l.length).findSome? (λ i=>if (l.getD i Co).Cz=true then some (Sum.inr (i:Int):Int⊕Int) else none) with
 | none=>
   rw[Bo] at hf;have:l.any (·.Cz)=false:=by
     rw[List.any_eq_false];intro x hx;obtain ⟨i,hi,rfl⟩:=List.getElem_of_mem hx;have:=hf i (by simpa using hi);simp[List.getD,hi] at this
     simpa using this
   simp[this]
 | some e=>
   obtain ⟨i,hi,he⟩:=List.exists_of_findSome?_eq_some hf;simp only[List.mem_range] at hi;split at he
   . rename_i hd;cases he;have:l.any (·.Cz)=true:=AU.2 ⟨l.getD i Co,CB l i Co hi,hd⟩;simp[this]
   . cases he
def sB(n:Int)(sp:List C5)(ba:List Int)(i:Nat):List C5:=Gy n (sp.take i) (ba.take i)++sp.drop i
theorem Nr(n:Int)(sp:List C5)(ba:List Int)(h:ba.length=sp.length):(Gy n sp ba).length=sp.length:=by simp[Gy,h]
theorem Xa(n:Int)(sp:List C5)(ba:List Int)(i:Nat)(h:ba.length=sp.length)(hi:i<=sp.length):(sB n sp ba i).length=sp.length:=by
 simp only[sB,Aq,List.length_drop];rw[Nr _ _ _ (by simp[h]),Bf];omega
theorem Asg(n:Int)(sp:List C5)(ba:List Int)(i:Nat)(h:ba.length=sp.length)(hi:i<sp.length):(sB n sp ba i).getD i Co=sp.getD i Co:=by
 have hl:(Gy n (sp.take i) (ba.take i)).length=i:=by rw[Nr _ _ _ (by simp[h]),Bf];omega
 simp only[sB,List.getD];rw[A1 (by omega),hl,AS];simp
theorem Aje(n:Int)(sp:List C5)(ba:List Int)(i:Nat)(h:ba.length=sp.length)(hi:i<sp.length):(sB n sp ba i).set i {sp.getD i Co with base:=n+ba.getD i 0}=sB n sp ba (i+1):=by
 have hl:(Gy n (sp.take i) (ba.take i)).length=i:=by rw[Nr _ _ _ (by simp[h]),Bf];omega
 have hd:sp.drop i=sp.getD i Co::sp.drop (i+1):=by rw[AW hi];simp[List.getD,hi]
 have ht:sp.take (i+1)=sp.take i++[sp.getD i Co]:=by rw[BP];simp[List.getD,hi]
 have hb:ba.take (i+1)=ba.take i++[ba.getD i 0]:=by rw[BP];simp[List.getD,h,hi]
 unfold sB;rw[List.set_append_right _ _ (by omega),hl,Nat.sub_self,hd,List.set_cons_zero,ht,hb];unfold Gy;rw[List.zipWith_append (by simp[h])];simp
def smallD(d:List Dc):Prop:=d.length<10000000/\∀x∈d,x.names.length<=10000000/\x.B7.length<=10000000
set_option maxHeartbeats 4000000 in
theorem Aeg (d:List Dc) (hd:smallD d):B1 prog 31 [.p (.sl (DM d))] [] λ h r=>h=[]/\r= .Dr [.agg (nbuildV d).1.cs,.p (.int .i64 (nbuildV d).2.1),.p (.int .i64 (nbuildV d).2.2)]:=by
  obtain ⟨N8,IQ⟩:=hd;refine B0 func31 rfl An6 (by simp[Tryz.f31]) ?_;simp only[go_sem,KK.fit];refine B4 (λ q:Nat×CD×Nat=>⟨[(2,.ptr 2 0),(5,.ptr 17 0),(23,.p (.sl (DM d))),(24,.p (.int .i64 d.length)),(25,.p (.int .i64 (q.1:Nat)))],(2,.box [.cl [],.cl [],.cl [],.cl [],.p (.int .i64 0),.p (.int .i64 0),.p (.int .i64 0),.p (.int .i64 0)])::q.2.1.lh q.2.2,139⟩)
    (λ q=>q.1<=d.length/\BI q.2.1/\FX CD.init d=FX q.2.1 (d.drop q.1)) (λ q=>d.length - q.1) (0,CD.init,0) ⟨AD _,BI.init,by simp⟩
    ((Wk.Fq (id:=17) (j:=0) (q:=901) (sz:=3) 76 rfl rfl rfl (by decide)).trans ((Wk.Aq9 (id:=17) (j:=1) (q:=902) (sz:=1) 22 3 rfl rfl rfl (by decide)).trans
      ((Wk.Fq (id:=17) (j:=2) (q:=903) (sz:=6) 68 rfl rfl rfl (by decide)).trans ((Wk.Fq (id:=17) (j:=10) (q:=906) (sz:=1) 3 rfl rfl rfl (by decide)).trans
      ((Wk.Fq (id:=17) (j:=12) (q:=907) (sz:=2) 120 rfl rfl rfl (by decide)).trans (Wk.forget (by simp[ZF,CD.PK,CD.init,CV,CQ,BY,encR,IG,Kr,CO]))))))) ?_
  rintro ⟨i,b,k⟩ n ⟨hi,hB,he⟩ ih;dsimp only at hi hB he;simp only[go_sem,CD.PK];refine Cv (λ h2=>?_) (λ h2=>?_)
  . have Cr:i<d.length:=by simp at h2;omega
    have hw:=Ca i (by omega);have hg:=Ahh d i Cr;have r1:(0:Int)<=(i:Int)/\(i:Int)<(d.length:Int):=by omega
    have Ol:d.drop i=d.getD i II::d.drop (i+1):=by
      rw[AW Cr];simp[List.getD,Cr]
    have hx:=IQ (d.getD i II) (CB d i II Cr);rw[Ol] at he;generalize d.getD i II=x at*;simp only[go_sem,CD.PK,CO,Ab,r1,hg];refine Ec (Avg b k x hB hx) ?_;rintro h' r ⟨k2,rfl,rfl⟩;have hB2:=hB.add x;simp only[FX] at he;cases c1:decide ((b.Et x).1=0)
    . have c1':¬(b.Et x).1=0:=Ae c1;rw[if_neg c1'] at he;simp only[go_sem,CD.FR (b.Et x).2 k2,c1];refine Di [(7,.box [.p (.int .i64 x.word),.p (.int .i64 x.line),.p (.sl (Cw x.names)),.p (.sl (BY x.B7))])] mixed (p:=[(0,0),(1,0),(2,0),(3,0),(4,2),(5,0),(6,0)]) (by kernel_rfl) (by simp[C3,get]) ?_;simp only[go_sem];refine BX ?_;simp only[go_sem];unfold nbuildV;rw[he];rfl
    . have c1':(b.Et x).1=0:=Ad c1;rw[if_pos c1'] at he;simp only[go_sem,CD.FR (b.Et x).2 k2,c1,hw];refine ih (i+1,(b.Et x).2,k2) _ ⟨Cr,hB2,he⟩ (by simp;omega) ?_
      (refine Wk.forget ?_;simp[ZF,CD.PK];done)
  . have:i=d.length:=by simp at h2;omega
    subst this;rw[A2] at he;simp only[FX] at he;have hv:nbuildV d=if decide (b.bl.length=0)=true then (nt0,0,15) else if b.sp.any (·.Cz)=false then (nt0,0,16) else (b.net,0,0):=by
      unfold nbuildV;rw[he]
    rw[hv];have hc:decide ((b.bl.length:Int)=0)=decide (b.bl.length=0):=by
      by_cases h:b.bl.length=0<;>simp[h]
    cases c1:decide (b.bl.length=0);rotate_left
    . simp only[go_sem,Cf,hc,c1];refine BX ?_;simp only[go_sem];rfl
    simp only[go_sem,Cf,hc,c1];refine Pe rfl rfl (j9 b.sp _ (Avc b.sp (by have:=hB.ns;omega))) (by simp[GS,Nl,ev,get,AE,ZB]) ?_;rintro h' r ⟨rfl,rfl⟩;refine ⟨rfl,rfl,?_⟩;cases c2:b.sp.any (·.Cz)
    . simp only[go_sem,c2];refine BX ?_;simp only[go_sem];rfl
    simp only[go_sem,c2];have hnb:=hB.nb;have p9:=hB.ns;have U2:=hB.nba;refine B4 (λ i:Nat=>⟨[(2,.ptr 2 0),(5,.ptr 17 0),(60,.p (.int .i64 b.sp.length)),(61,.p (.int .i64 (i:Nat)))],(2,.box [.cl [],.cl [],.cl [],.cl [],.p (.int .i64 0),.p (.int .i64 0),.p (.int .i64 0),.p (.int .i64 0)])::({b with sp:=sB b.bl.length b.sp b.ba i}:CD).lh k,139⟩)
      (λ i=>i<=b.sp.length) (λ i=>b.sp.length - i) 0 (AD _) (Wk.forget (by simp[ZF,CD.PK,sB,Gy,E5])) ?_
    rintro i m hi HG;have hl:=Xa b.bl.length b.sp b.ba i U2 hi;simp only[go_sem,CD.PK,hl];refine Cv (λ h3=>?_) (λ h3=>?_)
    . have Cr:i<b.sp.length:=by simp at h3;omega
      have hw:=Ca i (by omega);have g1:=Eo (sB b.bl.length b.sp b.ba i) i (by omega);rw[Asg _ _ _ _ U2 Cr] at g1;have g2:=Ch b.ba i (by omega);have hbb:=hB.bas (b.ba.getD i 0) (CB b.ba i 0 (by omega));have w1:IntKind.i64.wrap ((b.bl.length:Int)+b.ba.getD i 0)=(b.bl.length:Int)+b.ba.getD i 0:=by rw[IntKind.wrap_i64];omega
      have r1:(0:Int)<=(i:Int)/\(i:Int)<(b.sp.length:Int):=by omega
      have hs:=Aje b.bl.length b.sp b.ba i U2 Cr;simp only[go_sem,CD.PK,hl];refine CH mixed (p:=[(0,0),(1,0),(2,0),(3,0),(4,0),(5,0),(6,0),(7,0),(8,0),(9,0),(10,0),(11,0),(12,0),(13,0),(14,0),(15,0),(16,0),(17,0),(18,0),(19,0),(20,0),(21,0),(22,3)]) (by kernel_rfl) (by simp[C3,get]) ?_;simp only[go_sem,U2,r1,BW,Cf,E5,Ab,g1,g2,w1,hl,hw];refine HG (i+1) _ Cr (by omega) ?_;rw[<-hs]
      (refine Wk.forget ?_;simp[ZF,CD.PK,Rw,E5,hl,U2];done)
    obtain rfl:i=b.sp.length:=by simp at h3;omega
    have hsB:sB b.bl.length b.sp b.ba b.sp.length=Gy b.bl.length b.sp b.ba:=by
      unfold sB;rw[A2,List.append_nil,Ar,<-U2,Ar]
    rw[hsB] at hl ⊢;have Mf:=hB.np;simp only[go_sem,CD.PK,EJ];refine B4 (λ i:Nat=>⟨[(2,.ptr 2 0),(5,.ptr 17 0),(90,.ref 907 0 b.pl.length b.pl.length),(91,.p (.int .i64 b.pl.length)),(92,.p (.int .i64 (i:Nat)))],[(2,.box [.cl [],.cl [],.cl [],.cl [],.p (.int .i64 0),.p (.int .i64 0),.p (.int .i64 0),.p (.int .i64 0)]),
        (17,.box [.ref 901 0 b.bl.length b.bl.length,.Dt 902 b.nx.length,.ref 903 0 b.sp.length b.sp.length,.ref 904 0 i i,.p (.int .i64 b.cq),.p (.int .i64 b.ca),.p (.int .i64 b.cd),.p (.int .i64 b.cp),
          .mv 14,.mv 15,.ref 906 0 b.ba.length b.ba.length,.p (.int .i64 b.sl),.ref 907 0 b.pl.length b.pl.length,.p (.bool b.cf)]),(901,.arr 76 3 (CV b.bl)),(902,.Dp 22 3 1 k (encR b.nx) none),(903,.arr 68 6 (CQ (Gy b.bl.length b.sp b.ba))),
        (14,.mp (Kr b.mb)),(15,.mp (Kr b.ms)),(906,.arr 3 1 (BY b.ba)),(904,.arr 3 1 (BY ((b.pl.take i).map (Ph (Gy b.bl.length b.sp b.ba))))),(907,.arr 120 2 (IG b.pl))],139⟩)
      (λ i=>i<=b.pl.length) (λ i=>b.pl.length - i) 0 (AD _) ((Wk.Fq (id:=17) (j:=3) (q:=904) (sz:=1) 3 rfl rfl rfl (by decide)).trans (Wk.forget (by simp[ZF,BY,EJ,hl]))) ?_
    rintro i m hi ih3;simp only[go_sem];refine Cv (λ h3=>?_) (λ h3=>?_)
    . have Cr:i<b.pl.length:=by simp at h3;omega
      have hw:=Ca i (by omega);have g1:(IG b.pl).getD i []=[.int .i64 (b.pl.getD i (0,0)).1,.int .i64 (b.pl.getD i (0,0)).2]:=by simp[IG,List.getD,Cr]
      have r1:(0:Int)<=(i:Int)/\(i:Int)<(b.pl.length:Int):=by omega
      obtain ⟨⟨j,hj,hjl⟩,JU⟩:=hB.pls (b.pl.getD i (0,0)) (CB b.pl i (0,0) Cr);have r2:(0:Int)<=(j:Int)/\(j:Int)<(b.sp.length:Int):=by omega
      have g2:=Eo (Gy b.bl.length b.sp b.ba) j (by omega);have hbs:0<=((Gy b.bl.length b.sp b.ba).getD j Co).base/\((Gy b.bl.length b.sp b.ba).getD j Co).base<=48:=by
        have:=hB.bas (b.ba.getD j 0) (CB b.ba j 0 (by omega));have e:((Gy b.bl.length b.sp b.ba).getD j Co).base=b.bl.length+b.ba.getD j 0:=by
          simp[Gy,List.getD,List.getElem?_zipWith,hjl,show j<b.ba.length by omega]
        omega
      have hpl:Ph (Gy b.bl.length b.sp b.ba) (b.pl.getD i (0,0))=((Gy b.bl.length b.sp b.ba).getD j Co).base+(b.pl.getD i (0,0)).2 - 1:=by
        unfold Ph;rw[hj];rfl
      have Zn:(b.pl.take (i+1)).map (Ph (Gy b.bl.length b.sp b.ba))=(b.pl.take i).map (Ph (Gy b.bl.length b.sp b.ba))++[Ph (Gy b.bl.length b.sp b.ba) (b.pl.getD i (0,0))]:=by
        rw[BP,Bj];congr 1;simp[List.getD,Cr]
      rw[hj] at g1;generalize (Gy b.bl.length b.sp b.ba).getD j Co=sj at*;generalize b.pl.getD i (0,0)=pi at*;have w1:IntKind.i64.wrap (IntKind.i64.wrap (sj.base+pi.2) - 1)=sj.base+pi.2 - 1:=by rw[IntKind.wrap_i64,IntKind.wrap_i64];omega
      simp only[go_sem,EJ,r1,Ab,g1];refine Di [(17,.box [.ref 901 0 b.bl.length b.bl.length,.Dt 902 b.nx.length,.ref 903 0 b.sp.length b.sp.length,.ref 904 0 i i,.p (.int .i64 b.cq),.p (.int .i64 b.ca),.p (.int .i64 b.cd),.p (.int .i64 b.cp),
          .mv 14,.mv 15,.ref 906 0 b.ba.length b.ba.length,.p (.int .i64 b.sl),.ref 907 0 b.pl.length b.pl.length,.p (.bool b.cf)]),(11,.box [.p (.int .i64 j),.p (.int .i64 pi.2)]),(903,.arr 68 6 (CQ (Gy b.bl.length b.sp b.ba)))] mixed (p:=[(0,0),(1,0),(2,0),(3,0),(4,0),(5,0),(6,0),(7,0),(8,0),(9,0),(10,0),(11,0),(12,0),(13,0),(14,0),(15,0),(16,0),(17,0),(18,0),(19,0),(20,1),(21,2),(22,0),(23,0),(24,0),(25,3)]) (by kernel_rfl) (by simp[C3,get]) ?_
      simp only[go_sem,hl,r2,Ab,E5,g2,w1,BW,Bb,Bf,Nat.min_eq_left hi];refine ⟨⟨Dq _ _ rfl,by omega⟩,?_⟩;simp only[go_sem,hw];refine ih3 (i+1) _ Cr (by omega) ?_;rw[Zn,hpl]
      (refine Wk.forget ?_;simp[ZF,DN,Nat.min_eq_left hi];done)
    obtain rfl:i=b.pl.length:=by simp at h3;omega
    rw[Ar];have hnn:=hB.nn;simp only[go_sem,It];refine B4 (λ q:Nat×List (List Int)=>⟨[(2,.ptr 2 0),(5,.ptr 17 0),(126,.Dt 902 b.nx.length),(127,.p (.int .i64 b.nx.length)),(128,.p (.int .i64 (q.1:Nat)))],[(2,.box [.cl [],.cl [],.cl [],.cl [],.p (.int .i64 0),.p (.int .i64 0),.p (.int .i64 0),.p (.int .i64 0)]),
        (17,.box [.ref 901 0 b.bl.length b.bl.length,.Dt 902 b.nx.length,.ref 903 0 b.sp.length b.sp.length,.ref 904 0 b.pl.length b.pl.length,.p (.int .i64 b.cq),.p (.int .i64 b.ca),.p (.int .i64 b.cd),.p (.int .i64 b.cp),
          .mv 14,.mv 15,.ref 906 0 b.ba.length b.ba.length,.p (.int .i64 b.sl),.ref 907 0 b.pl.length b.pl.length,.p (.bool b.cf)]),(901,.arr 76 3 (CV b.bl)),(902,.Dp 22 3 1 k (encR q.2) none),(903,.arr 68 6 (CQ (Gy b.bl.length b.sp b.ba))),
        (14,.mp (Kr b.mb)),(15,.mp (Kr b.ms)),(906,.arr 3 1 (BY b.ba)),(904,.arr 3 1 (BY (b.pl.map (Ph (Gy b.bl.length b.sp b.ba))))),(907,.arr 120 2 (IG b.pl))],139⟩)
      (λ q=>q.1<=b.nx.length/\q.2=(b.nx.take q.1).map Dh++b.nx.drop q.1) (λ q=>b.nx.length - q.1) (0,b.nx) ⟨AD _,by simp⟩ (Wk.forget (by simp[ZF])) ?_
    rintro ⟨i,rows⟩ m ⟨hi,hrw⟩ R1;dsimp only at hi hrw;have Yh:rows.length=b.nx.length:=by rw[hrw];simp;omega
    simp only[go_sem];refine Cv (λ h3=>?_) (λ h3=>?_)
    . have Cr:i<b.nx.length:=by simp at h3;omega
      have hw:=Ca i (by omega);have r1:(0:Int)<=(i:Int)/\(i:Int)<(b.nx.length:Int):=by omega
      have Ji:rows.getD i []=b.nx.getD i []:=by
        rw[hrw];simp only[List.getD];rw[A1 (by simp;omega),AS];simp[Nat.min_eq_left hi]
      have EM:rows.set i (Dh (rows.getD i []))=(b.nx.take (i+1)).map Dh++b.nx.drop (i+1):=by
        rw[Ji,hrw,List.set_append_right _ _ (by simp;omega)];have Ol:b.nx.drop i=b.nx.getD i []::b.nx.drop (i+1):=by rw[AW Cr];simp[List.getD,Cr]
        rw[Ol,show i - ((b.nx.take i).map Dh).length=0 by simp;omega,List.set_cons_zero,BP,Bj];simp[List.getD,Cr]
      have Dj:=hB.row i;simp only[go_sem,r1,Ab,It,M8,BW,Yh];refine Pc rfl rfl ?_;simp only[go_sem,JL];refine UO (Aj5 rows i k (by omega) (by rw[Ji];omega)) ?_;rintro h' r ⟨rfl,rfl⟩;simp only[go_sem,hw];refine R1 (i+1,_) _ ⟨Cr,EM⟩ (by simp;omega) ?_
      (refine Wk.forget ?_;simp[ZF];done)
    obtain rfl:i=b.nx.length:=by simp at h3;omega
    rw[Ar,A2,List.append_nil] at hrw;subst hrw;simp only[go_sem];refine BX ?_;simp only[go_sem,Cf,E5,BW,hl,It,Bb];have e1:List.take b.sp.length (CQ (Gy b.bl.length b.sp b.ba))=CQ (Gy b.bl.length b.sp b.ba):=AE (by rw[E5,hl];exact Ai _);have e2:List.take b.pl.length (BY (b.pl.map (Ph (Gy b.bl.length b.sp b.ba))))=BY (b.pl.map (Ph (Gy b.bl.length b.sp b.ba))):=AE (by simp[BY]);have e3:(encR (b.nx.map Dh)).map (λ r=>[Pd.sl r])=Cj (b.nx.map Dh):=by simp[encR,Cj]
    rw[e1,e2,e3];simp[c1];rfl
def T7(a0:List Int)(a1:Int):Int->Option ((Int)⊕(Int⊕Bool))
 | v2=>cond (decide (v2<((a0.length:Nat):Int))) (Option.bind (CL a0 v2) λ x9=>cond (decide (x9=a1)) (some (Sum.inr (.inr ((true:Bool))))) (some (Sum.inl (IntKind.i64.wrap (v2+1))))) (some (Sum.inr (.inl v2)))
def Wh(a0:List Int)(a1:Int):Option (Bool):=
 Option.bind (CA (T7 a0 a1) 0) (λ | .inl Oz=>some false | .inr (r15)=>some r15)
theorem Acv(a0:List Int)(a1:Int)(r:Bool)(hr:Wh a0 a1=some r):
   B1 prog 45 [.p (.sl (BY a0)),.p (.int .i64 a1)] [] λ h d=>h=[]/\d= .p (.bool r):=by
 refine B0 func45 rfl Up (by simp[Tryz.f45]) ?_;unfold Wh at hr;obtain ⟨e6,g7,hr⟩:=bE hr;try simp only[go_sem]
 refine CP g7 (λ q:Int=>⟨[(0,.p (.sl (BY a0))),(1,.p (.int .i64 a1)),(5,.p (.int .i64 q))],[],18⟩) ((Wk.forget (by simp[ZF,ZE]))) ?_;rintro v2 m5 F7 R1;rw[T7.eq_1] at F7;cases c8:decide (v2<((a0.length:Nat):Int))
 . simp only[c8,Aj] at F7;simp only[Aa,BZ] at F7;cases F7;(try dsimp only at hr);cases hr;(try simp only[go_sem,c8]);all_goals ((try refine BX ?_);(try simp only[go_sem,c8]);try first | rfl | exact ⟨rfl,rfl⟩ | (simp;done))
 simp only[c8,Ak] at F7;obtain ⟨x9,g10,F7⟩:=bK F7;have f11:=B8 g10;have f12:(BY a0).getD (Int.toNat v2) []=[(.int .i64 x9)]:=B9 _ g10;cases LR:decide (x9=a1)
 . simp only[LR,Aj] at F7;simp only[Aa,B6] at F7;(try simp only[go_sem,c8,f11,f12,LR]);exact R1 (IntKind.i64.wrap (v2+1)) _ F7 ((Wk.forget (by simp[ZF,ZE])))
 simp only[LR,Ak] at F7;simp only[Aa,BZ] at F7;cases F7;try dsimp only at hr
 cases hr;try simp only[go_sem,c8,f11,f12,LR]
 all_goals ((try refine BX ?_);(try simp only[go_sem,c8,f11,f12,LR]);try first | rfl | exact ⟨rfl,rfl⟩ | (simp;done))
def KQ(a0:List Int)(a1:Int):(List Int)×Bool×Int->Option (((List Int)×Bool×Int)⊕(((List Int)×Bool×Int)))
 | (v6,v7,v8)=>cond (decide (v8<((a0.length:Nat):Int))) (cond v7 (Option.bind (CL a0 v8) λ Ku=>cond (decide (v6.length+1<10000000)) (some (Sum.inl ((v6++[Ku]),true,(IntKind.i64.wrap (v8+1))))) none) (Option.bind (CL a0 v8) λ Pg=>cond (decide (a1<Pg)) (cond (decide (v6.length+1<10000000)) (cond (decide ((v6++[a1]).length+1<10000000)) (some (Sum.inl (((v6++[a1])++[Pg]),true,(IntKind.i64.wrap (v8+1))))) none) none) (cond (decide (v6.length+1<10000000)) (some (Sum.inl ((v6++[Pg]),false,(IntKind.i64.wrap (v8+1))))) none))) (some (Sum.inr (v6,v7,v8)))
def ML(a0:List Int)(a1:Int):Option ((List Int)):=
 Option.bind (CA (KQ a0 a1) ([],false,0)) (λ (v32,v33,v34)=>cond v33 (some v32) (cond (decide (v32.length+1<10000000)) (some (v32++[a1])) none))
theorem Aas(a0:List Int)(a1:Int)(r:(List Int))(hr:ML a0 a1=some r):
   B1 prog 102 [.p (.sl (BY a0)),.p (.int .i64 a1)] [] λ h d=>h=[]/\d= .p (.sl (BY r)):=by
 refine B0 func102 rfl Wx (by simp[Tryz.f102]) ?_;unfold ML at hr;obtain ⟨e12,g13,hr⟩:=bE hr;try simp only[go_sem]
 refine CP g13 (λ q:(List Int)×Bool×Int=>⟨[(0,.p (.sl (BY a0))),(1,.p (.int .i64 a1)),(5,.ref 34 0 q.1.length q.1.length),(6,.p (.bool q.2.1)),(7,.p (.int .i64 q.2.2))],[(34,.arr 3 1 (BY q.1))],42⟩) ((Wk.nil (t:=5) (q:=34) (sz:=1) 3 rfl rfl (by decide)).trans ((Wk.forget (by simp[ZF,ZE])))) ?_;rintro ⟨v6,v7,v8⟩ m11 Rm Aub;rw[KQ.eq_1] at Rm;cases c14:decide (v8<((a0.length:Nat):Int))
 . simp only[c14,Aj] at Rm;simp only[Aa,BZ] at Rm;cases Rm;(try dsimp only at hr);cases IV:v7
   . simp only[IV,Aj] at hr;obtain ⟨Ks,hr⟩:=gE hr;(try simp only[go_sem,c14,IV]);refine ⟨by have:=Ad Ks;(try simp only[Al,Ax,Aq] at*);(repeat' refine And.intro ?_ ?_)<;>first | exact Dq _ _ rfl | exact E6 _ | omega | (simp[JS];done),?_⟩;cases hr;(try simp only[go_sem]);all_goals ((try refine BX ?_);(try simp only[go_sem]);try first | rfl | exact ⟨rfl,rfl⟩ | (simp;done))
   simp only[IV,Ak] at hr;cases hr;(try simp only[go_sem,c14,IV]);all_goals ((try refine BX ?_);(try simp only[go_sem,c14,IV]);try first | rfl | exact ⟨rfl,rfl⟩ | (simp;done))
 simp only[c14,Ak] at Rm;cases Ia:v7
 . simp only[Ia,Aj] at Rm;obtain ⟨Pg,g19,Rm⟩:=bK Rm;have f20:=B8 g19;have f21:(BY a0).getD (Int.toNat v8) []=[(.int .i64 Pg)]:=B9 _ g19;cases IK:decide (a1<Pg)
   . simp only[IK,Aj] at Rm;obtain ⟨Ko,Rm⟩:=gK Rm;(try simp only[go_sem,c14,Ia,f20,f21,IK]);refine ⟨by have:=Ad Ko;(try simp only[Al,Ax,Aq] at*);(repeat' refine And.intro ?_ ?_)<;>first | exact Dq _ _ rfl | exact E6 _ | omega | (simp[JS];done),?_⟩;simp only[Aa,B6] at Rm;(try simp only[go_sem,Ia]);exact Aub ((v6++[Pg]),false,(IntKind.i64.wrap (v8+1))) _ Rm ((Wk.forget (by simp[ZF,ZE,Ia])))
   simp only[IK,Ak] at Rm;obtain ⟨I6,Rm⟩:=gK Rm;(try simp only[go_sem,c14,Ia,f20,f21,IK]);refine ⟨by have:=Ad I6;(try simp only[Al,Ax,Aq] at*);(repeat' refine And.intro ?_ ?_)<;>first | exact Dq _ _ rfl | exact E6 _ | omega | (simp[JS];done),?_⟩;obtain ⟨c25,Rm⟩:=gK Rm;(try simp only[go_sem,f20,f21]);refine ⟨by have:=Ad c25;(try simp only[Al,Ax,Aq] at*);(repeat' refine And.intro ?_ ?_)<;>first | exact Dq _ _ rfl | exact E6 _ | omega | (simp[JS];done),?_⟩;simp only[Aa,B6] at Rm;(try simp only[go_sem]);exact Aub (((v6++[a1])++[Pg]),true,(IntKind.i64.wrap (v8+1))) _ Rm ((Wk.forget (by simp[ZF,ZE,Ia])))
 simp only[Ia,Ak] at Rm;obtain ⟨Ku,g27,Rm⟩:=bK Rm;have f28:=B8 g27;have f29:(BY a0).getD (Int.toNat v8) []=[(.int .i64 Ku)]:=B9 _ g27;obtain ⟨JN,Rm⟩:=gK Rm;try simp only[go_sem,c14,Ia,f28,f29]
 refine ⟨by have:=Ad JN;(try simp only[Al,Ax,Aq] at*);(repeat' refine And.intro ?_ ?_)<;>first | exact Dq _ _ rfl | exact E6 _ | omega | (simp[JS];done),?_⟩;simp only[Aa,B6] at Rm;try simp only[go_sem,Ia]
 exact Aub ((v6++[Ku]),true,(IntKind.i64.wrap (v8+1))) _ Rm ((Wk.forget (by simp[ZF,ZE,Ia])))
def KA(a0:Nt)(a1:List UInt8):Int->Option ((Int)⊕(Int⊕Int))
 | v2=>cond (decide (v2<((a0.blocks.length:Nat):Int))) (Option.bind (CL a0.blocks v2) λ x9=>cond (decide (x9.name=a1)) (some (Sum.inr (.inr ((v2:Int))))) (some (Sum.inl (IntKind.i64.wrap (v2+1))))) (some (Sum.inr (.inl v2)))
def GK(a0:Nt)(a1:List UInt8):Option (Int):=
 Option.bind (CA (KA a0 a1) 0) (λ | .inl Oz=>some (-1) | .inr (r15)=>some r15)
theorem HQ(a0:Nt)(a1:List UInt8)(r:Int)(hr:GK a0 a1=some r):
   B1 prog 121 [.agg [.p (.sl (CV a0.blocks)),.p (.sl (Cj a0.next)),.p (.sl (CQ a0.spurs)),.p (.sl (BY a0.B5)),.p (.int .i64 a0.cq),.p (.int .i64 a0.ca),.p (.int .i64 a0.cd),.p (.int .i64 a0.cp)],.p (.str a1)] [] λ h d=>h=[]/\d= .p (.int .i64 r):=by
 refine B0 func121 rfl Agk (by simp[Tryz.f121]) ?_;unfold GK at hr;obtain ⟨e6,g7,hr⟩:=bE hr;try simp only[go_sem]
 refine CP g7 (λ q:Int=>⟨[(1,.p (.str a1)),(2,.ptr 2 0),(5,.p (.int .i64 q))],[(2,.box [.p (.sl (CV a0.blocks)),.p (.sl (Cj a0.next)),.p (.sl (CQ a0.spurs)),.p (.sl (BY a0.B5)),.p (.int .i64 a0.cq),.p (.int .i64 a0.ca),.p (.int .i64 a0.cd),.p (.int .i64 a0.cp)])],22⟩) ((Wk.forget (by simp[ZF,ZE]))) ?_;rintro v2 m5 F7 R1;rw[KA.eq_1] at F7;cases c8:decide (v2<((a0.blocks.length:Nat):Int))
 . simp only[c8,Aj] at F7;simp only[Aa,BZ] at F7;cases F7;(try dsimp only at hr);cases hr;(try simp only[go_sem,c8]);all_goals ((try refine BX ?_);(try simp only[go_sem,c8]);try first | rfl | exact ⟨rfl,rfl⟩ | (simp;done))
 simp only[c8,Ak] at F7;obtain ⟨x9,g10,F7⟩:=bK F7;have f11:=B8 g10;have f12:(CV a0.blocks).getD (Int.toNat v2) []=[(.str x9.name),(.int .i64 x9.x),(.int .i64 x9.y)]:=B9 _ g10;cases LR:decide (x9.name=a1)
 . simp only[LR,Aj] at F7;simp only[Aa,B6] at F7;(try simp only[go_sem,c8,f11,f12,LR]);exact R1 (IntKind.i64.wrap (v2+1)) _ F7 ((Wk.forget (by simp[ZF,ZE])))
 simp only[LR,Ak] at F7;simp only[Aa,BZ] at F7;cases F7;try dsimp only at hr
 cases hr;try simp only[go_sem,c8,f11,f12,LR]
 all_goals ((try refine BX ?_);(try simp only[go_sem,c8,f11,f12,LR]);try first | rfl | exact ⟨rfl,rfl⟩ | (simp;done))
def Mw(a0:Nt)(a1:List UInt8):Int->Option ((Int)⊕(Int⊕Int))
 | v2=>cond (decide (v2<((a0.spurs.length:Nat):Int))) (Option.bind (CL a0.spurs v2) λ x9=>cond (decide (x9.name=a1)) (some (Sum.inr (.inr ((v2:Int))))) (some (Sum.inl (IntKind.i64.wrap (v2+1))))) (some (Sum.inr (.inl v2)))
def Lr(a0:Nt)(a1:List UInt8):Option (Int):=
 Option.bind (CA (Mw a0 a1) 0) (λ | .inl Oz=>some (-1) | .inr (r15)=>some r15)
theorem QR(a0:Nt)(a1:List UInt8)(r:Int)(hr:Lr a0 a1=some r):
   B1 prog 122 [.agg [.p (.sl (CV a0.blocks)),.p (.sl (Cj a0.next)),.p (.sl (CQ a0.spurs)),.p (.sl (BY a0.B5)),.p (.int .i64 a0.cq),.p (.int .i64 a0.ca),.p (.int .i64 a0.cd),.p (.int .i64 a0.cp)],.p (.str a1)] [] λ h d=>h=[]/\d= .p (.int .i64 r):=by
 refine B0 func122 rfl Agj (by simp[Tryz.f122]) ?_;unfold Lr at hr;obtain ⟨e6,g7,hr⟩:=bE hr;try simp only[go_sem]
 refine CP g7 (λ q:Int=>⟨[(1,.p (.str a1)),(2,.ptr 2 0),(5,.p (.int .i64 q))],[(2,.box [.p (.sl (CV a0.blocks)),.p (.sl (Cj a0.next)),.p (.sl (CQ a0.spurs)),.p (.sl (BY a0.B5)),.p (.int .i64 a0.cq),.p (.int .i64 a0.ca),.p (.int .i64 a0.cd),.p (.int .i64 a0.cp)])],22⟩) ((Wk.forget (by simp[ZF,ZE]))) ?_;rintro v2 m5 F7 R1;rw[Mw.eq_1] at F7;cases c8:decide (v2<((a0.spurs.length:Nat):Int))
 . simp only[c8,Aj] at F7;simp only[Aa,BZ] at F7;cases F7;(try dsimp only at hr);cases hr;(try simp only[go_sem,c8]);all_goals ((try refine BX ?_);(try simp only[go_sem,c8]);try first | rfl | exact ⟨rfl,rfl⟩ | (simp;done))
 simp only[c8,Ak] at F7;obtain ⟨x9,g10,F7⟩:=bK F7;have f11:=B8 g10;have f12:(CQ a0.spurs).getD (Int.toNat v2) []=[(.str x9.name),(.bool x9.Cz),(.int .i64 x9.HA),(.int .i64 x9.out),(.int .i64 x9.Cs),(.int .i64 x9.base)]:=B9 _ g10;cases LR:decide (x9.name=a1)
 . simp only[LR,Aj] at F7;simp only[Aa,B6] at F7;(try simp only[go_sem,c8,f11,f12,LR]);exact R1 (IntKind.i64.wrap (v2+1)) _ F7 ((Wk.forget (by simp[ZF,ZE])))
 simp only[LR,Ak] at F7;simp only[Aa,BZ] at F7;cases F7;try dsimp only at hr
 cases hr;try simp only[go_sem,c8,f11,f12,LR]
 all_goals ((try refine BX ?_);(try simp only[go_sem,c8,f11,f12,LR]);try first | rfl | exact ⟨rfl,rfl⟩ | (simp;done))
def GJ(a0:o5):Option (Bool):=
 cond (decide (1<=a0.cq)) (cond (decide (a0.cq<=8)) (cond (decide (0<=a0.ca)) (cond (decide (a0.ca<=4)) (cond (decide (0<=a0.cd)) (cond (decide (a0.cd<=3)) (cond (decide (1<=a0.cp)) (some (decide (a0.cp<=16))) (some false)) (some false)) (some false)) (some false)) (some false)) (some false)) (some false)
theorem Sx(a0:o5)(r:Bool)(hr:GJ a0=some r):
   B1 prog 85 [.agg [.p (.int .i64 a0.cq),.p (.int .i64 a0.ca),.p (.int .i64 a0.cd),.p (.int .i64 a0.cp)]] [] λ h d=>h=[]/\d= .p (.bool r):=by
 refine B0 func85 rfl ZI (by simp[Tryz.f85]) ?_;unfold GJ at hr;cases c1:decide (1<=a0.cq)
 . simp only[c1,Aj] at hr;cases hr;(try simp only[go_sem,c1]);all_goals ((try refine BX ?_);(try simp only[go_sem,c1]);try first | rfl | exact ⟨rfl,rfl⟩ | (simp;done))
 simp only[c1,Ak] at hr;cases c2:decide (a0.cq<=8)
 . simp only[c2,Aj] at hr;cases hr;(try simp only[go_sem,c1,c2]);all_goals ((try refine BX ?_);(try simp only[go_sem,c1,c2]);try first | rfl | exact ⟨rfl,rfl⟩ | (simp;done))
 simp only[c2,Ak] at hr;cases c3:decide (0<=a0.ca)
 . simp only[c3,Aj] at hr;cases hr;(try simp only[go_sem,c1,c2,c3]);all_goals ((try refine BX ?_);(try simp only[go_sem,c1,c2,c3]);try first | rfl | exact ⟨rfl,rfl⟩ | (simp;done))
 simp only[c3,Ak] at hr;cases c4:decide (a0.ca<=4)
 . simp only[c4,Aj] at hr;cases hr;(try simp only[go_sem,c1,c2,c3,c4]);all_goals ((try refine BX ?_);(try simp only[go_sem,c1,c2,c3,c4]);try first | rfl | exact ⟨rfl,rfl⟩ | (simp;done))
 simp only[c4,Ak] at hr;cases c5:decide (0<=a0.cd)
 . simp only[c5,Aj] at hr;cases hr;(try simp only[go_sem,c1,c2,c3,c4,c5]);all_goals ((try refine BX ?_);(try simp only[go_sem,c1,c2,c3,c4,c5]);try first | rfl | exact ⟨rfl,rfl⟩ | (simp;done))
 simp only[c5,Ak] at hr;cases c6:decide (a0.cd<=3)
 . simp only[c6,Aj] at hr;cases hr;(try simp only[go_sem,c1,c2,c3,c4,c5,c6]);all_goals ((try refine BX ?_);(try simp only[go_sem,c1,c2,c3,c4,c5,c6]);try first | rfl | exact ⟨rfl,rfl⟩ | (simp;done))
 simp only[c6,Ak] at hr;cases c7:decide (1<=a0.cp)
 . simp only[c7,Aj] at hr;cases hr;(try simp only[go_sem,c1,c2,c3,c4,c5,c6,c7]);all_goals ((try refine BX ?_);(try simp only[go_sem,c1,c2,c3,c4,c5,c6,c7]);try first | rfl | exact ⟨rfl,rfl⟩ | (simp;done))
 simp only[c7,Ak] at hr;cases hr;try simp only[go_sem,c1,c2,c3,c4,c5,c6,c7]
 all_goals ((try refine BX ?_);(try simp only[go_sem,c1,c2,c3,c4,c5,c6,c7]);try first | rfl | exact ⟨rfl,rfl⟩ | (simp;done))
def KD(a0:List Eh)(a1:List (List Int))(a2:List C5)(a3:List Int)(a4:Int)(a5:Int)(a6:Int)(a7:Int)(a8:Bool)(a9:Dc):Option (Int×(List Eh)×(List (List Int))×(List C5)×(List Int)×Int×Int×Int×Int×Bool):=
 Option.bind (CL a9.names 0) λ x1=>Option.bind (GK (⟨a0,a1,a2,a3,a4,a5,a6,a7⟩:Nt) x1) λ x5=>cond (decide (0<=x5)) (some (8,a0,a1,a2,a3,a4,a5,a6,a7,a8)) (Option.bind (Lr (⟨a0,a1,a2,a3,a4,a5,a6,a7⟩:Nt) x1) λ x8=>cond (decide (0<=x8)) (some (8,a0,a1,a2,a3,a4,a5,a6,a7,a8)) (cond (decide (((a0.length:Nat):Int)=24)) (some (14,a0,a1,a2,a3,a4,a5,a6,a7,a8)) (Option.bind (CL a9.B7 0) λ s8=>Option.bind (CL a9.B7 1) λ Ov=>cond (decide (a0.length+1<10000000)) (cond (decide (a1.length+1<10000000)) (some (0,(a0++[(⟨x1,s8,Ov⟩:Eh)]),(a1++[[]]),a2,a3,a4,a5,a6,a7,a8)) none) none)))
theorem YT(a0:List Eh)(a1:List (List Int))(a2:List C5)(a3:List Int)(a4:Int)(a5:Int)(a6:Int)(a7:Int)(a8:Bool)(a9:Dc)(r:Int×(List Eh)×(List (List Int))×(List C5)×(List Int)×Int×Int×Int×Int×Bool)(hr:KD a0 a1 a2 a3 a4 a5 a6 a7 a8 a9=some r):
   B1 prog 76 [.ptr 1000000 0,.agg [.p (.int .i64 a9.word),.p (.int .i64 a9.line),.p (.sl (Cw a9.names)),.p (.sl (BY a9.B7))]] [(1000000,.box [.ref 1000001 0 a0.length a0.length,.ref 1000002 0 a1.length a1.length,.ref 1000003 0 a2.length a2.length,.ref 1000004 0 a3.length a3.length,.p (.int .i64 a4),.p (.int .i64 a5),.p (.int .i64 a6),.p (.int .i64 a7),.p (.bool a8)]),(1000001,.arr 76 3 (CV a0)),(1000002,.arr 22 1 (Cj a1)),(1000003,.arr 68 6 (CQ a2)),(1000004,.arr 3 1 (BY a3))] λ h d=>h=[(1000000,.box [.ref 1000001 0 r.2.1.length r.2.1.length,.ref 1000002 0 r.2.2.1.length r.2.2.1.length,.ref 1000003 0 r.2.2.2.1.length r.2.2.2.1.length,.ref 1000004 0 r.2.2.2.2.1.length r.2.2.2.2.1.length,.p (.int .i64 r.2.2.2.2.2.1),.p (.int .i64 r.2.2.2.2.2.2.1),.p (.int .i64 r.2.2.2.2.2.2.2.1),.p (.int .i64 r.2.2.2.2.2.2.2.2.1),.p (.bool r.2.2.2.2.2.2.2.2.2)]),(1000001,.arr 76 3 (CV r.2.1)),(1000002,.arr 22 1 (Cj r.2.2.1)),(1000003,.arr 68 6 (CQ r.2.2.2.1)),(1000004,.arr 3 1 (BY r.2.2.2.2.1))]/\d= .p (.int .i64 r.1):=by
 refine B0 func76 rfl Ama (by simp[Tryz.f76]) ?_;unfold KD at hr;try simp only[go_sem]
 refine CH mixed (p:=[(0,0),(1,0),(2,0),(3,0),(4,0),(5,0),(6,0),(7,0),(8,2),(9,0),(10,0),(11,0),(12,0),(13,0),(14,0),(15,0),(16,0),(17,0),(18,0),(19,2),(20,0),(21,0)]) (by kernel_rfl) (by simp[C3,get]) ?_;obtain ⟨x1,g2,hr⟩:=bE hr;have f3:=B8 g2;have f4:(Cw a9.names).getD 0 []=[(.str x1)]:=B9 _ g2;obtain ⟨x5,g6,hr⟩:=bE hr;try simp only[go_sem,f3,f4]
 refine LX rfl rfl (HQ (⟨a0,a1,a2,a3,a4,a5,a6,a7⟩:Nt) x1 _ g6) (by simp[GS,Nl,ev,get,AE,ZB]<;>rfl) ?_;rintro h' r ⟨rfl,rfl⟩;refine ⟨rfl,rfl,?_⟩;cases c7:decide (0<=x5)
 . simp only[c7,Aj] at hr;obtain ⟨x8,g9,hr⟩:=bE hr;(try simp only[go_sem,c7,f3,f4]);refine LX rfl rfl (QR (⟨a0,a1,a2,a3,a4,a5,a6,a7⟩:Nt) x1 _ g9) (by simp[GS,Nl,ev,get,AE,ZB]<;>rfl) ?_;rintro h' r ⟨rfl,rfl⟩;refine ⟨rfl,rfl,?_⟩;cases IW:decide (0<=x8)
   . simp only[IW,Aj] at hr;cases c11:decide (((a0.length:Nat):Int)=24)
     . simp only[c11,Aj] at hr;(try simp only[go_sem,c7,IW,c11]);refine Di [(3,.box [.p (.int .i64 a9.word),.p (.int .i64 a9.line),.p (.sl (Cw a9.names)),.p (.sl (BY a9.B7))]),(1000000,.box [.ref 1000001 0 a0.length a0.length,.ref 1000002 0 a1.length a1.length,.ref 1000003 0 a2.length a2.length,.ref 1000004 0 a3.length a3.length,.p (.int .i64 a4),.p (.int .i64 a5),.p (.int .i64 a6),.p (.int .i64 a7),.p (.bool a8)])] mixed (p:=[(0,0),(1,0),(2,0),(3,0),(4,0),(5,0),(6,0),(7,0),(8,0),(9,0),(10,0),(11,0),(12,0),(13,0),(14,0),(15,0),(16,0),(17,0),(18,0),(19,1),(20,2),(21,0),(22,0),(23,0),(24,3)]) (by kernel_rfl) (by simp[C3,get]) ?_;obtain ⟨s8,g13,hr⟩:=bE hr;have f14:=B8 g13;have f15:(BY a9.B7).getD 0 []=[(.int .i64 s8)]:=B9 _ g13;obtain ⟨Ov,g17,hr⟩:=bE hr;have f18:=B8 g17;have f19:(BY a9.B7).getD 1 []=[(.int .i64 Ov)]:=B9 _ g17;obtain ⟨Qu,hr⟩:=gE hr;(try simp only[go_sem,f3,f4,f14,f15,f18,f19]);refine ⟨by have:=Ad Qu;(try simp only[Al,Ax,Aq] at*);(repeat' refine And.intro ?_ ?_)<;>first | exact Dq _ _ rfl | exact Ant _ | omega | (simp[JS];done),?_⟩;(try simp only[go_sem]);refine o8 rfl u5 Adl rfl rfl ?_;obtain ⟨c21,hr⟩:=gE hr;(try simp only[go_sem]);refine ⟨by have:=Ad c21;(try simp only[Al,Ax,Aq] at*);(repeat' refine And.intro ?_ ?_)<;>first | exact Dq _ _ rfl | exact Anv _ | omega | (simp[JS];done),?_⟩;cases hr;(try simp only[go_sem]);all_goals ((try refine Cm ?_);(try simp only[go_sem]);try first | rfl | exact ⟨rfl,rfl⟩ | (simp;done))
     simp only[c11,Ak] at hr;cases hr;(try simp only[go_sem,c7,IW,c11]);all_goals ((try refine Cm ?_);(try simp only[go_sem,c7,IW,c11]);try first | rfl | exact ⟨rfl,rfl⟩ | (simp;done))
   simp only[IW,Ak] at hr;cases hr;(try simp only[go_sem,c7,IW]);all_goals ((try refine Cm ?_);(try simp only[go_sem,c7,IW]);try first | rfl | exact ⟨rfl,rfl⟩ | (simp;done))
 simp only[c7,Ak] at hr;cases hr;try simp only[go_sem,c7]
 all_goals ((try refine Cm ?_);(try simp only[go_sem,c7]);try first | rfl | exact ⟨rfl,rfl⟩ | (simp;done))
def Ja(a0:List Eh)(a2:List C5)(a3:List Int)(a4:Int)(a5:Int)(a6:Int)(a7:Int)(a8:Bool)(a9:Dc):(List (List Int))×Int->Option (((List (List Int))×Int)⊕(((List (List Int))×Int)⊕(Int×(List Eh)×(List (List Int))×(List C5)×(List Int)×Int×Int×Int×Int×Bool)))
 | (v3,v4)=>cond (decide ((IntKind.i64.wrap (v4+1))<((a9.names.length:Nat):Int))) (Option.bind (CL a9.names v4) λ D1=>Option.bind (CL a9.names (IntKind.i64.wrap (v4+1))) λ x15=>Option.bind (GK (⟨a0,v3,a2,a3,a4,a5,a6,a7⟩:Nt) D1) λ RJ=>Option.bind (GK (⟨a0,v3,a2,a3,a4,a5,a6,a7⟩:Nt) x15) λ RI=>cond (decide (RJ<0)) (some (Sum.inr (.inr (((9,a0,v3,a2,a3,a4,a5,a6,a7,a8):Int×(List Eh)×(List (List Int))×(List C5)×(List Int)×Int×Int×Int×Int×Bool))))) (cond (decide (RI<0)) (some (Sum.inr (.inr (((9,a0,v3,a2,a3,a4,a5,a6,a7,a8):Int×(List Eh)×(List (List Int))×(List C5)×(List Int)×Int×Int×Int×Int×Bool))))) (cond (decide (RJ=RI)) (some (Sum.inr (.inr (((10,a0,v3,a2,a3,a4,a5,a6,a7,a8):Int×(List Eh)×(List (List Int))×(List C5)×(List Int)×Int×Int×Int×Int×Bool))))) (Option.bind (CL v3 RJ) λ Ku=>Option.bind (Wh Ku RI) λ SW=>cond SW (some (Sum.inr (.inr (((11,a0,v3,a2,a3,a4,a5,a6,a7,a8):Int×(List Eh)×(List (List Int))×(List C5)×(List Int)×Int×Int×Int×Int×Bool))))) (cond (decide (((Ku.length:Nat):Int)=4)) (some (Sum.inr (.inr (((14,a0,v3,a2,a3,a4,a5,a6,a7,a8):Int×(List Eh)×(List (List Int))×(List C5)×(List Int)×Int×Int×Int×Int×Bool))))) (Option.bind (ML Ku RI) λ RH=>some (Sum.inl ((v3.set (Int.toNat RJ) RH),(IntKind.i64.wrap (v4+1)))))))))) (some (Sum.inr (.inl (v3,v4))))
def Mx(a0:List Eh)(a1:List (List Int))(a2:List C5)(a3:List Int)(a4:Int)(a5:Int)(a6:Int)(a7:Int)(a8:Bool)(a9:Dc):Option (Int×(List Eh)×(List (List Int))×(List C5)×(List Int)×Int×Int×Int×Int×Bool):=
 Option.bind (CA (Ja a0 a2 a3 a4 a5 a6 a7 a8 a9) (a1,0)) (λ | .inl (v36,v37)=>some (0,a0,v36,a2,a3,a4,a5,a6,a7,a8) | .inr (r38)=>some r38)
theorem Aa6(a0:List Eh)(a1:List (List Int))(a2:List C5)(a3:List Int)(a4:Int)(a5:Int)(a6:Int)(a7:Int)(a8:Bool)(a9:Dc)(r:Int×(List Eh)×(List (List Int))×(List C5)×(List Int)×Int×Int×Int×Int×Bool)(hr:Mx a0 a1 a2 a3 a4 a5 a6 a7 a8 a9=some r):
   B1 prog 77 [.ptr 1000000 0,.agg [.p (.int .i64 a9.word),.p (.int .i64 a9.line),.p (.sl (Cw a9.names)),.p (.sl (BY a9.B7))]] [(1000000,.box [.ref 1000001 0 a0.length a0.length,.ref 1000002 0 a1.length a1.length,.ref 1000003 0 a2.length a2.length,.ref 1000004 0 a3.length a3.length,.p (.int .i64 a4),.p (.int .i64 a5),.p (.int .i64 a6),.p (.int .i64 a7),.p (.bool a8)]),(1000001,.arr 76 3 (CV a0)),(1000002,.arr 22 1 (Cj a1)),(1000003,.arr 68 6 (CQ a2)),(1000004,.arr 3 1 (BY a3))] λ h d=>h=[(1000000,.box [.ref 1000001 0 r.2.1.length r.2.1.length,.ref 1000002 0 r.2.2.1.length r.2.2.1.length,.ref 1000003 0 r.2.2.2.1.length r.2.2.2.1.length,.ref 1000004 0 r.2.2.2.2.1.length r.2.2.2.2.1.length,.p (.int .i64 r.2.2.2.2.2.1),.p (.int .i64 r.2.2.2.2.2.2.1),.p (.int .i64 r.2.2.2.2.2.2.2.1),.p (.int .i64 r.2.2.2.2.2.2.2.2.1),.p (.bool r.2.2.2.2.2.2.2.2.2)]),(1000001,.arr 76 3 (CV r.2.1)),(1000002,.arr 22 1 (Cj r.2.2.1)),(1000003,.arr 68 6 (CQ r.2.2.2.1)),(1000004,.arr 3 1 (BY r.2.2.2.2.1))]/\d= .p (.int .i64 r.1):=by
 refine B0 func77 rfl Am9 (by simp[Tryz.f77]) ?_;unfold Mx at hr;obtain ⟨e8,g9,hr⟩:=bE hr;try simp only[go_sem]
 refine CP g9 (λ q:(List (List Int))×Int=>⟨[(0,.ptr 1000000 0),(3,.ptr 3 0),(5,.p (.int .i64 q.2))],[(3,.box [.p (.int .i64 a9.word),.p (.int .i64 a9.line),.p (.sl (Cw a9.names)),.p (.sl (BY a9.B7))]),(1000000,.box [.ref 1000001 0 a0.length a0.length,.ref 1000002 0 q.1.length q.1.length,.ref 1000003 0 a2.length a2.length,.ref 1000004 0 a3.length a3.length,.p (.int .i64 a4),.p (.int .i64 a5),.p (.int .i64 a6),.p (.int .i64 a7),.p (.bool a8)]),(1000001,.arr 76 3 (CV a0)),(1000002,.arr 22 1 (Cj q.1)),(1000003,.arr 68 6 (CQ a2)),(1000004,.arr 3 1 (BY a3))],87⟩) ((Wk.forget (by simp[ZF,ZE]))) ?_;rintro ⟨v3,v4⟩ m7 FF ih6;rw[Ja.eq_1] at FF;cases IW:decide ((IntKind.i64.wrap (v4+1))<((a9.names.length:Nat):Int))
 . simp only[IW,Aj] at FF;simp only[Aa,BZ] at FF;cases FF;(try dsimp only at hr);cases hr;(try simp only[go_sem,IW]);all_goals ((try refine Cm ?_);(try simp only[go_sem,IW]);try first | rfl | exact ⟨rfl,rfl⟩ | (simp;done))
 simp only[IW,Ak] at FF;try simp only[go_sem,IW]
 refine CH mixed (p:=[(0,0),(1,0),(2,0),(3,0),(4,0),(5,0),(6,0),(7,0),(8,0),(10,0),(11,0),(12,0),(13,0),(14,0),(15,0),(16,0),(17,0),(18,0),(19,0),(9,2),(20,2),(21,0),(22,0)]) (by kernel_rfl) (by simp[C3,get]) ?_;obtain ⟨D1,g12,FF⟩:=bK FF;have f13:=B8 g12;have f14:(Cw a9.names).getD (Int.toNat v4) []=[(.str D1)]:=B9 _ g12;obtain ⟨x15,g16,FF⟩:=bK FF;have f17:=B8 g16;have f18:(Cw a9.names).getD (Int.toNat (IntKind.i64.wrap (v4+1))) []=[(.str x15)]:=B9 _ g16;obtain ⟨RJ,g20,FF⟩:=bK FF;try simp only[go_sem,f13,f14,f17,f18]
 refine LX rfl rfl (HQ (⟨a0,v3,a2,a3,a4,a5,a6,a7⟩:Nt) D1 _ g20) (by simp[GS,Nl,ev,get,AE,ZB]<;>rfl) ?_;rintro h' r ⟨rfl,rfl⟩;refine ⟨rfl,rfl,?_⟩;obtain ⟨RI,g22,FF⟩:=bK FF;try simp only[go_sem]
 refine LX rfl rfl (HQ (⟨a0,v3,a2,a3,a4,a5,a6,a7⟩:Nt) x15 _ g22) (by simp[GS,Nl,ev,get,AE,ZB]<;>rfl) ?_;rintro h' r ⟨rfl,rfl⟩;refine ⟨rfl,rfl,?_⟩;cases Ko:decide (RJ<0)
 . simp only[Ko,Aj] at FF;cases I6:decide (RI<0)
   . simp only[I6,Aj] at FF;cases c25:decide (RJ=RI)
     . simp only[c25,Aj] at FF;obtain ⟨Ku,g27,FF⟩:=bK FF;have f28:=B8 g27;have f29:(Cj v3).getD (Int.toNat RJ) []=[(.sl (BY Ku))]:=B9 _ g27;obtain ⟨SW,g31,FF⟩:=bK FF;(try simp only[go_sem,Ko,I6,c25,f28,f29]);refine Cq (Acv Ku RI _ g31) ?_;cases s6:SW
       . simp only[s6,Aj] at FF;cases c33:decide (((Ku.length:Nat):Int)=4)
         . simp only[c33,Aj] at FF;(try simp only[go_sem,s6,f28,f29,c33]);refine CH mixed (p:=[(0,0),(1,0),(2,0),(3,0),(4,0),(5,0),(6,0),(7,0),(8,0),(9,0),(10,0),(11,0),(12,0),(13,0),(14,0),(15,2),(16,0),(17,3)]) (by kernel_rfl) (by simp[C3,get]) ?_;obtain ⟨RH,g35,FF⟩:=bK FF;(try simp only[go_sem,f28,f29]);refine Gq (Aas Ku RI _ g35) ?_;simp only[Aa,B6] at FF;(try simp only[go_sem,f28,f29]);exact ih6 ((v3.set (Int.toNat RJ) RH),(IntKind.i64.wrap (v4+1))) _ FF ((Wk.forget (by simp[ZF,ZE,s6])))
         simp only[c33,Ak] at FF;simp only[Aa,BZ] at FF;cases FF;(try dsimp only at hr);cases hr;(try simp only[go_sem,s6,f28,f29,c33]);all_goals ((try refine Cm ?_);(try simp only[go_sem,s6,f28,f29,c33]);try first | rfl | exact ⟨rfl,rfl⟩ | (simp;done))
       simp only[s6,Ak] at FF;simp only[Aa,BZ] at FF;cases FF;(try dsimp only at hr);cases hr;(try simp only[go_sem,s6]);all_goals ((try refine Cm ?_);(try simp only[go_sem,s6]);try first | rfl | exact ⟨rfl,rfl⟩ | (simp;done))
     simp only[c25,Ak] at FF;simp only[Aa,BZ] at FF;cases FF;(try dsimp only at hr);cases hr;(try simp only[go_sem,Ko,I6,c25]);all_goals ((try refine Cm ?_);(try simp only[go_sem,Ko,I6,c25]);try first | rfl | exact ⟨rfl,rfl⟩ | (simp;done))
   simp only[I6,Ak] at FF;simp only[Aa,BZ] at FF;cases FF;(try dsimp only at hr);cases hr;(try simp only[go_sem,Ko,I6]);all_goals ((try refine Cm ?_);(try simp only[go_sem,Ko,I6]);try first | rfl | exact ⟨rfl,rfl⟩ | (simp;done))
 simp only[Ko,Ak] at FF;simp only[Aa,BZ] at FF;cases FF;try dsimp only at hr
 cases hr;try simp only[go_sem,Ko]
 all_goals ((try refine Cm ?_);(try simp only[go_sem,Ko]);try first | rfl | exact ⟨rfl,rfl⟩ | (simp;done))
def KB(a0:List Eh)(a1:List (List Int))(a2:List C5)(a3:List Int)(a4:Int)(a5:Int)(a6:Int)(a7:Int)(a8:Bool)(a9:Dc):Option (Int×(List Eh)×(List (List Int))×(List C5)×(List Int)×Int×Int×Int×Int×Bool):=
 Option.bind (CL a9.names 1) λ x1=>Option.bind (CL a9.names 2) λ x5=>Option.bind (GK (⟨a0,a1,a2,a3,a4,a5,a6,a7⟩:Nt) x1) λ x9=>Option.bind (GK (⟨a0,a1,a2,a3,a4,a5,a6,a7⟩:Nt) x5) λ D1=>Option.bind (CL a9.names 0) λ Mc=>Option.bind (GK (⟨a0,a1,a2,a3,a4,a5,a6,a7⟩:Nt) Mc) λ UU=>cond (decide (0<=UU)) (some (8,a0,a1,a2,a3,a4,a5,a6,a7,a8)) (Option.bind (Lr (⟨a0,a1,a2,a3,a4,a5,a6,a7⟩:Nt) Mc) λ X9=>cond (decide (0<=X9)) (some (8,a0,a1,a2,a3,a4,a5,a6,a7,a8)) (cond (decide (x9<0)) (some (9,a0,a1,a2,a3,a4,a5,a6,a7,a8)) (cond (decide (D1<0)) (some (9,a0,a1,a2,a3,a4,a5,a6,a7,a8)) (Option.bind (CL a9.B7 0) λ Ma=>cond (decide (Ma<1)) (some (12,a0,a1,a2,a3,a4,a5,a6,a7,a8)) (cond (decide (4<Ma)) (some (12,a0,a1,a2,a3,a4,a5,a6,a7,a8)) (cond (decide (((a2.length:Nat):Int)=6)) (some (14,a0,a1,a2,a3,a4,a5,a6,a7,a8)) (cond (decide (a2.length+1<10000000)) (some (0,a0,a1,(a2++[(⟨Mc,decide (a9.word=4),x9,D1,Ma,0⟩:C5)]),a3,a4,a5,a6,a7,a8)) none)))))))
theorem Tn(a0:List Eh)(a1:List (List Int))(a2:List C5)(a3:List Int)(a4:Int)(a5:Int)(a6:Int)(a7:Int)(a8:Bool)(a9:Dc)(r:Int×(List Eh)×(List (List Int))×(List C5)×(List Int)×Int×Int×Int×Int×Bool)(hr:KB a0 a1 a2 a3 a4 a5 a6 a7 a8 a9=some r):
   B1 prog 78 [.ptr 1000000 0,.agg [.p (.int .i64 a9.word),.p (.int .i64 a9.line),.p (.sl (Cw a9.names)),.p (.sl (BY a9.B7))]] [(1000000,.box [.ref 1000001 0 a0.length a0.length,.ref 1000002 0 a1.length a1.length,.ref 1000003 0 a2.length a2.length,.ref 1000004 0 a3.length a3.length,.p (.int .i64 a4),.p (.int .i64 a5),.p (.int .i64 a6),.p (.int .i64 a7),.p (.bool a8)]),(1000001,.arr 76 3 (CV a0)),(1000002,.arr 22 1 (Cj a1)),(1000003,.arr 68 6 (CQ a2)),(1000004,.arr 3 1 (BY a3))] λ h d=>h=[(1000000,.box [.ref 1000001 0 r.2.1.length r.2.1.length,.ref 1000002 0 r.2.2.1.length r.2.2.1.length,.ref 1000003 0 r.2.2.2.1.length r.2.2.2.1.length,.ref 1000004 0 r.2.2.2.2.1.length r.2.2.2.2.1.length,.p (.int .i64 r.2.2.2.2.2.1),.p (.int .i64 r.2.2.2.2.2.2.1),.p (.int .i64 r.2.2.2.2.2.2.2.1),.p (.int .i64 r.2.2.2.2.2.2.2.2.1),.p (.bool r.2.2.2.2.2.2.2.2.2)]),(1000001,.arr 76 3 (CV r.2.1)),(1000002,.arr 22 1 (Cj r.2.2.1)),(1000003,.arr 68 6 (CQ r.2.2.2.1)),(1000004,.arr 3 1 (BY r.2.2.2.2.1))]/\d= .p (.int .i64 r.1):=by
 refine B0 func78 rfl Am8 (by simp[Tryz.f78]) ?_;unfold KB at hr;try simp only[go_sem]
 refine CH mixed (p:=[(0,0),(1,0),(2,0),(3,0),(4,0),(5,0),(6,0),(7,0),(9,0),(10,0),(11,0),(12,0),(13,0),(14,0),(15,0),(16,0),(8,2),(17,2),(18,0),(19,0)]) (by kernel_rfl) (by simp[C3,get]) ?_;obtain ⟨x1,g2,hr⟩:=bE hr;have f3:=B8 g2;have f4:(Cw a9.names).getD 1 []=[(.str x1)]:=B9 _ g2;obtain ⟨x5,g6,hr⟩:=bE hr;have f7:=B8 g6;have f8:(Cw a9.names).getD 2 []=[(.str x5)]:=B9 _ g6;obtain ⟨x9,g10,hr⟩:=bE hr;try simp only[go_sem,f3,f4,f7,f8]
 refine LX rfl rfl (HQ (⟨a0,a1,a2,a3,a4,a5,a6,a7⟩:Nt) x1 _ g10) (by simp[GS,Nl,ev,get,AE,ZB]<;>rfl) ?_;rintro h' r ⟨rfl,rfl⟩;refine ⟨rfl,rfl,?_⟩;obtain ⟨D1,g12,hr⟩:=bE hr;try simp only[go_sem]
 refine LX rfl rfl (HQ (⟨a0,a1,a2,a3,a4,a5,a6,a7⟩:Nt) x5 _ g12) (by simp[GS,Nl,ev,get,AE,ZB]<;>rfl) ?_;rintro h' r ⟨rfl,rfl⟩;refine ⟨rfl,rfl,?_⟩;try simp only[go_sem]
 refine CH mixed (p:=[(0,0),(1,0),(2,0),(3,0),(4,0),(5,0),(6,0),(7,0),(8,2),(9,0),(10,0),(11,0),(12,0),(13,0),(14,0),(15,0),(16,0),(17,0),(18,0),(19,2),(20,0),(21,0),(22,0)]) (by kernel_rfl) (by simp[C3,get]) ?_;obtain ⟨Mc,g14,hr⟩:=bE hr;have f15:=B8 g14;have f16:(Cw a9.names).getD 0 []=[(.str Mc)]:=B9 _ g14;obtain ⟨UU,g18,hr⟩:=bE hr;try simp only[go_sem,f15,f16]
 refine LX rfl rfl (HQ (⟨a0,a1,a2,a3,a4,a5,a6,a7⟩:Nt) Mc _ g18) (by simp[GS,Nl,ev,get,AE,ZB]<;>rfl) ?_;rintro h' r ⟨rfl,rfl⟩;refine ⟨rfl,rfl,?_⟩;cases Kp:decide (0<=UU)
 . simp only[Kp,Aj] at hr;obtain ⟨X9,g21,hr⟩:=bE hr;(try simp only[go_sem,Kp,f15,f16]);refine LX rfl rfl (QR (⟨a0,a1,a2,a3,a4,a5,a6,a7⟩:Nt) Mc _ g21) (by simp[GS,Nl,ev,get,AE,ZB]<;>rfl) ?_;rintro h' r ⟨rfl,rfl⟩;refine ⟨rfl,rfl,?_⟩;cases IK:decide (0<=X9)
   . simp only[IK,Aj] at hr;cases Ko:decide (x9<0)
     . simp only[Ko,Aj] at hr;cases I6:decide (D1<0)
       . simp only[I6,Aj] at hr;obtain ⟨Ma,g26,hr⟩:=bE hr;have f27:=B8 g26;have f28:(BY a9.B7).getD 0 []=[(.int .i64 Ma)]:=B9 _ g26;cases J5:decide (Ma<1)
         . simp only[J5,Aj] at hr;cases JN:decide (4<Ma)
           . simp only[JN,Aj] at hr;cases QE:decide (((a2.length:Nat):Int)=6)
             . simp only[QE,Aj] at hr;(try simp only[go_sem,Kp,IK,Ko,I6,f27,f28,J5,JN,QE]);refine Di [(3,.box [.p (.int .i64 a9.word),.p (.int .i64 a9.line),.p (.sl (Cw a9.names)),.p (.sl (BY a9.B7))]),(1000000,.box [.ref 1000001 0 a0.length a0.length,.ref 1000002 0 a1.length a1.length,.ref 1000003 0 a2.length a2.length,.ref 1000004 0 a3.length a3.length,.p (.int .i64 a4),.p (.int .i64 a5),.p (.int .i64 a6),.p (.int .i64 a7),.p (.bool a8)])] mixed (p:=[(0,0),(1,0),(2,0),(3,0),(4,0),(5,0),(6,0),(7,0),(8,0),(9,0),(10,0),(11,0),(12,0),(13,0),(14,0),(15,0),(16,0),(17,0),(18,0),(19,0),(20,1),(21,2),(22,0),(23,0),(24,0),(25,3)]) (by kernel_rfl) (by simp[C3,get]) ?_;obtain ⟨s6,hr⟩:=gE hr;(try simp only[go_sem,f15,f16,f27,f28]);refine ⟨by have:=Ad s6;(try simp only[Al,Ax,Aq] at*);(repeat' refine And.intro ?_ ?_)<;>first | exact Dq _ _ rfl | exact Ans _ | omega | (simp[JS];done),?_⟩;cases hr;(try simp only[go_sem]);all_goals ((try refine Cm ?_);(try simp only[go_sem]);try first | rfl | exact ⟨rfl,rfl⟩ | (simp;done))
             simp only[QE,Ak] at hr;cases hr;(try simp only[go_sem,Kp,IK,Ko,I6,f27,f28,J5,JN,QE]);all_goals ((try refine Cm ?_);(try simp only[go_sem,Kp,IK,Ko,I6,f27,f28,J5,JN,QE]);try first | rfl | exact ⟨rfl,rfl⟩ | (simp;done))
           simp only[JN,Ak] at hr;cases hr;(try simp only[go_sem,Kp,IK,Ko,I6,f27,f28,J5,JN]);all_goals ((try refine Cm ?_);(try simp only[go_sem,Kp,IK,Ko,I6,f27,f28,J5,JN]);try first | rfl | exact ⟨rfl,rfl⟩ | (simp;done))
         simp only[J5,Ak] at hr;cases hr;(try simp only[go_sem,Kp,IK,Ko,I6,f27,f28,J5]);all_goals ((try refine Cm ?_);(try simp only[go_sem,Kp,IK,Ko,I6,f27,f28,J5]);try first | rfl | exact ⟨rfl,rfl⟩ | (simp;done))
       simp only[I6,Ak] at hr;cases hr;(try simp only[go_sem,Kp,IK,Ko,I6]);all_goals ((try refine Cm ?_);(try simp only[go_sem,Kp,IK,Ko,I6]);try first | rfl | exact ⟨rfl,rfl⟩ | (simp;done))
     simp only[Ko,Ak] at hr;cases hr;(try simp only[go_sem,Kp,IK,Ko]);all_goals ((try refine Cm ?_);(try simp only[go_sem,Kp,IK,Ko]);try first | rfl | exact ⟨rfl,rfl⟩ | (simp;done))
   simp only[IK,Ak] at hr;cases hr;(try simp only[go_sem,Kp,IK]);all_goals ((try refine Cm ?_);(try simp only[go_sem,Kp,IK]);try first | rfl | exact ⟨rfl,rfl⟩ | (simp;done))
 simp only[Kp,Ak] at hr;cases hr;try simp only[go_sem,Kp]
 all_goals ((try refine Cm ?_);(try simp only[go_sem,Kp]);try first | rfl | exact ⟨rfl,rfl⟩ | (simp;done))
def KC(a0:List Eh)(a1:List (List Int))(a2:List C5)(a3:List Int)(a4:Int)(a5:Int)(a6:Int)(a7:Int)(a8:Bool)(a9:Dc):Option (Int×(List Eh)×(List (List Int))×(List C5)×(List Int)×Int×Int×Int×Int×Bool):=
 Option.bind (CL a9.names 0) λ x1=>Option.bind (Lr (⟨a0,a1,a2,a3,a4,a5,a6,a7⟩:Nt) x1) λ x5=>cond (decide (x5<0)) (some (9,a0,a1,a2,a3,a4,a5,a6,a7,a8)) (Option.bind (CL a2 x5) λ x8=>cond x8.Cz (Option.bind (CL a9.B7 0) λ Mc=>cond (decide (Mc<1)) (some (12,a0,a1,a2,a3,a4,a5,a6,a7,a8)) (cond (decide (x8.Cs<Mc)) (some (12,a0,a1,a2,a3,a4,a5,a6,a7,a8)) (Option.bind (Wh a3 (IntKind.i64.wrap ((IntKind.i64.wrap (x5*8))+Mc))) λ RJ=>cond RJ (some (13,a0,a1,a2,a3,a4,a5,a6,a7,a8)) (cond (decide (((a3.length:Nat):Int)=8)) (some (14,a0,a1,a2,a3,a4,a5,a6,a7,a8)) (cond (decide (a3.length+1<10000000)) (some (0,a0,a1,a2,(a3++[(IntKind.i64.wrap ((IntKind.i64.wrap (x5*8))+Mc))]),a4,a5,a6,a7,a8)) none))))) (some (9,a0,a1,a2,a3,a4,a5,a6,a7,a8)))
theorem YS(a0:List Eh)(a1:List (List Int))(a2:List C5)(a3:List Int)(a4:Int)(a5:Int)(a6:Int)(a7:Int)(a8:Bool)(a9:Dc)(r:Int×(List Eh)×(List (List Int))×(List C5)×(List Int)×Int×Int×Int×Int×Bool)(hr:KC a0 a1 a2 a3 a4 a5 a6 a7 a8 a9=some r):
   B1 prog 79 [.ptr 1000000 0,.agg [.p (.int .i64 a9.word),.p (.int .i64 a9.line),.p (.sl (Cw a9.names)),.p (.sl (BY a9.B7))]] [(1000000,.box [.ref 1000001 0 a0.length a0.length,.ref 1000002 0 a1.length a1.length,.ref 1000003 0 a2.length a2.length,.ref 1000004 0 a3.length a3.length,.p (.int .i64 a4),.p (.int .i64 a5),.p (.int .i64 a6),.p (.int .i64 a7),.p (.bool a8)]),(1000001,.arr 76 3 (CV a0)),(1000002,.arr 22 1 (Cj a1)),(1000003,.arr 68 6 (CQ a2)),(1000004,.arr 3 1 (BY a3))] λ h d=>h=[(1000000,.box [.ref 1000001 0 r.2.1.length r.2.1.length,.ref 1000002 0 r.2.2.1.length r.2.2.1.length,.ref 1000003 0 r.2.2.2.1.length r.2.2.2.1.length,.ref 1000004 0 r.2.2.2.2.1.length r.2.2.2.2.1.length,.p (.int .i64 r.2.2.2.2.2.1),.p (.int .i64 r.2.2.2.2.2.2.1),.p (.int .i64 r.2.2.2.2.2.2.2.1),.p (.int .i64 r.2.2.2.2.2.2.2.2.1),.p (.bool r.2.2.2.2.2.2.2.2.2)]),(1000001,.arr 76 3 (CV r.2.1)),(1000002,.arr 22 1 (Cj r.2.2.1)),(1000003,.arr 68 6 (CQ r.2.2.2.1)),(1000004,.arr 3 1 (BY r.2.2.2.2.1))]/\d= .p (.int .i64 r.1):=by
 refine B0 func79 rfl Am7 (by simp[Tryz.f79]) ?_;unfold KC at hr;try simp only[go_sem]
 refine CH mixed (p:=[(0,0),(1,0),(2,0),(3,0),(4,0),(5,0),(6,0),(7,0),(8,2),(9,0)]) (by kernel_rfl) (by simp[C3,get]) ?_;obtain ⟨x1,g2,hr⟩:=bE hr;have f3:=B8 g2;have f4:(Cw a9.names).getD 0 []=[(.str x1)]:=B9 _ g2;obtain ⟨x5,g6,hr⟩:=bE hr;try simp only[go_sem,f3,f4]
 refine LX rfl rfl (QR (⟨a0,a1,a2,a3,a4,a5,a6,a7⟩:Nt) x1 _ g6) (by simp[GS,Nl,ev,get,AE,ZB]<;>rfl) ?_;rintro h' r ⟨rfl,rfl⟩;refine ⟨rfl,rfl,?_⟩;cases c7:decide (x5<0)
 . simp only[c7,Aj] at hr;obtain ⟨x8,g9,hr⟩:=bE hr;have f10:=B8 g9;have f11:(CQ a2).getD (Int.toNat x5) []=[(.str x8.name),(.bool x8.Cz),(.int .i64 x8.HA),(.int .i64 x8.out),(.int .i64 x8.Cs),(.int .i64 x8.base)]:=B9 _ g9;cases c12:x8.Cz
   . simp only[c12,Aj] at hr;cases hr;(try simp only[go_sem,c7,f10,f11,c12]);all_goals ((try refine Cm ?_);(try simp only[go_sem,c7,f10,f11,c12]);try first | rfl | exact ⟨rfl,rfl⟩ | (simp;done))
   simp only[c12,Ak] at hr;(try simp only[go_sem,c7,f10,f11,c12]);refine CH mixed (p:=[(0,0),(1,0),(2,0),(3,0),(4,0),(5,0),(6,0),(7,0),(8,0),(9,0),(10,0),(11,0),(12,0),(13,0),(14,0),(15,0),(16,0),(17,0),(18,0),(19,0),(20,0)]) (by kernel_rfl) (by simp[C3,get]) ?_;obtain ⟨Mc,g14,hr⟩:=bE hr;have f15:=B8 g14;have f16:(BY a9.B7).getD 0 []=[(.int .i64 Mc)]:=B9 _ g14;cases Ia:decide (Mc<1)
   . simp only[Ia,Aj] at hr;cases JW:decide (x8.Cs<Mc)
     . simp only[JW,Aj] at hr;obtain ⟨RJ,g20,hr⟩:=bE hr;(try simp only[go_sem,f15,f16,Ia,f10,f11,JW]);refine Pe rfl rfl (Acv a3 (IntKind.i64.wrap ((IntKind.i64.wrap (x5*8))+Mc)) _ g20) (by simp[GS,Nl,ev,get,AE,ZB]<;>rfl) ?_;rintro h' r ⟨rfl,rfl⟩;refine ⟨rfl,rfl,?_⟩;cases c21:RJ
       . simp only[c21,Aj] at hr;cases IK:decide (((a3.length:Nat):Int)=8)
         . simp only[IK,Aj] at hr;obtain ⟨Ko,hr⟩:=gE hr;(try simp only[go_sem,c21,IK]);refine ⟨by have:=Ad Ko;(try simp only[Al,Ax,Aq] at*);(repeat' refine And.intro ?_ ?_)<;>first | exact Dq _ _ rfl | exact E6 _ | omega | (simp[JS];done),?_⟩;cases hr;(try simp only[go_sem]);all_goals ((try refine Cm ?_);(try simp only[go_sem]);try first | rfl | exact ⟨rfl,rfl⟩ | (simp;done))
         simp only[IK,Ak] at hr;cases hr;(try simp only[go_sem,c21,IK]);all_goals ((try refine Cm ?_);(try simp only[go_sem,c21,IK]);try first | rfl | exact ⟨rfl,rfl⟩ | (simp;done))
       simp only[c21,Ak] at hr;cases hr;(try simp only[go_sem,c21]);all_goals ((try refine Cm ?_);(try simp only[go_sem,c21]);try first | rfl | exact ⟨rfl,rfl⟩ | (simp;done))
     simp only[JW,Ak] at hr;cases hr;(try simp only[go_sem,f15,f16,Ia,f10,f11,JW]);all_goals ((try refine Cm ?_);(try simp only[go_sem,f15,f16,Ia,f10,f11,JW]);try first | rfl | exact ⟨rfl,rfl⟩ | (simp;done))
   simp only[Ia,Ak] at hr;cases hr;(try simp only[go_sem,f15,f16,Ia]);all_goals ((try refine Cm ?_);(try simp only[go_sem,f15,f16,Ia]);try first | rfl | exact ⟨rfl,rfl⟩ | (simp;done))
 simp only[c7,Ak] at hr;cases hr;try simp only[go_sem,c7]
 all_goals ((try refine Cm ?_);(try simp only[go_sem,c7]);try first | rfl | exact ⟨rfl,rfl⟩ | (simp;done))
def Jw(a0:List Eh)(a1:List (List Int))(a2:List C5)(a3:List Int)(a4:Int)(a5:Int)(a6:Int)(a7:Int)(a8:Bool)(a9:Dc):Option (Int×(List Eh)×(List (List Int))×(List C5)×(List Int)×Int×Int×Int×Int×Bool):=
 cond a8 (some (11,a0,a1,a2,a3,a4,a5,a6,a7,true)) (Option.bind (CL a9.B7 0) λ x2=>Option.bind (CL a9.B7 1) λ x6=>Option.bind (CL a9.B7 2) λ Nn=>Option.bind (CL a9.B7 3) λ NW=>Option.bind (GJ (⟨x2,x6,Nn,NW⟩:o5)) λ Pg=>cond Pg (some (0,a0,a1,a2,a3,x2,x6,Nn,NW,true)) (some (19,a0,a1,a2,a3,a4,a5,a6,a7,false)))
theorem Xd(a0:List Eh)(a1:List (List Int))(a2:List C5)(a3:List Int)(a4:Int)(a5:Int)(a6:Int)(a7:Int)(a8:Bool)(a9:Dc)(r:Int×(List Eh)×(List (List Int))×(List C5)×(List Int)×Int×Int×Int×Int×Bool)(hr:Jw a0 a1 a2 a3 a4 a5 a6 a7 a8 a9=some r):
   B1 prog 80 [.ptr 1000000 0,.agg [.p (.int .i64 a9.word),.p (.int .i64 a9.line),.p (.sl (Cw a9.names)),.p (.sl (BY a9.B7))]] [(1000000,.box [.ref 1000001 0 a0.length a0.length,.ref 1000002 0 a1.length a1.length,.ref 1000003 0 a2.length a2.length,.ref 1000004 0 a3.length a3.length,.p (.int .i64 a4),.p (.int .i64 a5),.p (.int .i64 a6),.p (.int .i64 a7),.p (.bool a8)]),(1000001,.arr 76 3 (CV a0)),(1000002,.arr 22 1 (Cj a1)),(1000003,.arr 68 6 (CQ a2)),(1000004,.arr 3 1 (BY a3))] λ h d=>h=[(1000000,.box [.ref 1000001 0 r.2.1.length r.2.1.length,.ref 1000002 0 r.2.2.1.length r.2.2.1.length,.ref 1000003 0 r.2.2.2.1.length r.2.2.2.1.length,.ref 1000004 0 r.2.2.2.2.1.length r.2.2.2.2.1.length,.p (.int .i64 r.2.2.2.2.2.1),.p (.int .i64 r.2.2.2.2.2.2.1),.p (.int .i64 r.2.2.2.2.2.2.2.1),.p (.int .i64 r.2.2.2.2.2.2.2.2.1),.p (.bool r.2.2.2.2.2.2.2.2.2)]),(1000001,.arr 76 3 (CV r.2.1)),(1000002,.arr 22 1 (Cj r.2.2.1)),(1000003,.arr 68 6 (CQ r.2.2.2.1)),(1000004,.arr 3 1 (BY r.2.2.2.2.1))]/\d= .p (.int .i64 r.1):=by
 refine B0 func80 rfl Am6 (by simp[Tryz.f80]) ?_;unfold Jw at hr;cases c1:a8
 . simp only[c1,Aj] at hr;(try simp only[go_sem,c1]);refine CH mixed (p:=[(0,0),(1,0),(2,0),(3,0),(4,0),(5,0),(6,0),(7,0),(8,0),(9,0),(10,0),(11,0),(12,0),(13,0),(14,0),(15,0),(16,0),(17,1),(18,3)]) (by kernel_rfl) (by simp[C3,get]) ?_;obtain ⟨x2,g3,hr⟩:=bE hr;have f4:=B8 g3;have f5:(BY a9.B7).getD 0 []=[(.int .i64 x2)]:=B9 _ g3;obtain ⟨x6,g7,hr⟩:=bE hr;have f8:=B8 g7;have f9:(BY a9.B7).getD 1 []=[(.int .i64 x6)]:=B9 _ g7;obtain ⟨Nn,g11,hr⟩:=bE hr;have f12:=B8 g11;have f13:(BY a9.B7).getD 2 []=[(.int .i64 Nn)]:=B9 _ g11;obtain ⟨NW,g15,hr⟩:=bE hr;have f16:=B8 g15;have f17:(BY a9.B7).getD 3 []=[(.int .i64 NW)]:=B9 _ g15;obtain ⟨Pg,g19,hr⟩:=bE hr;(try simp only[go_sem,f4,f5,f8,f9,f12,f13,f16,f17]);refine Cq (Sx (⟨x2,x6,Nn,NW⟩:o5) _ g19) ?_;cases Qu:Pg
   . simp only[Qu,Aj] at hr;cases hr;(try simp only[go_sem,Qu]);all_goals ((try refine Cm ?_);(try simp only[go_sem,Qu]);try first | rfl | exact ⟨rfl,rfl⟩ | (simp;done))
   simp only[Qu,Ak] at hr;cases hr;(try simp only[go_sem,Qu]);all_goals ((try refine Cm ?_);(try simp only[go_sem,Qu]);try first | rfl | exact ⟨rfl,rfl⟩ | (simp;done))
 simp only[c1,Ak] at hr;cases hr;try simp only[go_sem,c1]
 all_goals ((try refine Cm ?_);(try simp only[go_sem,c1]);try first | rfl | exact ⟨rfl,rfl⟩ | (simp;done))
def Qb(l:List UInt8):Option Bool:=some (CY l)
theorem Wp(l:List UInt8)(r:Bool)(h:Qb l=some r):B1 prog 42 [.p (.str l)] [] λ h d=>h=[]/\d= .p (.bool r):=by cases h;exact PG l
def Xb(l:List UInt8):Option Bool:=some (CY l)
theorem VQ(l:List UInt8)(r:Bool)(h:Xb l=some r):B1 prog 73 [.p (.str l)] [] λ h d=>h=[]/\d= .p (.bool r):=by cases h;exact PF l
def Ii(a0:Int):Option (Int×Int):=
 cond (decide (a0=1)) (some (1,2)) (cond (decide (a0=2)) (some (2,0)) (cond (decide (a0=3)) (some (3,1)) (cond (decide (a0=4)) (some (3,1)) (cond (decide (a0=5)) (some (1,1)) (some (0,4))))))
theorem U9(a0:Int)(r:Int×Int)(hr:Ii a0=some r):
   B1 prog 72 [.p (.int .i64 a0)] [] λ h d=>h=[]/\d= .Dr [.p (.int .i64 r.1),.p (.int .i64 r.2)]:=by
 refine B0 func72 rfl ZK (by simp[Tryz.f72]) ?_;unfold Ii at hr;cases c1:decide (a0=1)
 . simp only[c1,Aj] at hr;cases c2:decide (a0=2)
   . simp only[c2,Aj] at hr;cases c3:decide (a0=3)
     . simp only[c3,Aj] at hr;cases c4:decide (a0=4)
       . simp only[c4,Aj] at hr;cases c5:decide (a0=5)
         . simp only[c5,Aj] at hr;cases hr;(try simp only[go_sem,c1,c2,c3,c4,c5]);all_goals ((try refine BX ?_);(try simp only[go_sem,c1,c2,c3,c4,c5]);try first | rfl | exact ⟨rfl,rfl⟩ | (simp;done))
         simp only[c5,Ak] at hr;cases hr;(try simp only[go_sem,c1,c2,c3,c4,c5]);all_goals ((try refine BX ?_);(try simp only[go_sem,c1,c2,c3,c4,c5]);try first | rfl | exact ⟨rfl,rfl⟩ | (simp;done))
       simp only[c4,Ak] at hr;cases hr;(try simp only[go_sem,c1,c2,c3,c4]);all_goals ((try refine BX ?_);(try simp only[go_sem,c1,c2,c3,c4]);try first | rfl | exact ⟨rfl,rfl⟩ | (simp;done))
     simp only[c3,Ak] at hr;cases hr;(try simp only[go_sem,c1,c2,c3]);all_goals ((try refine BX ?_);(try simp only[go_sem,c1,c2,c3]);try first | rfl | exact ⟨rfl,rfl⟩ | (simp;done))
   simp only[c2,Ak] at hr;cases hr;(try simp only[go_sem,c1,c2]);all_goals ((try refine BX ?_);(try simp only[go_sem,c1,c2]);try first | rfl | exact ⟨rfl,rfl⟩ | (simp;done))
 simp only[c1,Ak] at hr;cases hr;try simp only[go_sem,c1]
 all_goals ((try refine BX ?_);(try simp only[go_sem,c1]);try first | rfl | exact ⟨rfl,rfl⟩ | (simp;done))
def EH(a0:Dc):Int->Option ((Int)⊕(Int⊕Bool))
 | UW=>cond (decide (UW<((a0.B7.length:Nat):Int))) (Option.bind (CL a0.B7 UW) λ Ma=>cond (decide (Ma<(-9999))) (some (Sum.inr (.inr ((false:Bool))))) (cond (decide (9999<Ma)) (some (Sum.inr (.inr ((false:Bool))))) (some (Sum.inl (IntKind.i64.wrap (UW+1)))))) (some (Sum.inr (.inl UW)))
def EG(a0:Dc):Int->Option ((Int)⊕(Int⊕Bool))
 | v10=>cond (decide (v10<((a0.names.length:Nat):Int))) (Option.bind (CL a0.names v10) λ x33=>Option.bind (Xb x33) λ Ym=>cond Ym (some (Sum.inl (IntKind.i64.wrap (v10+1)))) (some (Sum.inr (.inr ((false:Bool)))))) (some (Sum.inr (.inl v10)))
def Ij(a0:Dc):Option (Bool):=
 cond (decide (a0.word<1)) (some false) (cond (decide (6<a0.word)) (some false) (Option.bind (Ii a0.word) λ (x3,x4)=>cond (decide (((a0.B7.length:Nat):Int)=x4)) (cond (decide (((a0.names.length:Nat):Int)<x3)) (some false) (cond (decide (x3<((a0.names.length:Nat):Int))) (cond (decide (a0.word=2)) (Option.bind (CA (EG a0) 0) (λ | .inl v90=>Option.bind (CA (EH a0) 0) (λ | .inl v105=>some true | .inr (Ba8)=>some Ba8) | .inr (Ba7)=>some Ba7)) (some false)) (Option.bind (CA (EG a0) 0) (λ | .inl v40=>Option.bind (CA (EH a0) 0) (λ | .inl v55=>some true | .inr (r56)=>some r56) | .inr (r57)=>some r57)))) (some false)))
theorem Va(a0:Dc)(r:Bool)(hr:Ij a0=some r):
   B1 prog 75 [.agg [.p (.int .i64 a0.word),.p (.int .i64 a0.line),.p (.sl (Cw a0.names)),.p (.sl (BY a0.B7))]] [] λ h d=>h=[]/\d= .p (.bool r):=by
 refine B0 func75 rfl ZJ (by simp[Tryz.f75]) ?_;unfold Ij at hr;cases c1:decide (a0.word<1)
 . simp only[c1,Aj] at hr;cases c2:decide (6<a0.word)
   . simp only[c2,Aj] at hr;obtain ⟨⟨x3,x4⟩,g5,hr⟩:=bE hr;(try simp only[go_sem,c1,c2]);refine Cq (U9 a0.word _ g5) ?_;cases c6:decide (((a0.B7.length:Nat):Int)=x4)
     . simp only[c6,Aj] at hr;cases hr;(try simp only[go_sem,c6]);all_goals ((try refine BX ?_);(try simp only[go_sem,c6]);try first | rfl | exact ⟨rfl,rfl⟩ | (simp;done))
     simp only[c6,Ak] at hr;cases c7:decide (((a0.names.length:Nat):Int)<x3)
     . simp only[c7,Aj] at hr;cases c8:decide (x3<((a0.names.length:Nat):Int))
       . simp only[c8,Aj] at hr;obtain ⟨e14,g15,hr⟩:=bE hr;(try simp only[go_sem,c6,c7,c8]);refine CP g15 (λ q:Int=>⟨[(1,.ptr 1 0),(5,.p (.int .i64 q))],[(1,.box [.p (.int .i64 a0.word),.p (.int .i64 a0.line),.p (.sl (Cw a0.names)),.p (.sl (BY a0.B7))])],80⟩) ((Wk.forget (by simp[ZF,ZE]))) ?_;rintro v10 m13 OW Bao;rw[EG.eq_1] at OW;cases Ks:decide (v10<((a0.names.length:Nat):Int))
         . simp only[Ks,Aj] at OW;simp only[Aa,BZ] at OW;cases OW;(try dsimp only at hr);obtain ⟨e22,g23,hr⟩:=bE hr;(try simp only[go_sem,Ks]);refine CP g23 (λ q:Int=>⟨[(1,.ptr 1 0),(6,.p (.int .i64 q))],[(1,.box [.p (.int .i64 a0.word),.p (.int .i64 a0.line),.p (.sl (Cw a0.names)),.p (.sl (BY a0.B7))])],80⟩) ((Wk.forget (by simp[ZF,ZE]))) ?_;rintro UW m21 Fu Aua;rw[EH.eq_1] at Fu;cases I6:decide (UW<((a0.B7.length:Nat):Int))
           . simp only[I6,Aj] at Fu;simp only[Aa,BZ] at Fu;cases Fu;(try dsimp only at hr);cases hr;(try simp only[go_sem,I6]);all_goals ((try refine BX ?_);(try simp only[go_sem,I6]);try first | rfl | exact ⟨rfl,rfl⟩ | (simp;done))
           simp only[I6,Ak] at Fu;obtain ⟨Ma,g26,Fu⟩:=bK Fu;have f27:=B8 g26;have f28:(BY a0.B7).getD (Int.toNat UW) []=[(.int .i64 Ma)]:=B9 _ g26;cases J5:decide (Ma<(-9999))
           . simp only[J5,Aj] at Fu;cases JN:decide (9999<Ma)
             . simp only[JN,Aj] at Fu;simp only[Aa,B6] at Fu;(try simp only[go_sem,I6,f27,f28,J5,JN]);exact Aua (IntKind.i64.wrap (UW+1)) _ Fu ((Wk.forget (by simp[ZF,ZE])))
             simp only[JN,Ak] at Fu;simp only[Aa,BZ] at Fu;cases Fu;(try dsimp only at hr);cases hr;(try simp only[go_sem,I6,f27,f28,J5,JN]);all_goals ((try refine BX ?_);(try simp only[go_sem,I6,f27,f28,J5,JN]);try first | rfl | exact ⟨rfl,rfl⟩ | (simp;done))
           simp only[J5,Ak] at Fu;simp only[Aa,BZ] at Fu;cases Fu;(try dsimp only at hr);cases hr;(try simp only[go_sem,I6,f27,f28,J5]);all_goals ((try refine BX ?_);(try simp only[go_sem,I6,f27,f28,J5]);try first | rfl | exact ⟨rfl,rfl⟩ | (simp;done))
         simp only[Ks,Ak] at OW;obtain ⟨x33,g34,OW⟩:=bK OW;have f35:=B8 g34;have f36:(Cw a0.names).getD (Int.toNat v10) []=[(.str x33)]:=B9 _ g34;obtain ⟨Ym,g38,OW⟩:=bK OW;(try simp only[go_sem,Ks,f35,f36]);refine Cq (VQ x33 _ g38) ?_;cases k9:Ym
         . simp only[k9,Aj] at OW;simp only[Aa,BZ] at OW;cases OW;(try dsimp only at hr);cases hr;(try simp only[go_sem,k9]);all_goals ((try refine BX ?_);(try simp only[go_sem,k9]);try first | rfl | exact ⟨rfl,rfl⟩ | (simp;done))
         simp only[k9,Ak] at OW;simp only[Aa,B6] at OW;(try simp only[go_sem,k9]);exact Bao (IntKind.i64.wrap (v10+1)) _ OW ((Wk.forget (by simp[ZF,ZE,k9])))
       simp only[c8,Ak] at hr;cases c58:decide (a0.word=2)
       . simp only[c58,Aj] at hr;cases hr;(try simp only[go_sem,c6,c7,c8,c58]);all_goals ((try refine BX ?_);(try simp only[go_sem,c6,c7,c8,c58]);try first | rfl | exact ⟨rfl,rfl⟩ | (simp;done))
       simp only[c58,Ak] at hr;obtain ⟨e64,g65,hr⟩:=bE hr;(try simp only[go_sem,c6,c7,c8,c58]);refine CP g65 (λ q:Int=>⟨[(1,.ptr 1 0),(5,.p (.int .i64 q))],[(1,.box [.p (.int .i64 a0.word),.p (.int .i64 a0.line),.p (.sl (Cw a0.names)),.p (.sl (BY a0.B7))])],80⟩) ((Wk.forget (by simp[ZF,ZE]))) ?_;rintro v60 m63 OT Bag;rw[EG.eq_1] at OT;cases c66:decide (v60<((a0.names.length:Nat):Int))
       . simp only[c66,Aj] at OT;simp only[Aa,BZ] at OT;cases OT;(try dsimp only at hr);obtain ⟨e72,g73,hr⟩:=bE hr;(try simp only[go_sem,c66]);refine CP g73 (λ q:Int=>⟨[(1,.ptr 1 0),(6,.p (.int .i64 q))],[(1,.box [.p (.int .i64 a0.word),.p (.int .i64 a0.line),.p (.sl (Cw a0.names)),.p (.sl (BY a0.B7))])],80⟩) ((Wk.forget (by simp[ZF,ZE]))) ?_;rintro v68 m71 MS Baf;rw[EH.eq_1] at MS;cases c74:decide (v68<((a0.B7.length:Nat):Int))
         . simp only[c74,Aj] at MS;simp only[Aa,BZ] at MS;cases MS;(try dsimp only at hr);cases hr;(try simp only[go_sem,c74]);all_goals ((try refine BX ?_);(try simp only[go_sem,c74]);try first | rfl | exact ⟨rfl,rfl⟩ | (simp;done))
         simp only[c74,Ak] at MS;obtain ⟨x75,g76,MS⟩:=bK MS;have f77:=B8 g76;have f78:(BY a0.B7).getD (Int.toNat v68) []=[(.int .i64 x75)]:=B9 _ g76;cases c79:decide (x75<(-9999))
         . simp only[c79,Aj] at MS;cases Yk:decide (9999<x75)
           . simp only[Yk,Aj] at MS;simp only[Aa,B6] at MS;(try simp only[go_sem,c74,f77,f78,c79,Yk]);exact Baf (IntKind.i64.wrap (v68+1)) _ MS ((Wk.forget (by simp[ZF,ZE])))
           simp only[Yk,Ak] at MS;simp only[Aa,BZ] at MS;cases MS;(try dsimp only at hr);cases hr;(try simp only[go_sem,c74,f77,f78,c79,Yk]);all_goals ((try refine BX ?_);(try simp only[go_sem,c74,f77,f78,c79,Yk]);try first | rfl | exact ⟨rfl,rfl⟩ | (simp;done))
         simp only[c79,Ak] at MS;simp only[Aa,BZ] at MS;cases MS;(try dsimp only at hr);cases hr;(try simp only[go_sem,c74,f77,f78,c79]);all_goals ((try refine BX ?_);(try simp only[go_sem,c74,f77,f78,c79]);try first | rfl | exact ⟨rfl,rfl⟩ | (simp;done))
       simp only[c66,Ak] at OT;obtain ⟨x83,g84,OT⟩:=bK OT;have f85:=B8 g84;have f86:(Cw a0.names).getD (Int.toNat v60) []=[(.str x83)]:=B9 _ g84;obtain ⟨x87,g88,OT⟩:=bK OT;(try simp only[go_sem,c66,f85,f86]);refine Cq (VQ x83 _ g88) ?_;cases c89:x87
       . simp only[c89,Aj] at OT;simp only[Aa,BZ] at OT;cases OT;(try dsimp only at hr);cases hr;(try simp only[go_sem,c89]);all_goals ((try refine BX ?_);(try simp only[go_sem,c89]);try first | rfl | exact ⟨rfl,rfl⟩ | (simp;done))
       simp only[c89,Ak] at OT;simp only[Aa,B6] at OT;(try simp only[go_sem,c89]);exact Bag (IntKind.i64.wrap (v60+1)) _ OT ((Wk.forget (by simp[ZF,ZE,c89])))
     simp only[c7,Ak] at hr;cases hr;(try simp only[go_sem,c6,c7]);all_goals ((try refine BX ?_);(try simp only[go_sem,c6,c7]);try first | rfl | exact ⟨rfl,rfl⟩ | (simp;done))
   simp only[c2,Ak] at hr;cases hr;(try simp only[go_sem,c1,c2]);all_goals ((try refine BX ?_);(try simp only[go_sem,c1,c2]);try first | rfl | exact ⟨rfl,rfl⟩ | (simp;done))
 simp only[c1,Ak] at hr;cases hr;try simp only[go_sem,c1]
 all_goals ((try refine BX ?_);(try simp only[go_sem,c1]);try first | rfl | exact ⟨rfl,rfl⟩ | (simp;done))
def EF(a0:List Eh)(a1:List (List Int))(a2:List C5)(a3:List Int)(a4:Int)(a5:Int)(a6:Int)(a7:Int)(a8:Bool)(a9:Dc):Option (Int×(List Eh)×(List (List Int))×(List C5)×(List Int)×Int×Int×Int×Int×Bool):=
 Option.bind (Ij (⟨a9.word,a9.line,a9.names,a9.B7⟩:Dc)) λ x1=>cond x1 (cond (decide (a9.word=1)) (Option.bind (KD a0 a1 a2 a3 a4 a5 a6 a7 a8 (⟨a9.word,a9.line,a9.names,a9.B7⟩:Dc)) λ (x64,x65,x66,o9,x68,x69,x70,Lk,x72,x73)=>some (x64,x65,x66,o9,x68,x69,x70,Lk,x72,x73)) (cond (decide (a9.word=2)) (Option.bind (Mx a0 a1 a2 a3 a4 a5 a6 a7 a8 (⟨a9.word,a9.line,a9.names,a9.B7⟩:Dc)) λ (x53,x54,x55,x56,x57,x58,x59,x60,x61,x62)=>some (x53,x54,x55,x56,x57,x58,x59,x60,x61,x62)) (cond (decide (a9.word=3)) (Option.bind (KB a0 a1 a2 a3 a4 a5 a6 a7 a8 (⟨a9.word,a9.line,a9.names,a9.B7⟩:Dc)) λ (x42,x43,x44,x45,x46,x47,x48,x49,s7,x51)=>some (x42,x43,x44,x45,x46,x47,x48,x49,s7,x51)) (cond (decide (a9.word=4)) (Option.bind (KB a0 a1 a2 a3 a4 a5 a6 a7 a8 (⟨a9.word,a9.line,a9.names,a9.B7⟩:Dc)) λ (x31,x32,x33,RH,Yn,x36,Ym,x38,x39,x40)=>some (x31,x32,x33,RH,Yn,x36,Ym,x38,x39,x40)) (cond (decide (a9.word=5)) (Option.bind (KC a0 a1 a2 a3 a4 a5 a6 a7 a8 (⟨a9.word,a9.line,a9.names,a9.B7⟩:Dc)) λ (X9,RI,x22,x23,x24,Ma,Ku,VB,x28,x29)=>some (X9,RI,x22,x23,x24,Ma,Ku,VB,x28,x29)) (Option.bind (Jw a0 a1 a2 a3 a4 a5 a6 a7 a8 (⟨a9.word,a9.line,a9.names,a9.B7⟩:Dc)) λ (x9,Nn,D1,s8,Mc,NW,x15,Ov,UU,Pg)=>some (x9,Nn,D1,s8,Mc,NW,x15,Ov,UU,Pg))))))) (some (20,a0,a1,a2,a3,a4,a5,a6,a7,a8))
theorem NZ(a0:List Eh)(a1:List (List Int))(a2:List C5)(a3:List Int)(a4:Int)(a5:Int)(a6:Int)(a7:Int)(a8:Bool)(a9:Dc)(r:Int×(List Eh)×(List (List Int))×(List C5)×(List Int)×Int×Int×Int×Int×Bool)(hr:EF a0 a1 a2 a3 a4 a5 a6 a7 a8 a9=some r):
   B1 prog 37 [.ptr 1000000 0,.agg [.p (.int .i64 a9.word),.p (.int .i64 a9.line),.p (.sl (Cw a9.names)),.p (.sl (BY a9.B7))]] [(1000000,.box [.ref 1000001 0 a0.length a0.length,.ref 1000002 0 a1.length a1.length,.ref 1000003 0 a2.length a2.length,.ref 1000004 0 a3.length a3.length,.p (.int .i64 a4),.p (.int .i64 a5),.p (.int .i64 a6),.p (.int .i64 a7),.p (.bool a8)]),(1000001,.arr 76 3 (CV a0)),(1000002,.arr 22 1 (Cj a1)),(1000003,.arr 68 6 (CQ a2)),(1000004,.arr 3 1 (BY a3))] λ h d=>h=[(1000000,.box [.ref 1000001 0 r.2.1.length r.2.1.length,.ref 1000002 0 r.2.2.1.length r.2.2.1.length,.ref 1000003 0 r.2.2.2.1.length r.2.2.2.1.length,.ref 1000004 0 r.2.2.2.2.1.length r.2.2.2.2.1.length,.p (.int .i64 r.2.2.2.2.2.1),.p (.int .i64 r.2.2.2.2.2.2.1),.p (.int .i64 r.2.2.2.2.2.2.2.1),.p (.int .i64 r.2.2.2.2.2.2.2.2.1),.p (.bool r.2.2.2.2.2.2.2.2.2)]),(1000001,.arr 76 3 (CV r.2.1)),(1000002,.arr 22 1 (Cj r.2.2.1)),(1000003,.arr 68 6 (CQ r.2.2.2.1)),(1000004,.arr 3 1 (BY r.2.2.2.2.1))]/\d= .p (.int .i64 r.1):=by
 refine B0 func37 rfl An1 (by simp[Tryz.f37]) ?_;unfold EF at hr;obtain ⟨x1,g2,hr⟩:=bE hr;try simp only[go_sem]
 refine Cq (Va (⟨a9.word,a9.line,a9.names,a9.B7⟩:Dc) _ g2) ?_;cases c3:x1
 . simp only[c3,Aj] at hr;cases hr;(try simp only[go_sem,c3]);all_goals ((try refine Cm ?_);(try simp only[go_sem,c3]);try first | rfl | exact ⟨rfl,rfl⟩ | (simp;done))
 simp only[c3,Ak] at hr;cases c4:decide (a9.word=1)
 . simp only[c4,Aj] at hr;cases c5:decide (a9.word=2)
   . simp only[c5,Aj] at hr;cases c6:decide (a9.word=3)
     . simp only[c6,Aj] at hr;cases c7:decide (a9.word=4)
       . simp only[c7,Aj] at hr;cases c8:decide (a9.word=5)
         . simp only[c8,Aj] at hr;obtain ⟨⟨x9,Nn,D1,s8,Mc,NW,x15,Ov,UU,Pg⟩,g19,hr⟩:=bE hr;(try simp only[go_sem,c3,c4,c5,c6,c7,c8]);refine Cq (Xd a0 a1 a2 a3 a4 a5 a6 a7 a8 (⟨a9.word,a9.line,a9.names,a9.B7⟩:Dc) _ g19) ?_;cases hr;(try simp only[go_sem]);all_goals ((try refine Cm ?_);(try simp only[go_sem]);try first | rfl | exact ⟨rfl,rfl⟩ | (simp;done))
         simp only[c8,Ak] at hr;obtain ⟨⟨X9,RI,x22,x23,x24,Ma,Ku,VB,x28,x29⟩,g30,hr⟩:=bE hr;(try simp only[go_sem,c3,c4,c5,c6,c7,c8]);refine Cq (YS a0 a1 a2 a3 a4 a5 a6 a7 a8 (⟨a9.word,a9.line,a9.names,a9.B7⟩:Dc) _ g30) ?_;cases hr;(try simp only[go_sem]);all_goals ((try refine Cm ?_);(try simp only[go_sem]);try first | rfl | exact ⟨rfl,rfl⟩ | (simp;done))
       simp only[c7,Ak] at hr;obtain ⟨⟨x31,x32,x33,RH,Yn,x36,Ym,x38,x39,x40⟩,g41,hr⟩:=bE hr;(try simp only[go_sem,c3,c4,c5,c6,c7]);refine Cq (Tn a0 a1 a2 a3 a4 a5 a6 a7 a8 (⟨a9.word,a9.line,a9.names,a9.B7⟩:Dc) _ g41) ?_;cases hr;(try simp only[go_sem]);all_goals ((try refine Cm ?_);(try simp only[go_sem]);try first | rfl | exact ⟨rfl,rfl⟩ | (simp;done))
     simp only[c6,Ak] at hr;obtain ⟨⟨x42,x43,x44,x45,x46,x47,x48,x49,s7,x51⟩,g52,hr⟩:=bE hr;(try simp only[go_sem,c3,c4,c5,c6]);refine Cq (Tn a0 a1 a2 a3 a4 a5 a6 a7 a8 (⟨a9.word,a9.line,a9.names,a9.B7⟩:Dc) _ g52) ?_;cases hr;(try simp only[go_sem]);all_goals ((try refine Cm ?_);(try simp only[go_sem]);try first | rfl | exact ⟨rfl,rfl⟩ | (simp;done))
   simp only[c5,Ak] at hr;obtain ⟨⟨x53,x54,x55,x56,x57,x58,x59,x60,x61,x62⟩,g63,hr⟩:=bE hr;(try simp only[go_sem,c3,c4,c5]);refine Cq (Aa6 a0 a1 a2 a3 a4 a5 a6 a7 a8 (⟨a9.word,a9.line,a9.names,a9.B7⟩:Dc) _ g63) ?_;cases hr;(try simp only[go_sem]);all_goals ((try refine Cm ?_);(try simp only[go_sem]);try first | rfl | exact ⟨rfl,rfl⟩ | (simp;done))
 simp only[c4,Ak] at hr;obtain ⟨⟨x64,x65,x66,o9,x68,x69,x70,Lk,x72,x73⟩,g74,hr⟩:=bE hr;try simp only[go_sem,c3,c4]
 refine Cq (YT a0 a1 a2 a3 a4 a5 a6 a7 a8 (⟨a9.word,a9.line,a9.names,a9.B7⟩:Dc) _ g74) ?_;cases hr;try simp only[go_sem]
 all_goals ((try refine Cm ?_);(try simp only[go_sem]);try first | rfl | exact ⟨rfl,rfl⟩ | (simp;done))
def Je(v32:List C5):(List Int)×Int->Option (((List Int)×Int)⊕(((List Int)×Int)))
 | (v45,v46)=>cond (decide (v46<((v45.length:Nat):Int))) (Option.bind (CL v45 v46) λ x53=>Option.bind (CL v32 (IntKind.i64.wrap (Int.tdiv x53 8))) λ x57=>some (Sum.inl ((v45.set (Int.toNat v46) (IntKind.i64.wrap ((IntKind.i64.wrap (x57.base+(Int.tmod x53 8))) - 1))),(IntKind.i64.wrap (v46+1))))) (some (Sum.inr (v45,v46)))
def Jd:(List C5)×Int×Int×Int->Option (((List C5)×Int×Int×Int)⊕(((List C5)×Int×Int×Int)))
 | (v32,v33,v34,v35)=>cond (decide (v33<((v32.length:Nat):Int))) (Option.bind (CL v32 v33) λ JQ=>Option.bind (CL (v32.set (Int.toNat v33) (⟨JQ.name,JQ.Cz,JQ.HA,JQ.out,JQ.Cs,v35⟩:C5)) v33) λ o9=>cond o9.Cz (some (Sum.inl ((v32.set (Int.toNat v33) (⟨JQ.name,JQ.Cz,JQ.HA,JQ.out,JQ.Cs,v35⟩:C5)),(IntKind.i64.wrap (v33+1)),(IntKind.i64.wrap (v34+1)),(IntKind.i64.wrap (v35+o9.Cs))))) (some (Sum.inl ((v32.set (Int.toNat v33) (⟨JQ.name,JQ.Cz,JQ.HA,JQ.out,JQ.Cs,v35⟩:C5)),(IntKind.i64.wrap (v33+1)),v34,(IntKind.i64.wrap (v35+o9.Cs)))))) (some (Sum.inr (v32,v33,v34,v35)))
def KE(a0:List Dc):(List Eh)×(List (List Int))×(List C5)×(List Int)×Int×Int×Int×Int×Bool×Int->Option (((List Eh)×(List (List Int))×(List C5)×(List Int)×Int×Int×Int×Int×Bool×Int)⊕(((List Eh)×(List (List Int))×(List C5)×(List Int)×Int×Int×Int×Int×Bool×Int)⊕(Nt×Int×Int)))
 | (v11,v12,OA,Oz,RL,Mn,v17,UW,S3,v20)=>cond (decide (v20<((a0.length:Nat):Int))) (Option.bind (CL a0 v20) λ x97=>Option.bind (EF v11 v12 OA Oz RL Mn v17 UW S3 (⟨x97.word,x97.line,x97.names,x97.B7⟩:Dc)) λ (Apg,Ata,At9,Ad7,At8,At7,At6,Aij,At5,At4)=>cond (decide (Apg=0)) (some (Sum.inl (Ata,At9,Ad7,At8,At7,At6,Aij,At5,At4,(IntKind.i64.wrap (v20+1))))) (some (Sum.inr (.inr ((((⟨[],[],[],[],0,0,0,0⟩:Nt),x97.line,Apg):Nt×Int×Int)))))) (some (Sum.inr (.inl (v11,v12,OA,Oz,RL,Mn,v17,UW,S3,v20))))
def Px(a0:List Dc):Option (Nt×Int×Int):=
 Option.bind (CA (KE a0) ([],[],[],[],4,2,1,8,false,0)) (λ | .inl (Air,Azf,Awe,Atj,v117,Aze,Azd,Azc,v121,v122)=>cond (decide (((Air.length:Nat):Int)=0)) (some ((⟨[],[],[],[],0,0,0,0⟩:Nt),0,15)) (Option.bind (CA Jd (Awe,0,0,((Air.length:Nat):Int))) (λ (v168,v169,Az9,v171)=>cond (decide (Az9=0)) (some ((⟨[],[],[],[],0,0,0,0⟩:Nt),0,16)) (Option.bind (CA (Je v168) (Atj,0)) (λ (Az8,v192)=>some ((⟨Air,Azf,v168,Az8,v117,Aze,Azd,Azc⟩:Nt),0,0))))) | .inr (Ba6)=>some Ba6)
theorem Aa7(a0:List Dc)(r:Nt×Int×Int)(hr:Px a0=some r):
   B1 prog 16 [.p (.sl (DM a0))] [] λ h d=>h=[]/\d= .Dr [.agg [.p (.sl (CV r.1.blocks)),.p (.sl (Cj r.1.next)),.p (.sl (CQ r.1.spurs)),.p (.sl (BY r.1.B5)),.p (.int .i64 r.1.cq),.p (.int .i64 r.1.ca),.p (.int .i64 r.1.cd),.p (.int .i64 r.1.cp)],.p (.int .i64 r.2.1),.p (.int .i64 r.2.2)]:=by
 refine B0 func16 rfl Ank (by simp[Tryz.f16]) ?_;unfold Px at hr;obtain ⟨e24,g25,hr⟩:=bE hr;try simp only[go_sem]
 refine CP g25 (λ q:(List Eh)×(List (List Int))×(List C5)×(List Int)×Int×Int×Int×Int×Bool×Int=>⟨[(0,.p (.sl (DM a0))),(2,.ptr 2 0),(5,.ptr 16 0),(6,.p (.int .i64 q.2.2.2.2.2.2.2.2.2))],[(2,.box [.cl [],.cl [],.cl [],.cl [],.p (.int .i64 0),.p (.int .i64 0),.p (.int .i64 0),.p (.int .i64 0)]),(16,.box [.ref 516000 0 q.1.length q.1.length,.ref 516001 0 q.2.1.length q.2.1.length,.ref 516002 0 q.2.2.1.length q.2.2.1.length,.ref 516003 0 q.2.2.2.1.length q.2.2.2.1.length,.p (.int .i64 q.2.2.2.2.1),.p (.int .i64 q.2.2.2.2.2.1),.p (.int .i64 q.2.2.2.2.2.2.1),.p (.int .i64 q.2.2.2.2.2.2.2.1),.p (.bool q.2.2.2.2.2.2.2.2.1)]),(516000,.arr 76 3 (CV q.1)),(516001,.arr 22 1 (Cj q.2.1)),(516002,.arr 68 6 (CQ q.2.2.1)),(516003,.arr 3 1 (BY q.2.2.2.1))],139⟩) ((Wk.Fq (id:=16) (j:=0) (q:=516000) (sz:=3) 76 rfl rfl rfl (by decide)).trans ((Wk.Fq (id:=16) (j:=1) (q:=516001) (sz:=1) 22 rfl rfl rfl (by decide)).trans ((Wk.Fq (id:=16) (j:=2) (q:=516002) (sz:=6) 68 rfl rfl rfl (by decide)).trans ((Wk.Fq (id:=16) (j:=3) (q:=516003) (sz:=1) 3 rfl rfl rfl (by decide)).trans ((Wk.forget (by simp[ZF,ZE]))))))) ?_;rintro ⟨v11,v12,OA,Oz,RL,Mn,v17,UW,S3,v20⟩ m23 GA Aqn;rw[KE.eq_1] at GA;cases c26:decide (v20<((a0.length:Nat):Int))
 . simp only[c26,Aj] at GA;simp only[Aa,BZ] at GA;cases GA;(try dsimp only at hr);cases Yl:decide (((v11.length:Nat):Int)=0)
   . simp only[Yl,Aj] at hr;(try simp only[go_sem,c26,Yl]);refine CH mixed (p:=[(0,0),(1,0),(2,0),(3,0),(4,0),(5,0),(6,0),(7,0)]) (by kernel_rfl) (by simp[C3,get]) ?_;obtain ⟨e39,g40,hr⟩:=bE hr;(try simp only[go_sem]);refine CP g40 (λ q:(List C5)×Int×Int×Int=>⟨[(2,.ptr 2 0),(5,.ptr 16 0),(8,.p (.int .i64 q.2.2.1)),(9,.p (.int .i64 q.2.2.2)),(10,.p (.int .i64 q.2.1))],[(2,.box [.cl [],.cl [],.cl [],.cl [],.p (.int .i64 0),.p (.int .i64 0),.p (.int .i64 0),.p (.int .i64 0)]),(16,.box [.ref 516000 0 v11.length v11.length,.ref 516001 0 v12.length v12.length,.ref 516002 0 q.1.length q.1.length,.ref 516003 0 Oz.length Oz.length,.p (.int .i64 RL),.p (.int .i64 Mn),.p (.int .i64 v17),.p (.int .i64 UW),.p (.bool S3)]),(516000,.arr 76 3 (CV v11)),(516001,.arr 22 1 (Cj v12)),(516002,.arr 68 6 (CQ q.1)),(516003,.arr 3 1 (BY Oz))],139⟩) ((Wk.forget (by simp[ZF,ZE]))) ?_;rintro ⟨v32,v33,v34,v35⟩ m38 OU Awv;rw[Jd.eq_1] at OU;cases c41:decide (v33<((v32.length:Nat):Int))
     . simp only[c41,Aj] at OU;simp only[Aa,BZ] at OU;cases OU;(try dsimp only at hr);cases c42:decide (v34=0)
       . simp only[c42,Aj] at hr;obtain ⟨e50,g51,hr⟩:=bE hr;(try simp only[go_sem,c41,c42]);refine CP g51 (λ q:(List Int)×Int=>⟨[(2,.ptr 2 0),(5,.ptr 16 0),(11,.p (.int .i64 q.2))],[(2,.box [.cl [],.cl [],.cl [],.cl [],.p (.int .i64 0),.p (.int .i64 0),.p (.int .i64 0),.p (.int .i64 0)]),(16,.box [.ref 516000 0 v11.length v11.length,.ref 516001 0 v12.length v12.length,.ref 516002 0 v32.length v32.length,.ref 516003 0 q.1.length q.1.length,.p (.int .i64 RL),.p (.int .i64 Mn),.p (.int .i64 v17),.p (.int .i64 UW),.p (.bool S3)]),(516000,.arr 76 3 (CV v11)),(516001,.arr 22 1 (Cj v12)),(516002,.arr 68 6 (CQ v32)),(516003,.arr 3 1 (BY q.1))],139⟩) ((Wk.forget (by simp[ZF,ZE]))) ?_;rintro ⟨v45,v46⟩ m49 T4 Bah;rw[Je.eq_1] at T4;cases c52:decide (v46<((v45.length:Nat):Int))
         . simp only[c52,Aj] at T4;simp only[Aa,BZ] at T4;cases T4;(try dsimp only at hr);cases hr;(try simp only[go_sem,c52]);all_goals ((try refine BX ?_);(try simp only[go_sem,c52]);try first | rfl | exact ⟨rfl,rfl⟩ | (simp;done))
         simp only[c52,Ak] at T4;obtain ⟨x53,g54,T4⟩:=bK T4;have f55:=B8 g54;have f56:(BY v45).getD (Int.toNat v46) []=[(.int .i64 x53)]:=B9 _ g54;(try simp only[go_sem,c52,f55,f56]);refine CH mixed (p:=[(0,0),(1,0),(2,0),(3,0),(4,0),(5,0),(6,0),(7,0),(8,0),(9,0),(10,0),(11,0),(12,0),(13,0),(14,0),(15,0),(16,0),(17,0),(18,0),(19,0),(20,0),(21,3)]) (by kernel_rfl) (by simp[C3,get]) ?_;obtain ⟨x57,g58,T4⟩:=bK T4;have f59:=B8 g58;have f60:(CQ v32).getD (Int.toNat (IntKind.i64.wrap (Int.tdiv x53 8))) []=[(.str x57.name),(.bool x57.Cz),(.int .i64 x57.HA),(.int .i64 x57.out),(.int .i64 x57.Cs),(.int .i64 x57.base)]:=B9 _ g58;simp only[Aa,B6] at T4;(try simp only[go_sem,f59,f60,f55,f56]);exact Bah ((v45.set (Int.toNat v46) (IntKind.i64.wrap ((IntKind.i64.wrap (x57.base+(Int.tmod x53 8))) - 1))),(IntKind.i64.wrap (v46+1))) _ T4 ((Wk.forget (by simp[ZF,ZE])))
       simp only[c42,Ak] at hr;cases hr;(try simp only[go_sem,c41,c42]);all_goals ((try refine BX ?_);(try simp only[go_sem,c41,c42]);try first | rfl | exact ⟨rfl,rfl⟩ | (simp;done))
     simp only[c41,Ak] at OU;obtain ⟨JQ,g64,OU⟩:=bK OU;have f65:=B8 g64;have f66:(CQ v32).getD (Int.toNat v33) []=[(.str JQ.name),(.bool JQ.Cz),(.int .i64 JQ.HA),(.int .i64 JQ.out),(.int .i64 JQ.Cs),(.int .i64 JQ.base)]:=B9 _ g64;obtain ⟨o9,g68,OU⟩:=bK OU;have f69:=B8 g68;have f70:(CQ (v32.set (Int.toNat v33) (⟨JQ.name,JQ.Cz,JQ.HA,JQ.out,JQ.Cs,v35⟩:C5))).getD (Int.toNat v33) []=[(.str o9.name),(.bool o9.Cz),(.int .i64 o9.HA),(.int .i64 o9.out),(.int .i64 o9.Cs),(.int .i64 o9.base)]:=B9 _ g68;cases c71:o9.Cz
     . simp only[c71,Aj] at OU;simp only[Aa,B6] at OU;(try simp only[go_sem,c41,f65,f66,f69,f70,c71]);exact Awv ((v32.set (Int.toNat v33) (⟨JQ.name,JQ.Cz,JQ.HA,JQ.out,JQ.Cs,v35⟩:C5)),(IntKind.i64.wrap (v33+1)),v34,(IntKind.i64.wrap (v35+o9.Cs))) _ OU ((Wk.forget (by simp[ZF,ZE,c71])))
     simp only[c71,Ak] at OU;simp only[Aa,B6] at OU;(try simp only[go_sem,c41,f65,f66,f69,f70,c71]);exact Awv ((v32.set (Int.toNat v33) (⟨JQ.name,JQ.Cz,JQ.HA,JQ.out,JQ.Cs,v35⟩:C5)),(IntKind.i64.wrap (v33+1)),(IntKind.i64.wrap (v34+1)),(IntKind.i64.wrap (v35+o9.Cs))) _ OU ((Wk.forget (by simp[ZF,ZE,c71])))
   simp only[Yl,Ak] at hr;cases hr;(try simp only[go_sem,c26,Yl]);all_goals ((try refine BX ?_);(try simp only[go_sem,c26,Yl]);try first | rfl | exact ⟨rfl,rfl⟩ | (simp;done))
 simp only[c26,Ak] at GA;obtain ⟨x97,g98,GA⟩:=bK GA;have f99:=B8 g98;have f100:(DM a0).getD (Int.toNat v20) []=[(.int .i64 x97.word),(.int .i64 x97.line),(.sl (Cw x97.names)),(.sl (BY x97.B7))]:=B9 _ g98;obtain ⟨⟨Apg,Ata,At9,Ad7,At8,At7,At6,Aij,At5,At4⟩,Bc5,GA⟩:=bK GA;try simp only[go_sem,c26,f99,f100]
 refine Cq (NZ v11 v12 OA Oz RL Mn v17 UW S3 (⟨x97.word,x97.line,x97.names,x97.B7⟩:Dc) _ Bc5) ?_;cases Ahz:decide (Apg=0)
 . simp only[Ahz,Aj] at GA;(try simp only[go_sem,Ahz]);refine Di [] mixed (p:=[(0,0),(1,0),(2,0),(3,0),(4,0),(5,0),(6,0),(7,2),(8,0),(9,0)]) (by kernel_rfl) (by simp[C3,get]) ?_;simp only[Aa,BZ] at GA;cases GA;(try dsimp only at hr);cases hr;(try simp only[go_sem,f99,f100]);all_goals ((try refine BX ?_);(try simp only[go_sem,f99,f100]);try first | rfl | exact ⟨rfl,rfl⟩ | (simp;done))
 simp only[Ahz,Ak] at GA;simp only[Aa,B6] at GA;try simp only[go_sem,Ahz]
 exact Aqn (Ata,At9,Ad7,At8,At7,At6,Aij,At5,At4,(IntKind.i64.wrap (v20+1))) _ GA ((Wk.forget (by simp[ZF,ZE])))
def F6(a0:List Int)(a1:List Int):Int->Option ((Int)⊕(Int⊕Bool))
 | v3=>cond (decide (v3<((a0.length:Nat):Int))) (Option.bind (CL a0 v3) λ Nn=>Option.bind (CL a1 v3) λ NW=>cond (decide (Nn=NW)) (some (Sum.inl (IntKind.i64.wrap (v3+1)))) (some (Sum.inr (.inr ((false:Bool)))))) (some (Sum.inr (.inl v3)))
def FJ(a0:List Int)(a1:List Int):Option (Bool):=
 cond (decide (((a0.length:Nat):Int)=((a1.length:Nat):Int))) (Option.bind (CA (F6 a0 a1) 0) (λ | .inl S3=>some true | .inr (r20)=>some r20)) (some false)
theorem L2(a0:List Int)(a1:List Int)(r:Bool)(hr:FJ a0 a1=some r):
   B1 prog 26 [.p (.sl (BY a0)),.p (.sl (BY a1))] [] λ h d=>h=[]/\d= .p (.bool r):=by
 refine B0 func26 rfl Ana (by simp[Tryz.f26]) ?_;unfold FJ at hr;cases c1:decide (((a0.length:Nat):Int)=((a1.length:Nat):Int))
 . simp only[c1,Aj] at hr;cases hr;(try simp only[go_sem,c1]);all_goals ((try refine BX ?_);(try simp only[go_sem,c1]);try first | rfl | exact ⟨rfl,rfl⟩ | (simp;done))
 simp only[c1,Ak] at hr;obtain ⟨e7,g8,hr⟩:=bE hr;try simp only[go_sem,c1]
 refine CP g8 (λ q:Int=>⟨[(0,.p (.sl (BY a0))),(1,.p (.sl (BY a1))),(5,.p (.int .i64 q))],[],26⟩) ((Wk.forget (by simp[ZF,ZE]))) ?_;rintro v3 m6 D2 Vh;rw[F6.eq_1] at D2;cases c9:decide (v3<((a0.length:Nat):Int))
 . simp only[c9,Aj] at D2;simp only[Aa,BZ] at D2;cases D2;(try dsimp only at hr);cases hr;(try simp only[go_sem,c9]);all_goals ((try refine BX ?_);(try simp only[go_sem,c9]);try first | rfl | exact ⟨rfl,rfl⟩ | (simp;done))
 simp only[c9,Ak] at D2;try simp only[go_sem,c9]
 refine CH mixed (p:=[(0,0),(1,0),(2,0),(3,0),(4,0),(5,0),(6,0),(7,0),(8,0)]) (by kernel_rfl) (by simp[C3,get]) ?_;obtain ⟨Nn,g11,D2⟩:=bK D2;have f12:=B8 g11;have f13:(BY a0).getD (Int.toNat v3) []=[(.int .i64 Nn)]:=B9 _ g11;obtain ⟨NW,g15,D2⟩:=bK D2;have f16:=B8 g15;have f17:(BY a1).getD (Int.toNat v3) []=[(.int .i64 NW)]:=B9 _ g15;cases JW:decide (Nn=NW)
 . simp only[JW,Aj] at D2;simp only[Aa,BZ] at D2;cases D2;(try dsimp only at hr);cases hr;(try simp only[go_sem,f12,f13,f16,f17,JW]);all_goals ((try refine BX ?_);(try simp only[go_sem,f12,f13,f16,f17,JW]);try first | rfl | exact ⟨rfl,rfl⟩ | (simp;done))
 simp only[JW,Ak] at D2;simp only[Aa,B6] at D2;try simp only[go_sem,f12,f13,f16,f17,JW]
 exact Vh (IntKind.i64.wrap (v3+1)) _ D2 ((Wk.forget (by simp[ZF,ZE])))
def FD(a0:List (List Int))(a1:List (List Int)):Int->Option ((Int)⊕(Int⊕Bool))
 | v3=>cond (decide (v3<((a0.length:Nat):Int))) (Option.bind (CL a0 v3) λ Nn=>Option.bind (CL a1 v3) λ NW=>Option.bind (FJ Nn NW) λ Pg=>cond Pg (some (Sum.inl (IntKind.i64.wrap (v3+1)))) (some (Sum.inr (.inr ((false:Bool)))))) (some (Sum.inr (.inl v3)))
def F5(a0:List (List Int))(a1:List (List Int)):Option (Bool):=
 cond (decide (((a0.length:Nat):Int)=((a1.length:Nat):Int))) (Option.bind (CA (FD a0 a1) 0) (λ | .inl v21=>some true | .inr (r22)=>some r22)) (some false)
theorem Q6(a0:List (List Int))(a1:List (List Int))(r:Bool)(hr:F5 a0 a1=some r):
   B1 prog 34 [.p (.sl (Cj a0)),.p (.sl (Cj a1))] [] λ h d=>h=[]/\d= .p (.bool r):=by
 refine B0 func34 rfl An4 (by simp[Tryz.f34]) ?_;unfold F5 at hr;cases c1:decide (((a0.length:Nat):Int)=((a1.length:Nat):Int))
 . simp only[c1,Aj] at hr;cases hr;(try simp only[go_sem,c1]);all_goals ((try refine BX ?_);(try simp only[go_sem,c1]);try first | rfl | exact ⟨rfl,rfl⟩ | (simp;done))
 simp only[c1,Ak] at hr;obtain ⟨e7,g8,hr⟩:=bE hr;try simp only[go_sem,c1]
 refine CP g8 (λ q:Int=>⟨[(0,.p (.sl (Cj a0))),(1,.p (.sl (Cj a1))),(5,.p (.int .i64 q))],[],27⟩) ((Wk.forget (by simp[ZF,ZE]))) ?_;rintro v3 m6 D2 Vh;rw[FD.eq_1] at D2;cases c9:decide (v3<((a0.length:Nat):Int))
 . simp only[c9,Aj] at D2;simp only[Aa,BZ] at D2;cases D2;(try dsimp only at hr);cases hr;(try simp only[go_sem,c9]);all_goals ((try refine BX ?_);(try simp only[go_sem,c9]);try first | rfl | exact ⟨rfl,rfl⟩ | (simp;done))
 simp only[c9,Ak] at D2;try simp only[go_sem,c9]
 refine CH mixed (p:=[(0,0),(1,0),(2,0),(3,0),(4,0),(5,0),(6,0),(7,0),(8,2),(9,0)]) (by kernel_rfl) (by simp[C3,get]) ?_;obtain ⟨Nn,g11,D2⟩:=bK D2;have f12:=B8 g11;have f13:(Cj a0).getD (Int.toNat v3) []=[(.sl (BY Nn))]:=B9 _ g11;obtain ⟨NW,g15,D2⟩:=bK D2;have f16:=B8 g15;have f17:(Cj a1).getD (Int.toNat v3) []=[(.sl (BY NW))]:=B9 _ g15;obtain ⟨Pg,g19,D2⟩:=bK D2;try simp only[go_sem,f12,f13,f16,f17]
 refine Gq (L2 Nn NW _ g19) ?_;cases Qu:Pg
 . simp only[Qu,Aj] at D2;simp only[Aa,BZ] at D2;cases D2;(try dsimp only at hr);cases hr;(try simp only[go_sem,Qu]);all_goals ((try refine BX ?_);(try simp only[go_sem,Qu]);try first | rfl | exact ⟨rfl,rfl⟩ | (simp;done))
 simp only[Qu,Ak] at D2;simp only[Aa,B6] at D2;try simp only[go_sem,Qu]
 exact Vh (IntKind.i64.wrap (v3+1)) _ D2 ((Wk.forget (by simp[ZF,ZE,Qu])))
def Jr(a0:Nt)(a1:Nt):Int->Option ((Int)⊕(Int⊕Bool))
 | S3=>cond (decide (S3<((a0.spurs.length:Nat):Int))) (Option.bind (CL a0.spurs S3) λ Ku=>Option.bind (CL a1.spurs S3) λ SW=>cond (decide (Ku.name=SW.name)&&((Ku.Cz==SW.Cz)&&(decide (Ku.HA=SW.HA)&&(decide (Ku.out=SW.out)&&(decide (Ku.Cs=SW.Cs)&&decide (Ku.base=SW.base)))))) (some (Sum.inl (IntKind.i64.wrap (S3+1)))) (some (Sum.inr (.inr ((false:Bool)))))) (some (Sum.inr (.inl S3)))
def Jq(a0:Nt)(a1:Nt):Int->Option ((Int)⊕(Int⊕Bool))
 | v11=>cond (decide (v11<((a0.blocks.length:Nat):Int))) (Option.bind (CL a0.blocks v11) λ Ym=>Option.bind (CL a1.blocks v11) λ x41=>cond (decide (Ym.name=x41.name)&&(decide (Ym.x=x41.x)&&decide (Ym.y=x41.y))) (some (Sum.inl (IntKind.i64.wrap (v11+1)))) (some (Sum.inr (.inr ((false:Bool)))))) (some (Sum.inr (.inl v11)))
def Kx(a0:Nt)(a1:Nt):Option (Bool):=
 cond (decide (((a0.blocks.length:Nat):Int)=((a1.blocks.length:Nat):Int))) (Option.bind (F5 a0.next a1.next) λ x2=>cond x2 (cond (decide (((a0.spurs.length:Nat):Int)=((a1.spurs.length:Nat):Int))) (Option.bind (FJ a0.B5 a1.B5) λ x6=>cond x6 (cond (decide (a0.cq=a1.cq)&&(decide (a0.ca=a1.ca)&&(decide (a0.cd=a1.cd)&&decide (a0.cp=a1.cp)))) (Option.bind (CA (Jq a0 a1) 0) (λ | .inl v46=>Option.bind (CA (Jr a0 a1) 0) (λ | .inl v64=>some true | .inr (r65)=>some r65) | .inr (r66)=>some r66)) (some false)) (some false)) (some false)) (some false)) (some false)
theorem YM(a0:Nt)(a1:Nt)(r:Bool)(hr:Kx a0 a1=some r):
   B1 prog 12 [.agg [.p (.sl (CV a0.blocks)),.p (.sl (Cj a0.next)),.p (.sl (CQ a0.spurs)),.p (.sl (BY a0.B5)),.p (.int .i64 a0.cq),.p (.int .i64 a0.ca),.p (.int .i64 a0.cd),.p (.int .i64 a0.cp)],.agg [.p (.sl (CV a1.blocks)),.p (.sl (Cj a1.next)),.p (.sl (CQ a1.spurs)),.p (.sl (BY a1.B5)),.p (.int .i64 a1.cq),.p (.int .i64 a1.ca),.p (.int .i64 a1.cd),.p (.int .i64 a1.cp)]] [] λ h d=>h=[]/\d= .p (.bool r):=by
 refine B0 func12 rfl Ann (by simp[Tryz.f12]) ?_;unfold Kx at hr;cases c1:decide (((a0.blocks.length:Nat):Int)=((a1.blocks.length:Nat):Int))
 . simp only[c1,Aj] at hr;cases hr;(try simp only[go_sem,c1]);all_goals ((try refine BX ?_);(try simp only[go_sem,c1]);try first | rfl | exact ⟨rfl,rfl⟩ | (simp;done))
 simp only[c1,Ak] at hr;obtain ⟨x2,g3,hr⟩:=bE hr;try simp only[go_sem,c1]
 refine Cq (Q6 a0.next a1.next _ g3) ?_;cases c4:x2
 . simp only[c4,Aj] at hr;cases hr;(try simp only[go_sem,c1,c4]);all_goals ((try refine BX ?_);(try simp only[go_sem,c1,c4]);try first | rfl | exact ⟨rfl,rfl⟩ | (simp;done))
 simp only[c4,Ak] at hr;cases c5:decide (((a0.spurs.length:Nat):Int)=((a1.spurs.length:Nat):Int))
 . simp only[c5,Aj] at hr;cases hr;(try simp only[go_sem,c1,c4,c5]);all_goals ((try refine BX ?_);(try simp only[go_sem,c1,c4,c5]);try first | rfl | exact ⟨rfl,rfl⟩ | (simp;done))
 simp only[c5,Ak] at hr;obtain ⟨x6,g7,hr⟩:=bE hr;try simp only[go_sem,c1,c4,c5]
 refine Cq (L2 a0.B5 a1.B5 _ g7) ?_;cases c8:x6
 . simp only[c8,Aj] at hr;cases hr;(try simp only[go_sem,c5,c8]);all_goals ((try refine BX ?_);(try simp only[go_sem,c5,c8]);try first | rfl | exact ⟨rfl,rfl⟩ | (simp;done))
 simp only[c8,Ak] at hr;cases c9:decide (a0.cq=a1.cq)&&(decide (a0.ca=a1.ca)&&(decide (a0.cd=a1.cd)&&decide (a0.cp=a1.cp)))
 . simp only[c9,Aj] at hr;cases hr;(try simp only[go_sem,c5,c8,c9]);all_goals ((try refine BX ?_);(try simp only[go_sem,c5,c8,c9]);try first | rfl | exact ⟨rfl,rfl⟩ | (simp;done))
 simp only[c9,Ak] at hr;obtain ⟨e15,g16,hr⟩:=bE hr;try simp only[go_sem,c5,c8,c9]
 refine CP g16 (λ q:Int=>⟨[(2,.ptr 2 0),(3,.ptr 3 0),(5,.p (.int .i64 q))],[(2,.box [.p (.sl (CV a0.blocks)),.p (.sl (Cj a0.next)),.p (.sl (CQ a0.spurs)),.p (.sl (BY a0.B5)),.p (.int .i64 a0.cq),.p (.int .i64 a0.ca),.p (.int .i64 a0.cd),.p (.int .i64 a0.cp)]),(3,.box [.p (.sl (CV a1.blocks)),.p (.sl (Cj a1.next)),.p (.sl (CQ a1.spurs)),.p (.sl (BY a1.B5)),.p (.int .i64 a1.cq),.p (.int .i64 a1.ca),.p (.int .i64 a1.cd),.p (.int .i64 a1.cp)])],82⟩) ((Wk.forget (by simp[ZF,ZE,c4,c8]))) ?_;rintro v11 m14 Em Aks;rw[Jq.eq_1] at Em;cases Ia:decide (v11<((a0.blocks.length:Nat):Int))
 . simp only[Ia,Aj] at Em;simp only[Aa,BZ] at Em;cases Em;(try dsimp only at hr);obtain ⟨e23,g24,hr⟩:=bE hr;(try simp only[go_sem,Ia]);refine CP g24 (λ q:Int=>⟨[(2,.ptr 2 0),(3,.ptr 3 0),(6,.p (.int .i64 q))],[(2,.box [.p (.sl (CV a0.blocks)),.p (.sl (Cj a0.next)),.p (.sl (CQ a0.spurs)),.p (.sl (BY a0.B5)),.p (.int .i64 a0.cq),.p (.int .i64 a0.ca),.p (.int .i64 a0.cd),.p (.int .i64 a0.cp)]),(3,.box [.p (.sl (CV a1.blocks)),.p (.sl (Cj a1.next)),.p (.sl (CQ a1.spurs)),.p (.sl (BY a1.B5)),.p (.int .i64 a1.cq),.p (.int .i64 a1.ca),.p (.int .i64 a1.cd),.p (.int .i64 a1.cp)])],82⟩) ((Wk.forget (by simp[ZF,ZE,c4,c8]))) ?_;rintro S3 m22 OV Bak;rw[Jr.eq_1] at OV;cases c25:decide (S3<((a0.spurs.length:Nat):Int))
   . simp only[c25,Aj] at OV;simp only[Aa,BZ] at OV;cases OV;(try dsimp only at hr);cases hr;(try simp only[go_sem,c25]);all_goals ((try refine BX ?_);(try simp only[go_sem,c25]);try first | rfl | exact ⟨rfl,rfl⟩ | (simp;done))
   simp only[c25,Ak] at OV;(try simp only[go_sem,c25]);refine CH mixed (p:=[(0,0),(1,0),(2,0),(3,0),(4,0),(5,0),(6,0),(7,0),(8,0),(9,0),(10,0)]) (by kernel_rfl) (by simp[C3,get]) ?_;obtain ⟨Ku,g27,OV⟩:=bK OV;have f28:=B8 g27;have f29:(CQ a0.spurs).getD (Int.toNat S3) []=[(.str Ku.name),(.bool Ku.Cz),(.int .i64 Ku.HA),(.int .i64 Ku.out),(.int .i64 Ku.Cs),(.int .i64 Ku.base)]:=B9 _ g27;obtain ⟨SW,g31,OV⟩:=bK OV;have f32:=B8 g31;have f33:(CQ a1.spurs).getD (Int.toNat S3) []=[(.str SW.name),(.bool SW.Cz),(.int .i64 SW.HA),(.int .i64 SW.out),(.int .i64 SW.Cs),(.int .i64 SW.base)]:=B9 _ g31;cases RC:decide (Ku.name=SW.name)&&((Ku.Cz==SW.Cz)&&(decide (Ku.HA=SW.HA)&&(decide (Ku.out=SW.out)&&(decide (Ku.Cs=SW.Cs)&&decide (Ku.base=SW.base)))))
   . simp only[RC,Aj] at OV;simp only[Aa,BZ] at OV;cases OV;(try dsimp only at hr);cases hr;(try simp only[go_sem,f28,f29,f32,f33,RC]);all_goals ((try refine BX ?_);(try simp only[go_sem,f28,f29,f32,f33,RC]);try first | rfl | exact ⟨rfl,rfl⟩ | (simp;done))
   simp only[RC,Ak] at OV;simp only[Aa,B6] at OV;(try simp only[go_sem,f28,f29,f32,f33,RC]);exact Bak (IntKind.i64.wrap (S3+1)) _ OV ((Wk.forget (by simp[ZF,ZE,c4,c8])))
 simp only[Ia,Ak] at Em;try simp only[go_sem,Ia]
 refine CH mixed (p:=[(0,0),(1,0),(2,0),(3,0),(4,0),(5,0),(6,0),(7,0),(8,0),(9,0),(10,0)]) (by kernel_rfl) (by simp[C3,get]) ?_;obtain ⟨Ym,g38,Em⟩:=bK Em;have f39:=B8 g38;have f40:(CV a0.blocks).getD (Int.toNat v11) []=[(.str Ym.name),(.int .i64 Ym.x),(.int .i64 Ym.y)]:=B9 _ g38;obtain ⟨x41,g42,Em⟩:=bK Em;have f43:=B8 g42;have f44:(CV a1.blocks).getD (Int.toNat v11) []=[(.str x41.name),(.int .i64 x41.x),(.int .i64 x41.y)]:=B9 _ g42;cases c45:decide (Ym.name=x41.name)&&(decide (Ym.x=x41.x)&&decide (Ym.y=x41.y))
 . simp only[c45,Aj] at Em;simp only[Aa,BZ] at Em;cases Em;(try dsimp only at hr);cases hr;(try simp only[go_sem,f39,f40,f43,f44,c45]);all_goals ((try refine BX ?_);(try simp only[go_sem,f39,f40,f43,f44,c45]);try first | rfl | exact ⟨rfl,rfl⟩ | (simp;done))
 simp only[c45,Ak] at Em;simp only[Aa,B6] at Em;try simp only[go_sem,f39,f40,f43,f44,c45]
 exact Aks (IntKind.i64.wrap (v11+1)) _ Em ((Wk.forget (by simp[ZF,ZE,c4,c8])))
def CZ(a0:Int)(a1:Int)(a2:Int):Option (Bool):=
 cond (decide (a1<=a0)) (some (decide (a0<=a2))) (some false)
theorem C9(a0:Int)(a1:Int)(a2:Int)(r:Bool)(hr:CZ a0 a1 a2=some r):
   B1 prog 40 [.p (.int .i64 a0),.p (.int .i64 a1),.p (.int .i64 a2)] [] λ h d=>h=[]/\d= .p (.bool r):=by
 refine B0 func40 rfl ZP (by simp[Tryz.f40]) ?_;unfold CZ at hr;cases c1:decide (a1<=a0)
 . simp only[c1,Aj] at hr;cases hr;(try simp only[go_sem,c1]);all_goals ((try refine BX ?_);(try simp only[go_sem,c1]);try first | rfl | exact ⟨rfl,rfl⟩ | (simp;done))
 simp only[c1,Ak] at hr;cases hr;try simp only[go_sem,c1]
 all_goals ((try refine BX ?_);(try simp only[go_sem,c1]);try first | rfl | exact ⟨rfl,rfl⟩ | (simp;done))
def DV(a0:o5):Option (Bool):=
 Option.bind (CZ a0.cq 1 8) λ x1=>cond x1 (Option.bind (CZ a0.ca 0 4) λ x4=>cond x4 (Option.bind (CZ a0.cd 0 3) λ x7=>cond x7 (Option.bind (CZ a0.cp 1 16) λ Nn=>some Nn) (some false)) (some false)) (some false)
theorem Lw(a0:o5)(r:Bool)(hr:DV a0=some r):
   B1 prog 41 [.agg [.p (.int .i64 a0.cq),.p (.int .i64 a0.ca),.p (.int .i64 a0.cd),.p (.int .i64 a0.cp)]] [] λ h d=>h=[]/\d= .p (.bool r):=by
 refine B0 func41 rfl ZO (by simp[Tryz.f41]) ?_;unfold DV at hr;obtain ⟨x1,g2,hr⟩:=bE hr;try simp only[go_sem]
 refine Cq (C9 a0.cq 1 8 _ g2) ?_;cases c3:x1
 . simp only[c3,Aj] at hr;cases hr;(try simp only[go_sem,c3]);all_goals ((try refine BX ?_);(try simp only[go_sem,c3]);try first | rfl | exact ⟨rfl,rfl⟩ | (simp;done))
 simp only[c3,Ak] at hr;obtain ⟨x4,g5,hr⟩:=bE hr;try simp only[go_sem,c3]
 refine Cq (C9 a0.ca 0 4 _ g5) ?_;cases c6:x4
 . simp only[c6,Aj] at hr;cases hr;(try simp only[go_sem,c3,c6]);all_goals ((try refine BX ?_);(try simp only[go_sem,c3,c6]);try first | rfl | exact ⟨rfl,rfl⟩ | (simp;done))
 simp only[c6,Ak] at hr;obtain ⟨x7,g8,hr⟩:=bE hr;try simp only[go_sem,c3,c6]
 refine Cq (C9 a0.cd 0 3 _ g8) ?_;cases c9:x7
 . simp only[c9,Aj] at hr;cases hr;(try simp only[go_sem,c6,c9]);all_goals ((try refine BX ?_);(try simp only[go_sem,c6,c9]);try first | rfl | exact ⟨rfl,rfl⟩ | (simp;done))
 simp only[c9,Ak] at hr;obtain ⟨Nn,g11,hr⟩:=bE hr;try simp only[go_sem,c6,c9]
 refine Cq (C9 a0.cp 1 16 _ g11) ?_;cases hr;try simp only[go_sem,c9]
 all_goals ((try refine BX ?_);(try simp only[go_sem,c9]);try first | rfl | exact ⟨rfl,rfl⟩ | (simp;done))
def D4(a0:List Int)(a1:Int)(a2:Int):Int×Int->Option ((Int×Int)⊕((Int×Int)⊕Bool))
 | (v3,v4)=>cond (decide (v3<((a0.length:Nat):Int))) (Option.bind (CL a0 v3) λ D1=>cond (decide (D1<=v4)) (some (Sum.inr (.inr ((false:Bool))))) (cond (decide (a2<=D1)) (some (Sum.inr (.inr ((false:Bool))))) (cond (decide (D1=a1)) (some (Sum.inr (.inr ((false:Bool))))) (some (Sum.inl ((IntKind.i64.wrap (v3+1)),D1)))))) (some (Sum.inr (.inl (v3,v4))))
def Ej(a0:List Int)(a1:Int)(a2:Int):Option (Bool):=
 Option.bind (CA (D4 a0 a1 a2) (0,(-1))) (λ | .inl (UW,S3)=>some (decide (((a0.length:Nat):Int)<=4)) | .inr (r20)=>some r20)
theorem MF(a0:List Int)(a1:Int)(a2:Int)(r:Bool)(hr:Ej a0 a1 a2=some r):
   B1 prog 43 [.p (.sl (BY a0)),.p (.int .i64 a1),.p (.int .i64 a2)] [] λ h d=>h=[]/\d= .p (.bool r):=by
 refine B0 func43 rfl Amx (by simp[Tryz.f43]) ?_;unfold Ej at hr;obtain ⟨e8,g9,hr⟩:=bE hr;try simp only[go_sem]
 refine CP g9 (λ q:Int×Int=>⟨[(0,.p (.sl (BY a0))),(1,.p (.int .i64 a1)),(2,.p (.int .i64 a2)),(7,.p (.int .i64 q.2)),(10,.p (.sl (BY a0))),(11,.p (.int .i64 ((a0.length:Nat):Int))),(12,.p (.int .i64 q.1))],[],34⟩) ((Wk.forget (by simp[ZF,ZE]))) ?_;rintro ⟨v3,v4⟩ m7 FF ih6;rw[D4.eq_1] at FF;cases IW:decide (v3<((a0.length:Nat):Int))
 . simp only[IW,Aj] at FF;simp only[Aa,BZ] at FF;cases FF;(try dsimp only at hr);cases hr;(try simp only[go_sem,IW]);all_goals ((try refine BX ?_);(try simp only[go_sem,IW]);try first | rfl | exact ⟨rfl,rfl⟩ | (simp;done))
 simp only[IW,Ak] at FF;obtain ⟨D1,g12,FF⟩:=bK FF;have f13:=B8 g12;have f14:(BY a0).getD (Int.toNat v3) []=[(.int .i64 D1)]:=B9 _ g12;cases IV:decide (D1<=v4)
 . simp only[IV,Aj] at FF;cases Ks:decide (a2<=D1)
   . simp only[Ks,Aj] at FF;cases Ia:decide (D1=a1)
     . simp only[Ia,Aj] at FF;simp only[Aa,B6] at FF;(try simp only[go_sem,IW,f13,f14,IV,Ks,Ia]);exact ih6 ((IntKind.i64.wrap (v3+1)),D1) _ FF ((Wk.forget (by simp[ZF,ZE])))
     simp only[Ia,Ak] at FF;simp only[Aa,BZ] at FF;cases FF;(try dsimp only at hr);cases hr;(try simp only[go_sem,IW,f13,f14,IV,Ks,Ia]);all_goals ((try refine BX ?_);(try simp only[go_sem,IW,f13,f14,IV,Ks,Ia]);try first | rfl | exact ⟨rfl,rfl⟩ | (simp;done))
   simp only[Ks,Ak] at FF;simp only[Aa,BZ] at FF;cases FF;(try dsimp only at hr);cases hr;(try simp only[go_sem,IW,f13,f14,IV,Ks]);all_goals ((try refine BX ?_);(try simp only[go_sem,IW,f13,f14,IV,Ks]);try first | rfl | exact ⟨rfl,rfl⟩ | (simp;done))
 simp only[IV,Ak] at FF;simp only[Aa,BZ] at FF;cases FF;try dsimp only at hr
 cases hr;try simp only[go_sem,IW,f13,f14,IV]
 all_goals ((try refine BX ?_);(try simp only[go_sem,IW,f13,f14,IV]);try first | rfl | exact ⟨rfl,rfl⟩ | (simp;done))
def EA(a0:Nt):(List (Int×Bool))×Int->Option (((List (Int×Bool))×Int)⊕(((List (Int×Bool))×Int)))
 | (v37,v38)=>cond (decide (v38<((a0.B5.length:Nat):Int))) (Option.bind (CL a0.B5 v38) λ x45=>some (Sum.inl ((Mj v37 x45),(IntKind.i64.wrap (v38+1))))) (some (Sum.inr (v37,v38)))
def DZ(a0:Nt):(List (Int×Bool))×Bool×Int->Option (((List (Int×Bool))×Bool×Int)⊕(((List (Int×Bool))×Bool×Int)))
 | (v54,v55,v56)=>cond (decide (v56<((a0.B5.length:Nat):Int))) (Option.bind (CL a0.B5 v56) λ JQ=>cond v55 (some (Sum.inl ((Mj v54 JQ),((I4 v54 JQ).getD false),(IntKind.i64.wrap (v56+1))))) (some (Sum.inl ((Mj v54 JQ),false,(IntKind.i64.wrap (v56+1)))))) (some (Sum.inr (v54,v55,v56)))
def Ez(Lk:C5):(List (Int×Bool))×Int×Int->Option (((List (Int×Bool))×Int×Int)⊕(((List (Int×Bool))×Int×Int)))
 | (v91,v92,v93)=>cond (decide (v92<Lk.Cs)) (cond Lk.Cz (some (Sum.inl ((QZ v91 v93 true),(IntKind.i64.wrap (v92+1)),(IntKind.i64.wrap (v93+1))))) (some (Sum.inl (v91,(IntKind.i64.wrap (v92+1)),(IntKind.i64.wrap (v93+1)))))) (some (Sum.inr (v91,v92,v93)))
def Ey(a0:Nt):(List (List UInt8×Int))×(List (Int×Bool))×Int×Int->Option (((List (List UInt8×Int))×(List (Int×Bool))×Int×Int)⊕(((List (List UInt8×Int))×(List (Int×Bool))×Int×Int)⊕Bool))
 | (v24,v25,v26,Ya)=>cond (decide (Ya<((a0.spurs.length:Nat):Int))) (Option.bind (CL a0.spurs Ya) λ Lk=>Option.bind (Qb Lk.name) λ x75=>cond x75 (Option.bind (CZ Lk.HA 0 (IntKind.i64.wrap (((a0.blocks.length:Nat):Int) - 1))) λ x78=>cond x78 (Option.bind (CZ Lk.out 0 (IntKind.i64.wrap (((a0.blocks.length:Nat):Int) - 1))) λ x81=>cond x81 (Option.bind (CZ Lk.Cs 1 4) λ x84=>cond x84 (cond (decide (Lk.base=v26)) (Option.bind (CA (Ez Lk) (v25,0,v26)) (λ (Azh,v102,Azg)=>some (Sum.inl ((Iz v24 Lk.name (IntKind.i64.wrap (((Eg v24 Lk.name).getD 0)+1))),Azh,Azg,(IntKind.i64.wrap (Ya+1)))))) (some (Sum.inr (.inr ((false:Bool)))))) (some (Sum.inr (.inr ((false:Bool)))))) (some (Sum.inr (.inr ((false:Bool)))))) (some (Sum.inr (.inr ((false:Bool)))))) (some (Sum.inr (.inr ((false:Bool)))))) (some (Sum.inr (.inl (v24,v25,v26,Ya))))
def Ex(a0:Nt):(List (List UInt8×Int))×Int->Option (((List (List UInt8×Int))×Int)⊕(((List (List UInt8×Int))×Int)⊕Bool))
 | (v12,OA)=>cond (decide (OA<((a0.blocks.length:Nat):Int))) (Option.bind (CL a0.blocks OA) λ Pn=>Option.bind (Qb Pn.name) λ At3=>cond At3 (Option.bind (CZ Pn.x (-9999) 9999) λ Aih=>cond Aih (Option.bind (CZ Pn.y (-9999) 9999) λ At2=>cond At2 (Option.bind (CL a0.next OA) λ Apf=>Option.bind (Ej Apf OA ((a0.blocks.length:Nat):Int)) λ At1=>cond At1 (some (Sum.inl ((Iz v12 Pn.name (IntKind.i64.wrap (((Eg v12 Pn.name).getD 0)+1))),(IntKind.i64.wrap (OA+1))))) (some (Sum.inr (.inr ((false:Bool)))))) (some (Sum.inr (.inr ((false:Bool)))))) (some (Sum.inr (.inr ((false:Bool)))))) (some (Sum.inr (.inr ((false:Bool)))))) (some (Sum.inr (.inl (v12,OA))))
def F4(a0:Nt):Option (Bool):=
 Option.bind (CZ ((a0.blocks.length:Nat):Int) 1 24) λ x1=>cond x1 (cond (decide (((a0.next.length:Nat):Int)=((a0.blocks.length:Nat):Int))) (cond (decide (6<((a0.spurs.length:Nat):Int))) (some false) (cond (decide (8<((a0.B5.length:Nat):Int))) (some false) (Option.bind (DV (⟨a0.cq,a0.ca,a0.cd,a0.cp⟩:o5)) λ x7=>cond x7 (Option.bind (CA (Ex a0) ([],0)) (λ | .inl (Aza,v167)=>Option.bind (CA (Ey a0) (Aza,[],((a0.blocks.length:Nat):Int),0)) (λ | .inl (Az7,Ath,v254,v255)=>cond (decide (0<((Ath.length:Nat):Int))) (Option.bind (CA (DZ a0) (Ath,decide (((Az7.length:Nat):Int)=(IntKind.i64.wrap (((a0.blocks.length:Nat):Int)+((a0.spurs.length:Nat):Int)))),0)) (λ (v290,Az6,v292)=>some Az6)) (Option.bind (CA (EA a0) (Ath,0)) (λ (v271,v272)=>some false)) | .inr (Ba5)=>some Ba5) | .inr (Ba4)=>some Ba4)) (some false)))) (some false)) (some false)
theorem KI(a0:Nt)(r:Bool)(hr:F4 a0=some r):
   B1 prog 19 [.agg [.p (.sl (CV a0.blocks)),.p (.sl (Cj a0.next)),.p (.sl (CQ a0.spurs)),.p (.sl (BY a0.B5)),.p (.int .i64 a0.cq),.p (.int .i64 a0.ca),.p (.int .i64 a0.cd),.p (.int .i64 a0.cp)]] [] λ h d=>h=[]/\d= .p (.bool r):=by
 refine B0 func19 rfl Anh (by simp[Tryz.f19]) ?_;unfold F4 at hr;obtain ⟨x1,g2,hr⟩:=bE hr;try simp only[go_sem]
 refine Cq (C9 ((a0.blocks.length:Nat):Int) 1 24 _ g2) ?_;cases c3:x1
 . simp only[c3,Aj] at hr;cases hr;(try simp only[go_sem,c3]);all_goals ((try refine BX ?_);(try simp only[go_sem,c3]);try first | rfl | exact ⟨rfl,rfl⟩ | (simp;done))
 simp only[c3,Ak] at hr;cases c4:decide (((a0.next.length:Nat):Int)=((a0.blocks.length:Nat):Int))
 . simp only[c4,Aj] at hr;cases hr;(try simp only[go_sem,c3,c4]);all_goals ((try refine BX ?_);(try simp only[go_sem,c3,c4]);try first | rfl | exact ⟨rfl,rfl⟩ | (simp;done))
 simp only[c4,Ak] at hr;cases c5:decide (6<((a0.spurs.length:Nat):Int))
 . simp only[c5,Aj] at hr;cases c6:decide (8<((a0.B5.length:Nat):Int))
   . simp only[c6,Aj] at hr;obtain ⟨x7,g8,hr⟩:=bE hr;(try simp only[go_sem,c3,c4,c5,c6]);refine Cq (Lw (⟨a0.cq,a0.ca,a0.cd,a0.cp⟩:o5) _ g8) ?_;cases c9:x7
     . simp only[c9,Aj] at hr;cases hr;(try simp only[go_sem,c6,c9]);all_goals ((try refine BX ?_);(try simp only[go_sem,c6,c9]);try first | rfl | exact ⟨rfl,rfl⟩ | (simp;done))
     simp only[c9,Ak] at hr;obtain ⟨e17,g18,hr⟩:=bE hr;(try simp only[go_sem,c6,c9]);refine CP g18 (λ q:(List (List UInt8×Int))×Int=>⟨[(1,.ptr 1 0),(3,.mv 45),(47,.p (.sl (CV a0.blocks))),(48,.p (.int .i64 ((a0.blocks.length:Nat):Int))),(49,.p (.int .i64 q.2))],[(1,.box [.p (.sl (CV a0.blocks)),.p (.sl (Cj a0.next)),.p (.sl (CQ a0.spurs)),.p (.sl (BY a0.B5)),.p (.int .i64 a0.cq),.p (.int .i64 a0.ca),.p (.int .i64 a0.cd),.p (.int .i64 a0.cp)]),(45,.mp (Kr q.1))],185⟩) ((Wk.forget (by simp[ZF,ZE,c3,c9]))) ?_;rintro ⟨v12,OA⟩ m16 F8 Ban;rw[Ex.eq_1] at F8;cases Kp:decide (OA<((a0.blocks.length:Nat):Int))
     . simp only[Kp,Aj] at F8;simp only[Aa,BZ] at F8;cases F8;(try dsimp only at hr);obtain ⟨e31,g32,hr⟩:=bE hr;(try simp only[go_sem,Kp]);refine CP g32 (λ q:(List (List UInt8×Int))×(List (Int×Bool))×Int×Int=>⟨[(1,.ptr 1 0),(3,.mv 45),(6,.p (.int .i64 q.2.2.1)),(7,.mv 92),(94,.p (.sl (CQ a0.spurs))),(95,.p (.int .i64 ((a0.spurs.length:Nat):Int))),(96,.p (.int .i64 q.2.2.2))],[(1,.box [.p (.sl (CV a0.blocks)),.p (.sl (Cj a0.next)),.p (.sl (CQ a0.spurs)),.p (.sl (BY a0.B5)),.p (.int .i64 a0.cq),.p (.int .i64 a0.ca),.p (.int .i64 a0.cd),.p (.int .i64 a0.cp)]),(45,.mp (Kr q.1)),(92,.mp (Xm q.2.1))],185⟩) ((Wk.forget (by simp[ZF,ZE,c3,c9]))) ?_;rintro ⟨v24,v25,v26,Ya⟩ m30 Fg Baj;rw[Ey.eq_1] at Fg;cases c33:decide (Ya<((a0.spurs.length:Nat):Int))
       . simp only[c33,Aj] at Fg;simp only[Aa,BZ] at Fg;cases Fg;(try dsimp only at hr);(try simp only[go_sem,c33]);refine WV rfl rfl rfl rfl Aka rfl rfl ?_;cases RC:decide (0<((v25.length:Nat):Int))
         . simp only[RC,Aj] at hr;obtain ⟨e42,g43,hr⟩:=bE hr;(try simp only[go_sem,RC]);refine CP g43 (λ q:(List (Int×Bool))×Int=>⟨[(7,.mv 92),(10,.p (.bool false)),(169,.p (.sl (BY a0.B5))),(170,.p (.int .i64 ((a0.B5.length:Nat):Int))),(171,.p (.int .i64 q.2))],[(92,.mp (Xm q.1))],185⟩) ((Wk.forget (by simp[ZF,ZE,c3,c9]))) ?_;rintro ⟨v37,v38⟩ m41 XD Bai;rw[EA.eq_1] at XD;cases c44:decide (v38<((a0.B5.length:Nat):Int))
           . simp only[c44,Aj] at XD;simp only[Aa,BZ] at XD;cases XD;(try dsimp only at hr);cases hr;(try simp only[go_sem,c44]);all_goals ((try refine BX ?_);(try simp only[go_sem,c44]);try first | rfl | exact ⟨rfl,rfl⟩ | (simp;done))
           simp only[c44,Ak] at XD;obtain ⟨x45,g46,XD⟩:=bK XD;have f47:=B8 g46;have f48:(BY a0.B5).getD (Int.toNat v38) []=[(.int .i64 x45)]:=B9 _ g46;(try simp only[go_sem,c44,f47,f48]);refine RG rfl rfl rfl rfl Aka rfl rfl rfl rfl (TD _ _) ?_;simp only[Aa,B6] at XD;(try simp only[go_sem]);exact Bai ((Mj v37 x45),(IntKind.i64.wrap (v38+1))) _ XD ((Wk.forget (by simp[ZF,ZE,c3,c9])))
         simp only[RC,Ak] at hr;(try simp only[go_sem,RC]);refine WV rfl rfl rfl rfl Awq rfl rfl ?_;obtain ⟨e60,g61,hr⟩:=bE hr;(try simp only[go_sem,RC]);refine CP g61 (λ q:(List (Int×Bool))×Bool×Int=>⟨[(7,.mv 92),(10,.p (.bool q.2.1)),(169,.p (.sl (BY a0.B5))),(170,.p (.int .i64 ((a0.B5.length:Nat):Int))),(171,.p (.int .i64 q.2.2))],[(92,.mp (Xm q.1))],185⟩) ((Wk.forget (by simp[ZF,ZE,c3,c9]))) ?_;rintro ⟨v54,v55,v56⟩ m59 Rn Awu;rw[DZ.eq_1] at Rn;cases c62:decide (v56<((a0.B5.length:Nat):Int))
         . simp only[c62,Aj] at Rn;simp only[Aa,BZ] at Rn;cases Rn;(try dsimp only at hr);cases hr;(try simp only[go_sem,c62]);all_goals ((try refine BX ?_);(try simp only[go_sem,c62]);try first | rfl | exact ⟨rfl,rfl⟩ | (simp;done))
         simp only[c62,Ak] at Rn;obtain ⟨JQ,g64,Rn⟩:=bK Rn;have f65:=B8 g64;have f66:(BY a0.B5).getD (Int.toNat v56) []=[(.int .i64 JQ)]:=B9 _ g64;cases c67:v55
         . simp only[c67,Aj] at Rn;(try simp only[go_sem,c62,f65,f66,c67]);refine RG rfl rfl rfl rfl Aka rfl rfl rfl rfl (TD _ _) ?_;simp only[Aa,B6] at Rn;(try simp only[go_sem]);exact Awu ((Mj v54 JQ),false,(IntKind.i64.wrap (v56+1))) _ Rn ((Wk.forget (by simp[ZF,ZE,c3,c9,c67])))
         simp only[c67,Ak] at Rn;(try simp only[go_sem,c62,f65,f66,c67]);refine RG rfl rfl rfl rfl Aka rfl rfl rfl rfl (TD _ _) ?_;simp only[Aa,B6] at Rn;(try simp only[go_sem]);exact Awu ((Mj v54 JQ),((I4 v54 JQ).getD false),(IntKind.i64.wrap (v56+1))) _ Rn ((Wk.forget (by simp[ZF,ZE,c3,c9,c67])))
       simp only[c33,Ak] at Fg;obtain ⟨Lk,g72,Fg⟩:=bK Fg;have f73:=B8 g72;have f74:(CQ a0.spurs).getD (Int.toNat Ya) []=[(.str Lk.name),(.bool Lk.Cz),(.int .i64 Lk.HA),(.int .i64 Lk.out),(.int .i64 Lk.Cs),(.int .i64 Lk.base)]:=B9 _ g72;obtain ⟨x75,g76,Fg⟩:=bK Fg;(try simp only[go_sem,c33,f73,f74]);refine Cq (Wp Lk.name _ g76) ?_;cases c77:x75
       . simp only[c77,Aj] at Fg;simp only[Aa,BZ] at Fg;cases Fg;(try dsimp only at hr);cases hr;(try simp only[go_sem,c77]);all_goals ((try refine BX ?_);(try simp only[go_sem,c77]);try first | rfl | exact ⟨rfl,rfl⟩ | (simp;done))
       simp only[c77,Ak] at Fg;obtain ⟨x78,g79,Fg⟩:=bK Fg;(try simp only[go_sem,c77]);refine Cq (C9 Lk.HA 0 (IntKind.i64.wrap (((a0.blocks.length:Nat):Int) - 1)) _ g79) ?_;cases Yk:x78
       . simp only[Yk,Aj] at Fg;simp only[Aa,BZ] at Fg;cases Fg;(try dsimp only at hr);cases hr;(try simp only[go_sem,c77,Yk]);all_goals ((try refine BX ?_);(try simp only[go_sem,c77,Yk]);try first | rfl | exact ⟨rfl,rfl⟩ | (simp;done))
       simp only[Yk,Ak] at Fg;obtain ⟨x81,g82,Fg⟩:=bK Fg;(try simp only[go_sem,c77,Yk]);refine Cq (C9 Lk.out 0 (IntKind.i64.wrap (((a0.blocks.length:Nat):Int) - 1)) _ g82) ?_;cases WQ:x81
       . simp only[WQ,Aj] at Fg;simp only[Aa,BZ] at Fg;cases Fg;(try dsimp only at hr);cases hr;(try simp only[go_sem,Yk,WQ]);all_goals ((try refine BX ?_);(try simp only[go_sem,Yk,WQ]);try first | rfl | exact ⟨rfl,rfl⟩ | (simp;done))
       simp only[WQ,Ak] at Fg;obtain ⟨x84,g85,Fg⟩:=bK Fg;(try simp only[go_sem,Yk,WQ]);refine Cq (C9 Lk.Cs 1 4 _ g85) ?_;cases c86:x84
       . simp only[c86,Aj] at Fg;simp only[Aa,BZ] at Fg;cases Fg;(try dsimp only at hr);cases hr;(try simp only[go_sem,WQ,c86]);all_goals ((try refine BX ?_);(try simp only[go_sem,WQ,c86]);try first | rfl | exact ⟨rfl,rfl⟩ | (simp;done))
       simp only[c86,Ak] at Fg;cases c87:decide (Lk.base=v26)
       . simp only[c87,Aj] at Fg;simp only[Aa,BZ] at Fg;cases Fg;(try dsimp only at hr);cases hr;(try simp only[go_sem,WQ,c86,c87]);all_goals ((try refine BX ?_);(try simp only[go_sem,WQ,c86,c87]);try first | rfl | exact ⟨rfl,rfl⟩ | (simp;done))
       simp only[c87,Ak] at Fg;obtain ⟨e97,g98,Fg⟩:=bK Fg;(try simp only[go_sem,WQ,c86,c87]);refine CP g98 (λ q:(List (Int×Bool))×Int×Int=>⟨[(1,.ptr 1 0),(3,.mv 45),(6,.p (.int .i64 q.2.2)),(7,.mv 92),(9,.ptr 9 0),(94,.p (.sl (CQ a0.spurs))),(95,.p (.int .i64 ((a0.spurs.length:Nat):Int))),(96,.p (.int .i64 Ya)),(142,.p (.int .i64 Lk.Cs)),(143,.p (.int .i64 q.2.1))],[(1,.box [.p (.sl (CV a0.blocks)),.p (.sl (Cj a0.next)),.p (.sl (CQ a0.spurs)),.p (.sl (BY a0.B5)),.p (.int .i64 a0.cq),.p (.int .i64 a0.ca),.p (.int .i64 a0.cd),.p (.int .i64 a0.cp)]),(9,.box [.p (.str Lk.name),.p (.bool Lk.Cz),.p (.int .i64 Lk.HA),.p (.int .i64 Lk.out),.p (.int .i64 Lk.Cs),.p (.int .i64 Lk.base)]),(45,.mp (Kr (Iz v24 Lk.name (IntKind.i64.wrap (((Eg v24 Lk.name).getD 0)+1))))),(92,.mp (Xm q.1))],185⟩) ((Wk.forget (by simp[ZF,ZE,c3,c9,c77,Yk,WQ,c86]))) ?_;rintro ⟨v91,v92,v93⟩ m96 T3 Awt;rw[Ez.eq_1] at T3;cases c99:decide (v92<Lk.Cs)
       . simp only[c99,Aj] at T3;simp only[Aa,BZ] at T3;cases T3;(try dsimp only at Fg);simp only[Aa,B6] at Fg;(try simp only[go_sem,c99]);exact Baj ((Iz v24 Lk.name (IntKind.i64.wrap (((Eg v24 Lk.name).getD 0)+1))),v91,v93,(IntKind.i64.wrap (Ya+1))) _ Fg ((Wk.forget (by simp[ZF,ZE,c3,c9,c77,Yk,WQ,c86])))
       simp only[c99,Ak] at T3;cases Ai0:Lk.Cz
       . simp only[Ai0,Aj] at T3;simp only[Aa,B6] at T3;(try simp only[go_sem,c99,Ai0]);exact Awt (v91,(IntKind.i64.wrap (v92+1)),(IntKind.i64.wrap (v93+1))) _ T3 ((Wk.forget (by simp[ZF,ZE,c3,c9,c77,Yk,WQ,c86,Ai0])))
       simp only[Ai0,Ak] at T3;simp only[Aa,B6] at T3;(try simp only[go_sem,c99,Ai0]);exact Awt ((QZ v91 v93 true),(IntKind.i64.wrap (v92+1)),(IntKind.i64.wrap (v93+1))) _ T3 ((Wk.forget (by simp[ZF,ZE,c3,c9,c77,Yk,WQ,c86,Ai0])))
     simp only[Kp,Ak] at F8;obtain ⟨Pn,Ay6,F8⟩:=bK F8;have f148:=B8 Ay6;have f149:(CV a0.blocks).getD (Int.toNat OA) []=[(.str Pn.name),(.int .i64 Pn.x),(.int .i64 Pn.y)]:=B9 _ Ay6;(try simp only[go_sem,Kp,f148,f149]);refine CH mixed (p:=[(0,0),(1,0),(2,2),(3,0),(4,0),(5,0),(6,0),(7,2),(8,0),(9,0),(10,0),(11,0),(12,0),(13,2),(14,0),(15,0),(16,0),(17,0),(18,0),(19,0),(20,0),(21,0),(22,0),(23,0),(24,0),(25,0),(26,2),(27,0),(28,0)]) (by kernel_rfl) (by simp[C3,get]) ?_;obtain ⟨At3,Bc3,F8⟩:=bK F8;(try simp only[go_sem]);refine Gq (Wp Pn.name _ Bc3) ?_;cases X0:At3
     . simp only[X0,Aj] at F8;simp only[Aa,BZ] at F8;cases F8;(try dsimp only at hr);cases hr;(try simp only[go_sem,X0]);all_goals ((try refine BX ?_);(try simp only[go_sem,X0]);try first | rfl | exact ⟨rfl,rfl⟩ | (simp;done))
     simp only[X0,Ak] at F8;obtain ⟨Aih,Ar2,F8⟩:=bK F8;(try simp only[go_sem,X0]);refine Gq (C9 Pn.x (-9999) 9999 _ Ar2) ?_;cases XZ:Aih
     . simp only[XZ,Aj] at F8;simp only[Aa,BZ] at F8;cases F8;(try dsimp only at hr);cases hr;(try simp only[go_sem,X0,XZ]);all_goals ((try refine BX ?_);(try simp only[go_sem,X0,XZ]);try first | rfl | exact ⟨rfl,rfl⟩ | (simp;done))
     simp only[XZ,Ak] at F8;obtain ⟨At2,Bc2,F8⟩:=bK F8;(try simp only[go_sem,X0,XZ]);refine Gq (C9 Pn.y (-9999) 9999 _ Bc2) ?_;cases XY:At2
     . simp only[XY,Aj] at F8;simp only[Aa,BZ] at F8;cases F8;(try dsimp only at hr);cases hr;(try simp only[go_sem,XZ,XY]);all_goals ((try refine BX ?_);(try simp only[go_sem,XZ,XY]);try first | rfl | exact ⟨rfl,rfl⟩ | (simp;done))
     simp only[XY,Ak] at F8;obtain ⟨Apf,Ay4,F8⟩:=bK F8;have f161:=B8 Ay4;have f162:(Cj a0.next).getD (Int.toNat OA) []=[(.sl (BY Apf))]:=B9 _ Ay4;obtain ⟨At1,Bc1,F8⟩:=bK F8;(try simp only[go_sem,XZ,XY,f161,f162]);refine Gq (MF Apf OA ((a0.blocks.length:Nat):Int) _ Bc1) ?_;cases Ahx:At1
     . simp only[Ahx,Aj] at F8;simp only[Aa,BZ] at F8;cases F8;(try dsimp only at hr);cases hr;(try simp only[go_sem,XY,Ahx]);all_goals ((try refine BX ?_);(try simp only[go_sem,XY,Ahx]);try first | rfl | exact ⟨rfl,rfl⟩ | (simp;done))
     simp only[Ahx,Ak] at F8;simp only[Aa,B6] at F8;(try simp only[go_sem,XY,Ahx]);exact Ban ((Iz v12 Pn.name (IntKind.i64.wrap (((Eg v12 Pn.name).getD 0)+1))),(IntKind.i64.wrap (OA+1))) _ F8 ((Wk.forget (by simp[ZF,ZE,c3,c9,X0,XZ,XY,Ahx])))
   simp only[c6,Ak] at hr;cases hr;(try simp only[go_sem,c3,c4,c5,c6]);all_goals ((try refine BX ?_);(try simp only[go_sem,c3,c4,c5,c6]);try first | rfl | exact ⟨rfl,rfl⟩ | (simp;done))
 simp only[c5,Ak] at hr;cases hr;try simp only[go_sem,c3,c4,c5]
 all_goals ((try refine BX ?_);(try simp only[go_sem,c3,c4,c5]);try first | rfl | exact ⟨rfl,rfl⟩ | (simp;done))
theorem Dv{σ ε:Type}{step:σ->Option (σ⊕ε)}(n:Nat)(S:Nat->σ)(out:ε)(h1:∀i,i<n->step (S i)=some (.inl (S (i+1))))(h2:step (S n)=some (.inr out)):CA step (S 0)=some out:=by
 have:=Jf n S out (λ _=>none) (λ i hi _=>h1 i hi) (λ _=>h2);rw[this];have:(List.range n).findSome? (λ _=>(none:Option ε))=none:=by rw[Bo];simp
 rw[this];rfl
theorem EY{σ ε:Type}{step:σ->Option (σ⊕ε)}(n:Nat)(S:Nat->σ)(out bad:ε)(OY:Nat->Bool)
   (h1:∀i,i<n->(∀j,j<i->OY j=true)->step (S i)=some (if OY i=true then .inl (S (i+1)) else .inr bad)) (h2:(∀j,j<n->OY j=true)->step (S n)=some (.inr out)):
   CA step (S 0)=some (if (∀j,j<n->OY j=true) then out else bad):=by
 have h:=Jf n S out (λ i=>if OY i=true then none else some bad)
   (λ i hi hj=>by
     rw[h1 i hi (λ j hj2=>by have:=hj j hj2;by_cases g:OY j=true;exact g;simp[g] at this)];by_cases g:OY i=true<;>simp[g])
   (λ hj=>h2 (λ j hj2=>by have:=hj j hj2;by_cases g:OY j=true;exact g;simp[g] at this))
 rw[h];by_cases g:∀j,j<n->OY j=true
 . rw[if_pos g];have:(List.range n).findSome? (λ i=>if OY i=true then none else some bad)=none:=by
     rw[Bo];intro x hx;simp[g x (by simpa using hx)]
   rw[this];rfl
 . rw[if_neg g];cases hf:(List.range n).findSome? (λ i=>if OY i=true then none else some bad) with
   | none=>
     exfalso;rw[Bo] at hf;refine g λ j hj=>?_;have:=hf j (by simpa using hj);by_cases g2:OY j=true
     . exact g2
     . simp[g2] at this
   | some e=>
     obtain ⟨i,hi,he⟩:=List.exists_of_findSome?_eq_some hf;by_cases g2:OY i=true
     . simp[g2] at he
     . simp[g2] at he;simp[he]
theorem Cp{α:Type}(l:List α)(i:Nat)(x:α)(h:i<l.length):CL l (i:Int)=some (l.getD i x):=by rw[GM];simp[List.getD,h]
theorem EL{i n:Nat}(h:i<n):decide ((i:Int)<((n:Nat):Int))=true:=Ag (by omega)
theorem FE{n:Nat}:decide ((n:Int)<((n:Nat):Int))=false:=Ah (by omega)
theorem Po(a lo hi:Int):CZ a lo hi=some (decide (lo<=a)&&decide (a<=hi)):=by
 unfold CZ;cases decide (lo<=a)<;>rfl
theorem Ayn:∀b1 b2 b3 b4:Bool,cond b1 (cond b2 (cond b3 (some b4) (some false)) (some false)) (some false)=some (b1&&(b2&&(b3&&b4))):=by decide
theorem U4(q a d p:Int):DV ⟨q,a,d,p⟩=some (decide (IJ q a d p)):=by
 unfold DV;simp only[Po,Aa];rw[Ayn]
 congr 1
 rw[Bn];simp only[As,Au];exact ⟨λ ⟨⟨a1,a2⟩,⟨b1,b2⟩,⟨c1,c2⟩,d1,d2⟩=>⟨a1,a2,b1,b2,c1,c2,d1,d2⟩,λ ⟨a1,a2,b1,b2,c1,c2,d1,d2⟩=>⟨⟨a1,a2⟩,⟨b1,b2⟩,⟨c1,c2⟩,d1,d2⟩⟩
def PL(l:List Int)(i:Nat):Int:=if i=0 then -1 else l.getD (i - 1) 0
theorem Yx(l:List Int)(i nb:Nat)(hl:l.length<=10000000):Ej l (i:Int) (nb:Int)=some (decide (Ig nb i l/\l.length<=4)):=by
 have h:=EY (step:=D4 l (i:Int) (nb:Int)) l.length (λ k=>((k:Int),PL l k)) (Sum.inl ((l.length:Int),PL l l.length)) (Sum.inr false) (λ k=>decide (Jz nb i l k))
   (λ k hk hj=>by
     rw[D4.eq_1,EL hk,Ak,Cp l k 0 hk,Aa];have hw:=CC (show k<10000000 by omega);have Ax9:0<k->0<=l.getD (k - 1) 0:=λ h=>by have:=Ad (hj (k - 1) (by omega));exact this.1
     have R4:PL l (k+1)=l.getD k 0:=by unfold PL;rw[if_neg (by omega)];rfl
     by_cases c1:l.getD k 0<=PL l k
     . rw[Ag c1,Ak,if_neg];intro h;have:=Ad h;unfold PL at c1;split at c1
       . have:=this.1;omega
       . have:=this.2.2.2 (by omega);omega
     . rw[Ah c1,Aj];by_cases c2:(nb:Int)<=l.getD k 0
       . rw[Ag c2,Ak,if_neg];intro h;have:=(Ad h).2.1;omega
       . rw[Ah c2,Aj];by_cases c3:l.getD k 0=(i:Int)
         . rw[Ag c3,Ak,if_neg];intro h;exact (Ad h).2.2.1 c3
         . rw[Ah c3,Aj,if_pos,hw,R4];refine Ag ⟨?_,by omega,c3,λ h=>?_⟩
           . unfold PL at c1;split at c1
             . omega
             . have:=Ax9 (by omega);omega
           . unfold PL at c1;rw[if_neg (by omega)] at c1;omega)
   (λ _=>by rw[D4.eq_1,FE,Aj])
 unfold Ej;rw[show ((0:Int),(-1:Int))=(((0:Nat):Int),PL l 0) from rfl,h,Aa];by_cases g:∀j,j<l.length->decide (Jz nb i l j)=true
 . rw[if_pos g];simp only
   congr 1
   have hr:Ig nb i l:=λ k hk=>Ad (g k hk);by_cases h4:l.length<=4
   . rw[Ag (show (l.length:Int)<=4 by omega),Ag ⟨hr,h4⟩]
   . rw[Ah (show ¬(l.length:Int)<=4 by omega),Ah (λ h=>h4 h.2)]
 . rw[if_neg g];simp only
   congr 1
   symm
   exact Ah λ h=>g λ j hj=>Ag (h.1 j hj)
def GR:List (List UInt8×Int)->List (List UInt8)->List (List UInt8×Int)
 | m,[]=>m
 | m,x::r=>GR (Iz m x (IntKind.i64.wrap ((Eg m x).getD 0+1))) r
theorem WL(m:List (List UInt8×Int))(l:List (List UInt8))(x:List UInt8):GR m (l++[x])=Iz (GR m l) x (IntKind.i64.wrap ((Eg (GR m l) x).getD 0+1)):=by
 induction l generalizing m with
 | nil=>rfl
 | cons y r ih=>simp only[A5,GR];exact ih _
theorem Ao9(m:List (List UInt8×Int))(a b:List (List UInt8)):GR m (a++b)=GR (GR m a) b:=by
 induction a generalizing m with
 | nil=>rfl
 | cons y r ih=>simp only[A5,GR];exact ih _
theorem Ae4(m:List (List UInt8×Int))(k:List UInt8)(v:Int):(Iz m k v).map (·.1)=if k∈m.map (·.1) then m.map (·.1) else m.map (·.1)++[k]:=by
 induction m with
 | nil=>simp[Iz]
 | cons p r ih=>
   simp only[Iz];by_cases h:p.1=k
   . simp[h]
   . rw[if_neg h,AH,ih];by_cases h2:k∈r.map (·.1)
     . rw[if_pos h2,if_pos (by simp only[AH,AG];exact .inr h2)];rfl
     . rw[if_neg h2,if_neg (by simp only[AH,AG,not_or];exact ⟨Be h,h2⟩)];rfl
theorem WM:∀(l:List (List UInt8)) (m:List (List UInt8×Int)),(m.map (·.1)).Nodup->((GR m l).map (·.1)).Nodup/\(GR m l).length<=m.length+l.length/\((GR m l).length=m.length+l.length↔(m.map (·.1)++l).Nodup)
 | [],m,h=>by simp[GR,h]
 | x::r,m,h=>by
   simp only[GR];have hk:=Ae4 m x (IntKind.i64.wrap ((Eg m x).getD 0+1));have hlen:(Iz m x (IntKind.i64.wrap ((Eg m x).getD 0+1))).length=if x∈m.map (·.1) then m.length else m.length+1:=by
     have:=congrArg List.length hk;rw[Bb] at this;rw[this];split<;>simp
   have hnd:((Iz m x (IntKind.i64.wrap ((Eg m x).getD 0+1))).map (·.1)).Nodup:=by
     rw[hk];split
     . exact h
     . rename_i hx;rw[BQ];exact ⟨h,by simp,λ a ha b hb=>by simp at hb;subst hb;intro e;subst e;exact hx ha⟩
   obtain ⟨h1,h2,h3⟩:=WM r _ hnd;refine ⟨h1,by rw[hlen] at h2;split at h2<;>simp<;>omega,?_⟩;by_cases hx:x∈m.map (·.1)
   . rw[hlen,if_pos hx] at h2;constructor
     . intro he;simp at he;omega
     . intro hn;rw[BQ] at hn;exact (hn.2.2 x hx x (by simp) rfl).elim
   . rw[hlen,if_neg hx,hk,if_neg hx] at h3;rw[show m.length+(x::r).length=m.length+1+r.length by simp;omega,h3,A8];rfl
theorem Gr(p:Int×Bool)(r:List (Int×Bool))(x:Int):I4 (p::r) x=if p.1=x then some p.2 else I4 r x:=by
 unfold I4;rw[List.find?_cons];by_cases h:p.1=x
 . simp[h]
 . rw[if_neg h,beq_eq_false_iff_ne.2 h]
theorem VR(p:Int×Bool)(r:List (Int×Bool))(k:Int)(v:Bool):QZ (p::r) k v=if p.1=k then (k,v)::r else p::QZ r k v:=rfl
theorem WH(p:Int×Bool)(r:List (Int×Bool))(k:Int):Mj (p::r) k=if p.1=k then r else p::Mj r k:=rfl
theorem Aff(m:List (Int×Bool))(k:Int)(v:Bool)(x:Int):I4 (QZ m k v) x=if x=k then some v else I4 m x:=by
 induction m with
 | nil=>
   have:QZ [] k v=[(k,v)]:=rfl;rw[this,Gr];by_cases h:x=k
   . rw[if_pos h,if_pos h.symm]
   . rw[if_neg h,if_neg (Be h)]
 | cons p r ih=>
   rw[VR,Gr];by_cases h:p.1=k
   . rw[if_pos h,Gr];by_cases h2:x=k
     . rw[if_pos h2,if_pos h2.symm]
     . rw[if_neg h2,if_neg (Be h2),if_neg (λ e=>h2 (by rw[<-e,<-h]))]
   . rw[if_neg h,Gr,ih];by_cases h2:p.1=x
     . rw[if_pos h2,if_pos h2,if_neg (λ e=>h (by rw[h2,e]))]
     . rw[if_neg h2,if_neg h2]
theorem Ae6(m:List (Int×Bool))(k:Int)(v:Bool):(QZ m k v).map (·.1)=if k∈m.map (·.1) then m.map (·.1) else m.map (·.1)++[k]:=by
 induction m with
 | nil=>simp[QZ]
 | cons p r ih=>
   rw[VR];by_cases h:p.1=k
   . simp[h]
   . rw[if_neg h,AH,ih];by_cases h2:k∈r.map (·.1)
     . rw[if_pos h2,if_pos (by simp only[AH,AG];exact .inr h2)];rfl
     . rw[if_neg h2,if_neg (by simp only[AH,AG,not_or];exact ⟨Be h,h2⟩)];rfl
theorem Ao1(m:List (Int×Bool))(k x:Int)(h:x∈(Mj m k).map (·.1)):x∈m.map (·.1):=by
 induction m with
 | nil=>exact h
 | cons p r ih=>
   rw[WH] at h;split at h
   . simp only[AH,AG];exact .inr h
   . simp only[AH,AG] at h ⊢;exact h.imp id ih
theorem Afg(m:List (Int×Bool))(x:Int):I4 m x=none↔x∉m.map (·.1):=by
 induction m with
 | nil=>simp[I4]
 | cons p r ih=>
   rw[Gr];by_cases h:p.1=x
   . simp[h]
   . rw[if_neg h,ih];simp[Be h]
theorem Z5(m:List (Int×Bool))(k x:Int)(hn:(m.map (·.1)).Nodup):((Mj m k).map (·.1)).Nodup/\I4 (Mj m k) x=if x=k then none else I4 m x:=by
 induction m with
 | nil=>exact ⟨hn,by simp[Mj,I4]⟩
 | cons p r ih=>
   simp only[AH,BD] at hn;obtain ⟨h1,h2⟩:=ih hn.2;rw[WH];by_cases h:p.1=k
   . rw[if_pos h];refine ⟨hn.2,?_⟩;by_cases hx:x=k
     . rw[if_pos hx,Afg,hx,<-h];exact hn.1
     . rw[if_neg hx,Gr,if_neg (λ e=>hx (by rw[<-e,h]))]
   . rw[if_neg h];refine ⟨by simp only[AH,BD];exact ⟨λ hm=>hn.1 (Ao1 r k _ hm),h1⟩,?_⟩;rw[Gr,Gr,h2];by_cases hp:p.1=x
     . rw[if_pos hp,if_pos hp,if_neg (λ e=>h (by rw[hp,e]))]
     . rw[if_neg hp,if_neg hp]
def MB(m:List (Int×Bool))(f:Int->Bool):Prop:=(m.map (·.1)).Nodup/\∀x,I4 m x=if f x=true then some true else none
theorem MB.nil:MB [] (λ _=>false):=⟨by simp,λ x=>by simp[I4]⟩
theorem MB.put{m:List (Int×Bool)}{f:Int->Bool}(h:MB m f)(k:Int):MB (QZ m k true) (λ x=>f x||decide (x=k)):=by
 refine ⟨?_,λ x=>?_⟩
 . rw[Ae6];split
   . exact h.1
   . rename_i hx;rw[BQ];exact ⟨h.1,by simp,λ a ha b hb=>by simp at hb;subst hb;intro e;subst e;exact hx ha⟩
 . rw[Aff,h.2];by_cases hx:x=k
   . simp[hx]
   . simp[hx]
theorem MB.del{m:List (Int×Bool)}{f:Int->Bool}(h:MB m f)(k:Int):MB (Mj m k) (λ x=>f x&&!decide (x=k)):=by
 refine ⟨(Z5 m k 0 h.1).1,λ x=>?_⟩;rw[(Z5 m k x h.1).2,h.2];by_cases hx:x=k
 . simp[hx]
 . simp[hx]
theorem MB.pos{m:List (Int×Bool)}{f:Int->Bool}(h:MB m f):0<m.length↔∃x,f x=true:=by
 constructor
 . intro hm;obtain ⟨p,r,rfl⟩:∃p r,m=p::r:=by cases m with | nil=>simp at hm | cons p r=>exact ⟨p,r,rfl⟩
   refine ⟨p.1,?_⟩;have:=h.2 p.1;rw[Gr,if_pos rfl] at this;by_cases hf:f p.1=true
   . exact hf
   . rw[if_neg hf] at this;cases this
 . rintro ⟨x,hx⟩;cases m with
   | nil=>have:=h.2 x;rw[if_pos hx] at this;simp[I4] at this
   | cons p r=>simp
theorem MB.congr{m:List (Int×Bool)}{f g:Int->Bool}(h:MB m f)(e:∀x,f x=g x):MB m g:=⟨h.1,λ x=>by rw[<-e];exact h.2 x⟩
def Xf(m:List (Int×Bool))(b:Int):Nat->List (Int×Bool)
 | 0=>m
 | n+1=>QZ (Xf m b n) (b+n) true
theorem MB.Xf{m:List (Int×Bool)}{f:Int->Bool}(h:MB m f)(b:Int):∀n:Nat,MB (Xf m b n) (λ x=>f x||(decide (b<=x)&&decide (x<b+n)))
 | 0=>h.congr λ x=>by
   have:(decide (b<=x)&&decide (x<b+((0:Nat):Int)))=false:=by
     rw[Bool.and_eq_false_iff];by_cases h:b<=x
     . exact .inr (Ah (by omega))
     . exact .inl (Ah h)
   rw[this,Bool.or_false]
 | n+1=>(MB.put (h.Xf b n) (b+n)).congr λ x=>by
   rw[Bool.or_assoc]
   congr 1
   rw[Bn];simp only[BS,As,Au];omega
def LO(m:List (Int×Bool))(s:C5):List (Int×Bool):=if s.Cz=true then Xf m s.base s.Cs.toNat else m
theorem MB.dep{m:List (Int×Bool)}{f:Int->Bool}(h:MB m f)(s:C5)(hs:0<=s.Cs):MB (LO m s) (λ x=>f x||Md x s):=by
 unfold LO Md;cases s.Cz
 . exact h.congr λ x=>by simp
 . refine (h.Xf s.base s.Cs.toNat).congr λ x=>?_;rw[Int.toNat_of_nonneg hs];simp
theorem MB.Ayk{m:List (Int×Bool)}{f:Int->Bool}:∀(l:List C5) (h:MB m f),(∀s∈l,0<=s.Cs)->MB (l.foldl LO m) (λ x=>f x||l.any (Md x))
 | [],h,_=>h.congr λ x=>by simp
 | s::r,h,hs=>by
   rw[Bt];exact (MB.Ayk r (h.dep s (hs s (by simp))) (λ t ht=>hs t (by simp[ht]))).congr λ x=>by simp[Bool.or_assoc]
theorem Apr(s:C5)(m:List (Int×Bool))(hs:1<=s.Cs/\s.Cs<=4)(hb:0<=s.base/\s.base<=100):CA (Ez s) (m,0,s.base)=some (LO m s,s.Cs,s.base+s.Cs):=by
 have e:∃n:Nat,s.Cs=(n:Int):=⟨s.Cs.toNat,by omega⟩;obtain ⟨n,hn⟩:=e;have h:=Dv (step:=Ez s) n (λ j=>(if s.Cz=true then Xf m s.base j else m,(j:Int),s.base+(j:Int))) (LO m s,s.Cs,s.base+s.Cs)
   (λ j hj=>by
     rw[Ez.eq_1,hn,EL hj,Ak];have w1:=CC (show j<10000000 by omega);have w2:IntKind.i64.wrap (s.base+(j:Int)+1)=s.base+((j+1:Nat):Int):=by rw[IntKind.wrap_i64];omega
     cases s.Cz
     . rw[Aj,w1,w2];rfl
     . rw[Ak,w1,w2];rfl)
   (by
     rw[Ez.eq_1,hn,FE,Aj];unfold LO;rw[hn];rfl)
 have e0:(m,(0:Int),s.base)=(if s.Cz=true then Xf m s.base 0 else m,((0:Nat):Int),s.base+((0:Nat):Int)):=by
   cases s.Cz<;>simp[Xf]
 rw[e0,h]
theorem QO(sp:List C5)(i:Nat)(h:i<sp.length):Db (sp.take (i+1))=Db (sp.take i)+(sp.getD i Co).Cs:=by rw[CI sp i Co h,DY]
def Wj(n:Nt)(i:Nat):Bool:=CY (n.blocks.getD i FG).name&&(decide (X8 (n.blocks.getD i FG))&&decide (Ig n.blocks.length i (n.next.getD i [])/\(n.next.getD i []).length<=4))
def Sb(n:Nt)(i:Nat):Bool:=CY (n.spurs.getD i Co).name&&decide (L0 n.blocks.length (n.blocks.length+Db (n.spurs.take i)) (n.spurs.getD i Co))
theorem Apj(n:Nt)(hl:n.blocks.length<=24)(hn:n.next.length=n.blocks.length)(hr:∀r∈n.next,r.length<=10000000):
   CA (Ex n) ([],0)=some (if (∀j,j<n.blocks.length->Wj n j=true) then Sum.inl (GR [] (n.blocks.map Eh.name),(n.blocks.length:Int)) else Sum.inr false):=by
 have h:=EY (step:=Ex n) n.blocks.length (λ i=>(GR [] ((n.blocks.take i).map Eh.name),(i:Int))) (Sum.inl (GR [] (n.blocks.map Eh.name),(n.blocks.length:Int))) (Sum.inr false) (λ i=>Wj n i)
   (λ i hi hj=>by
     rw[Ex.eq_1,EL hi,Ak,Cp n.blocks i FG hi,Aa];have w2:=CC (show i<10000000 by omega);simp only[Qb,Po,Aa];have hnx:(GR [] ((n.blocks.take (i+1)).map Eh.name),((i+1:Nat):Int))=
         (Iz (GR [] ((n.blocks.take i).map Eh.name)) (n.blocks.getD i FG).name (IntKind.i64.wrap ((Eg (GR [] ((n.blocks.take i).map Eh.name)) (n.blocks.getD i FG).name).getD 0+1)),((i+1:Nat):Int)):=by
       rw[CI n.blocks i FG hi,Bj,AH,BE,WL]
     rw[hnx,Cp n.next i [] (by omega),Aa,Yx _ i n.blocks.length (by have:=hr (n.next.getD i []) (CB n.next i [] (by omega));exact this),Aa];unfold Wj;generalize n.blocks.getD i FG=b;cases c0:CY b.name
     . simp
     rw[Ak,Ba];by_cases c1:(-9999)<=b.x/\b.x<=9999;rotate_left
     . have e1:(decide ((-9999)<=b.x)&&decide (b.x<=9999))=false:=by rw[<-BG];exact Ah c1
       rw[e1,Aj,if_neg (by rw[As,Au];intro h;exact c1 ⟨h.1.1,h.1.2.1⟩)]
     rw[show (decide ((-9999)<=b.x)&&decide (b.x<=9999))=true by rw[<-BG];exact Ag c1,Ak];by_cases c2:(-9999)<=b.y/\b.y<=9999;rotate_left
     . have e1:(decide ((-9999)<=b.y)&&decide (b.y<=9999))=false:=by rw[<-BG];exact Ah c2
       rw[e1,Aj,if_neg (by rw[As,Au];intro h;exact c2 ⟨h.1.2.2.1,h.1.2.2.2⟩)]
     rw[show (decide ((-9999)<=b.y)&&decide (b.y<=9999))=true by rw[<-BG];exact Ag c2,Ak];rw[show decide (X8 b)=true from Ag ⟨c1.1,c1.2,c2.1,c2.2⟩,Ba];cases decide (Ig n.blocks.length i (n.next.getD i [])/\(n.next.getD i []).length<=4)
     . simp
     . rw[Ak,if_pos rfl,w2])
   (λ hj=>by rw[Ex.eq_1,FE,Aj,Ar])
 exact h
theorem Atg(n:Nt)(m:List (List UInt8×Int))(hb:1<=n.blocks.length/\n.blocks.length<=24)(hl:n.spurs.length<=6):
   CA (Ey n) (m,[],(n.blocks.length:Int),0)=some (if (∀j,j<n.spurs.length->Sb n j=true) then Sum.inl (GR m (n.spurs.map C5.name),n.spurs.foldl LO [],(n.blocks.length:Int)+Db n.spurs,(n.spurs.length:Int)) else Sum.inr false):=by
 have Me:∀i,i<=n.spurs.length->(∀j,j<i->Sb n j=true)->0<=Db (n.spurs.take i)/\Db (n.spurs.take i)<=4*i:=by
   intro i hi hj;exact Ie n.blocks.length n.spurs i hi (λ j h=>by
     have:=hj j h;simp only[Sb,As,Au] at this;exact this.2)
 have h:=EY (step:=Ey n) n.spurs.length (λ i=>(GR m ((n.spurs.take i).map C5.name),(n.spurs.take i).foldl LO [],(n.blocks.length:Int)+Db (n.spurs.take i),(i:Int)))
   (Sum.inl (GR m (n.spurs.map C5.name),n.spurs.foldl LO [],(n.blocks.length:Int)+Db n.spurs,(n.spurs.length:Int))) (Sum.inr false) (λ i=>Sb n i)
   (λ i hi hj=>by
     have hs:=Me i (by omega) hj;rw[Ey.eq_1,EL hi,Ak,Cp n.spurs i Co hi,Aa];have w1:IntKind.i64.wrap ((n.blocks.length:Int) - 1)=(n.blocks.length:Int) - 1:=by rw[IntKind.wrap_i64];omega
     have w2:=CC (show i<10000000 by omega);simp only[Qb,Po,Aa,w1];have hnx:(GR m ((n.spurs.take (i+1)).map C5.name),(n.spurs.take (i+1)).foldl LO [],(n.blocks.length:Int)+Db (n.spurs.take (i+1)),((i+1:Nat):Int))=
         (Iz (GR m ((n.spurs.take i).map C5.name)) (n.spurs.getD i Co).name (IntKind.i64.wrap ((Eg (GR m ((n.spurs.take i).map C5.name)) (n.spurs.getD i Co).name).getD 0+1)),LO ((n.spurs.take i).foldl LO []) (n.spurs.getD i Co),(n.blocks.length:Int)+Db (n.spurs.take i)+(n.spurs.getD i Co).Cs,((i+1:Nat):Int)):=by
       rw[QO _ _ hi,CI n.spurs i Co hi,Bj,List.foldl_append,AH,BE,WL,Int.add_assoc];rfl
     rw[hnx];unfold Sb;generalize hse:n.spurs.getD i Co=s;cases c0:CY s.name
     . simp
     rw[Ak,Ba];by_cases c1:0<=s.HA/\s.HA<=(n.blocks.length:Int) - 1;rotate_left
     . have e1:(decide (0<=s.HA)&&decide (s.HA<=(n.blocks.length:Int) - 1))=false:=by rw[<-BG];exact Ah c1
       rw[e1,Aj,if_neg (by rw[Au];intro h;exact c1 ⟨h.1,by have:=h.2.1;omega⟩)]
     rw[show (decide (0<=s.HA)&&decide (s.HA<=(n.blocks.length:Int) - 1))=true by rw[<-BG];exact Ag c1,Ak];by_cases c2:0<=s.out/\s.out<=(n.blocks.length:Int) - 1;rotate_left
     . have e1:(decide (0<=s.out)&&decide (s.out<=(n.blocks.length:Int) - 1))=false:=by rw[<-BG];exact Ah c2
       rw[e1,Aj,if_neg (by rw[Au];intro h;exact c2 ⟨h.2.2.1,by have:=h.2.2.2.1;omega⟩)]
     rw[show (decide (0<=s.out)&&decide (s.out<=(n.blocks.length:Int) - 1))=true by rw[<-BG];exact Ag c2,Ak];by_cases c3:1<=s.Cs/\s.Cs<=4;rotate_left
     . have e1:(decide (1<=s.Cs)&&decide (s.Cs<=4))=false:=by rw[<-BG];exact Ah c3
       rw[e1,Aj,if_neg (by rw[Au];intro h;exact c3 ⟨h.2.2.2.2.1,h.2.2.2.2.2.1⟩)]
     rw[show (decide (1<=s.Cs)&&decide (s.Cs<=4))=true by rw[<-BG];exact Ag c3,Ak];by_cases c4:s.base=(n.blocks.length:Int)+Db (n.spurs.take i);rotate_left
     . rw[Ah c4,Aj,if_neg (by rw[Au];intro h;exact c4 h.2.2.2.2.2.2)]
     rw[Ag c4,Ak,if_pos (Ag ⟨c1.1,by omega,c2.1,by omega,c3.1,c3.2,c4⟩),<-c4,Apr s _ c3 (by omega),Aa,w2])
   (λ hj=>by rw[Ey.eq_1,FE,Aj,Ar])
 have e0:(m,([]:List (Int×Bool)),(n.blocks.length:Int),(0:Int))=(GR m ((n.spurs.take 0).map C5.name),(n.spurs.take 0).foldl LO [],(n.blocks.length:Int)+Db (n.spurs.take 0),((0:Nat):Int)):=by
   simp[GR,Db]
 rw[e0];exact h
theorem Api(n:Nt)(m:List (Int×Bool))(f:Int->Bool)(hm:MB m f)(ok:Bool)(hl:n.B5.length<=8):
   ∃m',CA (DZ n) (m,ok,0)=some (m',ok&&decide (∀i,i<n.B5.length->f (n.B5.getD i 0)=true/\n.B5.getD i 0∉n.B5.take i),(n.B5.length:Int)):=by
 have key:∀k,k<=n.B5.length->∃m',MB m' (λ x=>f x&&decide (x∉n.B5.take k))/\
     ∀r,CA (DZ n) (m',ok&&decide (∀i,i<k->f (n.B5.getD i 0)=true/\n.B5.getD i 0∉n.B5.take i),(k:Int))=some r->CA (DZ n) (m,ok,0)=some r:=by
   intro k
   induction k with
   | zero=>
     intro _;refine ⟨m,hm.congr λ x=>by simp,λ r hr=>?_⟩;simp only[AZ,false_implies,implies_true,decide_true,Bool.and_true] at hr;exact hr
   | succ k ih=>
     intro hk;obtain ⟨m',h1,h2⟩:=ih (by omega);refine ⟨Mj m' (n.B5.getD k 0),(h1.del _).congr λ x=>?_,λ r hr=>h2 r ?_⟩
     . rw[CI n.B5 k 0 (by omega),Bool.and_assoc]
       congr 1
       rw[Bn];simp[not_or]
     . have w2:=CC (show k<10000000 by omega);rw[CW,DZ.eq_1,EL (by omega),Ak,Cp n.B5 k 0 (by omega),Aa,w2];have hg:(I4 m' (n.B5.getD k 0)).getD false=(f (n.B5.getD k 0)&&decide (n.B5.getD k 0∉n.B5.take k)):=by
         rw[h1.2];split
         . rename_i e;simpa using e.symm
         . rename_i e;simpa using e
       have MN:decide (∀i,i<k+1->f (n.B5.getD i 0)=true/\n.B5.getD i 0∉n.B5.take i)=(decide (∀i,i<k->f (n.B5.getD i 0)=true/\n.B5.getD i 0∉n.B5.take i)&&(f (n.B5.getD k 0)&&decide (n.B5.getD k 0∉n.B5.take k))):=by
         rw[Bn];simp only[As,Au];constructor
         . intro h;exact ⟨λ i hi=>h i (by omega),h k (by omega)⟩
         . rintro ⟨h3,h4⟩ i hi;by_cases e:i=k
           . subst e;exact h4
           . exact h3 i (by omega)
       rw[MN] at hr;cases c:(ok&&decide (∀i,i<k->f (n.B5.getD i 0)=true/\n.B5.getD i 0∉n.B5.take i))
       . rw[Aj,Aa,B6];rw[<-Bool.and_assoc,c,Bool.false_and] at hr;exact hr
       . rw[Ak,Aa,B6,hg];rw[<-Bool.and_assoc,c,Ba] at hr;exact hr
 obtain ⟨m',h1,h2⟩:=key n.B5.length (Ai _);exact ⟨m',h2 _ (by rw[CW,DZ.eq_1,FE,Aj,Aa,BZ])⟩
theorem Ain(n:Nt)(m:List (Int×Bool))(hl:n.B5.length<=8):∃r,CA (EA n) (m,0)=some r:=by
 have key:∀k (m:List (Int×Bool)) i,i+k=n.B5.length->∃r,CA (EA n) (m,(i:Int))=some r:=by
   intro k
   induction k with
   | zero=>
     intro m i hi;obtain rfl:i=n.B5.length:=by omega
     exact ⟨_,by rw[CW,EA.eq_1,FE,Aj,Aa,BZ]⟩
   | succ k ih=>
     intro m i hi;have w2:=CC (show i<10000000 by omega);obtain ⟨r,hr⟩:=ih (Mj m (n.B5.getD i 0)) (i+1) (by omega);exact ⟨r,by rw[CW,EA.eq_1,EL (by omega),Ak,Cp n.B5 i 0 (by omega),Aa,w2,Aa,B6];exact hr⟩
 exact key n.B5.length m 0 (by omega)
theorem Tw(l:List (List UInt8)):l.Nodup↔∀i,i<l.length->∀k,k<i->l.getD i []≠l.getD k []:=by
 unfold List.Nodup;rw[List.pairwise_iff_getElem];constructor
 . intro h i hi k hk;have:=h k i (by omega) hi hk;rw[getD_eq hi,getD_eq (show k<l.length by omega)];exact Be this
 . intro h i j hi hj hij;have:=h j hj i hij;rw[getD_eq hi,getD_eq hj] at this;exact Be this
theorem Y0(n:Nt)(hs:Jp n):F4 n=some (decide (validN n)):=by
 obtain ⟨s1,⟨s2,s2'⟩,s3,s4⟩:=hs;have no:∀{r:Option Bool},¬validN n->r=some false->r=some (decide (validN n)):=λ h hr=>by rw[hr,Ah h]
 unfold F4;rw[Po,Aa];by_cases b1:1<=n.blocks.length/\n.blocks.length<=24;rotate_left
 . refine no (λ h=>b1 ⟨h.1.1,h.1.2.1⟩) ?_;rw[show (decide ((1:Int)<=((n.blocks.length:Nat):Int))&&decide (((n.blocks.length:Nat):Int)<=24))=false by rw[<-BG];exact Ah (by omega)];rfl
 rw[show (decide ((1:Int)<=((n.blocks.length:Nat):Int))&&decide (((n.blocks.length:Nat):Int)<=24))=true by rw[<-BG];exact Ag (by omega),Ak];by_cases b2:n.next.length=n.blocks.length
 rotate_left
 . refine no (λ h=>b2 h.1.2.2.1) ?_;rw[Ah (by omega),Aj]
 rw[Ag (by omega),Ak];by_cases b3:n.spurs.length<=6;rotate_left
 . refine no (λ h=>b3 h.2.1) ?_;rw[Ag (by omega),Ak]
 rw[Ah (by omega:¬(6:Int)<((n.spurs.length:Nat):Int)),Aj];by_cases b4:n.B5.length<=8;rotate_left
 . refine no (λ h=>b4 h.2.2.2.1) ?_;rw[Ag (by omega),Ak]
 rw[Ah (by omega:¬(8:Int)<((n.B5.length:Nat):Int)),Aj,U4,Aa];by_cases b5:IJ n.cq n.ca n.cd n.cp;rotate_left
 . refine no (λ h=>b5 h.2.2.2.2.1) ?_;rw[Ah b5,Aj]
 rw[Ag b5,Ak,Apj n b1.2 b2 s2',Aa];by_cases b6:∀j,j<n.blocks.length->Wj n j=true;rotate_left
 . refine no (λ h=>b6 λ j hj=>?_) ?_
   . have h1:=h.1.2.2.2 j hj;have h2:=(h.2.2.1 j (by simp[Dk];omega)).1;have h3:(Dk n).getD j []=(n.blocks.getD j FG).name:=by
       unfold Dk;simp[List.getD,AN,hj]
     rw[h3] at h2;simp only[Wj,As,Au];exact ⟨h2,h1.1,h1.2.2,h1.2.1⟩
   . rw[if_neg b6]
 rw[if_pos b6];simp only;rw[Atg n _ b1 b3,Aa];by_cases b7:∀j,j<n.spurs.length->Sb n j=true;rotate_left
 . refine no (λ h=>b7 λ j hj=>?_) ?_
   . have h1:=h.2.2.2.2.2.1 j hj;have h2:=(h.2.2.1 (n.blocks.length+j) (by simp[Dk];omega)).1;have h3:(Dk n).getD (n.blocks.length+j) []=(n.spurs.getD j Co).name:=by
       unfold Dk;simp[List.getD,AN,hj]
     rw[h3] at h2;simp only[Sb,As,Au];exact ⟨h2,h1⟩
   . rw[if_neg b7]
 rw[if_pos b7];simp only;have g6:∀j,j<n.blocks.length->CY (n.blocks.getD j FG).name=true/\X8 (n.blocks.getD j FG)/\(n.next.getD j []).length<=4/\Ig n.blocks.length j (n.next.getD j []):=λ j hj=>by
   have:=b6 j hj;simp only[Wj,As,Au] at this;exact ⟨this.1,this.2.1,this.2.2.2,this.2.2.1⟩
 have g7:∀j,j<n.spurs.length->CY (n.spurs.getD j Co).name=true/\L0 n.blocks.length (n.blocks.length+Db (n.spurs.take j)) (n.spurs.getD j Co):=λ j hj=>by
   have:=b7 j hj;simp only[Sb,As,Au] at this;exact this
 have Aku:∀s∈n.spurs,1<=s.Cs:=by
   intro s hs;obtain ⟨i,hi,rfl⟩:=List.getElem_of_mem hs;have:=(g7 i hi).2.2.2.2.2.1;rwa[getD_eq hi] at this
 have hM:=(MB.Ayk n.spurs MB.nil (λ s hs=>by have:=Aku s hs;omega)).congr (g:=λ x=>n.spurs.any (Md x)) (λ x=>by simp);have Alc:(0<(n.spurs.foldl LO []).length)↔0<(n.spurs.filter C5.Cz).length:=by
   rw[hM.pos,List.length_pos_iff_exists_mem];constructor
   . rintro ⟨x,hx⟩;obtain ⟨s,hs,h⟩:=AU.1 hx;refine ⟨s,List.mem_filter.2 ⟨hs,?_⟩⟩;unfold Md at h;simp only[As] at h;exact h.1
   . rintro ⟨s,hs⟩;obtain ⟨hs,hd⟩:=List.mem_filter.1 hs;refine ⟨s.base,AU.2 ⟨s,hs,?_⟩⟩;have:=Aku s hs;simp[Md,hd];omega
 have Zr:=WM (Dk n) [] (by simp);have Axy:GR (GR [] (n.blocks.map Eh.name)) (n.spurs.map C5.name)=GR [] (Dk n):=by rw[<-Ao9];rfl
 have N6:(Dk n).length=n.blocks.length+n.spurs.length:=by simp[Dk]
 rw[Axy];have w1:IntKind.i64.wrap (((n.blocks.length:Nat):Int)+((n.spurs.length:Nat):Int))=((n.blocks.length+n.spurs.length:Nat):Int):=by rw[IntKind.wrap_i64];omega
 have hnn:IA n↔(Dk n).Nodup:=by
   rw[Tw];constructor
   . intro h i hi k hk;exact (h i hi).2 k hk
   . intro h i hi;refine ⟨?_,λ k hk=>h i hi k hk⟩;by_cases hb:i<n.blocks.length
     . have h3:(Dk n).getD i []=(n.blocks.getD i FG).name:=by
         unfold Dk;simp[List.getD,AN,hb]
       rw[h3];exact (g6 i hb).1
     . have h3:(Dk n).getD i []=(n.spurs.getD (i - n.blocks.length) Co).name:=by
         unfold Dk;simp[List.getD,AN,hb,show i - n.blocks.length<n.spurs.length by omega]
       rw[h3];exact (g7 _ (by omega)).1
 have PZ:decide ((((GR [] (Dk n)).length:Nat):Int)=((n.blocks.length+n.spurs.length:Nat):Int))=decide (IA n):=by
   rw[Bn,Au,Au,hnn];have:=Zr.2.2;simp only[Ax,Bi,BE,Bs] at this;rw[<-this,N6];omega
 by_cases b8:0<(n.spurs.foldl LO []).length
 . rw[Ag (by omega:(0:Int)<(((n.spurs.foldl LO []).length:Nat):Int)),Ak,w1,PZ];obtain ⟨m',q0⟩:=Api n (n.spurs.foldl LO []) _ hM (decide (IA n)) b4;rw[q0,Aa];simp only
   congr 1
   rw[Bn,As,Au,Au,Au];constructor
   . rintro ⟨h1,h2⟩;exact ⟨⟨b1.1,b1.2,b2,λ i hi=>(g6 i hi).2⟩,b3,h1,b4,b5,λ i hi=>(g7 i hi).2,h2,Alc.1 b8⟩
   . intro h;exact ⟨h.2.2.1,h.2.2.2.2.2.2.1⟩
 . rw[Ah (by omega:¬(0:Int)<(((n.spurs.foldl LO []).length:Nat):Int)),Aj];obtain ⟨r,hr⟩:=Ain n (n.spurs.foldl LO []) b4;rw[hr,Aa];exact no (λ h=>b8 (Alc.2 h.2.2.2.2.2.2.2)) rfl
def La(a0:List (List Int))(v3:Int)(D1:List Int):Int->Option ((Int)⊕(Int⊕Int))
 | Mn=>cond (decide (Mn<((D1.length:Nat):Int))) (Option.bind (CL D1 Mn) λ x23=>cond (decide (x23<0)) (some (Sum.inr (.inr ((20:Int))))) (cond (decide (((a0.length:Nat):Int)<=x23)) (some (Sum.inr (.inr ((20:Int))))) (cond (decide (x23=v3)) (some (Sum.inr (.inr ((20:Int))))) (cond (decide (0<Mn)) (Option.bind (CL D1 (IntKind.i64.wrap (Mn - 1))) λ x31=>cond (decide (x23<=x31)) (some (Sum.inr (.inr ((20:Int))))) (some (Sum.inl (IntKind.i64.wrap (Mn+1))))) (some (Sum.inl (IntKind.i64.wrap (Mn+1)))))))) (some (Sum.inr (.inl Mn)))
def K9(a0:List (List Int)):Int->Option ((Int)⊕(Int⊕Int))
 | v3=>cond (decide (v3<((a0.length:Nat):Int))) (Option.bind (CL a0 v3) λ D1=>Option.bind (CA (La a0 v3 D1) 0) (λ | .inl v36=>some (Sum.inl (IntKind.i64.wrap (v3+1))) | .inr (r37)=>some (Sum.inr (.inr (r37))))) (some (Sum.inr (.inl v3)))
def E8(a0:List (List Int))(a1:List Bool):Option (Int):=
 cond (decide (24<((a0.length:Nat):Int))) (some 20) (Option.bind (CA (K9 a0) 0) (λ | .inl v38=>cond (decide (((a1.length:Nat):Int)=((a0.length:Nat):Int))) (some 0) (some 19) | .inr (r40)=>some r40))
theorem UG(a0:List (List Int))(a1:List Bool)(r:Int)(hr:E8 a0 a1=some r):
   B1 prog 116 [.p (.sl (Cj a0)),.p (.sl (C1 a1))] [] λ h d=>h=[]/\d= .p (.int .i64 r):=by
 refine B0 func116 rfl Agp (by simp[Tryz.f116]) ?_;unfold E8 at hr;cases c1:decide (24<((a0.length:Nat):Int))
 . simp only[c1,Aj] at hr;obtain ⟨e7,g8,hr⟩:=bE hr;(try simp only[go_sem,c1]);refine CP g8 (λ q:Int=>⟨[(0,.p (.sl (Cj a0))),(1,.p (.sl (C1 a1))),(12,.p (.sl (Cj a0))),(13,.p (.int .i64 ((a0.length:Nat):Int))),(14,.p (.int .i64 q))],[],59⟩) ((Wk.forget (by simp[ZF,ZE]))) ?_;rintro v3 m6 D2 Vh;rw[K9.eq_1] at D2;cases c9:decide (v3<((a0.length:Nat):Int))
   . simp only[c9,Aj] at D2;simp only[Aa,BZ] at D2;cases D2;(try dsimp only at hr);cases IW:decide (((a1.length:Nat):Int)=((a0.length:Nat):Int))
     . simp only[IW,Aj] at hr;cases hr;(try simp only[go_sem,c9,IW]);all_goals ((try refine BX ?_);(try simp only[go_sem,c9,IW]);try first | rfl | exact ⟨rfl,rfl⟩ | (simp;done))
     simp only[IW,Ak] at hr;cases hr;(try simp only[go_sem,c9,IW]);all_goals ((try refine BX ?_);(try simp only[go_sem,c9,IW]);try first | rfl | exact ⟨rfl,rfl⟩ | (simp;done))
   simp only[c9,Ak] at D2;obtain ⟨D1,g12,D2⟩:=bK D2;have f13:=B8 g12;have f14:(Cj a0).getD (Int.toNat v3) []=[(.sl (BY D1))]:=B9 _ g12;obtain ⟨e20,g21,D2⟩:=bK D2;(try simp only[go_sem,c9,f13,f14]);refine CP g21 (λ q:Int=>⟨[(0,.p (.sl (Cj a0))),(1,.p (.sl (C1 a1))),(5,.p (.int .i64 v3)),(6,.p (.sl (BY D1))),(12,.p (.sl (Cj a0))),(13,.p (.int .i64 ((a0.length:Nat):Int))),(14,.p (.int .i64 v3)),(19,.p (.sl (BY D1))),(20,.p (.int .i64 ((D1.length:Nat):Int))),(21,.p (.int .i64 q))],[],59⟩) ((Wk.forget (by simp[ZF,ZE]))) ?_;rintro Mn m19 Ef Aqo;rw[La.eq_1] at Ef;cases IK:decide (Mn<((D1.length:Nat):Int))
   . simp only[IK,Aj] at Ef;simp only[Aa,BZ] at Ef;cases Ef;(try dsimp only at D2);simp only[Aa,B6] at D2;(try simp only[go_sem,IK]);exact Vh (IntKind.i64.wrap (v3+1)) _ D2 ((Wk.forget (by simp[ZF,ZE])))
   simp only[IK,Ak] at Ef;obtain ⟨x23,g24,Ef⟩:=bK Ef;have f25:=B8 g24;have f26:(BY D1).getD (Int.toNat Mn) []=[(.int .i64 x23)]:=B9 _ g24;cases Yl:decide (x23<0)
   . simp only[Yl,Aj] at Ef;cases WR:decide (((a0.length:Nat):Int)<=x23)
     . simp only[WR,Aj] at Ef;cases J5:decide (x23=v3)
       . simp only[J5,Aj] at Ef;cases JN:decide (0<Mn)
         . simp only[JN,Aj] at Ef;simp only[Aa,B6] at Ef;(try simp only[go_sem,IK,f25,f26,Yl,WR,J5,JN]);exact Aqo (IntKind.i64.wrap (Mn+1)) _ Ef ((Wk.forget (by simp[ZF,ZE])))
         simp only[JN,Ak] at Ef;obtain ⟨x31,g32,Ef⟩:=bK Ef;have f33:=B8 g32;have f34:(BY D1).getD (Int.toNat (IntKind.i64.wrap (Mn - 1))) []=[(.int .i64 x31)]:=B9 _ g32;cases c35:decide (x23<=x31)
         . simp only[c35,Aj] at Ef;simp only[Aa,B6] at Ef;(try simp only[go_sem,IK,f25,f26,Yl,WR,J5,JN,f33,f34,c35]);exact Aqo (IntKind.i64.wrap (Mn+1)) _ Ef ((Wk.forget (by simp[ZF,ZE])))
         simp only[c35,Ak] at Ef;simp only[Aa,BZ] at Ef;cases Ef;(try dsimp only at D2);simp only[Aa,BZ] at D2;cases D2;(try dsimp only at hr);cases hr;(try simp only[go_sem,IK,f25,f26,Yl,WR,J5,JN,f33,f34,c35]);all_goals ((try refine BX ?_);(try simp only[go_sem,IK,f25,f26,Yl,WR,J5,JN,f33,f34,c35]);try first | rfl | exact ⟨rfl,rfl⟩ | (simp;done))
       simp only[J5,Ak] at Ef;simp only[Aa,BZ] at Ef;cases Ef;(try dsimp only at D2);simp only[Aa,BZ] at D2;cases D2;(try dsimp only at hr);cases hr;(try simp only[go_sem,IK,f25,f26,Yl,WR,J5]);all_goals ((try refine BX ?_);(try simp only[go_sem,IK,f25,f26,Yl,WR,J5]);try first | rfl | exact ⟨rfl,rfl⟩ | (simp;done))
     simp only[WR,Ak] at Ef;simp only[Aa,BZ] at Ef;cases Ef;(try dsimp only at D2);simp only[Aa,BZ] at D2;cases D2;(try dsimp only at hr);cases hr;(try simp only[go_sem,IK,f25,f26,Yl,WR]);all_goals ((try refine BX ?_);(try simp only[go_sem,IK,f25,f26,Yl,WR]);try first | rfl | exact ⟨rfl,rfl⟩ | (simp;done))
   simp only[Yl,Ak] at Ef;simp only[Aa,BZ] at Ef;cases Ef;(try dsimp only at D2);simp only[Aa,BZ] at D2;cases D2;(try dsimp only at hr);cases hr;(try simp only[go_sem,IK,f25,f26,Yl]);all_goals ((try refine BX ?_);(try simp only[go_sem,IK,f25,f26,Yl]);try first | rfl | exact ⟨rfl,rfl⟩ | (simp;done))
 simp only[c1,Ak] at hr;cases hr;try simp only[go_sem,c1]
 all_goals ((try refine BX ?_);(try simp only[go_sem,c1]);try first | rfl | exact ⟨rfl,rfl⟩ | (simp;done))
def Ky(a0:List Int)(a1:Int):Int->Option ((Int)⊕(Int⊕Int))
 | v2=>cond (decide (v2<((a0.length:Nat):Int))) (Option.bind (CL a0 v2) λ x9=>cond (decide (a1=x9)) (some (Sum.inr (.inr ((v2:Int))))) (some (Sum.inl (IntKind.i64.wrap (v2+1))))) (some (Sum.inr (.inl v2)))
def Pt(a0:List Int)(a1:Int):Option (Int):=
 Option.bind (CA (Ky a0 a1) 0) (λ | .inl Oz=>some (-1) | .inr (r15)=>some r15)
theorem Aa3(a0:List Int)(a1:Int)(r:Int)(hr:Pt a0 a1=some r):
   B1 prog 171 [.p (.sl (BY a0)),.p (.int .i64 a1)] [] λ h d=>h=[]/\d= .p (.int .i64 r):=by
 refine B0 func171 rfl Ww (by simp[Tryz.f171]) ?_;unfold Pt at hr;obtain ⟨e6,g7,hr⟩:=bE hr;try simp only[go_sem]
 refine CP g7 (λ q:Int=>⟨[(0,.p (.sl (BY a0))),(1,.p (.int .i64 a1)),(7,.p (.int .i64 ((a0.length:Nat):Int))),(8,.p (.int .i64 q))],[],19⟩) ((Wk.forget (by simp[ZF,ZE]))) ?_;rintro v2 m5 F7 R1;rw[Ky.eq_1] at F7;cases c8:decide (v2<((a0.length:Nat):Int))
 . simp only[c8,Aj] at F7;simp only[Aa,BZ] at F7;cases F7;(try dsimp only at hr);cases hr;(try simp only[go_sem,c8]);all_goals ((try refine BX ?_);(try simp only[go_sem,c8]);try first | rfl | exact ⟨rfl,rfl⟩ | (simp;done))
 simp only[c8,Ak] at F7;obtain ⟨x9,g10,F7⟩:=bK F7;have f11:=B8 g10;have f12:(BY a0).getD (Int.toNat v2) []=[(.int .i64 x9)]:=B9 _ g10;cases LR:decide (a1=x9)
 . simp only[LR,Aj] at F7;simp only[Aa,B6] at F7;(try simp only[go_sem,c8,f11,f12,LR]);exact R1 (IntKind.i64.wrap (v2+1)) _ F7 ((Wk.forget (by simp[ZF,ZE])))
 simp only[LR,Ak] at F7;simp only[Aa,BZ] at F7;cases F7;try dsimp only at hr
 cases hr;try simp only[go_sem,c8,f11,f12,LR]
 all_goals ((try refine BX ?_);(try simp only[go_sem,c8,f11,f12,LR]);try first | rfl | exact ⟨rfl,rfl⟩ | (simp;done))
def Ps(a0:List Int):Int×Int->Option ((Int×Int)⊕((Int×Int)))
 | (v8,v9)=>cond (decide (v9<((a0.length:Nat):Int))) (Option.bind (CL a0 v9) λ Ov=>some (Sum.inl ((if Ov<v8 then Ov else v8),(IntKind.i64.wrap (v9+1))))) (some (Sum.inr (v8,v9)))
def W9(a0:List Int):Option (Int):=
 cond (decide (((a0.length:Nat):Int)<1)) none (Option.bind (CL a0 0) λ x2=>Option.bind (CA (Ps a0) (x2,1)) (λ (v20,v21)=>some v20))
theorem Ajd(a0:List Int)(r:Int)(hr:W9 a0=some r):
   B1 prog 179 [.p (.sl (BY a0))] [] λ h d=>h=[]/\d= .p (.int .i64 r):=by
 refine B0 func179 rfl Afs (by simp[Tryz.f179]) ?_;unfold W9 at hr;cases c1:decide (((a0.length:Nat):Int)<1)
 . simp only[c1,Aj] at hr;obtain ⟨x2,g3,hr⟩:=bE hr;have f4:=B8 g3;have f5:(BY a0).getD 0 []=[(.int .i64 x2)]:=B9 _ g3;obtain ⟨e13,g14,hr⟩:=bE hr;(try simp only[go_sem,c1,f4,f5]);refine CP g14 (λ q:Int×Int=>⟨[(0,.p (.sl (BY a0))),(3,.p (.int .i64 q.1)),(4,.p (.int .i64 q.2))],[],25⟩) ((Wk.forget (by simp[ZF,ZE]))) ?_;rintro ⟨v8,v9⟩ m12 XE Bap;rw[Ps.eq_1] at XE;cases IV:decide (v9<((a0.length:Nat):Int))
   . simp only[IV,Aj] at XE;simp only[Aa,BZ] at XE;cases XE;(try dsimp only at hr);cases hr;(try simp only[go_sem,IV]);all_goals ((try refine BX ?_);(try simp only[go_sem,IV]);try first | rfl | exact ⟨rfl,rfl⟩ | (simp;done))
   simp only[IV,Ak] at XE;obtain ⟨Ov,g17,XE⟩:=bK XE;have f18:=B8 g17;have f19:(BY a0).getD (Int.toNat v9) []=[(.int .i64 Ov)]:=B9 _ g17;simp only[Aa,B6] at XE;(try simp only[go_sem,IV,f18,f19]);exact Bap ((if Ov<v8 then Ov else v8),(IntKind.i64.wrap (v9+1))) _ XE ((Wk.forget (by simp[ZF,ZE])))
 simp only[c1,Ak] at hr;simp at hr
def okE(n v:Nat)(r:List Int)(i:Nat):Bool:=!decide (r.getD i 0<0)&&!decide ((n:Int)<=r.getD i 0)&&!decide (r.getD i 0=(v:Int))&&(decide (i=0)||!decide (r.getD i 0<=r.getD (i - 1) 0))
def UY(n v:Nat)(r:List Int):Prop:=∀i,i<r.length->okE n v r i=true
instance (n v:Nat) (r:List Int):Decidable (UY n v r):=by unfold UY;infer_instance
theorem cL1(g:List (List Int))(v:Nat)(r:List Int)(hr:r.length<=2000000):
   CA (La g (v:Nat) r) 0=some (if UY g.length v r then .inl ((r.length:Nat):Int) else .inr 20):=by
 refine EY r.length (λ i=>((i:Nat):Int)) _ _ (okE g.length v r) ?_ ?_
 . intro i hi _;rw[La.eq_1,EL hi,Ak,Cp r i 0 hi,Aa];unfold okE;cases c1:decide (r.getD i 0<0)
   . cases c2:decide ((g.length:Int)<=r.getD i 0)
     . cases c3:decide (r.getD i 0=(v:Int))
       . rcases i with _ | i
         . have c4:decide (0<(((0:Nat):Int)))=false:=by decide
           simp only[Aj,c4];rw[CC (by omega)];simp
         . have c4:decide (0<(((i+1:Nat):Int)))=true:=Ag (by omega);have e1:IntKind.i64.wrap (((i+1:Nat):Int) - 1)=((i:Nat):Int):=by
             simp[IntKind.wrap,IntKind.bits,IntKind.signed];omega
           simp only[Aj,Ak,c4,e1];rw[Cp r i 0 (by omega),Aa,CC (by omega)];have e2:i+1 - 1=i:=rfl;rw[e2];cases c5:decide (r.getD (i+1) 0<=r.getD i 0)<;>simp
       . simp
     . simp
   . simp
 . intro _;rw[La.eq_1,FE,Aj]
theorem cL2(g:List (List Int))(hn:g.length<=2000000)(hr:∀v,v<g.length->(g.getD v []).length<=2000000):
   CA (K9 g) 0=some (if ∀v,v<g.length->decide (UY g.length v (g.getD v []))=true then .inl ((g.length:Nat):Int) else .inr 20):=by
 refine EY g.length (λ i=>((i:Nat):Int)) _ _ (λ v=>decide (UY g.length v (g.getD v []))) ?_ ?_
 . intro v hv _;rw[K9.eq_1,EL hv,Ak,Cp g v [] hv,Aa,cL1 g v _ (hr v hv),Aa];by_cases h:UY g.length v (g.getD v [])
   . rw[if_pos h,if_pos (Ag h)];simp only;rw[CC (by omega)]
   . rw[if_neg h,if_neg (λ h9=>h (Ad h9))]
 . intro _;rw[K9.eq_1,FE,Aj]
theorem RB(g:List (List Int))(sh:List Bool)(hr:∀v,v<g.length->(g.getD v []).length<=2000000):
   E8 g sh=some (if 24<g.length then 20 else if ∀v,v<g.length->decide (UY g.length v (g.getD v []))=true then (if sh.length=g.length then 0 else 19) else 20):=by
 unfold E8;by_cases h1:24<g.length
 . rw[if_pos h1,Ag (by omega),Ak]
 . rw[if_neg h1,Ah (by omega),Aj,cL2 g (by omega) hr,Aa];by_cases h2:∀v,v<g.length->decide (UY g.length v (g.getD v []))=true
   . rw[if_pos h2,if_pos h2];simp only;by_cases h3:sh.length=g.length
     . rw[if_pos h3,Ag (by omega),Ak]
     . rw[if_neg h3,Ah (by omega),Aj]
   . rw[if_neg h2,if_neg h2]
theorem Aq6{n v:Nat}{r:List Int}(h:UY n v r)(k:Nat)(hk:k<r.length):∃w:Nat,r.getD k 0=(w:Int)/\w<n:=by
 have:=h k hk;unfold okE at this;simp only[As,BA,A6] at this;obtain ⟨⟨⟨h1,h2⟩,_⟩,_⟩:=this;exact ⟨(r.getD k 0).toNat,by omega,by omega⟩
theorem Ahs{g:List (List Int)}{sh:List Bool}(hr:∀v,v<g.length->(g.getD v []).length<=2000000)(h:E8 g sh=some 0):
   g.length<=24/\sh.length=g.length/\∀v k,k<(g.getD v []).length->∃w:Nat,(g.getD v []).getD k 0=(w:Int)/\w<g.length:=by
 rw[RB g sh hr] at h;have h:=Ac h;split at h
 . cases h
 rename_i h1;split at h
 case isFalse=>cases h
 rename_i h2;split at h
 case isFalse=>cases h
 rename_i h3;refine ⟨by omega,h3,λ v k hk=>?_⟩;by_cases hv:v<g.length
 . exact Aq6 (Ad (h2 v hv)) k hk
 . rw[List.getD,List.getElem?_eq_none (by omega)] at hk;exact absurd hk (AZ _)
def Ed(g:List (List Int))(sh:List Bool)(v w:Nat):Prop:=(w:Int)∈g.getD v []/\sh.getD w false=false
inductive IY (g:List (List Int)) (sh:List Bool):Nat->Nat->Prop
 | refl (v:Nat):IY g sh v v
 | tail {u v w:Nat} (h:IY g sh u v) (e:Ed g sh v w):IY g sh u w
theorem IY.trans{g:List (List Int)}{sh:List Bool}{u v w:Nat}(h:IY g sh u v)(k:IY g sh v w):IY g sh u w:=by
 induction k with
 | refl=>exact h
 | tail _ e ih=>exact ih.tail e
def RF(g:List (List Int))(sh:List Bool)(v:Nat)(x:Int):Prop:=∃y:Nat,x=(y:Int)/\IY g sh v y/\IY g sh y v/\∀z,IY g sh v z->IY g sh z v->y<=z
structure Sr where
 seen:List Nat
 low:List Nat
 at_:List Nat
 path:List Nat
 held:List Nat
 count:Nat
 names:List Int
def Sr.sn(s:Sr)(v:Nat):Nat:=s.seen.getD v 0
def Sr.lw(s:Sr)(v:Nat):Nat:=s.low.getD v 0
def Sr.ad(s:Sr)(v:Nat):Nat:=s.at_.getD v 0
def Sr.nm(s:Sr)(v:Nat):Int:=s.names.getD v (-1)
structure TJ(g:List (List Int))(sh:List Bool)(Vc:Nat->Prop)(s:Sr):Prop where
 l1:s.seen.length=g.length
 l2:s.low.length=g.length
 l3:s.at_.length=g.length
 l4:s.names.length=g.length
 rng:∀v k,k<(g.getD v []).length->∃w:Nat,(g.getD v []).getD k 0=(w:Int)/\w<g.length
 j6:∀v,s.sn v<=s.count
 inj:∀v w,s.sn v=s.sn w->s.sn v≠0->v=w
 Yb:∀v,s.sn v≠0->v<g.length/\sh.getD v false=false
 at0:∀v,s.sn v=0->s.ad v=0
 atl:∀v,s.ad v<=(g.getD v []).length
 NJ:∀v,v∈s.held↔s.sn v≠0/\s.nm v<0
 hso:s.held.Pairwise λ a b=>s.sn a<s.sn b
 UX:∀p∈s.path,p∈s.held
 pso:s.path.Pairwise λ a b=>s.sn a<s.sn b
 SN:∀v,0<=s.nm v->s.sn v≠0/\RF g sh v (s.nm v)
 nmc:∀v w,0<=s.nm v->Ed g sh v w->0<=s.nm w
 fin:∀x∈s.held,x∉s.path->s.ad x=(g.getD x []).length/\s.lw x<s.sn x
 edg:∀x∈s.held,∀k,k<s.ad x->∀w:Nat,(g.getD x []).getD k 0=(w:Int)->sh.getD w false=false->(s.sn w=0->Vc w)/\(w∈s.held->s.lw x<=s.sn w)
 low:∀x∈s.held,s.lw x<=s.sn x/\∃u∈s.held,s.sn u=s.lw x/\IY g sh x u
 rch:∀p∈s.path,∀x∈s.held,s.sn p<=s.sn x->IY g sh p x
 own:∀p∈s.path,∀x∈s.held,x∉s.path->s.sn p<s.sn x->(∀q∈s.path,s.sn q<=s.sn x->s.sn q<=s.sn p)->s.lw p<=s.lw x
 anc:∀x∈s.held,∃p∈s.path,s.sn p<=s.sn x
 nmx:∀v,s.nm v<0->s.nm v=-1
def Sr.enter(s:Sr)(v:Nat):Sr:={s with count:=s.count+1,seen:=s.seen.set v (s.count+1),low:=s.low.set v (s.count+1),path:=s.path++[v],held:=s.held++[v]}
def PD:Nat->Prop:=λ _=>False
theorem TJ.enter{g:List (List Int)}{sh:List Bool}{s:Sr}{v:Nat}(h:TJ g sh (λ w=>w=v) s)(hv:v<g.length)(ho:sh.getD v false=false)(h0:s.sn v=0)(hp:∀p∈s.path,IY g sh p v):TJ g sh PD (s.enter v):=by
 have Ee:∀w,(s.enter v).sn w=if w=v then s.count+1 else s.sn w:=λ w=>E2 _ _ _ _ _ (by rw[h.l1];exact hv)
 have lw':∀w,(s.enter v).lw w=if w=v then s.count+1 else s.lw w:=λ w=>E2 _ _ _ _ _ (by rw[h.l2];exact hv)
 have QA:v∉s.held:=λ hm=>((h.NJ v).1 hm).1 h0;have Dl:∀x∈s.held,x≠v:=λ x hx e=>QA (e ▸ hx);have mh:∀x,x∈(s.enter v).held↔x∈s.held∨x=v:=λ x=>by simp[Sr.enter]
 have mp:∀x,x∈(s.enter v).path↔x∈s.path∨x=v:=λ x=>by simp[Sr.enter]
 have VM:∀x∈s.held,(s.enter v).sn x=s.sn x:=λ x hx=>by rw[Ee,if_neg (Dl x hx)]
 have lwh:∀x∈s.held,(s.enter v).lw x=s.lw x:=λ x hx=>by rw[lw',if_neg (Dl x hx)]
 have snv:(s.enter v).sn v=s.count+1:=by rw[Ee,if_pos rfl]
 have lwv:(s.enter v).lw v=s.count+1:=by rw[lw',if_pos rfl]
 have nmv:s.nm v<0:=by
   rcases Int.lt_or_le (s.nm v) 0 with h1 | h1
   . exact h1
   . exact absurd h0 (h.SN v h1).1
 refine ⟨by simp[Sr.enter,h.l1],by simp[Sr.enter,h.l2],h.l3,h.l4,h.rng,?_,?_,?_,?_,h.atl,?_,?_,?_,?_,?_,h.nmc,?_,?_,?_,?_,?_,?_,h.nmx⟩
 . intro w;rw[Ee];have:=h.j6 w;show _<=s.count+1;split<;>omega
 . intro a b;rw[Ee,Ee];have ha:=h.j6 a;have hb:=h.j6 b
   by_cases e1:a=v
   . by_cases e2:b=v
     . intros;omega
     . rw[if_pos e1,if_neg e2];intros;omega
   . by_cases e2:b=v
     . rw[if_neg e1,if_pos e2];intros;omega
     . rw[if_neg e1,if_neg e2];exact h.inj a b
 . intro w;rw[Ee];split
   . rename_i e;subst e;exact λ _=>⟨hv,ho⟩
   . exact h.Yb w
 . intro w;rw[Ee];split
   . intro;omega
   . exact h.at0 w
 . intro w;rw[mh,Ee];by_cases e:w=v
   . subst e;simp only[or_true,AP,true_iff];exact ⟨by omega,nmv⟩
   . rw[if_neg e];simp only[e,or_false];rw[h.NJ];exact Iff.rfl
 . show (s.held++[v]).Pairwise _
   rw[BK];refine ⟨?_,by simp,λ a ha b hb=>?_⟩
   . exact List.Pairwise.imp_of_mem (λ ha hb Vp=>by rw[VM _ ha,VM _ hb];exact Vp) h.hso
   . rw[Aw.1 hb,VM a ha,snv];have:=h.j6 a;omega
 . intro p hp';rw[mh];rcases (mp p).1 hp' with h1 | h1
   . exact .inl (h.UX p h1)
   . exact .inr h1
 . show (s.path++[v]).Pairwise _
   rw[BK];refine ⟨?_,by simp,λ a ha b hb=>?_⟩
   . exact List.Pairwise.imp_of_mem (λ ha hb Vp=>by rw[VM _ (h.UX _ ha),VM _ (h.UX _ hb)];exact Vp) h.pso
   . rw[Aw.1 hb,VM a (h.UX a ha),snv];have:=h.j6 a;omega
 . intro w hw;have:=h.SN w hw;refine ⟨?_,this.2⟩;rw[Ee];split
   . omega
   . exact this.1
 . intro x TU hp';rcases (mh x).1 TU with h1 | h1
   . have Mf:x∉s.path:=λ hm=>hp' ((mp x).2 (.inl hm));rw[lwh x h1,VM x h1];exact h.fin x h1 Mf
   . exact absurd ((mp x).2 (.inr h1)) hp'
 . intro x TU k hk w hw how;have hk':k<s.ad x:=hk;rcases (mh x).1 TU with h1 | h1
   . obtain ⟨a,b⟩:=h.edg x h1 k hk' w hw how;by_cases Xv:w=v
     . rw[Ee,if_pos Xv,lwh x h1];have h3:=(h.low x h1).1;have h4:=h.j6 x;exact ⟨λ h=>by omega,λ _=>by omega⟩
     . rw[Ee,if_neg Xv,lwh x h1];refine ⟨λ h5=>absurd (a h5) Xv,λ hm=>?_⟩;rcases (mh w).1 hm with h2 | h2
       . exact b h2
       . exact absurd h2 Xv
   . subst h1;have:=h.at0 x h0;omega
 . intro x TU;rcases (mh x).1 TU with h1 | h1
   . obtain ⟨a,u,b,c,d⟩:=h.low x h1;rw[lwh x h1,VM x h1];exact ⟨a,u,(mh u).2 (.inl b),by rw[VM u b];exact c,d⟩
   . subst h1;rw[lwv,snv];exact ⟨Ai _,x,(mh x).2 (.inr rfl),snv,.refl x⟩
 . intro p hp' x TU;rcases (mp p).1 hp' with h1 | h1
   . rcases (mh x).1 TU with h2 | h2
     . rw[VM p (h.UX p h1),VM x h2];exact h.rch p h1 x h2
     . subst h2;intro _;exact hp p h1
   . subst h1;rcases (mh x).1 TU with h2 | h2
     . rw[snv,VM x h2];have:=h.j6 x;intro;omega
     . subst h2;intro _;exact .refl x
 . intro p hp' x TU Mf Cr hq;rcases (mh x).1 TU with h2 | h2
   . have Bb7:x∉s.path:=λ hm=>Mf ((mp x).2 (.inl hm));rcases (mp p).1 hp' with h1 | h1
     . rw[lwh p (h.UX p h1),lwh x h2];rw[VM p (h.UX p h1),VM x h2] at Cr;refine h.own p h1 x h2 Bb7 Cr λ q TW Vk=>?_;have:=hq q ((mp q).2 (.inl TW));rw[VM q (h.UX q TW),VM x h2,VM p (h.UX p h1)] at this;exact this Vk
     . subst h1;rw[snv,VM x h2] at Cr;have:=h.j6 x;omega
   . exact absurd ((mp x).2 (.inr h2)) Mf
 . intro x TU;rcases (mh x).1 TU with h2 | h2
   . obtain ⟨p,h3,h4⟩:=h.anc x h2;exact ⟨p,(mp p).2 (.inl h3),by rw[VM p (h.UX p h3),VM x h2];exact h4⟩
   . exact ⟨v,(mp v).2 (.inr rfl),by rw[h2];exact Ai _⟩
theorem TJ.last{g:List (List Int)}{sh:List Bool}{Vc:Nat->Prop}{s:Sr}(h:TJ g sh Vc s){ps:List Nat}{v:Nat}(hp:s.path=ps++[v]):v∈s.path/\v∈s.held/\v<g.length/\sh.getD v false=false/\(∀q∈s.path,s.sn q<=s.sn v)/\(∀q∈ps,s.sn q<s.sn v)/\v∉ps:=by
 have hv:v∈s.path:=by rw[hp];simp
 have hh:=h.UX v hv;have ho:=h.Yb v ((h.NJ v).1 hh).1;have Cr:∀q∈ps,s.sn q<s.sn v:=by
   have:=h.pso;rw[hp,BK] at this;exact λ q hq=>this.2.2 q hq v (by simp)
 refine ⟨hv,hh,ho.1,ho.2,λ q hq=>?_,Cr,λ hm=>?_⟩
 . rw[hp] at hq;rcases Av.1 hq with h1 | h1
   . exact Nat.le_of_lt (Cr q h1)
   . rw[Aw.1 h1];exact Ai _
 . have:=Cr v hm;omega
theorem TJ.step{g:List (List Int)}{sh:List Bool}{s s':Sr}{Vc:Nat->Prop}(h:TJ g sh PD s){ps:List Nat}{v w L:Nat}(hp:s.path=ps++[v])(hk:s.ad v<(g.getD v []).length)(hw:(g.getD v []).getD (s.ad v) 0=(w:Int))
   (e1:s'.seen=s.seen) (e2:∀x,s'.lw x=if x=v then L else s.lw x) (e2':s'.low.length=s.low.length) (e3:∀x,s'.ad x=if x=v then s.ad v+1 else s.ad x) (e3':s'.at_.length=s.at_.length)
   (e4:s'.path=s.path) (e5:s'.held=s.held) (e6:s'.count=s.count) (e7:s'.names=s.names)
   (hL:L<=s.lw v) (hu:∃u∈s.held,s.sn u=L/\IY g sh v u) (hq:sh.getD w false=false->(s.sn w=0->Vc w)/\(w∈s.held->L<=s.sn w)):TJ g sh Vc s':=by
 obtain ⟨hvp,QA,Ip,Yg,TZ,_,_⟩:=h.last hp;have Ee:∀x,s'.sn x=s.sn x:=λ x=>by unfold Sr.sn;rw[e1]
 have nm':∀x,s'.nm x=s.nm x:=λ x=>by unfold Sr.nm;rw[e7]
 refine ⟨by rw[e1];exact h.l1,by rw[e2'];exact h.l2,by rw[e3'];exact h.l3,by rw[e7];exact h.l4,h.rng,?_,?_,?_,?_,?_,?_,?_,?_,?_,?_,?_,?_,?_,?_,?_,?_,?_,λ x=>by rw[nm'];exact h.nmx x⟩
 . intro x;rw[Ee,e6];exact h.j6 x
 . intro a b;rw[Ee,Ee];exact h.inj a b
 . intro x;rw[Ee];exact h.Yb x
 . intro x;rw[Ee,e3];split
   . rename_i e;subst e;intro h0;exact absurd h0 ((h.NJ x).1 QA).1
   . exact h.at0 x
 . intro x;rw[e3];split
   . rename_i e;subst e;omega
   . exact h.atl x
 . intro x;rw[e5,Ee,nm'];exact h.NJ x
 . rw[e5];exact h.hso.imp λ Vp=>by rw[Ee,Ee];exact Vp
 . rw[e4,e5];exact h.UX
 . rw[e4];exact h.pso.imp λ Vp=>by rw[Ee,Ee];exact Vp
 . intro x;rw[nm',Ee];exact h.SN x
 . intro x y;rw[nm',nm'];exact h.nmc x y
 . intro x hx Mf;rw[e5] at hx;rw[e4] at Mf;have Dl:x≠v:=λ e=>Mf (e ▸ hvp);rw[e3,e2,Ee,if_neg Dl,if_neg Dl];exact h.fin x hx Mf
 . intro x hx k hk' y hy hyo;rw[e5] at hx;rw[e3] at hk';rw[Ee,e5,e2];by_cases p5:x=v
   . subst p5;rw[if_pos rfl] at hk' ⊢;by_cases IP:k=s.ad x
     . subst IP;rw[hw] at hy;obtain rfl:w=y:=by omega
       exact hq hyo
     . obtain ⟨a,b⟩:=h.edg x hx k (by omega) y hy hyo;exact ⟨λ h0=>(a h0).elim,λ hm=>Br hL (b hm)⟩
   . rw[if_neg p5] at hk' ⊢;obtain ⟨a,b⟩:=h.edg x hx k hk' y hy hyo;exact ⟨λ h0=>(a h0).elim,b⟩
 . intro x hx;rw[e5] at hx;obtain ⟨a,u,b,c,d⟩:=h.low x hx;rw[e2,Ee];by_cases p5:x=v
   . subst p5;rw[if_pos rfl];obtain ⟨u2,b2,c2,d2⟩:=hu;exact ⟨by omega,u2,by rw[e5];exact b2,by rw[Ee];exact c2,d2⟩
   . rw[if_neg p5];exact ⟨a,u,by rw[e5];exact b,by rw[Ee];exact c,d⟩
 . intro p hp' x hx;rw[e4] at hp';rw[e5] at hx;rw[Ee,Ee];exact h.rch p hp' x hx
 . intro p hp' x hx Mf Cr Yj;rw[e4] at hp' Mf Yj;rw[e5] at hx;rw[Ee,Ee] at Cr;have Dl:x≠v:=λ e=>Mf (e ▸ hvp);have:=h.own p hp' x hx Mf Cr λ q h1 h2=>by have:=Yj q h1;rw[Ee,Ee,Ee] at this;exact this h2
   rw[e2,e2,if_neg Dl];split
   . rename_i e;subst e;omega
   . exact this
 . intro x hx;rw[e5] at hx;obtain ⟨p,h1,h2⟩:=h.anc x hx;exact ⟨p,by rw[e4];exact h1,by rw[Ee,Ee];exact h2⟩
theorem Akd{g:List (List Int)}{sh:List Bool}{x w:Nat}(h:Ed g sh x w):∃k,k<(g.getD x []).length/\(g.getD x []).getD k 0=(w:Int):=by
 obtain ⟨k,hk,he⟩:=AA.1 h.1;refine ⟨k,hk,?_⟩;generalize g.getD x []=l at*;rw[<-he];simp[List.getD,hk]
theorem TJ.named{g:List (List Int)}{sh:List Bool}{Vc:Nat->Prop}{s:Sr}(h:TJ g sh Vc s){v w:Nat}(hv:0<=s.nm v)(hr:IY g sh v w):0<=s.nm w:=by
 induction hr with
 | refl=>exact hv
 | tail _ e ih=>exact h.nmc _ _ ih e
theorem TJ.comp{g:List (List Int)}{sh:List Bool}{s:Sr}(h:TJ g sh PD s){ps:List Nat}{v:Nat}(hp:s.path=ps++[v])(ha:s.ad v=(g.getD v []).length)(hl:s.lw v=s.sn v):
   (∀x∈s.held,s.sn v<=s.sn x->s.lw v<=s.lw x/\IY g sh v x/\IY g sh x v/\∀y,Ed g sh x y->0<=s.nm y∨(y∈s.held/\s.sn v<=s.sn y))/\∀y,IY g sh v y->IY g sh y v->y∈s.held/\s.sn v<=s.sn y:=by
 obtain ⟨hvp,QA,Ip,Yg,TZ,_,_⟩:=h.last hp;have Aup:∀x∈s.held,s.sn v<=s.sn x->s.lw v<=s.lw x/\(x=v∨x∉s.path):=by
   intro x hx hsx;by_cases p5:x=v
   . exact ⟨by rw[p5];exact Ai _,.inl p5⟩
   . have Dl:s.sn v≠s.sn x:=λ e=>p5 (h.inj x v e.symm ((h.NJ x).1 hx).1);have Mf:x∉s.path:=λ hm=>by have:=TZ x hm;omega
     exact ⟨h.own v hvp x hx Mf (by omega) λ q hq _=>TZ q hq,.inr Mf⟩
 have G6:∀n,∀x∈s.held,s.sn v<=s.sn x->s.sn x<=n->IY g sh x v:=by
   intro n
   induction n with
   | zero=>intro x hx _ h0;exact absurd (Nat.le_zero.1 h0) ((h.NJ x).1 hx).1
   | succ n ih=>
     intro x hx hsx hn;obtain ⟨r4,hor⟩:=Aup x hx hsx;rcases hor with rfl | Mf
     . exact .refl _
     . obtain ⟨_,hf⟩:=h.fin x hx Mf;obtain ⟨_,u,hu,hul,hru⟩:=h.low x hx;exact hru.trans (ih u hu (by omega) (by omega))
 have P5:∀x∈s.held,s.sn v<=s.sn x->∀y,Ed g sh x y->0<=s.nm y∨(y∈s.held/\s.sn v<=s.sn y):=by
   intro x hx hsx y hy;obtain ⟨r4,hor⟩:=Aup x hx hsx;have Dw:s.ad x=(g.getD x []).length:=by
     rcases hor with rfl | Mf
     . exact ha
     . exact (h.fin x hx Mf).1
   obtain ⟨k,hk,hky⟩:=Akd hy;obtain ⟨a,b⟩:=h.edg x hx k (by omega) y hky hy.2;have hsy:s.sn y≠0:=λ e=>(a e).elim;rcases Int.lt_or_le (s.nm y) 0 with h1 | h1
   . have hyh:=(h.NJ y).2 ⟨hsy,h1⟩;have:=b hyh;exact .inr ⟨hyh,by omega⟩
   . exact .inl h1
 refine ⟨λ x hx hsx=>⟨(Aup x hx hsx).1,h.rch v hvp x hx hsx,G6 _ x hx hsx (Ai _),P5 x hx hsx⟩,λ y h1 h2=>?_⟩;have key:∀y,IY g sh v y->0<=s.nm y∨(y∈s.held/\s.sn v<=s.sn y):=by
   intro y hy
   induction hy with
   | refl=>exact .inr ⟨QA,Ai _⟩
   | tail _ e ih=>
     rcases ih with h3 | h3
     . exact .inl (h.nmc _ _ h3 e)
     . exact P5 _ h3.1 h3.2 _ e
 rcases key y h1 with h3 | h3
 . have:=h.named h3 h2;have:=((h.NJ v).1 QA).2;omega
 . exact h3
theorem TJ.complete{g:List (List Int)}{sh:List Bool}{s s':Sr}(h:TJ g sh PD s){ps:List Nat}{v:Nat}(hp:s.path=ps++[v])(ha:s.ad v=(g.getD v []).length)(hl:s.lw v=s.sn v){y0:Nat}
   (hy:y0∈s.held/\s.sn v<=s.sn y0) (Vl:∀z∈s.held,s.sn v<=s.sn z->y0<=z)
   (e1:s'.seen=s.seen) (e2:s'.low=s.low) (e3:s'.at_=s.at_) (e4:s'.path=ps) (e5:∀x,x∈s'.held↔x∈s.held/\s.sn x<s.sn v) (e5':s'.held.Pairwise λ a b=>s.sn a<s.sn b) (e6:s'.count=s.count)
   (e7:∀x,s'.nm x=if x∈s.held/\s.sn v<=s.sn x then (y0:Int) else s.nm x) (e7':s'.names.length=s.names.length):TJ g sh PD s':=by
 obtain ⟨hvp,QA,Ip,Yg,TZ,hps,Aqt⟩:=h.last hp;obtain ⟨hK,hC⟩:=h.comp hp ha hl;have Ee:∀x,s'.sn x=s.sn x:=λ x=>by unfold Sr.sn;rw[e1]
 have lw':∀x,s'.lw x=s.lw x:=λ x=>by unfold Sr.lw;rw[e2]
 have ad':∀x,s'.ad x=s.ad x:=λ x=>by unfold Sr.ad;rw[e3]
 have ID:∀p∈ps,p∈s.path:=λ p JU=>by rw[hp];simp[JU]
 have Ax8:∀x∈s.held,s.sn x<s.sn v->x∉ps->x∉s.path:=λ x hx Cr hn hm=>by
   rw[hp] at hm;rcases Av.1 hm with h1 | h1
   . exact hn h1
   . rw[Aw.1 h1] at Cr;omega
 refine ⟨by rw[e1];exact h.l1,by rw[e2];exact h.l2,by rw[e3];exact h.l3,by rw[e7'];exact h.l4,h.rng,?_,?_,?_,?_,?_,?_,?_,?_,?_,?_,?_,?_,?_,?_,?_,?_,?_,λ x hx=>by rw[e7] at hx ⊢;(by_cases hn:x∈s.held/\s.sn v<=s.sn x);(rw[if_pos hn] at hx;omega);(rw[if_neg hn] at hx ⊢;exact h.nmx x hx)⟩
 . intro x;rw[Ee,e6];exact h.j6 x
 . intro a b;rw[Ee,Ee];exact h.inj a b
 . intro x;rw[Ee];exact h.Yb x
 . intro x;rw[Ee,ad'];exact h.at0 x
 . intro x;rw[ad'];exact h.atl x
 . intro x;rw[e5,Ee,e7];constructor
   . rintro ⟨hxh,c⟩;obtain ⟨a,b⟩:=(h.NJ x).1 hxh;rw[if_neg (λ hh=>by omega)];exact ⟨a,b⟩
   . rintro ⟨a,b⟩;split at b
     . omega
     . rename_i hn;refine ⟨(h.NJ x).2 ⟨a,b⟩,?_⟩;rcases Nat.lt_or_ge (s.sn x) (s.sn v) with h1 | h1
       . exact h1
       . exact absurd ⟨(h.NJ x).2 ⟨a,b⟩,h1⟩ hn
 . exact e5'.imp λ Vp=>by rw[Ee,Ee];exact Vp
 . intro p JU;rw[e4] at JU;exact (e5 p).2 ⟨h.UX p (ID p JU),hps p JU⟩
 . rw[e4];have:=h.pso;rw[hp,BK] at this;exact this.1.imp λ Vp=>by rw[Ee,Ee];exact Vp
 . intro x hx;rw[e7] at hx ⊢;rw[Ee];split at hx
   . rename_i Ml;rw[if_pos Ml];obtain ⟨_,k2,k3,_⟩:=hK x Ml.1 Ml.2;obtain ⟨_,k5,k6,_⟩:=hK y0 hy.1 hy.2;refine ⟨((h.NJ x).1 Ml.1).1,y0,rfl,k3.trans k5,k6.trans k2,λ z hz1 hz2=>?_⟩;obtain ⟨m1,m2⟩:=hC z (k2.trans hz1) (hz2.trans k3);exact Vl z m1 m2
   . rename_i hn;rw[if_neg hn];exact h.SN x hx
 . intro x y hx hxy;rw[e7] at hx ⊢;split
   . omega
   . rename_i hny;split at hx
     . rename_i Ml;rcases (hK x Ml.1 Ml.2).2.2.2 y hxy with h1 | h1
       . exact h1
       . exact absurd h1 hny
     . exact h.nmc x y hx hxy
 . intro x hx Mf;rw[e4] at Mf;obtain ⟨h1,h2⟩:=(e5 x).1 hx;rw[ad',lw',Ee];exact h.fin x h1 (Ax8 x h1 h2 Mf)
 . intro x hx k hk y hy hyo;obtain ⟨h1,h2⟩:=(e5 x).1 hx;rw[ad'] at hk;rw[Ee,lw'];obtain ⟨a,b⟩:=h.edg x h1 k hk y hy hyo;exact ⟨a,λ hm=>b ((e5 y).1 hm).1⟩
 . intro x hx;obtain ⟨h1,h2⟩:=(e5 x).1 hx;obtain ⟨a,u,b,c,d⟩:=h.low x h1;rw[lw',Ee];exact ⟨a,u,(e5 u).2 ⟨b,by omega⟩,by rw[Ee];exact c,d⟩
 . intro p JU x hx;rw[e4] at JU;rw[Ee,Ee];exact h.rch p (ID p JU) x ((e5 x).1 hx).1
 . intro p JU x hx Mf Cr hq;rw[e4] at JU Mf hq;obtain ⟨h1,h2⟩:=(e5 x).1 hx;rw[Ee,Ee] at Cr;rw[lw',lw'];refine h.own p (ID p JU) x h1 (Ax8 x h1 h2 Mf) Cr λ q TW Vk=>?_;rw[hp] at TW;rcases Av.1 TW with h3 | h3
   . have:=hq q h3;rw[Ee,Ee,Ee] at this;exact this Vk
   . rw[Aw.1 h3] at Vk;omega
 . intro x hx;obtain ⟨h1,h2⟩:=(e5 x).1 hx;obtain ⟨p,h3,h4⟩:=h.anc x h1;rw[hp] at h3;rcases Av.1 h3 with h5 | h5
   . exact ⟨p,by rw[e4];exact h5,by rw[Ee,Ee];exact h4⟩
   . rw[Aw.1 h5] at h4;omega
theorem TJ.back{g:List (List Int)}{sh:List Bool}{s s':Sr}(h:TJ g sh PD s){ps:List Nat}{v t:Nat}(hp:s.path=ps++[t]++[v])(ha:s.ad v=(g.getD v []).length)(hl:s.lw v≠s.sn v)
   (e1:s'.seen=s.seen) (e2:∀x,s'.lw x=if x=t then min (s.lw t) (s.lw v) else s.lw x) (e2':s'.low.length=s.low.length) (e3:s'.at_=s.at_) (e4:s'.path=ps++[t]) (e5:s'.held=s.held) (e6:s'.count=s.count) (e7:s'.names=s.names):TJ g sh PD s':=by
 obtain ⟨hvp,QA,Ip,Yg,TZ,hps,Aqt⟩:=h.last hp;have Ee:∀x,s'.sn x=s.sn x:=λ x=>by unfold Sr.sn;rw[e1]
 have nm':∀x,s'.nm x=s.nm x:=λ x=>by unfold Sr.nm;rw[e7]
 have ad':∀x,s'.ad x=s.ad x:=λ x=>by unfold Sr.ad;rw[e3]
 have hlv:=h.low v QA;have ID:∀p∈ps++[t],p∈s.path:=λ p JU=>by rw[hp,Av];exact .inl JU
 have htp:t∈s.path:=ID t (by simp);have hth:=h.UX t htp;have htv:s.sn t<s.sn v:=hps t (by simp);have hmt:∀q∈ps++[t],s.sn q<=s.sn t:=by
   have:=h.pso;rw[hp,BK,BK] at this;intro q hq;rcases Av.1 hq with h1 | h1
   . exact Nat.le_of_lt (this.1.2.2 q h1 t (by simp))
   . rw[Aw.1 h1];exact Ai _
 have Cr:s.lw v<s.sn v:=by omega
 have TV:∀q,q∈s.path↔q∈ps++[t]∨q=v:=λ q=>by rw[hp,Av,Aw]
 refine ⟨by rw[e1];exact h.l1,by rw[e2'];exact h.l2,by rw[e3];exact h.l3,by rw[e7];exact h.l4,h.rng,?_,?_,?_,?_,?_,?_,?_,?_,?_,?_,?_,?_,?_,?_,?_,?_,?_,λ x=>by rw[nm'];exact h.nmx x⟩
 . intro x;rw[Ee,e6];exact h.j6 x
 . intro a b;rw[Ee,Ee];exact h.inj a b
 . intro x;rw[Ee];exact h.Yb x
 . intro x;rw[Ee,ad'];exact h.at0 x
 . intro x;rw[ad'];exact h.atl x
 . intro x;rw[e5,Ee,nm'];exact h.NJ x
 . rw[e5];exact h.hso.imp λ Vp=>by rw[Ee,Ee];exact Vp
 . intro p JU;rw[e4] at JU;rw[e5];exact h.UX p (ID p JU)
 . rw[e4];have:=h.pso;rw[hp,BK] at this;exact this.1.imp λ Vp=>by rw[Ee,Ee];exact Vp
 . intro x;rw[nm',Ee];exact h.SN x
 . intro x y;rw[nm',nm'];exact h.nmc x y
 . intro x hx Mf;rw[e5] at hx;rw[e4] at Mf;have hxt:x≠t:=λ e=>Mf (by rw[e];simp);rw[ad',e2,if_neg hxt,Ee];by_cases p5:x=v
   . subst p5;exact ⟨ha,Cr⟩
   . exact h.fin x hx λ hm=>by exact ((TV x).1 hm).elim Mf p5
 . intro x hx k hk y hy hyo;rw[e5] at hx;rw[ad'] at hk;rw[Ee,e5,e2];obtain ⟨a,b⟩:=h.edg x hx k hk y hy hyo;refine ⟨a,λ hm=>?_⟩;have:=b hm;split
   . rename_i e;subst e;omega
   . exact this
 . intro x hx;rw[e5] at hx;obtain ⟨a,u,b,c,d⟩:=h.low x hx;rw[e2,Ee];by_cases hxt:x=t
   . subst hxt;rw[if_pos rfl];refine ⟨by omega,?_⟩;rcases Nat.le_total (s.lw x) (s.lw v) with h1 | h1
     . exact ⟨u,by rw[e5];exact b,by rw[Ee,Nat.min_eq_left h1];exact c,d⟩
     . obtain ⟨_,u2,b2,c2,d2⟩:=hlv;exact ⟨u2,by rw[e5];exact b2,by rw[Ee,Nat.min_eq_right h1];exact c2,(h.rch x htp v QA (by omega)).trans d2⟩
   . rw[if_neg hxt];exact ⟨a,u,by rw[e5];exact b,by rw[Ee];exact c,d⟩
 . intro p JU x hx;rw[e4] at JU;rw[e5] at hx;rw[Ee,Ee];exact h.rch p (ID p JU) x hx
 . intro p JU x hx Mf XB hq;rw[e4] at JU Mf hq;rw[e5] at hx;rw[Ee,Ee] at XB;have hxt:x≠t:=λ e=>Mf (by rw[e];simp);have Vk:∀q∈ps++[t],s.sn q<=s.sn x->s.sn q<=s.sn p:=λ q h1 h2=>by have:=hq q h1;rw[Ee,Ee,Ee] at this;exact this h2
   rw[e2,e2,if_neg hxt];have base:s.sn v<=s.sn x->p=t/\s.lw v<=s.lw x:=by
     intro Mk;have h1:=Vk t (by simp) (by omega);have h2:=hmt p JU;have hpt:p=t:=h.inj p t (by omega) ((h.NJ p).1 (h.UX p (ID p JU))).1;refine ⟨hpt,?_⟩;by_cases p5:x=v
     . rw[p5];exact Ai _
     . have Dl:s.sn v≠s.sn x:=λ e=>p5 (h.inj x v e.symm ((h.NJ x).1 hx).1);exact h.own v hvp x hx (λ hm=>by exact ((TV x).1 hm).elim Mf p5) (by omega) λ q TW _=>TZ q TW
   rcases Nat.lt_or_ge (s.sn x) (s.sn v) with Mk | Mk
   . have:=h.own p (ID p JU) x hx (λ hm=>by
       rcases (TV x).1 hm with h3 | h3
       . exact Mf h3
       . rw[h3] at Mk;omega) XB λ q TW hq3=>by
         rcases (TV q).1 TW with h3 | h3
         . exact Vk q h3 hq3
         . rw[h3] at hq3;omega
     split
     . rename_i e;subst e;omega
     . exact this
   . obtain ⟨h1,h2⟩:=base Mk;rw[if_pos h1];omega
 . intro x hx;rw[e5] at hx;obtain ⟨p,h3,h4⟩:=h.anc x hx;rcases (TV p).1 h3 with h5 | h5
   . exact ⟨p,by rw[e4];exact h5,by rw[Ee,Ee];exact h4⟩
   . rw[h5] at h4;exact ⟨t,by rw[e4];simp,by rw[Ee,Ee];omega⟩
theorem TJ.root{g:List (List Int)}{sh:List Bool}{s:Sr}(h:TJ g sh PD s){v:Nat}(hp:s.path=[v]):s.lw v=s.sn v:=by
 obtain ⟨hvp,QA,_⟩:=h.last (ps:=[]) (v:=v) hp;obtain ⟨a,u,b,c,_⟩:=h.low v QA;obtain ⟨p,h1,h2⟩:=h.anc u b;rw[hp] at h1;rw[Aw.1 h1] at h2;omega
def U5(n:Nat)(f:Nat->Nat):Nat:=((List.range n).map f).sum
theorem I8(n:Nat)(f:Nat->Nat):U5 (n+1) f=U5 n f+f n:=by simp[U5,List.range_succ]
theorem u7(n:Nat){f f':Nat->Nat}(h:∀x,x<n->f' x=f x):U5 n f'=U5 n f:=by
 induction n with
 | zero=>rfl
 | succ n ih=>rw[I8,I8,ih (λ x hx=>h x (by omega)),h n (by omega)]
theorem YE{n v d:Nat}{f f':Nat->Nat}(hv:v<n)(h:∀x,x≠v->f' x=f x)(h1:f' v+d=f v):U5 n f'+d=U5 n f:=by
 induction n with
 | zero=>omega
 | succ n ih=>
   rw[I8,I8];by_cases e:v=n
   . subst e;rw[u7 v (f:=f) (f':=f') (λ x hx=>h x (by omega))];omega
   . have:=ih (by omega);rw[h n (Be e)];omega
def QV(g:List (List Int))(s:Sr):Nat:=U5 g.length λ v=>(g.getD v []).length - s.ad v
def LZ(g:List (List Int))(s:Sr):Nat:=U5 g.length λ v=>if s.sn v=0 then 1 else 0
def FM(g:List (List Int))(s:Sr):Nat:=QV g s+2*LZ g s+s.path.length
theorem QT{g:List (List Int)}{s s':Sr}{v:Nat}(hv:v<g.length)(hk:s.ad v<(g.getD v []).length)(h:∀x,s'.ad x=if x=v then s.ad v+1 else s.ad x):QV g s'+1=QV g s:=by
 unfold QV;refine YE hv (λ x hx=>by rw[h,if_neg hx]) ?_;rw[h,if_pos rfl];omega
theorem QU{g:List (List Int)}{s s':Sr}(h:s'.at_=s.at_):QV g s'=QV g s:=by unfold QV Sr.ad;rw[h]
theorem Ic{g:List (List Int)}{s s':Sr}(h:s'.seen=s.seen):LZ g s'=LZ g s:=by unfold LZ Sr.sn;rw[h]
theorem Adj{g:List (List Int)}{s:Sr}{v:Nat}(hv:v<g.length)(hl:s.seen.length=g.length)(h0:s.sn v=0):LZ g (s.enter v)+1=LZ g s:=by
 have Ee:∀w,(s.enter v).sn w=if w=v then s.count+1 else s.sn w:=λ w=>E2 _ _ _ _ _ (by rw[hl];exact hv)
 unfold LZ;refine YE hv (λ x hx=>by rw[Ee,if_neg hx]) ?_;rw[Ee,if_pos rfl,h0];simp
theorem Ais(g:List (List Int))(s:Sr):LZ g s<=g.length:=by
 unfold LZ;generalize g.length=n
 induction n with
 | zero=>exact Ai _
 | succ n ih=>rw[I8];split<;>omega
theorem Atb(n:Int)(h0:0<=n)(h1:n<=24):IntKind.u64.wrap n=n:=VC n h0 (by omega)
theorem Atc(n:Int)(h0:0<=n)(h1:n<=24):IntKind.i64.wrap n=n:=by
 simp[IntKind.wrap,IntKind.bits,IntKind.signed];omega
def Ju(n k:Nat):List Int:=List.replicate k (-1)++List.replicate (n - k) 0
theorem YP(n k:Nat)(h:k<=n):(Ju n k).length=n:=by simp[Ju];omega
theorem Ady(n:Nat):Ju n n=List.replicate n (-1):=by simp[Ju]
theorem Adx(n k:Nat)(h:k<=n):(Ju n k).take k++((Ju n k).take k).take (n - k)++(Ju n k).drop (k+min (n - k) k)=Ju n (k+min (n - k) k):=by
 have t1:(Ju n k).take k=List.replicate k (-1):=by simp[Ju]
 have t2:(List.replicate k (-1:Int)).take (n - k)=List.replicate (min (n - k) k) (-1):=by simp
 have t3:(Ju n k).drop (k+min (n - k) k)=List.replicate (n - (k+min (n - k) k)) 0:=by
   simp only[Ju,List.drop_append,BB];rw[List.drop_eq_nil_of_le (by simp),Bs,List.drop_replicate]
   congr 1;omega
 rw[t1,t2,t3,List.replicate_append_replicate];rfl
theorem Az4(l:List Int):JS 1 (BY l):=by simp[JS,BY]
end Go.Am
end
