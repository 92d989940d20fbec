/- Texts of this proof, what it rests on, merged: part I. -/
import Derived.Lib.MapLaws
import Derived.Test.YtjbklifaekjilaaGreatDoorLpH
noncomputable section
namespace Go.Am
open Go Go.Proofs Go.RowKit
open Tryz
set_option maxRecDepth 100000
set_option linter.unusedVariables false
set_option linter.unusedSimpArgs false
set_option maxHeartbeats 2000000
end Go.Am
end
noncomputable section
namespace Go.Am
open Go Go.Proofs
open Tryz
set_option maxRecDepth 100000
set_option linter.unusedVariables false
set_option linter.unusedSimpArgs false
set_option maxHeartbeats 2000000
def Atg(r:List UInt8×Int):D:= .Dv [.p (.str r.1),.p (.int .i64 r.2)]
theorem Ajm(s:List UInt8):B2 prog 71 [.p (.str s)] [] λ h r=>h=[]/\r= .p (.int .i64 (Jy s)):=by
 refine B1 func71 rfl Ang (by simp[Tryz.f71]) ?_;by_cases h1:s=[98,108,111,99,107]
 . simp only[go_sem,eq_true h1];subst h1;rfl
 by_cases h2:s=[108,97,110,101]
 . simp only[go_sem,h1,eq_true h2];subst h2;rfl
 by_cases h3:s=[115,116,97,116,105,111,110]
 . simp only[go_sem,h1,h2,eq_true h3];subst h3;rfl
 by_cases h4:s=[100,101,112,111,116]
 . simp only[go_sem,h1,h2,h3,eq_true h4];subst h4;rfl
 by_cases h5:s=[114,111,98,111,116]
 . simp only[go_sem,h1,h2,h3,h4,eq_true h5];subst h5;rfl
 by_cases h6:s=[99,111,110,102,105,103]
 . simp only[go_sem,h1,h2,h3,h4,h5,eq_true h6];subst h6;rfl
 . simp only[go_sem,h1,h2,h3,h4,h5,h6];simp[Jy,Iy,Fx,Bc h1,Bc h2,Bc h3,Bc h4,Bc h5,Bc h6]
theorem Auo(num:Int)(fs:List (List UInt8))(hfs:fs.length<=10000000):B2 prog 36 [.agg [.p (.int .i64 num),.p (.sl (CB fs))]] [] λ h r=>h=[]/\r= .Dv [(JJ num fs).1.d,.p (.int .i64 (JJ num fs).2)]:=by
 refine B1 func36 rfl Ao3 (by simp[Tryz.f36]) ?_;cases fs with
 | nil=>
   simp only[go_sem,B5];refine BX ?_;simp only[go_sem];try simp[JJ,IU,Dc.d,CB,BZ]
 | cons w rest=>
   simp only[An] at hfs;have Dt:¬((rest.length+1:Nat):Int)=0:=by omega
   have Bcg:(0:Int)<((rest.length+1:Nat):Int):=by omega
   have hg0:(CB (w::rest)).getD 0 []=[.str w]:=rfl;simp only[go_sem,B5,Dt];refine CG mixed (p:=[(0,0),(1,0),(2,0),(3,0),(5,0),(6,0),(8,1),(4,2),(7,0),(9,3)]) (by kernel_rfl) (by simp[C8,get]) ?_;simp only[go_sem,B5,Bcg,hg0,Bx];refine Gq (Ajm w) ?_;obtain ⟨j,hj,hjw⟩:=Wl w;by_cases V2:(j:Int)=0
   . simp only[go_sem,hjw,V2];refine BX ?_;simp only[go_sem];simp[JJ,hjw,V2,IU,Dc.d,CB,BZ]
   obtain ⟨Lw,-,-,hs4,hs5⟩:=UJ j hj (by omega);have hj6:j=1∨j=2∨j=3∨j=4∨j=5∨j=6:=by omega
   have V5:(CD j).1<=3/\(CD j).2<=4/\((j:Int)=2->(CD j).1=2/\(CD j).2=0):=by
     rcases hj6 with rfl | rfl | rfl | rfl | rfl | rfl<;>decide
   have Ks:JJ num (w::rest)=if (rest.length:Int)<(CD j).1+(CD j).2∨((CD j).1+(CD j).2<(rest.length:Int)/\(j:Int)≠2) then (IU,5) else rd (rest.length - (CD j).2.toNat) rest ⟨j,num,[],[]⟩:=by
     simp only[JJ,hjw,V2,Bb]
   rw[Ks];clear Ks Lw;simp only[go_sem,hjw,V2];refine Cq (Zr j) ?_;generalize hA:(CD j).1=a at*;generalize hB:(CD j).2=b at*;obtain ⟨ha3,hb4,h2ab⟩:=V5;have w1:IntKind.i64.wrap (((rest.length+1:Nat):Int) - 1)=(rest.length:Int):=by rw[B3]<;>omega
   have w2:IntKind.i64.wrap (a+b)=a+b:=by rw[B3]<;>omega
   have bad:((rest.length:Int)<a+b∨(a+b<(rest.length:Int)/\(j:Int)≠2))∨¬((rest.length:Int)<a+b∨(a+b<(rest.length:Int)/\(j:Int)≠2)):=Classical.em _;rcases bad with bad | Pw
   . rw[if_pos bad];have c1:¬(rest.length:Int)=a+b:=by omega
     by_cases c2:(j:Int)=2
     . have c3:(rest.length:Int)<a:=by omega
       simp only[go_sem,B5,w1,w2,c1,c2,c3];refine BX ?_;simp only[go_sem];simp[IU,Dc.d,CB,BZ]
     . simp only[go_sem,B5,w1,w2,c1,c2];refine BX ?_;simp only[go_sem];simp[IU,Dc.d,CB,BZ]
   . rw[if_neg Pw];have w3:IntKind.i64.wrap ((rest.length:Int) - b)=((rest.length - b.toNat:Nat):Int):=by rw[B3]<;>omega
     have hKle:rest.length - b.toNat<=rest.length:=Nat.sub_le _ _;generalize hK:rest.length - b.toNat=K at*;have cc:(rest.length:Int)=a+b∨(¬(rest.length:Int)=a+b/\(j:Int)=2/\¬(rest.length:Int)<a):=by
       by_cases c1:(rest.length:Int)=a+b
       . exact .inl c1
       . exact .inr ⟨c1,by omega,by omega⟩
     have c1d:∀x:Bool,x=decide ((rest.length:Int)=a+b)->decide ((rest.length:Int)=a+b)=x:=λ _ h=>h.symm;cases hc1:decide ((rest.length:Int)=a+b);all_goals
       first
         | (have VD:decide ((j:Int)=2)=true:=by simp at hc1;simp;omega
            have hc3:decide ((rest.length:Int)<a)=false:=by simp at hc1 VD;simp;omega
            simp only[go_sem,B5,w1,w2,w3,hc1,VD,hc3])
         | simp only[go_sem,B5,w1,w2,w3,hc1]
       refine B7 (λ q:Nat×List (List UInt8)×List Int=>⟨[(1,.ptr 1 0),(2,.ptr 2 0),(4,.ptr 4 0),(5,.p (.int .i64 (K:Nat))),(7,.p (.int .i64 (rest.length:Nat))),(8,.p (.int .i64 (q.1:Nat)))],
           [(1,.box [.p (.int .i64 num),.p (.sl (CB (w::rest)))]),(2,.box [.p (.int .i64 0),.p (.int .i64 0),.cl [],.cl []]),
            (4,.box [.p (.int .i64 j),.p (.int .i64 num),.ref 80 0 q.2.1.length q.2.1.length,.ref 94 0 q.2.2.length q.2.2.length]),(80,.arr 9 1 (CB q.2.1)),(94,.arr 3 1 (BZ q.2.2))],97⟩)
         (λ q=>q.1<=rest.length/\q.2.1.length<=q.1/\q.2.2.length<=q.1/\rd (K - q.1) (rest.drop q.1) ⟨j,num,q.2.1,q.2.2⟩=rd K rest ⟨j,num,[],[]⟩)
         (λ q=>rest.length - q.1) (0,[],[]) ⟨AE _,by simp,by simp,by simp⟩
         ((DC (id:=4) (j:=2) (q:=80) (sz:=1) 9 rfl rfl rfl (by decide)).trans ((DC (id:=4) (j:=3) (q:=94) (sz:=1) 3 rfl rfl rfl (by decide)).trans (BW (by simp[ZF,CB,BZ])))) ?_
       rintro ⟨i,ns,ks⟩ n ⟨hi,Yk,hn2,he⟩ ih;simp only at hi Yk hn2 he;simp only[go_sem];refine Cy (λ h2=>?_) (λ h2=>?_)
       . have Cv:i<rest.length:=by simp at h2;omega
         have hw:=Cd i (by omega);have hw':IntKind.i64.wrap (1+(i:Int))=((i+1:Nat):Int):=by rw[B3]<;>omega
         have UF:rest.drop i=rest.getD i []::rest.drop (i+1):=by rw[AT Cv];simp[List.getD,Cv]
         rw[UF] at he;have J7:((i+1:Nat):Int)<((rest.length+1:Nat):Int):=by omega
         have C6:(0:Int)<=((i+1:Nat):Int):=by omega
         have hg:=DH (w::rest) (i+1) (by simp;omega);simp only[List.getD_cons_succ] at hg;generalize hs:rest.getD i []=s at he hg;simp only[go_sem,Ab,B5,hg,hw',J7,C6];by_cases hK0:i<K
         . have hKd:decide ((i:Int)<(K:Int))=true:=by simp;omega
           simp only[go_sem,hKd];refine Cq (Qh _) ?_;rw[show K - i=(K - (i+1))+1 by omega] at he;cases Tq:C3 s
           . simp only[go_sem,Tq];refine BX ?_;simp only[go_sem];rw[<-he];simp[rd,Tq,IU,Dc.d,CB,BZ]
           . simp only[go_sem,Tq,hw,B5];refine ⟨⟨Dy _ _ rfl,by omega⟩,?_⟩;refine ih (i+1,ns++[s],ks) _ ⟨Cv,by simp only[Aq,An,Ax];omega,by simp only;omega,by rw[<-he];simp only[rd,Tq,AP]⟩ (by simp only;omega) ?_
             (refine BW ?_;simp[ZF,DG,B5];done)
         . have hKd:decide ((i:Int)<(K:Int))=false:=by simp;omega
           simp only[go_sem,hKd];refine Cq (Abd _) ?_;rw[show K - i=0 by omega] at he;cases Tq:(Kn s).2
           . simp only[go_sem,Tq];refine BX ?_;simp only[go_sem];rw[<-he];simp[rd,Tq,IU,Dc.d,CB,BZ]
           . simp only[go_sem,Tq,hw,BY];refine ⟨⟨Dy _ _ rfl,by omega⟩,?_⟩;refine ih (i+1,ns,ks++[(Kn s).1]) _ ⟨Cv,by simp only;omega,by simp only[Aq,An,Ax];omega,by rw[<-he,show K - (i+1)=0 by omega];simp only[rd,Tq,AP]⟩ (by simp only;omega) ?_
             (refine BW ?_;simp[ZF,D0,BY];done)
       . simp only[go_sem];have UA:i=rest.length:=by simp at h2;omega
         subst UA;refine BX ?_;simp only[go_sem];rw[AZ] at he;simp only[rd] at he;rw[<-he,FX _ _ (Ai _),GD _ _ (Ai _)];simp[Dc.d,B5,BY]
theorem Ajv(j:Nat)(h1:1<=j)(h6:j<7):B2 prog 99 [.p (.int .i64 (j:Nat))] [] λ h r=>h=[]/\r= .p (.str (Fh j).word):=by
 refine B1 func99 rfl An0 (by simp[Tryz.f99]) ?_;have hj:j=1∨j=2∨j=3∨j=4∨j=5∨j=6:=by omega
 rcases hj with rfl | rfl | rfl | rfl | rfl | rfl<;>
 . simp only[go_sem];try rfl
theorem Aeg(d:Dc)(hd:d.names.length<=10000000/\d.Cb.length<=10000000):B2 prog 75 [d.d] [] λ h r=>h=[]/\r= .p (.bool (Dh d)):=by
 obtain ⟨word,line,names,Cb⟩:=d;simp only at hd;refine B1 func75 rfl o5 (by simp[Tryz.f75]) ?_;by_cases h1:word<1
 . have hv:Dh ⟨word,line,names,Cb⟩=false:=by simp[Dh];intro h;omega
   simp only[go_sem,Dc.d,h1,hv]
 by_cases h2:6<word
 . have hv:Dh ⟨word,line,names,Cb⟩=false:=by simp[Dh];intro h;omega
   simp only[go_sem,Dc.d,h1,h2,hv]
 have hv:Dh ⟨word,line,names,Cb⟩=(decide ((Cb.length:Int)=(CD word).2)&&((decide ((names.length:Int)=(CD word).1)||(decide ((CD word).1<(names.length:Int))&&decide (word=2)))&&
   (names.all C3&&Cb.all λ n=>!(decide (n< -9999)||decide (9999<n))))):=by
   have:decide ((1:Int)<=word/\word<=6)=true:=by simp;omega
   simp only[Dh,this,A7]
 rw[hv];clear hv;simp only[go_sem,Dc.d,h1,h2];refine Cq ((Zr word)) ?_;generalize hA:(CD word).1=a at*;generalize hB:(CD word).2=b at*;cases c1:decide ((Cb.length:Int)=b)
 . simp only[go_sem,c1,BY,B5];try simp
 cases c2:decide ((names.length:Int)<a);rotate_left
 . have e1:=Ad c2;have c3:decide ((names.length:Int)=a)=false:=by rw[Bn];omega
   have c4:decide (a<(names.length:Int))=false:=by rw[Bn];omega
   simp only[go_sem,c1,c2,BY,B5];try simp[c3,c4]
 have e2:=Ae c2;have hpq:∀Q:Bool,(decide (a<(names.length:Int))&&!decide (word=2))=false->((decide ((names.length:Int)=a)||(decide (a<(names.length:Int))&&decide (word=2)))&&Q)=Q:=by
   intro Q hq;cases c3:decide (a<(names.length:Int))<;>cases c4:decide (word=2)
   . have:decide ((names.length:Int)=a)=true:=by have:=Ae c3;rw[decide_eq_true_iff];omega
     simp[this]
   . have:decide ((names.length:Int)=a)=true:=by have:=Ae c3;rw[decide_eq_true_iff];omega
     simp[this]
   . simp[c3,c4] at hq
   . simp
 have hpz:(decide (a<(names.length:Int))&&!decide (word=2))=true->∀Q:Bool,((decide ((names.length:Int)=a)||(decide (a<(names.length:Int))&&decide (word=2)))&&Q)=false:=by
   intro hq Q;simp only[As,Bool.not_eq_true',Au,Bn] at hq;have:decide ((names.length:Int)=a)=false:=by rw[Bn];omega
   simp[this,hq.2]
 cases hq:(decide (a<(names.length:Int))&&!decide (word=2));rotate_left
 . rw[hpz hq];rw[As,Bool.not_eq_true'] at hq;simp only[go_sem,c1,c2,hq.1,hq.2,BY,B5];try rfl
 rw[hpq _ hq];cases c3:decide (a<(names.length:Int))<;>cases c4:decide (word=2)
 case true.false=>rw[c3,c4] at hq;cases hq
 all_goals
   simp only[go_sem,c1,c2,c3,c4,BY,B5];refine B7 (λ i:Nat=>⟨[(1,.ptr 1 0),(5,.p (.int .i64 (i:Nat)))],[(1,.box [.p (.int .i64 word),.p (.int .i64 line),.p (.sl (CB names)),.p (.sl (BZ Cb))])],80⟩)
     (λ i=>i<=names.length/\(names.take i).all C3=true) (λ i=>names.length - i) 0 ⟨AE _,by simp⟩ (BW (by simp[ZF])) ?_
   rintro i n ⟨hi,ha⟩ ih;cases c5:decide ((i:Int)<(names.length:Int))
   . have:i=names.length:=by have:=Ae c5;omega
     subst this;clear ih;rw[Ar] at ha;simp only[go_sem,c5,B5];rw[ha];refine B7 (λ i:Nat=>⟨[(1,.ptr 1 0),(6,.p (.int .i64 (i:Nat)))],[(1,.box [.p (.int .i64 word),.p (.int .i64 line),.p (.sl (CB names)),.p (.sl (BZ Cb))])],80⟩)
       (λ i=>i<=Cb.length/\(Cb.take i).all (λ n=>!(decide (n< -9999)||decide (9999<n)))=true) (λ i=>Cb.length - i) 0 ⟨AE _,by simp⟩ (BW (by simp[ZF])) ?_
     rintro i n ⟨hi,hb⟩ ih;cases c6:decide ((i:Int)<(Cb.length:Int))
     . have:i=Cb.length:=by have:=Ae c6;omega
       subst this;rw[Ar] at hb;simp only[go_sem,c6,BY];rw[hb];try rfl
     . have hit:i<Cb.length:=by have:=Ad c6;omega
       have hg:=Cm Cb i hit;have C6:(0:Int)<=(i:Int)/\(i:Int)<(Cb.length:Int):=by omega
       have Q6:=CI Cb i 0 hit;have DD:∀y,Cb.getD i 0=y->(!(decide (y< -9999)||decide (9999<y)))=false->Cb.all (λ n=>!(decide (n< -9999)||decide (9999<n)))=false:=by
         intro y hy hf;rw[List.all_eq_false];exact ⟨_,CF Cb i 0 hit,by rw[hy,hf];simp⟩
       generalize Cb.getD i 0=y at*;cases c7:decide (y< -9999)
       . cases c8:decide (9999<y)
         . simp only[go_sem,c6,BY,Ab,hg,C6,c7,c8,Cd i (by omega)];refine ih (i+1) _ ⟨hit,by rw[Q6,List.all_append,hb];simp[c7,c8]⟩ (by omega) (BW (by simp[ZF]))
         . simp only[go_sem,c6,BY,Ab,hg,C6,c7,c8];rw[DD y rfl (by rw[c7,c8];rfl)];try rfl
       . simp only[go_sem,c6,BY,Ab,hg,C6,c7];rw[DD y rfl (by rw[c7];rfl)];try rfl
   . have hit:i<names.length:=by have:=Ad c5;omega
     have hg:=DH names i hit;have C6:(0:Int)<=(i:Int)/\(i:Int)<(names.length:Int):=by omega
     have Q6:=CI names i [] hit;have DD:∀y,names.getD i []=y->C3 y=false->names.all C3=false:=by
       intro y hy hf;rw[List.all_eq_false];exact ⟨_,CF names i [] hit,by rw[hy,hf];simp⟩
     generalize names.getD i []=y at*;simp only[go_sem,c5,B5,Ab,hg,C6];refine Cq ((Qh y)) ?_;cases c6:C3 y
     . simp only[go_sem];rw[DD y rfl c6];try rfl
     . simp only[go_sem,Cd i (by omega)];refine ih (i+1) _ ⟨hit,by rw[Q6,List.all_append,ha];simp[c6]⟩ (by omega) (BW (by simp[ZF]))
theorem As4(d:List Dc)(hd:d.length<=10000000)(hs:∀x∈d,x.names.length<=10000000/\x.Cb.length<=10000000):
   B2 prog 54 [.p (.sl (DX d))] [] λ h r=>h=[]/\r=Az1 (QJ d []):=by
 refine B1 func54 rfl Anu (by simp[Tryz.f54]) ?_;simp only[go_sem,CS];refine B7 (λ q:Nat×List Ln=>⟨[(0,.p (.sl (DX d))),(5,.p (.int .i64 (q.1:Nat))),(4,.ref 66 0 q.2.length q.2.length)],[(66,.arr 80 2 (EG q.2))],68⟩)
   (λ q=>q.1<=d.length/\q.2.length<=q.1/\QJ (d.drop q.1) q.2=QJ d []) (λ q=>d.length - q.1) (0,[]) ⟨AE _,by simp,by simp⟩ ((Wk.nil (t:=4) (q:=66) (sz:=2) 80 rfl rfl (by decide)).trans (BW (by simp[ZF,EG]))) ?_
 rintro ⟨i,acc⟩ n ⟨hi,ha,he⟩ ih;simp only at hi ha he;cases c1:decide ((i:Int)<(d.length:Int))
 . have:i=d.length:=by have:=Ae c1;omega
   subst this;simp only[go_sem,CS,c1];refine BX ?_;simp only[go_sem];rw[AZ] at he;simp only[QJ] at he;rw[<-he,RW _ _ (Ai _)];exact ⟨(CQ acc).symm,rfl⟩
 have Cv:i<d.length:=by have:=Ad c1;omega
 have hw:=Cd i (by omega);have UF:=Df d i IU Cv;rw[UF] at he;have hx:=hs _ (CF d i IU Cv);have hg:=r6 d i Cv;generalize hxe:d.getD i IU=x at*;have C6:(0:Int)<=(i:Int)/\(i:Int)<(d.length:Int):=by omega
 simp only[go_sem,CS,Ab,hg,C6,c1];refine Cq ((Aeg x ⟨hx.1,hx.2⟩)) ?_;cases hv:Dh x
 . simp only[go_sem];refine BX ?_;simp only[go_sem];simp only[QJ,hv] at he;rw[<-he];rfl
 obtain ⟨VW,hw2,hw3,hw4,hw5⟩:=(H0 x).1 hv;obtain ⟨word,line,names,Cb⟩:=x;simp only at VW hw2 hw3 hw4 hw5 hx hg;obtain ⟨j,rfl⟩:∃j:Nat,word=(j:Int):=⟨word.toNat,by omega⟩;have hfw:[[Pd.str (Fh j).word]]++CB names=CB ((Fh j).word::names):=rfl;have Agd:Ka 1 (CB names):=by simp[Ka,CB]
 simp only[go_sem];refine CG mixed (p:=[(0,0),(1,0),(2,0),(3,0),(4,0),(5,0),(6,0),(7,0),(8,0),(9,0),(12,0),(13,0),(14,0),(15,0),(16,0),(19,1),(10,2),(11,1),(17,2),(18,0),(20,3)]) (by kernel_rfl) (by simp[C8,get]) ?_;simp only[go_sem,CS,Ab,hg,C6];refine Gq ((Ajv j (by omega) (by omega))) ?_;simp only[go_sem,CS,Ab,hg,C6,hfw,B5];refine ⟨⟨Agd,by omega,by omega⟩,?_⟩;refine B7 (λ q:Nat×List (List UInt8)=>⟨[(0,.p (.sl (DX d))),(5,.p (.int .i64 (i:Nat))),(4,.ref 66 0 acc.length acc.length),(6,.ptr 6 0),(7,.p (.int .i64 (q.1:Nat)))],
     [(6,.box [.p (.int .i64 line),.ref 31 0 q.2.length q.2.length]),(31,.arr 9 1 (CB q.2)),(66,.arr 80 2 (EG acc))],68⟩)
   (λ q=>q.1<=Cb.length/\q.2.length<=10000001+q.1/\q.2++(Cb.drop q.1).map Wb=Gt ⟨j,line,names,Cb⟩) (λ q=>Cb.length - q.1) (0,(Fh j).word::names) ⟨AE _,by simp;omega,by simp[Gt]⟩
   (BW (by simp[ZF,BY,CB])) ?_
 rintro ⟨m,fs⟩ n2 ⟨hm,hfs,he2⟩ Hw;simp only at hm hfs he2;cases c2:decide ((m:Int)<(Cb.length:Int));rotate_left
 . have hmt:m<Cb.length:=by have:=Ad c2;omega
   have hwm:=Cd m (by omega);have hgm:=Cm Cb m hmt;have hnm:=hw5 _ (CF Cb m 0 hmt);rw[Df Cb m 0 hmt] at he2;generalize hk:Cb.getD m 0=k at*;have hm0:(0:Int)<=(m:Int)/\(m:Int)<(Cb.length:Int):=by omega
   simp only[go_sem,BY,CS,Ab,hg,C6,hgm,hm0,c2];refine Dp [(6,.box [.p (.int .i64 line),.ref 31 0 fs.length fs.length])] mixed (p:=[(0,0),(1,0),(2,0),(3,0),(4,0),(5,0),(6,0),(7,0),(8,0),(9,0),(10,2),(11,1),(12,2),(13,0),(14,3)]) (by kernel_rfl) (by simp[C8,get]) ?_;simp only[go_sem,BY,CS,Ab,hg,C6,hgm,hm0];refine Gq ((Aik k (by omega) (by omega))) ?_;simp only[go_sem,B5];refine ⟨⟨Dy _ _ rfl,by omega⟩,?_⟩;simp only[go_sem,hwm];refine Hw (m+1,fs++[Wb k]) _ ⟨hmt,by simp;omega,by rw[<-he2];simp⟩ (by simp only;omega) ?_
   (refine BW ?_;simp[ZF,DG,B5];done)
 . have hml:m=Cb.length:=by have:=Ae c2;omega
   subst hml;simp only[AZ,BE,List.append_nil] at he2;simp only[go_sem,B5,CQ,BY,CS,Ab,hg,C6,FX fs fs.length (Ai _),hw,c2];refine ⟨⟨Dy _ _ rfl,by omega⟩,?_⟩;simp only[QJ,hv,AP] at he;refine ih (i+1,acc++[⟨line,fs⟩]) _ ⟨Cv,by simp;omega,by rw[he2];exact he⟩ (by simp only;omega) ?_
   (refine BW ?_;simp[ZF,Jt,CQ];done)
theorem Y5(l:List (List UInt8))(x:List UInt8)(h:l≠[]):FZ (l++[x])=FZ l++[32]++x:=by
 cases l with
 | nil=>exact (h rfl).elim
 | cons y r=>simp[FZ]
theorem Ad5(a b:List (List UInt8)):Lv (a++b)=Lv a+Lv b:=by
 induction a with
 | nil=>simp[Lv]
 | cons x r ih=>simp only[A6,Lv,ih];omega
theorem Ajx(l:List (List UInt8))(i:Nat):Lv (l.take i)<=Lv l:=by
 have:=Ad5 (l.take i) (l.drop i);rw[List.take_append_drop] at this;omega
theorem Aec(l:List (List UInt8)):(FZ l).length<=Lv l:=by
 cases l with
 | nil=>simp[FZ,Lv]
 | cons x r=>have:=OY (x::r) (by simp);omega
theorem Ajl(fs:List (List UInt8))(hl:fs.length<=100000000)(hs:Lv fs<=1000000000000):B2 prog 101 [.p (.sl (CB fs))] [] λ h r=>h=[]/\r= .p (.str (FZ fs)):=by
 refine B1 func101 rfl Ai5 (by simp[Tryz.f101]) ?_;simp only[go_sem];refine B7 (λ i:Nat=>⟨[(0,.p (.sl (CB fs))),(3,.p (.str (FZ (fs.take i)))),(4,.p (.int .i64 (i:Nat)))],[],22⟩) (λ i=>i<=fs.length) (λ i=>fs.length - i) 0 (AE _) (BW (by simp[ZF,List.take_zero,FZ])) ?_;intro i n hi ih;simp only[go_sem,B5];refine Cy (λ h1=>?_) (λ h1=>?_)
 . have Cv:i<fs.length:=by simp at h1;omega
   have C6:(0:Int)<=(i:Int)/\(i:Int)<(fs.length:Int):=by omega
   have hw:=Cd i (by omega);have hg:=DH fs i Cv;have Z9:fs.take (i+1)=fs.take i++[fs.getD i []]:=by
     rw[List.take_succ_eq_append_getElem Cv];simp[List.getD,Cv]
   have Axl:=Ajx fs (i+1);have hszl:=Aec (fs.take i);rw[Z9,Ad5] at Axl;generalize hx:fs.getD i []=x at*;simp only[Lv] at Axl;by_cases h0:i=0
   . subst h0;have hx0:fs.take (0+1)=[x]:=by rw[Z9];simp
     have hd:(0:Int)<(fs.length:Int):=by omega
     have Bba:IntKind.i64.wrap 1=1:=rfl;simp only[go_sem,B5,Ab,hg,hd,Int.reduceToNat,List.take_zero,FZ];refine ⟨by unfold maxLen;simp[FZ];omega,?_⟩;refine ih (0+1) _ Cv (by omega) (BW (by simp[ZF,hx0,FZ,List.flatMap_nil,Bba]))
   . have Dt:fs.take i≠[]:=by
       intro h;have:=congrArg List.length h;simp at this;rcases this with h | h
       . exact h0 h
       . subst h;simp at Cv
     have hd:(0:Int)<(i:Int):=by omega
     have hsn:=Y5 (fs.take i) x Dt;rw[<-Z9] at hsn;simp only[go_sem,B5,Ab,hg,hd,C6];refine ⟨by unfold maxLen;simp;omega,by unfold maxLen;simp;omega,?_⟩;simp only[go_sem,hw];refine ih (i+1) _ Cv (by omega) (BW (by simp[ZF,hsn]))
 . have W0:i=fs.length:=by simp at h1;omega
   subst W0;simp only[go_sem,Ar]
theorem Agr(l:List Ln)(hl:l.length<=4000000/\∀x∈l,x.fs.length<=4000000/\∀s∈x.fs,s.length<=4000000):B2 prog 100 [.p (.sl (EG l))] [] λ h r=>h=[]/\r= .p (.bool (Fi 0 l)):=by
 obtain ⟨hl,hz⟩:=hl;refine B1 func100 rfl Ai6 (by simp[Tryz.f100]) ?_;simp only[go_sem];refine B7 (λ i:Nat=>⟨[(0,.p (.sl (EG l))),(3,.p (.int .i64 (i:Nat)))],[],82⟩)
   (λ i=>i<=l.length/\(i=0∨(0<i/\1<=(l.getD (i - 1) ZT).num))/\Fi (if i=0 then 0 else (l.getD (i - 1) ZT).num) (l.drop i)=Fi 0 l) (λ i=>l.length - i) 0 ⟨AE _,.inl rfl,by simp⟩ (BW (by simp[ZF])) ?_
 rintro i n ⟨hi,Yk,hf⟩ ih;simp only[go_sem,CQ];refine Cy (λ h1=>?_) (λ h1=>?_);rotate_left
 . have W0:i=l.length:=by simp at h1;omega
   subst W0;simp only[go_sem];rw[<-hf];simp[Fi]
 have Cv:i<l.length:=by simp at h1;omega
 have C6:(0:Int)<=(i:Int)/\(i:Int)<(l.length:Int):=by omega
 have hw:=Cd i (by omega);have hg:=NC l i Cv;have hzx:=hz _ (CF l i ZT Cv);rw[Df l i ZT Cv] at hf;generalize hx:l.getD i ZT=x at*;obtain ⟨num,fs⟩:=x;simp only at hg hzx;rcases Yk with h0 | ⟨h0,hp1⟩
 . simp only[h0,AP] at hf;rw[<-h0] at hf;have Ii:¬(0:Int)<(i:Int):=by omega
   simp only[go_sem];refine CG mixed (p:=[(0,0),(1,0),(2,0),(3,0),(4,0),(5,0),(6,0),(7,0),(8,0),(9,0),(10,0),(11,0),(12,0),(13,0),(14,0),(15,0),(16,0),(17,0),(18,0),(19,0),(20,0),(21,0),(22,0),(23,0),(24,0),(25,0),(26,0),(27,0),(28,0),(29,0),(30,0),(31,0),(32,0)]) (by kernel_rfl) (by simp[C8,get]) ?_;by_cases c1:num<1
   . simp only[go_sem,CQ,Ab,hg,C6,Ii,c1];have:¬0<num:=by omega
     rw[<-hf];simp[Fi,this]
   by_cases c2:(fs.length:Int)=0
   . simp only[go_sem,CQ,B5,Ab,hg,C6,Ii,c1,c2];have:fs=[]:=AY (by omega);rw[<-hf];simp[Fi,this]
   simp only[go_sem,CQ,B5,Ab,hg,C6,Ii,c1,c2];have Dt:fs≠[]:=by rintro rfl;simp at c2
   have j7:0<num:=by omega
   have h1n:1<=num:=by omega
   refine B7 (λ j:Nat=>⟨[(0,.p (.sl (EG l))),(3,.p (.int .i64 (i:Nat))),(4,.p (.int .i64 (j:Nat)))],[],82⟩) (λ j=>j<=fs.length/\(fs.drop j).all FO=fs.all FO) (λ j=>fs.length - j) 0 ⟨AE _,by simp⟩ (BW (by simp[ZF])) ?_;rintro j n2 ⟨hj,Hx⟩ Hw;simp only[go_sem,CQ,Ab,hg,C6,B5];refine Cy (λ h2=>?_) (λ h2=>?_)
   . have j9:j<fs.length:=by simp at h2;omega
     have V2:(0:Int)<=(j:Int)/\(j:Int)<(fs.length:Int):=by omega
     have YY:=Cd j (by omega);have hgj:=DH fs j j9;have hsx:=hzx.2 _ (CF fs j [] j9);rw[Df fs j [] j9] at Hx;generalize fs.getD j []=s at*;simp only[go_sem,CQ,Ab,hg,C6,B5,hgj,V2];have Acr:FO s=false->Fi 0 l=false:=λ h=>by
       have:fs.all FO=false:=by rw[<-Hx];simp[h]
       rw[<-hf];simp[Fi,this]
     by_cases hs0:s=[]
     . subst hs0;simp only[go_sem];rw[Acr rfl]
     by_cases Am5:(12:Int)<(s.length:Int)
     . simp only[go_sem,hs0,Am5];have:¬s.length<=12:=by omega
       rw[Acr (by simp[FO,this])]
     simp only[go_sem,hs0,Am5];have Am4:s.length<=12:=by omega
     have hpp:FO s=s.all λ b=>IC b.toNat:=by simp[FO,hs0,Am4]
     refine B7 (λ q:Nat=>⟨[(0,.p (.sl (EG l))),(3,.p (.int .i64 (i:Nat))),(4,.p (.int .i64 (j:Nat))),(5,.p (.str s)),(6,.p (.int .i64 (q:Nat)))],[],82⟩) (λ q=>q<=s.length/\((s.drop q).all λ b=>IC b.toNat)=FO s) (λ q=>s.length - q) 0 ⟨AE _,by simp[hpp]⟩ (BW (by simp[ZF])) ?_;rintro q n3 ⟨hq,hqa⟩ ih3;simp only[go_sem];refine Cy (λ h3=>?_) (λ h3=>?_)
     . have hqt:q<s.length:=by simp at h3;omega
       have hq0:(0:Int)<=(q:Int)/\(q:Int)<(s.length:Int):=by omega
       have hwq:=Cd q (by omega);rw[Df s q 0 hqt] at hqa;generalize hb:s.getD q 0=b at*;simp only[go_sem,Ab,hq0,hb];refine Cq ((NP (b.toNat:Int))) ?_;cases ha:IC b.toNat
       . simp only[go_sem,ha];rw[Acr (by rw[<-hqa];simp[ha])]
       . simp only[go_sem,ha,hwq];refine ih3 (q+1) _ ⟨hqt,by rw[<-hqa];simp[ha]⟩ (by omega) (BW (by simp[ZF]))
     . have hqe:q=s.length:=by simp at h3;omega
       subst hqe;rw[AZ] at hqa;simp only[List.all_nil] at hqa;simp only[go_sem,YY];refine Hw (j+1) _ ⟨j9,by rw[<-Hx];simp[<-hqa]⟩ (by omega) (BW (by simp[ZF]))
   . have hje:j=fs.length:=by simp at h2;omega
     subst hje;rw[AZ] at Hx;simp only[List.all_nil] at Hx;simp only[go_sem,hw];refine ih (i+1) _ ⟨Cv,.inr ⟨by omega,by rw[Nat.add_sub_cancel,hx];simp only;omega⟩,?_⟩ (by omega) (BW (by simp[ZF]));rw[<-hf,if_neg (by omega),Nat.add_sub_cancel,hx];simp only[Fi,<-Hx,Dt,j7,BS,A7,ne_eq,not_false_eq_true]
 . rw[if_neg (by omega)] at hf;have hgp:=NC l (i - 1) (by omega);generalize hy:l.getD (i - 1) ZT=y at*;obtain ⟨pn,pf⟩:=y;simp only at hgp hf hp1;have Ii:(0:Int)<(i:Int):=by omega
   have hip:(0:Int)<=((i - 1:Nat):Int)/\((i - 1:Nat):Int)<(l.length:Int):=by omega
   have hwp:IntKind.i64.wrap ((i:Int) - 1)=((i - 1:Nat):Int):=by rw[B3]<;>omega
   simp only[go_sem];refine CG mixed (p:=[(0,0),(1,0),(2,0),(3,0),(4,0),(5,0),(6,0),(7,0),(8,0),(9,0),(10,0),(11,0),(12,0),(13,0),(14,0),(15,0),(16,0),(17,0),(18,0),(19,0),(20,0),(21,0),(22,0),(23,0),(24,0),(25,0),(26,0),(27,0),(28,0),(29,0),(30,0),(31,0),(32,0)]) (by kernel_rfl) (by simp[C8,get]) ?_;by_cases c1:num<1
   . simp only[go_sem,CQ,Ab,hg,C6,Ii,c1];have:¬pn<num:=by omega
     rw[<-hf];simp[Fi,this]
   by_cases c0:num<=pn
   . simp only[go_sem,CQ,Ab,hg,C6,Ii,c1,hwp,hip,hgp,c0];have:¬pn<num:=by omega
     rw[<-hf];simp[Fi,this]
   by_cases c2:(fs.length:Int)=0
   . simp only[go_sem,CQ,B5,Ab,hg,C6,Ii,c1,c2,hwp,hip,hgp,c0];have:fs=[]:=AY (by omega);rw[<-hf];simp[Fi,this]
   simp only[go_sem,CQ,B5,Ab,hg,C6,Ii,c1,c2,hwp,hip,hgp,c0];have Dt:fs≠[]:=by rintro rfl;simp at c2
   have j7:pn<num:=by omega
   have h1n:1<=num:=by omega
   refine B7 (λ j:Nat=>⟨[(0,.p (.sl (EG l))),(3,.p (.int .i64 (i:Nat))),(4,.p (.int .i64 (j:Nat)))],[],82⟩) (λ j=>j<=fs.length/\(fs.drop j).all FO=fs.all FO) (λ j=>fs.length - j) 0 ⟨AE _,by simp⟩ (BW (by simp[ZF])) ?_;rintro j n2 ⟨hj,Hx⟩ Hw;simp only[go_sem,CQ,Ab,hg,C6,B5];refine Cy (λ h2=>?_) (λ h2=>?_)
   . have j9:j<fs.length:=by simp at h2;omega
     have V2:(0:Int)<=(j:Int)/\(j:Int)<(fs.length:Int):=by omega
     have YY:=Cd j (by omega);have hgj:=DH fs j j9;have hsx:=hzx.2 _ (CF fs j [] j9);rw[Df fs j [] j9] at Hx;generalize fs.getD j []=s at*;simp only[go_sem,CQ,Ab,hg,C6,B5,hgj,V2];have Acr:FO s=false->Fi 0 l=false:=λ h=>by
       have:fs.all FO=false:=by rw[<-Hx];simp[h]
       rw[<-hf];simp[Fi,this]
     by_cases hs0:s=[]
     . subst hs0;simp only[go_sem];rw[Acr rfl]
     by_cases Am5:(12:Int)<(s.length:Int)
     . simp only[go_sem,hs0,Am5];have:¬s.length<=12:=by omega
       rw[Acr (by simp[FO,this])]
     simp only[go_sem,hs0,Am5];have Am4:s.length<=12:=by omega
     have hpp:FO s=s.all λ b=>IC b.toNat:=by simp[FO,hs0,Am4]
     refine B7 (λ q:Nat=>⟨[(0,.p (.sl (EG l))),(3,.p (.int .i64 (i:Nat))),(4,.p (.int .i64 (j:Nat))),(5,.p (.str s)),(6,.p (.int .i64 (q:Nat)))],[],82⟩) (λ q=>q<=s.length/\((s.drop q).all λ b=>IC b.toNat)=FO s) (λ q=>s.length - q) 0 ⟨AE _,by simp[hpp]⟩ (BW (by simp[ZF])) ?_;rintro q n3 ⟨hq,hqa⟩ ih3;simp only[go_sem];refine Cy (λ h3=>?_) (λ h3=>?_)
     . have hqt:q<s.length:=by simp at h3;omega
       have hq0:(0:Int)<=(q:Int)/\(q:Int)<(s.length:Int):=by omega
       have hwq:=Cd q (by omega);rw[Df s q 0 hqt] at hqa;generalize hb:s.getD q 0=b at*;simp only[go_sem,Ab,hq0,hb];refine Cq ((NP (b.toNat:Int))) ?_;cases ha:IC b.toNat
       . simp only[go_sem,ha];rw[Acr (by rw[<-hqa];simp[ha])]
       . simp only[go_sem,ha,hwq];refine ih3 (q+1) _ ⟨hqt,by rw[<-hqa];simp[ha]⟩ (by omega) (BW (by simp[ZF]))
     . have hqe:q=s.length:=by simp at h3;omega
       subst hqe;rw[AZ] at hqa;simp only[List.all_nil] at hqa;simp only[go_sem,YY];refine Hw (j+1) _ ⟨j9,by rw[<-Hx];simp[<-hqa]⟩ (by omega) (BW (by simp[ZF]))
   . have hje:j=fs.length:=by simp at h2;omega
     subst hje;rw[AZ] at Hx;simp only[List.all_nil] at Hx;simp only[go_sem,hw];refine ih (i+1) _ ⟨Cv,.inr ⟨by omega,by rw[Nat.add_sub_cancel,hx];simp only;omega⟩,?_⟩ (by omega) (BW (by simp[ZF]));rw[<-hf,if_neg (by omega),Nat.add_sub_cancel,hx];simp only[Fi,<-Hx,Dt,j7,BS,A7,ne_eq,not_false_eq_true]
theorem Alv(l:List Ln)(hl:l.length<=4000000/\∀x∈l,x.fs.length<=4000000/\x.num<=9223372036854775807/\∀s∈x.fs,s.length<=4000000):B2 prog 55 [.p (.sl (EG l))] [] λ h r=>h=[]/\r=Atg (Qr l):=by
 refine B1 func55 rfl Ant (by simp[Tryz.f55]) ?_;simp only[go_sem];refine Cq ((Agr l ⟨hl.1,λ x hx=>⟨(hl.2 x hx).1,(hl.2 x hx).2.2⟩⟩)) ?_;obtain ⟨hl,hz⟩:=hl;cases OP:Fi 0 l
 . simp only[go_sem,OP];rw[show Qr l=([],20) by simp[Qr,OP]];refine BX ?_;simp only[go_sem];rfl
 simp only[go_sem,OP];have big:6000<(HA 1 l).length->Qr l=([],1):=λ h=>by simp[Qr,OP,h]
 refine B7 (λ q:Nat×Nat×List UInt8=>⟨[(0,.p (.sl (EG l))),(4,.p (.str q.2.2)),(5,.p (.int .i64 (q.2.1:Nat))),(6,.p (.int .i64 (q.1:Nat)))],[],50⟩)
   (λ q=>q.1<=l.length/\(1<=q.2.1/\q.2.1<=q.2.2.length+1/\q.2.2.length<=6000)/\Fi ((q.2.1 - 1:Nat):Int) (l.drop q.1)=true/\q.2.2++HA q.2.1 (l.drop q.1)=HA 1 l) (λ q=>l.length - q.1) (0,1,[])
   ⟨Nat.zero_le _,by simp,by simpa using OP,by simp⟩ (BW (by simp[ZF])) ?_
 rintro ⟨i,num,txt⟩ n ⟨hi,S2,hf,ht⟩ ih;simp only at hi S2 hf ht;simp only[go_sem,CQ];refine Cy (λ h1=>?_) (λ h1=>?_);rotate_left
 . have W0:i=l.length:=by simp at h1;omega
   subst W0;rw[AZ] at ht;simp only[HA,List.append_nil] at ht;subst ht;simp only[go_sem];have V2:Qr l=(HA 1 l,0):=by
     have:¬6000<(HA 1 l).length:=by omega
     simp[Qr,OP,this]
   rw[V2];refine BX ?_;simp only[go_sem];rfl
 have Cv:i<l.length:=by simp at h1;omega
 have C6:(0:Int)<=(i:Int)/\(i:Int)<(l.length:Int):=by omega
 have hw:=Cd i (by omega);have hg:=NC l i Cv;have hzx:=hz _ (CF l i ZT Cv);rw[Df l i ZT Cv] at hf ht;generalize l.getD i ZT=x at*;obtain ⟨xn,fs⟩:=x;obtain ⟨f1,f2,f3,f4⟩:=L0.1 hf;simp only at hg hzx f1 f2 f3 f4;obtain ⟨m,rfl⟩:∃m:Nat,xn=(m:Int):=⟨xn.toNat,by omega⟩;simp only[HA,Ab] at ht;have hlen:=congrArg List.length ht;simp only[Aq,Bi,An] at hlen;have hwl:=OY fs f2;have hle:num<=m:=by omega
 have hws:IntKind.i64.wrap ((m:Int) - (num:Int))=((m - num:Nat):Int):=by rw[B3]<;>omega
 by_cases Ayd:(6000:Int)<((m - num:Nat):Int)
 . simp only[go_sem,CQ,Ab,hg,C6,hws,Ayd];rw[big (by omega)];refine BX ?_;simp only[go_sem];rfl
 simp only[go_sem,CQ,Ab,hg,C6,hws,Ayd];have hwords:Lv fs<=60000000:=by
   have key:∀r:List (List UInt8),(∀s∈r,FO s=true)->Lv r<=13*r.length:=by
     intro r
     induction r with
     | nil=>intro _;simp[Lv]
     | cons s r ih=>intro h;have h1:=ih (λ y hy=>h y (by simp[hy]));have h2:=(N1.1 (h s (by simp))).2.1;simp only[Lv,An];omega
   have:=key fs f3;omega
 refine B7 (λ q:Nat=>⟨[(0,.p (.sl (EG l))),(4,.p (.str (txt++List.replicate (q - num) 10))),(5,.p (.int .i64 (q:Nat))),(6,.p (.int .i64 (i:Nat)))],[],50⟩) (λ q=>num<=q/\q<=m) (λ q=>m - q) num ⟨Ai _,hle⟩ (BW (by simp[ZF,Nat.sub_self,List.replicate_zero,List.append_nil])) ?_;rintro q n2 ⟨Uv,VZ⟩ Hw;simp only[go_sem,CQ,Ab,hg,C6];refine Cy (λ h2=>?_) (λ h2=>?_)
 . have hqm:q<m:=by simp at h2;omega
   have hwq:=Cd q (by omega);have Agf:txt++List.replicate (q - num) 10++[10]=txt++List.replicate (q+1 - num) (10:UInt8):=by
     rw[show q+1 - num=(q - num)+1 by omega,List.replicate_succ',A9]
   simp only[go_sem,hwq];refine ⟨by unfold maxLen;simp;omega,?_⟩;refine Hw (q+1) _ ⟨by omega,by omega⟩ (by omega) (BW (by simp[ZF,Agf]))
 . have hqe:q=m:=by simp at h2;omega
   subst hqe;have hwq:=Cd q (by omega);simp only[go_sem,CQ,Ab,hg,C6];refine Cq ((Ajl fs (by omega) (by omega))) ?_;simp only[go_sem];refine ⟨by unfold maxLen;simp;omega,by unfold maxLen;simp;omega,?_⟩;have htx:txt++List.replicate (q - num) 10++(FZ fs++[10])++HA (q+1) (l.drop (i+1))=HA 1 l:=by rw[<-ht];simp
   have Amf:(txt++List.replicate (q - num) 10++(FZ fs++[10])).length=txt.length+(q - num)+((FZ fs).length+1):=by simp;omega
   generalize txt++List.replicate (q - num) 10++(FZ fs++[10])=t2 at*;have Ay7:=congrArg List.length htx;rw[Aq] at Ay7;by_cases Ayl:(6000:Int)<(t2.length:Int)
   . simp only[go_sem,hwq,Ayl];rw[big (by omega)];refine BX ?_;simp only[go_sem];rfl
   . simp only[go_sem,hwq,Ayl,hw];refine ih (i+1,q+1,t2) _ ⟨Cv,⟨by simp only;omega,by simp only;omega,by simp only;omega⟩,by simpa using f4,htx⟩ (by simp only;omega) (BW (by simp[ZF]))
theorem Aps(n:Int)(h0:0<=n)(h1:n<4294967296):((BitVec.ofInt 64 n&&& BitVec.ofInt 64 4294967295).toNat:Int)=n:=by
 obtain ⟨m,rfl⟩:=Int.eq_ofNat_of_zero_le h0;have h2:m<4294967296:=by omega
 rw[BitVec.toNat_and];have e1:(BitVec.ofInt 64 (m:Int)).toNat=m:=by
   simp only[BitVec.toNat_ofInt];omega
 have e2:(BitVec.ofInt 64 4294967295).toNat=2 ^ 32 - 1:=by decide
 rw[e1,e2,Nat.and_two_pow_sub_one_eq_mod];omega
theorem Wv(n:Int)(h0:0<=n)(h1:n<4294967296):n.fdiv 4294967296=0:=by
 rw[Int.fdiv_eq_ediv_of_nonneg _ (by omega)];omega
theorem Wj(n:Int)(h0:0<=n)(h1:n<4294967296):IntKind.u64.wrap n=n:=by
 simp[IntKind.wrap,IntKind.bits,IntKind.signed];omega
theorem Alf(n:Int)(h0:0<=n)(h1:n<4294967296):
   B2 prog 163 [.p (.int .u64 1),.p (.int .u64 n)] [] λ h d=>h=[]/\d= .Dv [.p (.int .u64 0),.p (.int .u64 n)]:=by
 refine B1 func163 rfl Ah3 (by simp[Tryz.f163]) ?_;simp only[go_sem,h0,h1];all_goals (try refine BX ?_)
 have pw:(2:Int) ^ min 32 64=4294967296:=by decide
 have w0:=Wj 0 (by omega) (by omega);have w1:=Wj 1 (by omega) (by omega);have a1:=Aps 1 (by omega) (by omega);have a0:=Aps 0 (by omega) (by omega);have an:=Aps n h0 h1
 repeat erw [an]
 repeat erw [a1]
 simp only[pw,Wv n h0 h1,Wv 1 (by omega) (by omega),Wv 0 (by omega) (by omega),Wj n h0 h1,w0,w1,Int.zero_mul,Int.mul_zero,Int.zero_add,Int.add_zero,Int.one_mul]
 repeat erw [a0]
 simp only[pw,Wv n h0 h1,Wv 1 (by omega) (by omega),Wv 0 (by omega) (by omega),Wj n h0 h1,w0,w1,Int.zero_mul,Int.mul_zero,Int.zero_add,Int.add_zero,Int.one_mul];simp only[go_sem]
theorem Auv(n:Int)(h0:0<=n)(h1:n<4294967296):
   B2 prog 133 [.p (.int .u64 1),.p (.int .u64 n)] [] λ h d=>h=[]/\d= .Dv [.p (.int .u64 0),.p (.int .u64 n)]:=by
 refine B1 func133 rfl Ahg (by simp[Tryz.f133]) ?_;simp only[go_sem,h0,h1];refine Cq ((Alf n h0 h1)) ?_;simp only[go_sem];all_goals (try refine BX ?_)
 all_goals (try simp only[go_sem])
theorem G5{g:List (List Int)}(hg:DV g){u:Nat}(hu:u<g.length){w:Int}(hw:w∈g.getD u []):0<=w/\w<(g.length:Int)/\w≠(u:Int):=by
 obtain ⟨k,hk,rfl⟩:=AD.1 hw;have:=hg.2 u hu k hk;unfold JK at this;have e1:(g.getD u []).getD k 0=(g.getD u [])[k]:=getD_eq hk;rw[e1] at this;exact ⟨this.1,this.2.1,this.2.2.1⟩
structure DS(g:List (List Int))(sh:List Bool)(goal:Nat)(o:List Int):Prop where
 len:o.length=g.length
 lo:∀v,v<g.length->-1<=o.getD v 0
 zero:∀v,v<g.length->(o.getD v 0=0↔v=goal)
 prev:∀v,v<g.length->1<=o.getD v 0->∃w∈g.getD v [],o.getD w.toNat 0=o.getD v 0 - 1
 next:∀v,v<g.length->sh.getD v false=false->∀w∈g.getD v [],0<=o.getD w.toNat 0->0<=o.getD v 0/\o.getD v 0<=o.getD w.toNat 0+1
 shut:∀v,v<g.length->sh.getD v false=true->o.getD v 0=-1
theorem DS.le{g:List (List Int)}(hg:DV g){sh:List Bool}{goal:Nat}{o p:List Int}(ho:DS g sh goal o)(hp:DS g sh goal p):
   ∀(k:Nat) (v:Nat),v<g.length->o.getD v 0=(k:Int)->0<=p.getD v 0/\p.getD v 0<=(k:Int)
 | 0,v,hv,h=>by
   have h1:=(ho.zero v hv).1 h;have h2:=(hp.zero v hv).2 h1;omega
 | k+1,v,hv,h=>by
   obtain ⟨w,hw,hd⟩:=ho.prev v hv (by omega);have hr:=G5 hg hv hw;have ih:=DS.le hg ho hp k w.toNat (by omega) (by omega);have hs:sh.getD v false=false:=by
     cases e:sh.getD v false
     . rfl
     . have:=ho.shut v hv e;omega
   have:=hp.next v hv hs w hw ih.1
   omega
theorem DS.uniq{g:List (List Int)}(hg:DV g){sh:List Bool}{goal:Nat}{o p:List Int}(ho:DS g sh goal o)(hp:DS g sh goal p):o=p:=by
 apply List.ext_getElem (by rw[ho.len,hp.len]);intro v h1 h2;have hv:v<g.length:=by rw[<-ho.len];exact h1
 have e1:o.getD v 0=o[v]:=getD_eq h1;have e2:p.getD v 0=p[v]:=getD_eq h2;rw[<-e1,<-e2];have l1:=ho.lo v hv;have l2:=hp.lo v hv;by_cases c:0<=o.getD v 0
 . have a:=DS.le hg ho hp (o.getD v 0).toNat v hv (by omega);have b:=DS.le hg hp ho (p.getD v 0).toNat v hv (by omega);omega
 . by_cases c2:0<=p.getD v 0
   . have b:=DS.le hg hp ho (p.getD v 0).toNat v hv (by omega);omega
   . omega
def NX(g:List (List Int))(sh:List Bool)(d:Int)(v:Nat)(o:List Int):Prop:=
 ∀u,u<g.length->sh.getD u false=false->∀w∈g.getD u [],0<=o.getD w.toNat 0->(o.getD w.toNat 0<d - 1∨(o.getD w.toNat 0=d - 1/\u<v))->0<=o.getD u 0/\o.getD u 0<=o.getD w.toNat 0+1
theorem Ajq{g:List (List Int)}(hg:DV g){sh:List Bool}{goal:Nat}{d:Int}{v:Nat}{o:List Int}(hv:v<g.length)(hd:1<=d)(h:DP g goal d o)(hx:NX g sh d v o):NX g sh d (v+1) (KH g sh d v o):=by
 unfold KH;split
 . rename_i h1;intro u hu hs w hw h0 hc;by_cases e:u=v
   . subst e;have h2:0<=o.getD u 0:=by
       rcases h1 with h1 | h1
       . rw[hs] at h1;cases h1
       . exact h1
     rcases hc with hc | hc
     . exact hx u hu hs w hw h0 (.inl hc)
     . refine ⟨h2,?_⟩;rcases h.2 u hu with h3 | h3 | h3<;>omega
   . exact hx u hu hs w hw h0 (by omega)
 . rename_i h1;split
   . rename_i h2;have Art:o.getD v 0<0:=by
       rcases Int.lt_or_le (o.getD v 0) 0 with h3 | h3
       . exact h3
       . exact absurd (Or.inr h3) h1
     intro u hu hs w hw;have hr:=G5 hg hu hw;rw[D7,D7];have hl:=h.1;by_cases e2:v=w.toNat
     . rw[if_pos ⟨e2,by omega⟩];intro _ hc;omega
     . rw[if_neg (λ h=>e2 h.1)];intro h0 hc;by_cases e:v=u
       . subst e;rw[if_pos ⟨rfl,by omega⟩];refine ⟨by omega,?_⟩;rcases Int.lt_or_le (o.getD w.toNat 0) (d - 1) with h3 | h3
         . have:=hx v hu hs w hw h0 (.inl h3);omega
         . omega
       . rw[if_neg (λ h=>e h.1)];exact hx u hu hs w hw h0 (by omega)
   . rename_i h2;intro u hu hs w hw h0 hc;by_cases e:u=v
     . subst e;rcases hc with hc | hc
       . exact hx u hu hs w hw h0 (.inl hc)
       . exact absurd (AV.2 ⟨w,hw,Ag hc.1⟩) h2
     . exact hx u hu hs w hw h0 (by omega)
theorem Zf{g:List (List Int)}(hg:DV g){sh:List Bool}{goal:Nat}{d:Int}(hd:1<=d):∀(f v:Nat) (o:List Int),v+f<=g.length->DP g goal d o->NX g sh d v o->NX g sh d (v+f) (Jz g sh d f v o)
 | 0,_,_,_,_,h=>h
 | f+1,v,o,hv,h,hx=>by
   have:=Zf hg hd f (v+1) _ (by omega) (Zd hg (sh:=sh) (by omega) hd h) (Ajq hg (by omega) hd h hx);rw[show v+1+f=v+(f+1) by omega] at this;exact this
theorem u7{g:List (List Int)}(hg:DV g){sh:List Bool}{goal:Nat}:∀(f d:Nat) (o:List Int),1<=d->DP g goal ((d - 1:Nat):Int) o->NX g sh d 0 o->NX g sh ((d+f:Nat):Int) 0 (Kh g sh f d o)/\DP g goal ((d+f - 1:Nat):Int) (Kh g sh f d o)
 | 0,d,o,hd,h,hx=>⟨hx,h⟩
 | f+1,d,o,hd,h,hx=>by
   have hD:DP g goal (d:Int) o:=h.mono (by omega);have h1:=TB (sh:=sh) hg (d:=(d:Int)) (by omega) g.length 0 o (by omega) hD;have h2:=Zf (sh:=sh) hg (d:=(d:Int)) (by omega) g.length 0 o (by omega) hD hx;have h3:NX g sh ((d+1:Nat):Int) 0 (Jz g sh d g.length 0 o):=λ u hu hs w hw h0 hc=>by
     refine h2 u hu hs w hw h0 ?_;rcases Int.lt_or_le ((Jz g sh d g.length 0 o).getD w.toNat 0) ((d:Int) - 1) with h4 | h4
     . exact .inl h4
     . exact .inr ⟨by omega,by omega⟩
   have:=u7 hg f (d+1) _ (by omega) (show DP g goal ((d+1 - 1:Nat):Int) _ by rw[show d+1 - 1=d by omega];exact h1) h3;rw[show d+1+f=d+(f+1) by omega] at this;exact this
theorem TA{g:List (List Int)}{sh:List Bool}{d:Int}{v u:Nat}{o:List Int}(h:0<=o.getD u 0∨sh.getD u false=true):(KH g sh d v o).getD u 0=o.getD u 0:=by
 unfold KH;split
 . rfl
 . rename_i h1;split
   . rw[D7];by_cases e:v=u
     . subst e;rcases h with h | h
       . exact absurd (Or.inr h) h1
       . exact absurd (Or.inl h) h1
     . rw[if_neg (λ h=>e h.1)]
   . rfl
theorem O1{g:List (List Int)}{sh:List Bool}{d:Int}{u:Nat}:∀(f v:Nat) (o:List Int),(0<=o.getD u 0∨sh.getD u false=true)->(Jz g sh d f v o).getD u 0=o.getD u 0
 | 0,_,_,_=>rfl
 | f+1,v,o,h=>by
   rw[Jz,O1 f (v+1) _ (by rw[TA h];exact h),TA h]
theorem Vd{g:List (List Int)}{sh:List Bool}{u:Nat}:∀(f d:Nat) (o:List Int),(0<=o.getD u 0∨sh.getD u false=true)->(Kh g sh f d o).getD u 0=o.getD u 0
 | 0,_,_,_=>rfl
 | f+1,d,o,h=>by
   rw[Kh,Vd f (d+1) _ (by rw[O1 _ _ _ h];exact h),O1 _ _ _ h]
theorem DP.chain{g:List (List Int)}(hg:DV g){goal:Nat}{m:Int}{o:List Int}(h:DP g goal m o):∀(k v:Nat),v<g.length->o.getD v 0=(k:Int)->∃l:List Int,l.Nodup/\l.length=k+1/\∀x∈l,0<=x/\x<(g.length:Int)/\0<=o.getD x.toNat 0/\o.getD x.toNat 0<=(k:Int)
 | 0,v,hv,e=>⟨[(v:Int)],by simp,rfl,λ x hx=>by
     simp only[Ay] at hx;subst hx;simp only[Ab];omega⟩
 | k+1,v,hv,e=>by
   rcases h.2 v hv with h3 | h3 | ⟨_,_,w,hw,h4⟩
   . omega
   . omega
   . have hr:=G5 hg hv hw;obtain ⟨l,h5,h6,h7⟩:=DP.chain hg h k w.toNat (by omega) (by omega);refine ⟨(v:Int)::l,?_,by simp[h6],?_⟩
     . rw[BD];refine ⟨λ hm=>?_,h5⟩;have:=h7 _ hm;simp only[Ab] at this;omega
     . intro x hx;rcases AG.1 hx with rfl | hx
       . simp only[Ab];omega
       . have:=h7 x hx;omega
theorem U9{g:List (List Int)}(hg:DV g){sh:List Bool}{goal:Nat}(El:goal<g.length)(ho:sh.getD goal false=false):DS g sh goal (Dz g sh goal):=by
 have Agf:∀v,v<g.length->(List.replicate g.length (-1:Int)).getD v 0=-1:=λ v hv=>by simp[List.getD,hv]
 have e0:Dz g sh goal=Kh g sh (g.length - 1) 1 ((List.replicate g.length (-1)).set goal 0):=by
   unfold Dz;rw[ho];rfl
 have hz:∀u,u<g.length->((List.replicate g.length (-1:Int)).set goal 0).getD u 0=if u=goal then 0 else -1:=λ u hu=>by
   rw[D7];by_cases e:goal=u
   . rw[if_pos ⟨e,by simpa using El⟩,if_pos e.symm]
   . rw[if_neg (λ h=>e h.1),if_neg (λ h=>e h.symm),Agf u hu]
 have hD0:DP g goal ((1 - 1:Nat):Int) ((List.replicate g.length (-1)).set goal 0):=⟨by simp,λ u hu=>by
   rw[hz u hu];by_cases e:u=goal
   . rw[if_pos e];exact .inr (.inl ⟨rfl,e⟩)
   . rw[if_neg e];exact .inl rfl⟩
 have hN0:NX g sh ((1:Nat):Int) 0 ((List.replicate g.length (-1)).set goal 0):=λ u hu hs w hw h0 hc=>by omega
 obtain ⟨hN,hD⟩:=u7 hg (g.length - 1) 1 _ (Ai _) hD0 hN0;have hk:∀u,u<g.length->(u=goal∨sh.getD u false=true)->(Dz g sh goal).getD u 0=if u=goal then 0 else -1:=λ u hu hc=>by
   rw[e0,Vd _ _ _ ?_,hz u hu];rcases hc with hc | hc
   . left;rw[hz u hu,if_pos hc];omega
   . exact .inr hc
 rw[<-e0] at hN hD;rw[show 1+(g.length - 1)=g.length by omega] at hN hD;refine ⟨Lq g sh goal,?_,?_,?_,?_,?_⟩
 . intro v hv;rcases hD.2 v hv with h | h | h<;>omega
 . intro v hv;constructor
   . intro e;rcases hD.2 v hv with h | h | h
     . omega
     . exact h.2
     . omega
   . rintro rfl;have:=hk v hv (.inl rfl);rw[if_pos rfl] at this;exact this
 . intro v hv h1;rcases hD.2 v hv with h | h | h
   . omega
   . omega
   . exact h.2.2
 . intro v hv hs w hw h0;have hr:=G5 hg hv hw;rcases Int.lt_or_le ((Dz g sh goal).getD w.toNat 0) ((g.length:Int) - 1) with h4 | h4
   . exact hN v hv hs w hw h0 (.inl h4)
   . have hb:∀u,u<g.length->(Dz g sh goal).getD u 0<=(g.length:Int) - 1:=λ u hu=>by
       rcases hD.2 u hu with h | h | h<;>omega
     have hw2:=hb w.toNat (by omega);have Us:=hb v hv;refine ⟨?_,by omega⟩;rcases Int.lt_or_le ((Dz g sh goal).getD v 0) 0 with h5 | h5
     . exfalso;obtain ⟨l,h6,h7,h8⟩:=DP.chain hg hD (g.length - 1) w.toNat (by omega) (by omega);have:=Al5 ((v:Int)::l) ((List.range g.length).map (λ j=>((j:Nat):Int))) (by
         rw[BD];refine ⟨λ hm=>?_,h6⟩;have:=h8 _ hm;simp only[Ab] at this;omega) (λ x hx=>by
         rw[AU];rcases AG.1 hx with rfl | hx
         . exact ⟨v,List.mem_range.2 hv,rfl⟩
         . have:=h8 x hx;exact ⟨x.toNat,List.mem_range.2 (by omega),by omega⟩)
       simp only[An,Ba,List.length_range] at this;omega
     . exact h5
 . intro v hv hs;have:=hk v hv (.inr hs);rw[if_neg (λ e=>by rw[e,ho] at hs;cases hs)] at this;exact this
def GI(o:List Int)(b w:Int):Int:=if 0<=o.getD w.toNat 0/\(b<0∨o.getD w.toNat 0<o.getD b.toNat 0) then w else b
def IB(o row:List Int):Int:=row.foldl (GI o) (-1)
def Ke(o row:List Int)(m:Int):Int:=(row.find? λ w=>decide (o.getD w.toNat 0=m)).getD (-1)
theorem Vl(o:List Int)(m:Int):∀(row:List Int) (b:Int),0<=b->o.getD b.toNat 0=m->(∀w∈row,0<=o.getD w.toNat 0->m<=o.getD w.toNat 0)->row.foldl (GI o) b=b
 | [],_,_,_,_=>rfl
 | w::row,b,hb,he,h=>by
   have e:GI o b w=b:=by
     unfold GI;rw[if_neg];rintro ⟨h1,h2⟩;have:=h w (by simp) h1;omega
   rw[Bs,e];exact Vl o m row b hb he (λ x hx=>h x (by simp[hx]))
theorem Vm(o:List Int)(m:Int)(hm:0<=m):∀(row:List Int) (b:Int),(∀w∈row,0<=w)->(b=-1∨(0<=b/\m<o.getD b.toNat 0))->(∀w∈row,0<=o.getD w.toNat 0->m<=o.getD w.toNat 0)->(∃w∈row,o.getD w.toNat 0=m)->row.foldl (GI o) b=Ke o row m
 | [],_,_,_,_,h=>by obtain ⟨w,hw,_⟩:=h;simp at hw
 | w::row,b,hp,hb,h,hx=>by
   have hw:=h w (by simp);rw[Bs];unfold Ke;by_cases c:o.getD w.toNat 0=m
   . have e:GI o b w=w:=by
       unfold GI;rw[if_pos ⟨by omega,by omega⟩]
     rw[e,Vl o m row w (hp w (by simp)) c (λ x hx=>h x (by simp[hx]))];rw[List.find?_cons,Ag c];rfl
   . have HT:∃x∈row,o.getD x.toNat 0=m:=by
       obtain ⟨x,h1,h2⟩:=hx;rcases AG.1 h1 with rfl | h1
       . exact absurd h2 c
       . exact ⟨x,h1,h2⟩
     have W1:GI o b w=-1∨(0<=GI o b w/\m<o.getD (GI o b w).toNat 0):=by
       unfold GI;split
       . rename_i h1;exact .inr ⟨hp w (by simp),by omega⟩
       . exact hb
     rw[Vm o m hm row _ (λ x hx=>hp x (by simp[hx])) W1 (λ x hx=>h x (by simp[hx])) HT];unfold Ke;rw[List.find?_cons,Ah c]
theorem Jw(o:List Int):∀(row:List Int) (b:Int),row.foldl (GI o) b=b∨(row.foldl (GI o) b∈row/\0<=o.getD (row.foldl (GI o) b).toNat 0)
 | [],_=> .inl rfl
 | w::row,b=>by
   rw[Bs];rcases Jw o row (GI o b w) with h | h
   . rw[h];unfold GI;split
     . rename_i h1;exact .inr ⟨by simp,h1.1⟩
     . exact .inl rfl
   . exact .inr ⟨by simp[h.1],h.2⟩
theorem DS.Apo{g:List (List Int)}(hg:DV g){sh:List Bool}{goal:Nat}{o:List Int}(ho:DS g sh goal o){v:Nat}(hv:v<g.length)(h1:1<=o.getD v 0):
   IB o (g.getD v [])=Ke o (g.getD v []) (o.getD v 0 - 1):=by
 have hs:sh.getD v false=false:=by
   cases e:sh.getD v false
   . rfl
   . have:=ho.shut v hv e;omega
 exact Vm o _ (by omega) _ _ (λ w hw=>(G5 hg hv hw).1) (.inl rfl) (λ w hw h0=>by have:=ho.next v hv hs w hw h0;omega) (ho.prev v hv h1)
theorem Amc{o row:List Int}{m:Int}(h:∃w∈row,o.getD w.toNat 0=m):Ke o row m∈row/\o.getD (Ke o row m).toNat 0=m:=by
 unfold Ke;obtain ⟨w,hw,he⟩:=h;cases c:row.find? λ w=>decide (o.getD w.toNat 0=m) with
 | none=>rw[List.find?_eq_none] at c;exact absurd (Ag he) (c w hw)
 | some x=>exact ⟨List.mem_of_find?_eq_some c,by simpa using List.find?_some c⟩
def Oo(g:List (List Int))(o:List Int):Nat->Int->List Int
 | 0,_=>[]
 | f+1,v=>v::Oo g o f (Ke o (g.getD v.toNat []) (o.getD v.toNat 0 - 1))
def GP(g:List (List Int))(sh:List Bool)(v:Nat):List Int:=
 if sh.getD v false=true then []
 else
   let o:=Dz g sh v
   let b:=IB o (g.getD v [])
   if b<0 then [] else (v:Int)::Oo g o (o.getD b.toNat 0).toNat b
theorem KG(g:List (List Int))(o:List Int):∀(f:Nat) (v:Int),(Oo g o f v).length=f
 | 0,_=>rfl
 | f+1,v=>by rw[Oo,An,KG]
def LY(Apo w:List Int):List Int:=if 0<w.length/\(Apo.length=0∨w.length<Apo.length) then w else Apo
def FE(g:List (List Int))(sh:List Bool):List Int:=((List.range g.length).map (GP g sh)).foldl LY []
def Ko(d:List Int):Nat:=d.countP λ x=>decide (x<0)
theorem T8{d:List Int}{v:Nat}{x:Int}(hv:v<d.length)(h:d.getD v 0<0)(hx:0<=x):Ko (d.set v x)+1=Ko d:=by
 have e:d.getD v 0=d[v]:=getD_eq hv;rw[e] at h;have hp:0<Ko d:=by
   unfold Ko;rw[List.countP_pos_iff];exact ⟨d[v],AN hv,Ag h⟩
 have h2:Ko (d.set v x)=Ko d - 1:=by
   unfold Ko;rw[List.countP_set (h:=hv),if_pos (Ag h),if_neg (by simpa using hx)];rfl
 omega
structure BF(g:List (List Int))(sh:List Bool)(goal:Nat)(w:Int)(v:Nat)(d q:List Int):Prop where
 len:d.length=g.length
 lo:∀u,u<g.length->-1<=d.getD u 0
 zero:∀u,u<g.length->(d.getD u 0=0↔u=goal)
 prev:∀u,u<g.length->1<=d.getD u 0->∃y∈g.getD u [],d.getD y.toNat 0=d.getD u 0 - 1
 shut:∀u,u<g.length->sh.getD u false=true->d.getD u 0=-1
 qin:∀x∈q,0<=x/\x<(g.length:Int)/\0<=d.getD x.toNat 0
 sorted:q.Pairwise λ x y=>d.getD x.toNat 0<=d.getD y.toNat 0
 top:∀x∈q,∀u,u<g.length->d.getD u 0<=d.getD x.toNat 0+1
 done:∀y:Int,0<=y->y<(g.length:Int)->0<=d.getD y.toNat 0->y∉q->∀u,u<g.length->(y=w->u<v)->sh.getD u false=false->y∈g.getD u []->0<=d.getD u 0/\d.getD u 0<=d.getD y.toNat 0+1
 bnd:∀u,u<g.length->d.getD u 0+(Ko d:Nat)<=(g.length:Int) - 1
 Akv:q.length+Ko d<=g.length
 cur:0<=w->w<(g.length:Int)/\0<=d.getD w.toNat 0/\(∀u,u<g.length->d.getD u 0<=d.getD w.toNat 0+1)/\∀x∈q,d.getD w.toNat 0<=d.getD x.toNat 0
theorem BF.init{g:List (List Int)}{sh:List Bool}{goal:Nat}(El:goal<g.length)(ho:sh.getD goal false=false):BF g sh goal (-1) 0 ((List.replicate g.length (-1)).set goal 0) [(goal:Int)]:=by
 have hz:∀u,u<g.length->((List.replicate g.length (-1:Int)).set goal 0).getD u 0=if u=goal then 0 else -1:=λ u hu=>by
   rw[D7];by_cases e:goal=u
   . rw[if_pos ⟨e,by simpa using El⟩,if_pos e.symm]
   . rw[if_neg (λ h=>e h.1),if_neg (λ h=>e h.symm)];simp[List.getD,hu]
 have hr:Ko (List.replicate g.length (-1))=g.length:=by
   unfold Ko;rw[List.countP_replicate];simp
 have hn:Ko ((List.replicate g.length (-1)).set goal 0)+1=g.length:=by
   rw[T8 (by simpa using El) (by simp[List.getD,El]) (by omega),hr]
 refine ⟨by simp,λ u hu=>?_,λ u hu=>?_,λ u hu h=>?_,λ u hu h=>?_,λ x hx=>?_,by simp,λ x hx u hu=>?_,λ y hy YW hy3 hy4 u hu=>?_,λ u hu=>?_,by simp only[BC];omega,λ h=>by omega⟩
 . rw[hz u hu];split<;>omega
 . rw[hz u hu];split<;>simp_all
 . rw[hz u hu] at h;split at h<;>omega
 . rw[hz u hu,if_neg];rintro rfl;rw[ho] at h;cases h
 . rw[Ay] at hx;subst hx;rw[show ((goal:Nat):Int).toNat=goal by omega,hz goal El,if_pos rfl];omega
 . rw[Ay] at hx;subst hx;rw[show ((goal:Nat):Int).toNat=goal by omega,hz goal El,if_pos rfl,hz u hu];split<;>omega
 . rw[hz _ (by omega)] at hy3;split at hy3
   . rename_i e;exact absurd (Ay.2 (by omega)) hy4
   . omega
 . rw[hz u hu];split<;>omega
theorem BF.pop{g:List (List Int)}{sh:List Bool}{goal:Nat}{d q:List Int}{w:Int}{w0:Int}{v:Nat}(h:BF g sh goal w0 v d (w::q))(hv:w0<0∨v=g.length):BF g sh goal w 0 d q:=by
 have hw:=h.qin w (by simp);refine ⟨h.len,h.lo,h.zero,h.prev,h.shut,λ x hx=>h.qin x (by simp[hx]),(BH.1 h.sorted).2,λ x hx=>h.top x (by simp[hx]),?_,h.bnd,by have:=h.Akv;simp only[An] at this;omega,λ _=>⟨hw.2.1,hw.2.2,h.top w (by simp),λ x hx=>(BH.1 h.sorted).1 x hx⟩⟩;intro y hy YW hy3 hy4 u hu hc hs hm;by_cases e:y=w
 . have:=hc e;omega
 . refine h.done y hy YW hy3 (λ hx=>?_) u hu (λ e2=>by omega) hs hm;rcases AG.1 hx with h1 | h1
   . exact e h1
   . exact hy4 h1
theorem BF.skip{g:List (List Int)}{sh:List Bool}{goal:Nat}{d q:List Int}{w:Int}{v:Nat}(h:BF g sh goal w v d q)(MD:0<=w)(hc:0<=d.getD v 0∨sh.getD v false=true∨w∉g.getD v []):BF g sh goal w (v+1) d q:=by
 refine ⟨h.len,h.lo,h.zero,h.prev,h.shut,h.qin,h.sorted,h.top,?_,h.bnd,h.Akv,h.cur⟩;intro y hy YW hy3 hy4 u hu hv hs hm;by_cases e:u=v
 . subst e;by_cases e2:y=w
   . subst e2;rcases hc with hc | hc | hc
     . exact ⟨hc,(h.cur MD).2.2.1 u hu⟩
     . rw[hs] at hc;cases hc
     . exact absurd hm hc
   . exact h.done y hy YW hy3 hy4 u hu (λ e3=>absurd e3 e2) hs hm
 . exact h.done y hy YW hy3 hy4 u hu (λ e3=>by have:=hv e3;omega) hs hm
theorem BF.push{g:List (List Int)}{sh:List Bool}{goal:Nat}{d q:List Int}{w:Int}{v:Nat}(h:BF g sh goal w v d q)(MD:0<=w)(hv:v<g.length)(hd:d.getD v 0<0)(hs:sh.getD v false=false)(hm:w∈g.getD v []):
   BF g sh goal w (v+1) (d.set v (d.getD w.toNat 0+1)) (q++[(v:Int)]):=by
 obtain ⟨hc1,VD,hc3,hc4⟩:=h.cur MD;have hl:=h.len;have E2:∀u,(d.set v (d.getD w.toNat 0+1)).getD u 0=if u=v then d.getD w.toNat 0+1 else d.getD u 0:=λ u=>by
   rw[D7];by_cases e:v=u
   . rw[if_pos ⟨e,by omega⟩,if_pos e.symm]
   . rw[if_neg (λ h=>e h.1),if_neg (λ h=>e h.symm)]
 have Dt:∀y:Int,0<=d.getD y.toNat 0->(d.set v (d.getD w.toNat 0+1)).getD y.toNat 0=d.getD y.toNat 0:=λ y hy=>by
   rw[E2,if_neg];intro e;rw[e] at hy;omega
 have hn:=T8 (d:=d) (v:=v) (x:=d.getD w.toNat 0+1) (by omega) hd (by omega);refine ⟨by simpa using hl,λ u hu=>?_,λ u hu=>?_,λ u hu h1=>?_,λ u hu h1=>?_,λ x hx=>?_,?_,λ x hx u hu=>?_,?_,λ u hu=>?_,?_,λ _=>⟨hc1,?_,λ u hu=>?_,λ x hx=>?_⟩⟩
 . rw[E2];have:=h.lo u hu;split<;>omega
 . rw[E2];by_cases e:u=v
   . subst e;rw[if_pos rfl];have:=h.zero u hu;constructor
     . intro h1;omega
     . intro h1;have:=this.2 h1;omega
   . rw[if_neg e];exact h.zero u hu
 . rw[E2] at h1;by_cases e:u=v
   . subst e;exact ⟨w,hm,by rw[Dt w VD,E2,if_pos rfl];omega⟩
   . rw[if_neg e] at h1;obtain ⟨y,hy,YW⟩:=h.prev u hu h1;exact ⟨y,hy,by rw[Dt y (by omega),E2,if_neg e];exact YW⟩
 . rw[E2,if_neg]
   . exact h.shut u hu h1
   . rintro rfl;rw[hs] at h1;cases h1
 . rcases Aw.1 hx with hx | hx
   . have:=h.qin x hx;exact ⟨this.1,this.2.1,by rw[Dt x this.2.2];exact this.2.2⟩
   . rw[Ay] at hx;subst hx;exact ⟨by omega,by omega,by rw[E2,if_pos (by omega)];omega⟩
 . rw[BK];refine ⟨?_,by simp,?_⟩
   . refine h.sorted.imp_of_mem λ {a b} ha hb V5=>?_;rw[Dt a (h.qin a ha).2.2,Dt b (h.qin b hb).2.2];exact V5
   . intro a ha b hb;rw[Ay] at hb;subst hb;rw[Dt a (h.qin a ha).2.2,E2,if_pos (by omega)];have:=hc3 a.toNat (by have:=h.qin a ha;omega);exact this
 . rcases Aw.1 hx with hx | hx
   . have h1:=h.qin x hx;rw[Dt x h1.2.2,E2];have:=hc4 x hx;have:=h.top x hx u hu;split<;>omega
   . rw[Ay] at hx;subst hx;rw[E2,E2,if_pos (show ((v:Nat):Int).toNat=v by omega)];have:=hc3 u hu;split<;>omega
 . intro y hy YW hy3 hy4 u hu hc hsu hmu;have hyv:y≠(v:Int):=λ e=>hy4 (by simp[e]);have Axi:y.toNat≠v:=by omega
   rw[E2,if_neg Axi] at hy3;have hyq:y∉q:=λ e=>hy4 (by simp[e]);rw[E2,E2,if_neg Axi];by_cases e:u=v
   . subst e;rw[if_pos rfl];by_cases e2:y=w
     . subst e2;omega
     . have:=h.done y hy YW hy3 hyq u hu (λ e3=>absurd e3 e2) hsu hmu;omega
   . rw[if_neg e];exact h.done y hy YW hy3 hyq u hu (λ e3=>by have:=hc e3;omega) hsu hmu
 . rw[E2];have h1:=h.bnd u hu;have h2:=h.bnd w.toNat (by omega);split<;>omega
 . have:=h.Akv;simp only[Aq,BC];omega
 . rw[Dt w VD];exact VD
 . rw[Dt w VD,E2];have:=hc3 u hu;split<;>omega
 . rw[Dt w VD];rcases Aw.1 hx with hx | hx
   . rw[Dt x (h.qin x hx).2.2];exact hc4 x hx
   . rw[Ay] at hx;subst hx;rw[E2,if_pos (by omega)];omega
theorem BF.end{g:List (List Int)}(hg:DV g){sh:List Bool}{goal:Nat}{d:List Int}{w:Int}{v:Nat}(h:BF g sh goal w v d [])(hv:w<0∨v=g.length):DS g sh goal d:=
 ⟨h.len,h.lo,h.zero,h.prev,λ u hu hs y hy h0=>by
   have hr:=G5 hg hu hy;exact h.done y (by omega) (by omega) h0 (by simp) u hu (λ e=>by omega) hs hy,h.shut⟩
theorem Aex{g:List (List Int)}(hg:DV g){u:Nat}(hu:u<g.length){i j:Nat}(hi:i<j)(hj:j<(g.getD u []).length):(g.getD u []).getD i 0<(g.getD u []).getD j 0:=by
 induction j with
 | zero=>omega
 | succ j ih=>
   have h1:=hg.2 u hu (j+1) hj;unfold JK at h1;have h2:=h1.2.2.2 (by omega);rw[show j+1 - 1=j by omega] at h2;by_cases e:i=j
   . subst e;exact h2
   . have:=ih (by omega) (by omega);omega
theorem Afj(l:List Ln)(hl:l.length<=10000000)(hf:∀x∈l,x.fs.length<=10000000):B2 prog 15 [.p (.sl (EG l))] [] λ h r=>h=[]/\r=Rv (parseV l []):=by
 refine B1 func15 rfl Aok (by simp[Tryz.f15]) ?_;simp only[go_sem,CQ];refine B7 (λ q:Nat×List Dc=>⟨[(0,.p (.sl (EG l))),(6,.p (.int .i64 (q.1:Nat))),(5,.ref 34 0 q.2.length q.2.length)],[(34,.arr 82 4 (DX q.2))],36⟩)
   (λ q=>q.1<=l.length/\q.2.length<=q.1/\parseV (l.drop q.1) q.2=parseV l []) (λ q=>l.length - q.1) (0,[]) ⟨AE _,by simp,by simp⟩ ((Wk.nil (t:=5) (q:=34) (sz:=4) 82 rfl rfl (by decide)).trans (BW (by simp[ZF,DX]))) ?_
 rintro ⟨i,acc⟩ n ⟨hi,hn,he⟩ ih;simp only at hi hn he;simp only[go_sem,CQ];refine Cy (λ h2=>?_) (λ h2=>?_)
 . have Cv:i<l.length:=by simp at h2;omega
   have hw:=Cd i (by omega);have hb:=hf _ (CF l i ZT Cv);have J7:(i:Int)<(l.length:Int):=by omega
   have C6:(0:Int)<=(i:Int):=by omega
   rw[Df l i ZT Cv] at he;have hg:=NC l i Cv;generalize l.getD i ZT=x at*;simp only[go_sem,Ab,CQ,hg,J7,C6];refine Cq (Auo x.num x.fs hb) ?_;by_cases hz:(JJ x.num x.fs).2=0
   . simp only[go_sem,Dc.d,hz,hw,CS];refine ⟨⟨Dy _ _ rfl,by omega⟩,?_⟩;refine ih (i+1,acc++[(JJ x.num x.fs).1]) _ ⟨Cv,by simp only[Aq,An,Ax];omega,by rw[<-he];simp only[parseV,hz,AP]⟩ (by simp only;omega) ?_
     (refine BW ?_;simp[ZF,FY,CS];done)
   . simp only[go_sem,Dc.d,hz];refine CG mixed (p:=[(0,0),(1,0),(2,0),(3,0),(4,0),(5,0),(6,0),(7,0),(8,0)]) (by kernel_rfl) (by simp[C8,get]) ?_;simp only[go_sem,Ab,CQ,hg,J7,C6];refine BX ?_;simp only[go_sem];rw[<-he];simp[parseV,hz,Rv,DX]
 . simp only[go_sem];have UA:i=l.length:=by simp at h2;omega
   subst UA;refine BX ?_;simp only[go_sem];rw[AZ] at he;rw[<-he];simp[parseV,Rv,CS,Xq]
theorem TS:∀(k:Nat) (l:List (List UInt8)) (d:Dc),(rd k l d).1.names.length<=d.names.length+l.length/\(rd k l d).1.Cb.length<=d.Cb.length+l.length
 | _,[],d=>by simp[rd]
 | 0,s::r,d=>by
   simp only[rd];split
   . have:=TS 0 r {d with Cb:=d.Cb++[(Kn s).1]};simp at this ⊢;omega
   . simp[IU]
 | k+1,s::r,d=>by
   simp only[rd];split
   . have:=TS k r {d with names:=d.names++[s]};simp at this ⊢;omega
   . simp[IU]
theorem Abc(num:Int)(fs:List (List UInt8)):(JJ num fs).1.names.length<=fs.length/\(JJ num fs).1.Cb.length<=fs.length:=by
 unfold JJ;cases fs with
 | nil=>simp[IU]
 | cons w rest=>
   simp only;split
   . simp[IU]
   . split
     . simp[IU]
     . have:=TS (rest.length - (CD (Jy w)).2.toNat) rest ⟨Jy w,num,[],[]⟩;simp at this ⊢;omega
theorem Qf(B:Nat):∀(l:List Ln) (acc:List Dc),(∀x∈l,x.fs.length<=B)->(∀d∈acc,d.names.length<=B/\d.Cb.length<=B)->
   (parseV l acc).1.length<=acc.length+l.length/\∀d∈(parseV l acc).1,d.names.length<=B/\d.Cb.length<=B
 | [],acc,_,h=>⟨by simp[parseV],h⟩
 | x::r,acc,hl,h=>by
   simp only[parseV];split
   . have h1:=Qf B r (acc++[(JJ x.num x.fs).1]) (λ y hy=>hl y (by simp[hy])) (λ d hd=>by
       simp only[Aw,Ay] at hd;rcases hd with hd | rfl
       . exact h d hd
       . have:=Abc x.num x.fs;have:=hl x (by simp);omega)
     refine ⟨by have:=h1.1;simp at this ⊢;omega,h1.2⟩
   . simp
def HS{σ ε:Type}(f:σ->Option ε):σ⊕ε->Option ε
 | .inl s=>f s
 | .inr e=>some e
theorem B4{σ ε:Type}(f:σ->Option ε)(s:σ):HS f (.inl s)=f s:=rfl
theorem B0{σ ε:Type}(f:σ->Option ε)(e:ε):HS f (.inr e)=some e:=rfl
def Hj{σ ε:Type}(step:σ->Option (σ⊕ε)):Nat->σ->Option ε
 | 0,_=>none
 | n+1,s=>(step s).bind (HS (Hj step n))
def CC{σ ε:Type}(step:σ->Option (σ⊕ε))(s:σ):Option ε:=
 open Classical in if h:∃n e,Hj step n s=some e then some (Classical.choose (Classical.choose_spec h)) else none
theorem Pk{σ ε:Type}{step:σ->Option (σ⊕ε)}:∀{n m:Nat} {s:σ} {e:ε},Hj step n s=some e->n<=m->Hj step m s=some e
 | 0,_,_,_,h,_=>by simp[Hj] at h
 | n+1,0,_,_,_,h=>by omega
 | n+1,m+1,s,e,h,hm=>by
   simp only[Hj] at h ⊢;cases hs:step s with
   | none=>rw[hs] at h;simp at h
   | some y=>
     rw[hs] at h;cases y with
     | inl s'=>exact Pk (n:=n) (m:=m) (by simpa [HS] using h) (by omega)
     | inr e'=>simpa [HS] using h
theorem K0{σ ε:Type}{step:σ->Option (σ⊕ε)}{s:σ}{e:ε}:CC step s=some e↔∃n,Hj step n s=some e:=by
 constructor
 . intro h;unfold CC at h;split at h
   . rename_i hh;have h1:=Classical.choose_spec (Classical.choose_spec hh);rw[Ac h] at h1;exact ⟨_,h1⟩
   . cases h
 . rintro ⟨n,hn⟩;unfold CC;have hh:∃n e,Hj step n s=some e:=⟨n,e,hn⟩;rw[dif_pos hh];have h1:=Classical.choose_spec (Classical.choose_spec hh);have a:=Pk h1 (Nat.le_max_left _ n);have b:=Pk hn (Nat.le_max_right (Classical.choose hh) n);rw[a] at b;exact b
theorem C0{σ ε:Type}(step:σ->Option (σ⊕ε))(s:σ):CC step s=(step s).bind (HS (CC step)):=by
 apply Option.ext;intro e;rw[K0];constructor
 . rintro ⟨n,hn⟩;cases n with
   | zero=>simp[Hj] at hn
   | succ n=>
     simp only[Hj] at hn;cases hs:step s with
     | none=>rw[hs] at hn;simp at hn
     | some y=>
       rw[hs] at hn;cases y with
       | inl s'=>exact K0.2 ⟨n,by simpa [HS] using hn⟩
       | inr e'=>simpa [HS] using hn
 . intro h;cases hs:step s with
   | none=>rw[hs] at h;simp at h
   | some y=>
     rw[hs] at h;cases y with
     | inl s'=>
       obtain ⟨n,hn⟩:=K0.1 (show CC step s'=some e by simpa [HS] using h);exact ⟨n+1,by simpa [Hj,hs,HS] using hn⟩
     | inr e'=>exact ⟨1,by simpa [Hj,hs,HS] using h⟩
theorem N3{σ ε:Type}{step:σ->Option (σ⊕ε)}(I:σ->Prop)(μ:σ->Nat)(Q:ε->Prop)
   (h:∀s,I s->∃y,step s=some y/\match y with | .inl s'=>I s'/\μ s'<μ s | .inr e=>Q e) (s:σ) (h0:I s):∃e,CC step s=some e/\Q e:=by
 have key:∀n s,I s->μ s<n->∃e,CC step s=some e/\Q e:=by
   intro n
   induction n with
   | zero=>intro s _ h;omega
   | succ n ih=>
     intro s hs hm;obtain ⟨y,h1,h2⟩:=h s hs;rw[C0,h1];cases y with
     | inl s'=>exact ih s' h2.1 (by have:=h2.2;omega)
     | inr e=>exact ⟨e,rfl,h2⟩
 exact key _ s h0 (Nat.lt_succ_self _)
theorem K1{σ ε:Type}{step:σ->Option (σ⊕ε)}(n:Nat)(S:Nat->σ)(out:ε)(early:Nat->Option ε)
   (h1:∀i,i<n->(∀j,j<i->early j=none)->step (S i)=some (match early i with | some e=> .inr e | none=> .inl (S (i+1)))) (h2:(∀j,j<n->early j=none)->step (S n)=some (.inr out)):
   CC step (S 0)=some (((List.range n).findSome? early).getD out):=by
 have key:∀m i,i+m=n->(∀j,j<i->early j=none)->CC step (S i)=some ((((List.range n).drop i).findSome? early).getD out):=by
   intro m
   induction m with
   | zero=>
     intro i hi hj;obtain rfl:i=n:=by omega
     rw[C0,h2 hj,BB (by simp)];rfl
   | succ m ih=>
     intro i hi hj;rw[C0,h1 i (by omega) hj];have hd:(List.range n).drop i=i::(List.range n).drop (i+1):=by
       rw[AT (by simp;omega)];simp
     rw[hd,List.findSome?_cons];cases he:early i with
     | some e=>simp[HS]
     | none=>
       simp only[Aa,HS];exact ih (i+1) (by omega) (λ j hj2=>by
         by_cases e:j=i
         . rw[e];exact he
         . exact hj j (by omega))
 have:=key n 0 (by omega) (λ j hj=>by omega)
 simpa using this
section
variable {P:Program} {st:St} {x:Code} {k:Kt}
theorem CP{σ ε:Type}{step:σ->Option (σ⊕ε)}{s0:σ}{e:ε}(hr:CC step s0=some e)(S:σ->St)(hw:Wk st (S s0))
   (hs:∀s n,(step s).bind (HS (Hj step n))=some e->(∀s' st',Hj step n s'=some e->Wk st' (S s')->L P x k n st')->X P x (.lp x n k) (S s)):X P (.loop x) k st:=by
 obtain ⟨n,hn⟩:=K0.1 hr;have key:∀n s,Hj step n s=some e->L P x k n (S s):=by
   intro n
   induction n with
   | zero=>intro s h;simp[Hj] at h
   | succ n ih=>intro s h;exact ⟨S s,Wk.refl _,hs s n h λ s' st' h' hw'=>Aj7 hw' (ih s' h')⟩
 exact YL _ (Aj7 hw (key n s0 hn))
end
def CK{α:Type}(l:List α)(i:Int):Option α:=if 0<=i then l[i.toNat]? else none
theorem WW{α:Type}{l:List α}{i:Int}{x:α}(h:CK l i=some x):(0<=i/\i<(l.length:Int))/\l[i.toNat]?=some x:=by
 unfold CK at h;split at h
 . have:=(Ao.1 h).1;exact ⟨by omega,h⟩
 . cases h
theorem B8{α:Type}{l:List α}{i:Int}{x:α}(h:CK l i=some x):0<=i/\i<(l.length:Int):=(WW h).1
theorem B9{α:Type}{l:List α}{i:Int}{x:α}(f:α->List Pd)(h:CK l i=some x):(l.map f).getD i.toNat []=f x:=by
 simp[List.getD,(WW h).2]
theorem GX{α:Type}(l:List α)(i:Nat):CK l (i:Int)=l[i]?:=by
 unfold CK;rw[if_pos (by omega)];rfl
structure Aag where
 cq:Int
 ca:Int
 cd:Int
 cp:Int
theorem ND:BZ []=[]:=rfl
theorem QR:CB []=[]:=rfl
theorem QP:CO []=[]:=rfl
theorem QV:Cj []=[]:=rfl
theorem QW:DX []=[]:=rfl
theorem QT:EG []=[]:=rfl
theorem QU:CX []=[]:=rfl
theorem QS:CR []=[]:=rfl
theorem Lj(l:List Bool):(CO l).length=l.length:=by simp[CO]
theorem Lo(l:List (List Int)):(Cj l).length=l.length:=by simp[Cj]
theorem Lk(l:List Et):(CX l).length=l.length:=by simp[CX]
theorem Fj(l:List Da):(CR l).length=l.length:=by simp[CR]
theorem Acj(l:List Int)(x:Int):BZ l++[[.int .i64 x]]=BZ (l++[x]):=by simp[BZ]
theorem Ack(l:List (List Int)):Cj l++[[.sl []]]=Cj (l++[[]]):=by simp[Cj,BZ]
theorem Aci(l:List Et)(a:List UInt8)(b c:Int):CX l++[[.str a,.int .i64 b,.int .i64 c]]=CX (l++[⟨a,b,c⟩]):=by simp[CX]
theorem Ach(l:List Da)(a:List UInt8)(b:Bool)(c d e f:Int):CR l++[[.str a,.bool b,.int .i64 c,.int .i64 d,.int .i64 e,.int .i64 f]]=CR (l++[⟨a,b,c,d,e,f⟩]):=by simp[CR]
theorem U0(l:List Bool)(x:Bool):CO (l++[x])=CO l++[[.bool x]]:=by simp[CO]
theorem U7(l:List (List Int))(x:List Int):Cj (l++[x])=Cj l++[[.sl (BZ x)]]:=by simp[Cj]
theorem U4(l:List Et)(x:Et):CX (l++[x])=CX l++[[.str x.name,.int .i64 x.x,.int .i64 x.y]]:=by simp[CX]
theorem U3(l:List Da)(x:Da):CR (l++[x])=CR l++[[.str x.name,.bool x.CE,.int .i64 x.HL,.int .i64 x.out,.int .i64 x.Cs,.int .i64 x.base]]:=by simp[CR]
theorem Aid(l:List Int)(i:Nat)(x:Int):(BZ l).set i [.int .i64 x]=BZ (l.set i x):=by simp[BZ,Br]
theorem Ai8(l:List Bool)(i:Nat)(x:Bool):(CO l).set i [.bool x]=CO (l.set i x):=by simp[CO,Br]
theorem Aif(l:List (List Int))(i:Nat)(x:List Int):(Cj l).set i [.sl (BZ x)]=Cj (l.set i x):=by simp[Cj,Br]
theorem Aic(l:List Da)(i:Nat)(a:List UInt8)(b:Bool)(c d e f:Int):(CR l).set i [.str a,.bool b,.int .i64 c,.int .i64 d,.int .i64 e,.int .i64 f]=CR (l.set i ⟨a,b,c,d,e,f⟩):=by simp[CR,Br]
theorem L1(l:List Int):(BZ l).take l.length=BZ l:=by simp[BZ,<-List.map_take]
theorem PB(l:List (List UInt8)):(CB l).take l.length=CB l:=by simp[CB,<-List.map_take]
theorem PA(l:List Bool):(CO l).take l.length=CO l:=by simp[CO,<-List.map_take]
theorem PF(l:List (List Int)):(Cj l).take l.length=Cj l:=by simp[Cj,<-List.map_take]
theorem PG(l:List Dc):(DX l).take l.length=DX l:=by simp[DX,<-List.map_take]
theorem PD(l:List Ln):(EG l).take l.length=EG l:=by simp[EG,<-List.map_take]
theorem PE(l:List Et):(CX l).take l.length=CX l:=by simp[CX,<-List.map_take]
theorem PC(l:List Da):(CR l).take l.length=CR l:=by simp[CR,<-List.map_take]
theorem As9(l:List Int)(a b:Nat):((BZ l).take b).drop a=BZ ((l.take b).drop a):=by simp[BZ]
theorem Aov(n:Nat):List.replicate n [Pd.int .i64 0]=BZ (List.replicate n 0):=by simp[BZ]
theorem Ai9(n:Nat):List.replicate n [Pd.bool false]=CO (List.replicate n false):=by simp[CO]
theorem EX(l:List Int):Ka 1 (BZ l):=by simp[Ka,BZ]
theorem Aow(l:List (List Int)):Ka 1 (Cj l):=by simp[Ka,Cj]
theorem Aou(l:List Et):Ka 3 (CX l):=by simp[Ka,CX]
theorem Aot(l:List Da):Ka 6 (CR l):=by simp[Ka,CR]
theorem Xk(l:List Bool)(i:Nat)(x:Bool):CO (l.set i x)=(CO l).set i [.bool x]:=by simp[CO,Br]
theorem Xp(l:List (List Int))(i:Nat)(x:List Int):Cj (l.set i x)=(Cj l).set i [.sl (BZ x)]:=by simp[Cj,Br]
theorem Xr(l:List Dc)(i:Nat)(x:Dc):DX (l.set i x)=(DX l).set i [.int .i64 x.word,.int .i64 x.line,.sl (CB x.names),.sl (BZ x.Cb)]:=by simp[DX,Br]
theorem Xo(l:List Et)(i:Nat)(x:Et):CX (l.set i x)=(CX l).set i [.str x.name,.int .i64 x.x,.int .i64 x.y]:=by simp[CX,Br]
theorem RV(l:List Da)(i:Nat)(x:Da):CR (l.set i x)=(CR l).set i [.str x.name,.bool x.CE,.int .i64 x.HL,.int .i64 x.out,.int .i64 x.Cs,.int .i64 x.base]:=by simp[CR,Br]
theorem U5(x:Int):BZ [x]=[[.int .i64 x]]:=rfl
theorem q0(x:List UInt8):CB [x]=[[.str x]]:=rfl
theorem p9(x:Bool):CO [x]=[[.bool x]]:=rfl
theorem U6(x:Int)(l:List Int):BZ (x::l)=[.int .i64 x]::BZ l:=rfl
theorem U2(x:List UInt8)(l:List (List UInt8)):CB (x::l)=[.str x]::CB l:=rfl
theorem U1(x:Bool)(l:List Bool):CO (x::l)=[.bool x]::CO l:=rfl
theorem U8(x:List Int)(l:List (List Int)):Cj (x::l)=[.sl (BZ x)]::Cj l:=rfl
attribute [go_sem] BY B5 Lj Lo CS CQ Lk Fj
attribute [go_sem] List.length_set Ack Acj Aci Ach
attribute [go_sem] Aid Ai8 Aif Aic
attribute [go_sem] L1 PB PA PF PG PD PE PC Aov Ai9 Int.toNat_natCast
attribute [go_sem] KK.fit DW D6 Abl Ua X5 Pd.flat Uc Alj Aln Abh Abi X6 Adj Adk
attribute [go_sem] As9
theorem bE{α β:Type}{a:Option α}{f:α->Option β}{r:β}(h:a.bind f=some r):∃x,a=some x/\f x=some r:=by
 cases a with
 | none=>cases h
 | some x=>exact ⟨x,rfl,h⟩
theorem bK{α β γ:Type}{a:Option α}{f:α->Option β}{k:β->Option γ}{r:γ}(h:(a.bind f).bind k=some r):∃x,a=some x/\(f x).bind k=some r:=by
 cases a with
 | none=>cases h
 | some x=>exact ⟨x,rfl,h⟩
theorem gE{α:Type}{c:Bool}{x:Option α}{r:α}(h:cond c x none=some r):c=true/\x=some r:=by
 cases c with
 | false=>cases h
 | true=>exact ⟨rfl,h⟩
theorem gK{α γ:Type}{c:Bool}{x:Option α}{k:α->Option γ}{r:γ}(h:(cond c x none).bind k=some r):c=true/\x.bind k=some r:=by
 cases c with
 | false=>cases h
 | true=>exact ⟨rfl,h⟩
theorem ZE:(type_of% @ND)/\(type_of% @QR)/\(type_of% @QP)/\(type_of% @QV)/\(type_of% @QW)/\(type_of% @QT)/\(type_of% @QU)/\(type_of% @QS)/\(type_of% @X5)/\(type_of% @X6)/\(type_of% @U6)/\(type_of% @U2)/\(type_of% @U1)/\(type_of% @U8)/\(type_of% @U5)/\(type_of% @q0)/\(type_of% @p9)/\(type_of% @D0)/\(type_of% @DG)/\(type_of% @U0)/\(type_of% @U7)/\(type_of% @FY)/\(type_of% @Jt)/\(type_of% @U4)/\(type_of% @U3)/\(type_of% @Dj)/\(type_of% @QQ)/\(type_of% @Xk)/\(type_of% @Xp)/\(type_of% @Xr)/\(type_of% @Xo)/\(type_of% @RV)/\(type_of% @BY)/\(type_of% @B5)/\(type_of% @Lj)/\(type_of% @Lo)/\(type_of% @CS)/\(type_of% @CQ)/\(type_of% @Lk)/\(type_of% @Fj):=⟨@ND,@QR,@QP,@QV,@QW,@QT,@QU,@QS,@X5,@X6,@U6,@U2,@U1,@U8,@U5,@q0,@p9,@D0,@DG,@U0,@U7,@FY,@Jt,@U4,@U3,@Dj,@QQ,@Xk,@Xp,@Xr,@Xo,@RV,@BY,@B5,@Lj,@Lo,@CS,@CQ,@Lk,@Fj⟩
theorem ZB:(type_of% @L1)/\(type_of% @PB)/\(type_of% @PA)/\(type_of% @PF)/\(type_of% @PG)/\(type_of% @PD)/\(type_of% @PE)/\(type_of% @PC)/\(type_of% @BY)/\(type_of% @B5)/\(type_of% @Lj)/\(type_of% @Lo)/\(type_of% @CS)/\(type_of% @CQ)/\(type_of% @Lk)/\(type_of% @Fj)/\(type_of% @ND)/\(type_of% @QR)/\(type_of% @QP)/\(type_of% @QV)/\(type_of% @QW)/\(type_of% @QT)/\(type_of% @QU)/\(type_of% @QS):=⟨@L1,@PB,@PA,@PF,@PG,@PD,@PE,@PC,@BY,@B5,@Lj,@Lo,@CS,@CQ,@Lk,@Fj,@ND,@QR,@QP,@QV,@QW,@QT,@QU,@QS⟩
def Qj(a0:Int)(a1:Int):Option (Int):=
 cond (decide (a1<=1)) (some 0) (cond (decide (¬a1=0)) (cond (decide ((Int.tmod a0 a1)<0)) (some (IntKind.i64.wrap ((Int.tmod a0 a1)+a1))) (some (Int.tmod a0 a1))) none)
theorem H7(a0:Int)(a1:Int)(r:Int)(hr:Qj a0 a1=some r):
   B2 prog 28 [.p (.int .i64 a0),.p (.int .i64 a1)] [] λ h d=>h=[]/\d= .p (.int .i64 r):=by
 refine B1 func28 rfl p7 (by simp[Tryz.f28]) ?_;unfold Qj at hr;cases c1:decide (a1<=1)
 . simp only[c1,Aj] at hr;obtain ⟨c2,hr⟩:=gE hr;have f3:=Ad c2;cases c4:decide ((Int.tmod a0 a1)<0)
   . simp only[c4,Aj] at hr;cases hr;(try simp only[go_sem,c1,f3,c4]);all_goals ((try refine BX ?_);(try simp only[go_sem,c1,f3,c4]);try first | rfl | exact ⟨rfl,rfl⟩ | (simp;done))
   simp only[c4,Ak] at hr;cases hr;(try simp only[go_sem,c1,f3,c4]);all_goals ((try refine BX ?_);(try simp only[go_sem,c1,f3,c4]);try first | rfl | exact ⟨rfl,rfl⟩ | (simp;done))
 simp only[c1,Ak] at hr;cases hr;try simp only[go_sem,c1]
 all_goals ((try refine BX ?_);(try simp only[go_sem,c1]);try first | rfl | exact ⟨rfl,rfl⟩ | (simp;done))
theorem RA(a:Int)(n:Nat)(h1:1<=n)(h2:n<=10000000):∃k:Nat,k<n/\Qj a (n:Int)=some (k:Int):=by
 unfold Qj;by_cases c1:(n:Int)<=1
 . rw[Ag c1,Ak];exact ⟨0,by omega,rfl⟩
 . rw[Ah c1,Aj,Ag (show ¬(n:Int)=0 by omega),Ak];have h3:=Int.tmod_lt_of_pos a (show (0:Int)<n by omega);have h4:-(n:Int)<Int.tmod a n:=by
     have:=Int.lt_tmod_of_pos a (show (0:Int)<n by omega);exact this
   by_cases c2:Int.tmod a n<0
   . rw[Ag c2,Ak,B3 (by omega) (by omega)];exact ⟨(Int.tmod a n+n).toNat,by omega,by congr 1;omega⟩
   . rw[Ah c2,Aj];exact ⟨(Int.tmod a n).toNat,by omega,by congr 1;omega⟩
theorem Alm(l:List Int)(at_ Pj:Nat)(Jr:at_<90000)(WY:1<=Pj)(S3:Pj<=10):
   B2 prog 20 [.ptr 1000000 0,.p (.int .i64 (Pj:Nat))] [(1000000,.box (Dm l at_))]
     λ h r=>∃at2 n,at2<=at_+300/\(validN n/\n.blocks.length<=10)/\h=[(1000000,.box (Dm l at2))]/\r= .agg n.cs:=by
 refine B1 func20 rfl Aog (by simp[Tryz.f20]) ?_;simp only[go_sem,Dm];refine Em (Arb l at_ Pj (by omega) WY S3) ?_;rintro h' r ⟨a,n,ha,hP,rfl,rfl⟩;have IN:=hP.valid;obtain ⟨⟨nb1,nb2⟩,_,OA,hnx,hns,_,hss,hrl,Y1,_⟩:=hP;obtain ⟨bl,nx,sp,rb,cq,ca,cd,cp⟩:=n;simp only at nb1 nb2 OA hnx hns hss hrl Y1;obtain ⟨q1,Uv,Bbi⟩:=CZ l a 3 (by omega);have hV:∀(nx':List (List Int)) (rb':List Int),(nx'.length=bl.length/\∀i,i<bl.length->(nx'.getD i []).length<=4/\Ip bl.length i (nx'.getD i []))->ER sp rb'->rb'.length<=8->validN ⟨bl,nx',sp,rb',cq,ca,cd,cp⟩/\(⟨bl,nx',sp,rb',cq,ca,cd,cp⟩:Nt).blocks.length<=10:=by
   intro nx' rb' hn HJ HM;obtain ⟨⟨v1,v2,v3,v4⟩,v5,v6,v7,v8,v9,v10,v11⟩:=IN;exact ⟨⟨⟨v1,v2,hn.1,λ i hi=>⟨(v4 i hi).1,(hn.2 i hi).1,(hn.2 i hi).2⟩⟩,v5,v6,HM,v8,v9,HJ,v11⟩,nb2⟩
 have hN0:nx.length=bl.length/\∀i,i<bl.length->(nx.getD i []).length<=4/\Ip bl.length i (nx.getD i []):=by
   obtain ⟨⟨v1,v2,v3,v4⟩,_⟩:=IN;exact ⟨v3,λ i hi=>(v4 i hi).2⟩
 have Axm:=Io bl.length sp sp.length (Ai _) hss;rw[Ar] at Axm;have e1:=Xm bl bl.length (Ai _);have e3:=Xl sp sp.length (Ai _);have e4:=GD rb rb.length (Ai _);simp only[go_sem,Nt.os,Dm];refine Cq ((Dd l a 3 (by omega) (CL _ (by omega) (by omega)))) ?_;simp only[go_sem,Dm,Uv];cases c1:decide ((q1:Int)=0)
 . obtain ⟨q2,VZ,Av7⟩:=CZ l (a+1) 3 (by omega);have Qy:nx.length=nx.length:=rfl;have e2:List.take bl.length (Cj nx)=Cj nx:=AA (by simp[Cj];omega);simp only[go_sem,c1];refine Cq ((Dd l (a+1) 3 (by omega) (CL _ (by omega) (by omega)))) ?_;simp only[go_sem,Dm,VZ];cases c3:decide ((q2:Int)=0)
   . simp only[go_sem,c3];refine BX ?_;simp only[go_sem,Ci,Cf,OA,Qy,Cg,BY,e1,e2,e3,e4];refine ⟨(a+1)+1,⟨bl,nx,sp,rb,cq,ca,cd,cp⟩,by omega,hV nx rb hN0 Y1 (by omega),?_⟩;first | exact ⟨rfl,rfl⟩ | rfl | (simp[Nt.cs];done)
   simp only[go_sem,c3];refine B7 (λ q:Nat×List Int=>⟨[(0,.ptr 1000000 0),(4,.ptr 4 0),(5,.ptr 5 0),(6,.p (.int .i64 (q.1:Nat)))],
       [(1000000,.box [.p (.sl (BZ l)),.p (.int .i64 (((a+1)+1:Nat):Int))]),(4,.box [.cl [],.cl [],.cl [],.cl [],.p (.int .i64 0),.p (.int .i64 0),.p (.int .i64 0),.p (.int .i64 0)]),
        (5,.box [.ref 10011 0 bl.length bl.length,.ref 20011 0 nx.length nx.length,.ref 30011 0 sp.length sp.length,.ref 40011 0 q.2.length q.2.length,.p (.int .i64 cq),.p (.int .i64 ca),.p (.int .i64 cd),.p (.int .i64 cp)]),
        (10011,.arr 76 3 (CX bl)),(20011,.arr 22 1 (Cj nx)),(30011,.arr 68 6 (CR sp)),(40011,.arr 3 1 (BZ q.2))],83⟩)
     (λ q=>q.1<=sp.length/\q.2.length<=8/\ER sp q.2) (λ q=>sp.length - q.1) (0,rb) ⟨AE _,by simp only;omega,Y1⟩ (BW (by simp[ZF,Qy])) ?_
   rintro ⟨i,r1⟩ m4 ⟨hi,hr8,HJ⟩ Sx;simp only at hi hr8 HJ;have e4:=GD r1 r1.length (Ai _);cases c5:decide ((i:Int)<(sp.length:Int))
   . simp only[go_sem,Cg,c5];refine BX ?_;simp only[go_sem,Ci,Cf,OA,Qy,Cg,BY,e1,e2,e3,e4];refine ⟨(a+1)+1,⟨bl,nx,sp,r1,cq,ca,cd,cp⟩,by omega,hV nx r1 hN0 HJ (by omega),?_⟩;first | exact ⟨rfl,rfl⟩ | rfl | (simp[Nt.cs];done)
   have hit:i<sp.length:=by have:=Ad c5;omega
   have WX:=Cd i (by omega);have Q7:=EB sp i hit;have C6:(0:Int)<=(i:Int)/\(i:Int)<(sp.length:Int):=by omega
   have Fe:=CF sp i Cu hit;obtain ⟨_,_,_,_,g5,g6,g7⟩:=hss i hit;obtain ⟨g8,g9,_⟩:=MJ hss hit;generalize hse:sp.getD i Cu=s at*;simp only[go_sem,c5,Cg];refine B7 (λ q:Nat×List Int=>⟨[(0,.ptr 1000000 0),(4,.ptr 4 0),(5,.ptr 5 0),(6,.p (.int .i64 (i:Nat))),(7,.p (.int .i64 (q.1:Nat)))],
       [(1000000,.box [.p (.sl (BZ l)),.p (.int .i64 (((a+1)+1:Nat):Int))]),(4,.box [.cl [],.cl [],.cl [],.cl [],.p (.int .i64 0),.p (.int .i64 0),.p (.int .i64 0),.p (.int .i64 0)]),
        (5,.box [.ref 10011 0 bl.length bl.length,.ref 20011 0 nx.length nx.length,.ref 30011 0 sp.length sp.length,.ref 40011 0 q.2.length q.2.length,.p (.int .i64 cq),.p (.int .i64 ca),.p (.int .i64 cd),.p (.int .i64 cp)]),
        (10011,.arr 76 3 (CX bl)),(20011,.arr 22 1 (Cj nx)),(30011,.arr 68 6 (CR sp)),(40011,.arr 3 1 (BZ q.2))],83⟩)
     (λ q=>q.1<=4/\(q.1:Int)<=s.Cs/\q.2.length<=8/\ER sp q.2) (λ q=>4 - q.1) (0,r1) ⟨by simp,by simp only;omega,hr8,HJ⟩ (BW (by simp[ZF,Qy])) ?_
   rintro ⟨j,r2⟩ m5 ⟨hj4,hjs,Nk,HM⟩ VV;simp only at hj4 hjs Nk HM;cases c6:decide ((j:Int)<s.Cs)
   . simp only[go_sem,Cg,Ab,Q7,C6,c6,WX];refine Sx (i+1,r2) _ ⟨hit,Nk,HM⟩ (by simp only;omega) ?_
     (refine BW ?_;simp[ZF];done)
   cases c7:s.CE
   . simp only[go_sem,Cg,Ab,Q7,C6,c6,c7,WX];refine Sx (i+1,r2) _ ⟨hit,Nk,HM⟩ (by simp only;omega) ?_
     (refine BW ?_;simp[ZF];done)
   cases c8:decide ((r2.length:Int)<8)
   . simp only[go_sem,Cg,BY,Ab,Q7,C6,c6,c7,c8,WX];refine Sx (i+1,r2) _ ⟨hit,Nk,HM⟩ (by simp only;omega) ?_
     (refine BW ?_;simp[ZF];done)
   have hj6:(j:Int)<s.Cs:=Ad c6;have hr7:r2.length<8:=by have:=Ad c8;omega
   have YY:=Cd j (by omega);have hwx:IntKind.i64.wrap (s.base+(j:Int))=s.base+(j:Int):=by rw[B3]<;>omega
   simp only[go_sem,Cg,BY,Ab,Q7,C6,c6,c7,c8,hwx];refine PS rfl rfl (Np r2 (s.base+(j:Int)) (by omega)) (by simp[GF,MA,ev,get,AA,ZB]) ?_;rintro h' r ⟨rfl,rfl⟩;refine ⟨rfl,rfl,?_⟩;cases c9:decide (s.base+(j:Int)∈r2);rotate_left
   . simp only[go_sem,c9,YY];refine VV (j+1,r2) _ ⟨by simp only;omega,by simp only;omega,Nk,HM⟩ (by simp only;omega) ?_
     (refine BW ?_;simp[ZF];done)
   have PX:=Ae c9;have N9:sp.any (Mu (s.base+(j:Int)))=true:=by
       rw[AV];exact ⟨s,Fe,by unfold Mu;rw[c7];simp;omega⟩
   simp only[go_sem,c9,BY];refine ⟨⟨Dy _ _ rfl,by omega⟩,?_⟩;simp only[go_sem,YY];refine VV (j+1,r2++[s.base+(j:Int)]) _ ⟨by simp only;omega,by simp only;omega,by simp;omega,Jb HM N9 PX⟩ (by simp only;omega) ?_
   (refine BW ?_;simp[ZF,D0,BY];done)
 cases c2:decide (1<(bl.length:Int))
 . obtain ⟨q2,VZ,Av7⟩:=CZ l (a+1) 3 (by omega);have Qy:nx.length=nx.length:=rfl;have e2:List.take bl.length (Cj nx)=Cj nx:=AA (by simp[Cj];omega);simp only[go_sem,c1,c2,Ci];refine Cq ((Dd l (a+1) 3 (by omega) (CL _ (by omega) (by omega)))) ?_;simp only[go_sem,Dm,VZ];cases c3:decide ((q2:Int)=0)
   . simp only[go_sem,c3];refine BX ?_;simp only[go_sem,Ci,Cf,OA,Qy,Cg,BY,e1,e2,e3,e4];refine ⟨(a+1)+1,⟨bl,nx,sp,rb,cq,ca,cd,cp⟩,by omega,hV nx rb hN0 Y1 (by omega),?_⟩;first | exact ⟨rfl,rfl⟩ | rfl | (simp[Nt.cs];done)
   simp only[go_sem,c3];refine B7 (λ q:Nat×List Int=>⟨[(0,.ptr 1000000 0),(4,.ptr 4 0),(5,.ptr 5 0),(6,.p (.int .i64 (q.1:Nat)))],
       [(1000000,.box [.p (.sl (BZ l)),.p (.int .i64 (((a+1)+1:Nat):Int))]),(4,.box [.cl [],.cl [],.cl [],.cl [],.p (.int .i64 0),.p (.int .i64 0),.p (.int .i64 0),.p (.int .i64 0)]),
        (5,.box [.ref 10011 0 bl.length bl.length,.ref 20011 0 nx.length nx.length,.ref 30011 0 sp.length sp.length,.ref 40011 0 q.2.length q.2.length,.p (.int .i64 cq),.p (.int .i64 ca),.p (.int .i64 cd),.p (.int .i64 cp)]),
        (10011,.arr 76 3 (CX bl)),(20011,.arr 22 1 (Cj nx)),(30011,.arr 68 6 (CR sp)),(40011,.arr 3 1 (BZ q.2))],83⟩)
     (λ q=>q.1<=sp.length/\q.2.length<=8/\ER sp q.2) (λ q=>sp.length - q.1) (0,rb) ⟨AE _,by simp only;omega,Y1⟩ (BW (by simp[ZF,Qy])) ?_
   rintro ⟨i,r1⟩ m4 ⟨hi,hr8,HJ⟩ Sx;simp only at hi hr8 HJ;have e4:=GD r1 r1.length (Ai _);cases c5:decide ((i:Int)<(sp.length:Int))
   . simp only[go_sem,Cg,c5];refine BX ?_;simp only[go_sem,Ci,Cf,OA,Qy,Cg,BY,e1,e2,e3,e4];refine ⟨(a+1)+1,⟨bl,nx,sp,r1,cq,ca,cd,cp⟩,by omega,hV nx r1 hN0 HJ (by omega),?_⟩;first | exact ⟨rfl,rfl⟩ | rfl | (simp[Nt.cs];done)
   have hit:i<sp.length:=by have:=Ad c5;omega
   have WX:=Cd i (by omega);have Q7:=EB sp i hit;have C6:(0:Int)<=(i:Int)/\(i:Int)<(sp.length:Int):=by omega
   have Fe:=CF sp i Cu hit;obtain ⟨_,_,_,_,g5,g6,g7⟩:=hss i hit;obtain ⟨g8,g9,_⟩:=MJ hss hit;generalize hse:sp.getD i Cu=s at*;simp only[go_sem,c5,Cg];refine B7 (λ q:Nat×List Int=>⟨[(0,.ptr 1000000 0),(4,.ptr 4 0),(5,.ptr 5 0),(6,.p (.int .i64 (i:Nat))),(7,.p (.int .i64 (q.1:Nat)))],
       [(1000000,.box [.p (.sl (BZ l)),.p (.int .i64 (((a+1)+1:Nat):Int))]),(4,.box [.cl [],.cl [],.cl [],.cl [],.p (.int .i64 0),.p (.int .i64 0),.p (.int .i64 0),.p (.int .i64 0)]),
        (5,.box [.ref 10011 0 bl.length bl.length,.ref 20011 0 nx.length nx.length,.ref 30011 0 sp.length sp.length,.ref 40011 0 q.2.length q.2.length,.p (.int .i64 cq),.p (.int .i64 ca),.p (.int .i64 cd),.p (.int .i64 cp)]),
        (10011,.arr 76 3 (CX bl)),(20011,.arr 22 1 (Cj nx)),(30011,.arr 68 6 (CR sp)),(40011,.arr 3 1 (BZ q.2))],83⟩)
     (λ q=>q.1<=4/\(q.1:Int)<=s.Cs/\q.2.length<=8/\ER sp q.2) (λ q=>4 - q.1) (0,r1) ⟨by simp,by simp only;omega,hr8,HJ⟩ (BW (by simp[ZF,Qy])) ?_
   rintro ⟨j,r2⟩ m5 ⟨hj4,hjs,Nk,HM⟩ VV;simp only at hj4 hjs Nk HM;cases c6:decide ((j:Int)<s.Cs)
   . simp only[go_sem,Cg,Ab,Q7,C6,c6,WX];refine Sx (i+1,r2) _ ⟨hit,Nk,HM⟩ (by simp only;omega) ?_
     (refine BW ?_;simp[ZF];done)
   cases c7:s.CE
   . simp only[go_sem,Cg,Ab,Q7,C6,c6,c7,WX];refine Sx (i+1,r2) _ ⟨hit,Nk,HM⟩ (by simp only;omega) ?_
     (refine BW ?_;simp[ZF];done)
   cases c8:decide ((r2.length:Int)<8)
   . simp only[go_sem,Cg,BY,Ab,Q7,C6,c6,c7,c8,WX];refine Sx (i+1,r2) _ ⟨hit,Nk,HM⟩ (by simp only;omega) ?_
     (refine BW ?_;simp[ZF];done)
   have hj6:(j:Int)<s.Cs:=Ad c6;have hr7:r2.length<8:=by have:=Ad c8;omega
   have YY:=Cd j (by omega);have hwx:IntKind.i64.wrap (s.base+(j:Int))=s.base+(j:Int):=by rw[B3]<;>omega
   simp only[go_sem,Cg,BY,Ab,Q7,C6,c6,c7,c8,hwx];refine PS rfl rfl (Np r2 (s.base+(j:Int)) (by omega)) (by simp[GF,MA,ev,get,AA,ZB]) ?_;rintro h' r ⟨rfl,rfl⟩;refine ⟨rfl,rfl,?_⟩;cases c9:decide (s.base+(j:Int)∈r2);rotate_left
   . simp only[go_sem,c9,YY];refine VV (j+1,r2) _ ⟨by simp only;omega,by simp only;omega,Nk,HM⟩ (by simp only;omega) ?_
     (refine BW ?_;simp[ZF];done)
   have PX:=Ae c9;have N9:sp.any (Mu (s.base+(j:Int)))=true:=by
       rw[AV];exact ⟨s,Fe,by unfold Mu;rw[c7];simp;omega⟩
   simp only[go_sem,c9,BY];refine ⟨⟨Dy _ _ rfl,by omega⟩,?_⟩;simp only[go_sem,YY];refine VV (j+1,r2++[s.base+(j:Int)]) _ ⟨by simp only;omega,by simp only;omega,by simp;omega,Jb HM N9 PX⟩ (by simp only;omega) ?_
   (refine BW ?_;simp[ZF,D0,BY];done)
 . obtain ⟨u,hu,hub⟩:=CZ l (a+1) bl.length (by omega);obtain ⟨q2,VZ,Av7⟩:=CZ l (a+2) 3 (by omega);have hu0:(0:Int)<=(u:Int)/\(u:Int)<(nx.length:Int):=by omega
   have hN1:(nx.set u []).length=bl.length/\∀i,i<bl.length->((nx.set u []).getD i []).length<=4/\Ip bl.length i ((nx.set u []).getD i []):=by
     refine ⟨by simp[hN0.1],λ i hi=>?_⟩;by_cases h:u=i
     . subst h;have:(nx.set u []).getD u []=[]:=by simp[List.getD,show u<nx.length by omega]
       rw[this];exact ⟨by simp,λ k hk=>by simp at hk⟩
     . have:(nx.set u []).getD i []=nx.getD i []:=by simp[List.getD,h]
       rw[this];exact hN0.2 i hi
   have Qy:(nx.set u []).length=nx.length:=by simp
   have e2:List.take bl.length (Cj (nx.set u []))=Cj (nx.set u []):=AA (by simp[Cj];omega);have hsn:(Cj nx).set u [.sl []]=Cj (nx.set u []):=by simp[Cj,BZ,Br]
   simp only[go_sem,c1,c2,Ci];refine Dp [(10011,.arr 76 3 (CX bl)),(5,.box [.ref 10011 0 bl.length bl.length,.ref 20011 0 nx.length nx.length,.ref 30011 0 sp.length sp.length,.ref 40011 0 rb.length rb.length,.p (.int .i64 cq),.p (.int .i64 ca),.p (.int .i64 cd),.p (.int .i64 cp)]),(20011,.arr 22 1 (Cj nx))] mixed (p:=[(0,0),(1,0),(2,0),(3,0),(4,0),(5,0),(6,2),(7,0),(8,3)]) (by kernel_rfl) (by simp[C8,get]) ?_;simp only[go_sem,Ci];refine Gq ((Dd l (a+1) bl.length (by omega) (CL _ (by omega) (by omega)))) ?_;have hgu:(Cj nx).getD u []=[.sl (BZ (nx.getD u []))]:=by simp[Cj,List.getD,show u<nx.length by omega]
   simp only[go_sem,Dm,hu,Cf,Ab,hu0,hgu,hsn];refine Cq ((Dd l (a+2) 3 (by omega) (CL _ (by omega) (by omega)))) ?_;simp only[go_sem,Dm,VZ];cases c3:decide ((q2:Int)=0)
   . simp only[go_sem,c3];refine BX ?_;simp only[go_sem,Ci,Cf,OA,Qy,Cg,BY,e1,e2,e3,e4];refine ⟨(a+2)+1,⟨bl,(nx.set u []),sp,rb,cq,ca,cd,cp⟩,by omega,hV (nx.set u []) rb hN1 Y1 (by omega),?_⟩;first | exact ⟨rfl,rfl⟩ | rfl | (simp[Nt.cs];done)
   simp only[go_sem,c3];refine B7 (λ q:Nat×List Int=>⟨[(0,.ptr 1000000 0),(4,.ptr 4 0),(5,.ptr 5 0),(6,.p (.int .i64 (q.1:Nat)))],
       [(1000000,.box [.p (.sl (BZ l)),.p (.int .i64 (((a+2)+1:Nat):Int))]),(4,.box [.cl [],.cl [],.cl [],.cl [],.p (.int .i64 0),.p (.int .i64 0),.p (.int .i64 0),.p (.int .i64 0)]),
        (5,.box [.ref 10011 0 bl.length bl.length,.ref 20011 0 nx.length nx.length,.ref 30011 0 sp.length sp.length,.ref 40011 0 q.2.length q.2.length,.p (.int .i64 cq),.p (.int .i64 ca),.p (.int .i64 cd),.p (.int .i64 cp)]),
        (10011,.arr 76 3 (CX bl)),(20011,.arr 22 1 (Cj (nx.set u []))),(30011,.arr 68 6 (CR sp)),(40011,.arr 3 1 (BZ q.2))],83⟩)
     (λ q=>q.1<=sp.length/\q.2.length<=8/\ER sp q.2) (λ q=>sp.length - q.1) (0,rb) ⟨AE _,by simp only;omega,Y1⟩ (BW (by simp[ZF,Qy])) ?_
   rintro ⟨i,r1⟩ m4 ⟨hi,hr8,HJ⟩ Sx;simp only at hi hr8 HJ;have e4:=GD r1 r1.length (Ai _);cases c5:decide ((i:Int)<(sp.length:Int))
   . simp only[go_sem,Cg,c5];refine BX ?_;simp only[go_sem,Ci,Cf,OA,Qy,Cg,BY,e1,e2,e3,e4];refine ⟨(a+2)+1,⟨bl,(nx.set u []),sp,r1,cq,ca,cd,cp⟩,by omega,hV (nx.set u []) r1 hN1 HJ (by omega),?_⟩;first | exact ⟨rfl,rfl⟩ | rfl | (simp[Nt.cs];done)
   have hit:i<sp.length:=by have:=Ad c5;omega
   have WX:=Cd i (by omega);have Q7:=EB sp i hit;have C6:(0:Int)<=(i:Int)/\(i:Int)<(sp.length:Int):=by omega
   have Fe:=CF sp i Cu hit;obtain ⟨_,_,_,_,g5,g6,g7⟩:=hss i hit;obtain ⟨g8,g9,_⟩:=MJ hss hit;generalize hse:sp.getD i Cu=s at*;simp only[go_sem,c5,Cg];refine B7 (λ q:Nat×List Int=>⟨[(0,.ptr 1000000 0),(4,.ptr 4 0),(5,.ptr 5 0),(6,.p (.int .i64 (i:Nat))),(7,.p (.int .i64 (q.1:Nat)))],
       [(1000000,.box [.p (.sl (BZ l)),.p (.int .i64 (((a+2)+1:Nat):Int))]),(4,.box [.cl [],.cl [],.cl [],.cl [],.p (.int .i64 0),.p (.int .i64 0),.p (.int .i64 0),.p (.int .i64 0)]),
        (5,.box [.ref 10011 0 bl.length bl.length,.ref 20011 0 nx.length nx.length,.ref 30011 0 sp.length sp.length,.ref 40011 0 q.2.length q.2.length,.p (.int .i64 cq),.p (.int .i64 ca),.p (.int .i64 cd),.p (.int .i64 cp)]),
        (10011,.arr 76 3 (CX bl)),(20011,.arr 22 1 (Cj (nx.set u []))),(30011,.arr 68 6 (CR sp)),(40011,.arr 3 1 (BZ q.2))],83⟩)
     (λ q=>q.1<=4/\(q.1:Int)<=s.Cs/\q.2.length<=8/\ER sp q.2) (λ q=>4 - q.1) (0,r1) ⟨by simp,by simp only;omega,hr8,HJ⟩ (BW (by simp[ZF,Qy])) ?_
   rintro ⟨j,r2⟩ m5 ⟨hj4,hjs,Nk,HM⟩ VV;simp only at hj4 hjs Nk HM;cases c6:decide ((j:Int)<s.Cs)
   . simp only[go_sem,Cg,Ab,Q7,C6,c6,WX];refine Sx (i+1,r2) _ ⟨hit,Nk,HM⟩ (by simp only;omega) ?_
     (refine BW ?_;simp[ZF];done)
   cases c7:s.CE
   . simp only[go_sem,Cg,Ab,Q7,C6,c6,c7,WX];refine Sx (i+1,r2) _ ⟨hit,Nk,HM⟩ (by simp only;omega) ?_
     (refine BW ?_;simp[ZF];done)
   cases c8:decide ((r2.length:Int)<8)
   . simp only[go_sem,Cg,BY,Ab,Q7,C6,c6,c7,c8,WX];refine Sx (i+1,r2) _ ⟨hit,Nk,HM⟩ (by simp only;omega) ?_
     (refine BW ?_;simp[ZF];done)
   have hj6:(j:Int)<s.Cs:=Ad c6;have hr7:r2.length<8:=by have:=Ad c8;omega
   have YY:=Cd j (by omega);have hwx:IntKind.i64.wrap (s.base+(j:Int))=s.base+(j:Int):=by rw[B3]<;>omega
   simp only[go_sem,Cg,BY,Ab,Q7,C6,c6,c7,c8,hwx];refine PS rfl rfl (Np r2 (s.base+(j:Int)) (by omega)) (by simp[GF,MA,ev,get,AA,ZB]) ?_;rintro h' r ⟨rfl,rfl⟩;refine ⟨rfl,rfl,?_⟩;cases c9:decide (s.base+(j:Int)∈r2);rotate_left
   . simp only[go_sem,c9,YY];refine VV (j+1,r2) _ ⟨by simp only;omega,by simp only;omega,Nk,HM⟩ (by simp only;omega) ?_
     (refine BW ?_;simp[ZF];done)
   have PX:=Ae c9;have N9:sp.any (Mu (s.base+(j:Int)))=true:=by
       rw[AV];exact ⟨s,Fe,by unfold Mu;rw[c7];simp;omega⟩
   simp only[go_sem,c9,BY];refine ⟨⟨Dy _ _ rfl,by omega⟩,?_⟩;simp only[go_sem,YY];refine VV (j+1,r2++[s.base+(j:Int)]) _ ⟨by simp only;omega,by simp only;omega,by simp;omega,Jb HM N9 PX⟩ (by simp only;omega) ?_
   (refine BW ?_;simp[ZF,D0,BY];done)
def GR(a0:Int):Option (Bool):=
 some (!decide (a0=a0))
theorem Mi(a0:Int)(r:Bool)(hr:GR a0=some r):
   B2 prog 178 [.p (.int .i64 a0)] [] λ h d=>h=[]/\d= .p (.bool r):=by
 refine B1 func178 rfl Agy (by simp[Tryz.f178]) ?_;unfold GR at hr;cases hr;try simp only[go_sem]
 all_goals ((try refine BX ?_);(try simp only[go_sem]);try first | rfl | exact ⟨rfl,rfl⟩ | (simp;done))
def HC(a0:Int)(a1:Int):Option (Bool):=
 Option.bind (GR a0) λ x1=>cond x1 (Option.bind (GR a1) λ x4=>cond x4 (some (decide (a0<a1))) (some true)) (some (decide (a0<a1)))
theorem TN(a0:Int)(a1:Int)(r:Bool)(hr:HC a0 a1=some r):
   B2 prog 150 [.p (.int .i64 a0),.p (.int .i64 a1)] [] λ h d=>h=[]/\d= .p (.bool r):=by
 refine B1 func150 rfl Ah8 (by simp[Tryz.f150]) ?_;unfold HC at hr;obtain ⟨x1,g2,hr⟩:=bE hr;try simp only[go_sem]
 refine Cq (Mi a0 _ g2) ?_;cases c3:x1
 . simp only[c3,Aj] at hr;cases hr;(try simp only[go_sem,c3]);all_goals ((try refine BX ?_);(try simp only[go_sem,c3]);try first | rfl | exact ⟨rfl,rfl⟩ | (simp;done))
 simp only[c3,Ak] at hr;obtain ⟨x4,g5,hr⟩:=bE hr;try simp only[go_sem,c3]
 refine Cq (Mi a1 _ g5) ?_;cases c6:x4
 . simp only[c6,Aj] at hr;cases hr;(try simp only[go_sem,c3,c6]);all_goals ((try refine BX ?_);(try simp only[go_sem,c3,c6]);try first | rfl | exact ⟨rfl,rfl⟩ | (simp;done))
 simp only[c6,Ak] at hr;cases hr;try simp only[go_sem,c3,c6]
 all_goals ((try refine BX ?_);(try simp only[go_sem,c3,c6]);try first | rfl | exact ⟨rfl,rfl⟩ | (simp;done))
def Ng(a1:Int):(List Int)×Int->Option (((List Int)×Int)⊕(((List Int)×Int)))
 | (Mf,O2)=>cond (decide (a1<O2)) (Option.bind (CK Mf O2) λ OW=>Option.bind (CK Mf (IntKind.i64.wrap (O2 - 1))) λ Mt=>Option.bind (HC OW Mt) λ x29=>cond x29 (Option.bind (CK (Mf.set (Int.toNat O2) Mt) (IntKind.i64.wrap (O2 - 1))) λ XG=>some (Sum.inl (((Mf.set (Int.toNat O2) Mt).set (Int.toNat (IntKind.i64.wrap (O2 - 1))) OW),(IntKind.i64.wrap (O2 - 1))))) (some (Sum.inr (Mf,O2)))) (some (Sum.inr (Mf,O2)))
def K5(a1:Int)(a2:Int):(List Int)×Int->Option (((List Int)×Int)⊕(((List Int)×Int)))
 | (v3,v4)=>cond (decide (v4<a2)) (Option.bind (CC (Ng a1) (v3,v4)) (λ (v36,v37)=>some (Sum.inl (v36,(IntKind.i64.wrap (v4+1)))))) (some (Sum.inr (v3,v4)))
def To(a0:List Int)(a1:Int)(a2:Int):Option ((List Int)):=
 Option.bind (CC (K5 a1 a2) (a0,(IntKind.i64.wrap (a1+1)))) (λ (v38,v39)=>some v38)
theorem Ag2(a0:List Int)(a1:Int)(a2:Int)(r:(List Int))(hr:To a0 a1 a2=some r):
   B2 prog 144 [.ref 1000000 0 a0.length a0.length,.p (.int .i64 a1),.p (.int .i64 a2)] [(1000000,.arr 3 1 (BZ a0))] λ h d=>h=[(1000000,.arr 3 1 (BZ r))]/\d= .Dv []:=by
 refine B1 func144 rfl Ah9 (by simp[Tryz.f144]) ?_;unfold To at hr;obtain ⟨e8,g9,hr⟩:=bE hr;try simp only[go_sem]
 refine CP g9 (λ q:(List Int)×Int=>⟨[(0,.ref 1000000 0 q.1.length q.1.length),(1,.p (.int .i64 a1)),(2,.p (.int .i64 a2)),(6,.p (.int .i64 q.2))],[(1000000,.arr 3 1 (BZ q.1))],49⟩) ((BW (by simp[ZF,ZE]))) ?_;rintro ⟨v3,v4⟩ m7 FQ ih6;rw[K5.eq_1] at FQ;cases HY:decide (v4<a2)
 . simp only[HY,Aj] at FQ;simp only[Aa,B0] at FQ;cases FQ;(try dsimp only at hr);cases hr;(try simp only[go_sem,HY]);all_goals ((try refine Cp ?_);(try simp only[go_sem,HY]);try first | rfl | exact ⟨rfl,rfl⟩ | (simp;done))
 simp only[HY,Ak] at FQ;obtain ⟨e18,g19,FQ⟩:=bK FQ;try simp only[go_sem,HY]
 refine CP g19 (λ q:(List Int)×Int=>⟨[(0,.ref 1000000 0 q.1.length q.1.length),(1,.p (.int .i64 a1)),(2,.p (.int .i64 a2)),(6,.p (.int .i64 v4)),(7,.p (.int .i64 q.2))],[(1000000,.arr 3 1 (BZ q.1))],49⟩) ((BW (by simp[ZF,ZE]))) ?_;rintro ⟨Mf,O2⟩ m17 LV Bb3;rw[Ng.eq_1] at LV;try simp only[go_sem]
 refine CG mixed (p:=[(0,0),(1,0),(2,0),(3,0),(4,0),(5,0),(6,0),(7,0),(8,0),(9,0),(10,0),(11,0),(12,0),(13,2),(14,0)]) (by kernel_rfl) (by simp[C8,get]) ?_;cases NK:decide (a1<O2)
 . simp only[NK,Aj] at LV;simp only[Aa,B0] at LV;cases LV;(try dsimp only at FQ);simp only[Aa,B4] at FQ;(try simp only[go_sem,NK]);exact ih6 (Mf,(IntKind.i64.wrap (v4+1))) _ FQ ((BW (by simp[ZF,ZE])))
 simp only[NK,Ak] at LV;obtain ⟨OW,g22,LV⟩:=bK LV;have f23:=B8 g22;have f24:(BZ Mf).getD (Int.toNat O2) []=[(.int .i64 OW)]:=B9 _ g22;obtain ⟨Mt,g26,LV⟩:=bK LV;have f27:=B8 g26;have f28:(BZ Mf).getD (Int.toNat (IntKind.i64.wrap (O2 - 1))) []=[(.int .i64 Mt)]:=B9 _ g26;obtain ⟨x29,g30,LV⟩:=bK LV;try simp only[go_sem,NK,f23,f24,f27,f28]
 refine Gq (TN OW Mt _ g30) ?_;cases Oj:x29
 . simp only[Oj,Aj] at LV;simp only[Aa,B0] at LV;cases LV;(try dsimp only at FQ);simp only[Aa,B4] at FQ;(try simp only[go_sem,NK,Oj]);exact ih6 (Mf,(IntKind.i64.wrap (v4+1))) _ FQ ((BW (by simp[ZF,ZE,Oj])))
 simp only[Oj,Ak] at LV;try simp only[go_sem,NK,Oj]
 refine CG mixed (p:=[(0,0),(1,0),(2,0),(3,0),(4,0),(5,0),(6,0),(7,0),(8,0),(9,0),(10,0),(11,0),(12,0),(13,0),(14,0),(15,4),(16,4),(17,4)]) (by kernel_rfl) (by simp[C8,get]) ?_;obtain ⟨XG,g33,LV⟩:=bK LV;have f34:=B8 g33;have f35:(BZ (Mf.set (Int.toNat O2) Mt)).getD (Int.toNat (IntKind.i64.wrap (O2 - 1))) []=[(.int .i64 XG)]:=B9 _ g33;simp only[Aa,B4] at LV;try simp only[go_sem,f27,f28,f23,f24,f34,f35]
 exact Bb3 (((Mf.set (Int.toNat O2) Mt).set (Int.toNat (IntKind.i64.wrap (O2 - 1))) OW),(IntKind.i64.wrap (O2 - 1))) _ LV ((BW (by simp[ZF,ZE,Oj])))
def Fy(a0:Da):Option (Bool):=
 some a0.CE
theorem MN(a0:Da)(r:Bool)(hr:Fy a0=some r):
   B2 prog 65 [.agg [.p (.str a0.name),.p (.bool a0.CE),.p (.int .i64 a0.HL),.p (.int .i64 a0.out),.p (.int .i64 a0.Cs),.p (.int .i64 a0.base)]] [] λ h d=>h=[]/\d= .p (.bool r):=by
 refine B1 func65 rfl Ank (by simp[Tryz.f65]) ?_;unfold Fy at hr;cases hr;try simp only[go_sem]
 all_goals ((try refine BX ?_);(try simp only[go_sem]);try first | rfl | exact ⟨rfl,rfl⟩ | (simp;done))
def DZ(a0:List Da):Int->Option ((Int)⊕(Int⊕Int))
 | v2=>cond (decide (v2<((a0.length:Nat):Int))) (Option.bind (CK a0 v2) λ x9=>Option.bind (Fy (⟨x9.name,x9.CE,x9.HL,x9.out,x9.Cs,x9.base⟩:Da)) λ KC=>cond KC (some (Sum.inr (.inr ((v2:Int))))) (some (Sum.inl (IntKind.i64.wrap (v2+1))))) (some (Sum.inr (.inl v2)))
def EP(a0:List Da):Option (Int):=
 Option.bind (CC (DZ a0) 0) (λ | .inl Vy=>some (-1) | .inr (r17)=>some r17)
theorem LB(a0:List Da)(r:Int)(hr:EP a0=some r):
   B2 prog 89 [.p (.sl (CR a0)),.fn 65 []] [] λ h d=>h=[]/\d= .p (.int .i64 r):=by
 refine B1 func89 rfl An3 (by simp[Tryz.f89]) ?_;unfold EP at hr;obtain ⟨e6,g7,hr⟩:=bE hr;try simp only[go_sem]
 refine CP g7 (λ q:Int=>⟨[(0,.p (.sl (CR a0))),(1,.fn 65 []),(7,.p (.int .i64 ((a0.length:Nat):Int))),(8,.p (.int .i64 q))],[],19⟩) ((BW (by simp[ZF,ZE]))) ?_;rintro v2 m5 F9 Sx;rw[DZ.eq_1] at F9;cases c8:decide (v2<((a0.length:Nat):Int))
 . simp only[c8,Aj] at F9;simp only[Aa,B0] at F9;cases F9;(try dsimp only at hr);cases hr;(try simp only[go_sem,c8]);all_goals ((try refine BX ?_);(try simp only[go_sem,c8]);try first | rfl | exact ⟨rfl,rfl⟩ | (simp;done))
 simp only[c8,Ak] at F9;obtain ⟨x9,g10,F9⟩:=bK F9;have f11:=B8 g10;have f12:(CR a0).getD (Int.toNat v2) []=[(.str x9.name),(.bool x9.CE),(.int .i64 x9.HL),(.int .i64 x9.out),(.int .i64 x9.Cs),(.int .i64 x9.base)]:=B9 _ g10;obtain ⟨KC,g14,F9⟩:=bK F9;try simp only[go_sem,c8,f11,f12]
 refine Cq (MN (⟨x9.name,x9.CE,x9.HL,x9.out,x9.Cs,x9.base⟩:Da) _ g14) ?_;cases HW:KC
 . simp only[HW,Aj] at F9;simp only[Aa,B4] at F9;(try simp only[go_sem,HW]);exact Sx (IntKind.i64.wrap (v2+1)) _ F9 ((BW (by simp[ZF,ZE,HW])))
 simp only[HW,Ak] at F9;simp only[Aa,B0] at F9;cases F9;try dsimp only at hr
 cases hr;try simp only[go_sem,HW]
 all_goals ((try refine BX ?_);(try simp only[go_sem,HW]);try first | rfl | exact ⟨rfl,rfl⟩ | (simp;done))
def Oh(a0:List Da):Option (Bool):=
 Option.bind (EP a0) λ x1=>some (decide (0<=x1))
theorem Aa1(a0:List Da)(r:Bool)(hr:Oh a0=some r):
   B2 prog 64 [.p (.sl (CR a0)),.fn 65 []] [] λ h d=>h=[]/\d= .p (.bool r):=by
 refine B1 func64 rfl Anl (by simp[Tryz.f64]) ?_;unfold Oh at hr;obtain ⟨x1,g2,hr⟩:=bE hr;try simp only[go_sem]
 refine Cq (LB a0 _ g2) ?_;cases hr;try simp only[go_sem]
 all_goals ((try refine BX ?_);(try simp only[go_sem]);try first | rfl | exact ⟨rfl,rfl⟩ | (simp;done))
def Fs:List Int->Int->List Int
 | [],x=>[x]
 | y::r,x=>if x<y then x::y::r else y::Fs r x
def Dn(l:List Int):List Int:=l.foldl Fs []
theorem Qu(l:List Int)(x:Int):(Fs l x).length=l.length+1:=by
 induction l with
 | nil=>rfl
 | cons y r ih=>simp only[Fs];split<;>simp[ih]
theorem UL(l p:List Int):(l.foldl Fs p).length=p.length+l.length:=by
 induction l generalizing p with
 | nil=>simp
 | cons x r ih=>simp only[Bs,ih,Qu,An];omega
theorem KI(l:List Int):(Dn l).length=l.length:=by simp[Dn,UL]
theorem Qt(l:List Int)(x y:Int):y∈Fs l x↔y=x∨y∈l:=by
 induction l with
 | nil=>simp[Fs]
 | cons z r ih=>
   simp only[Fs];split
   . simp
   . simp only[AG,ih];constructor
     . rintro (h | h | h)<;>simp[h]
     . rintro (h | h | h)<;>simp[h]
theorem Sw(l:List Int)(x:Int)(h:l.Pairwise (· <= ·)):(Fs l x).Pairwise (· <= ·):=by
 induction l with
 | nil=>simp[Fs]
 | cons y r ih=>
   obtain ⟨h1,h2⟩:=BH.1 h;simp only[Fs];split
   . refine BH.2 ⟨λ z hz=>?_,h⟩;rcases AG.1 hz with rfl | hz
     . omega
     . have:=h1 z hz;omega
   . refine BH.2 ⟨λ z hz=>?_,ih h2⟩;rcases (Qt r x z).1 hz with rfl | hz
     . omega
     . exact h1 z hz
theorem Yc(p:List Int)(y x:Int)(h:x<y):Fs (p++[y]) x=Fs p x++[y]:=by
 induction p with
 | nil=>simp[Fs,h]
 | cons z r ih=>
   simp only[A6,Fs];split
   . rfl
   . rw[ih];rfl
theorem Yd(p:List Int)(y x:Int)(hs:(p++[y]).Pairwise (· <= ·))(h:¬x<y):Fs (p++[y]) x=p++[y,x]:=by
 induction p with
 | nil=>simp[Fs,h]
 | cons z r ih=>
   simp only[A6,BH] at hs;have:=hs.1 y (by simp);simp only[A6,Fs];rw[if_neg (by omega),ih hs.2]
theorem Adb{α:Type}(p q:List α)(x y:α):(p++x::q).set p.length y=p++y::q:=by
 induction p with
 | nil=>rfl
 | cons z r ih=>simp[ih]
theorem Aux(a b:Int):HC a b=some (decide (a<b)):=by
 unfold HC GR;simp
theorem Z3(l:List Int):∀(n:Nat) (p:List Int) (x:Int) (q:List Int),p.length=n->p.Pairwise (· <= ·)->n<10000000->∃j,CC (Ng 0) (p++x::q,(n:Int))=some (Fs p x++q,j)
 | 0,p,x,q,hp,_,_=>by
   obtain rfl:p=[]:=AY hp;refine ⟨0,?_⟩;rw[C0,Ng.eq_1];simp[Fs,HS]
 | n+1,p,x,q,hp,hs,hn=>by
   obtain ⟨r,y,rfl⟩:∃r y,p=r++[y]:=by
     rcases List.eq_nil_or_concat p with h | ⟨r,y,h⟩
     . subst h;simp at hp
     . exact ⟨r,y,by simpa using h⟩
   have hr:r.length=n:=by simpa using hp
   have hw:IntKind.i64.wrap (((n+1:Nat):Int) - 1)=(n:Int):=by rw[IntKind.wrap_i64];omega
   have i1:CK ((r++[y])++x::q) ((n+1:Nat):Int)=some x:=by
     rw[GX];simp[<-hr,AL]
   have i2:CK ((r++[y])++x::q) (n:Int)=some y:=by
     rw[GX];simp[<-hr,AL]
   have s1:((r++[y])++x::q).set (n+1) y=r++y::y::q:=by
     have:=Adb (r++[y]) q x y;rw[show (r++[y]).length=n+1 by simp[hr]] at this;rw[this];simp
   have i3:CK (((r++[y])++x::q).set (n+1) y) (n:Int)=some y:=by
     rw[s1,GX];simp[<-hr,AL]
   have s2:(((r++[y])++x::q).set (n+1) y).set n x=r++x::(y::q):=by
     rw[s1,<-hr];exact Adb r (y::q) y x
   rw[C0,Ng.eq_1];have c1:decide ((0:Int)<((n+1:Nat):Int))=true:=Ag (by omega);rw[c1,Ak,i1,Aa,hw,i2,Aa,Aux,Aa];by_cases hxy:x<y
   . have c2:decide (x<y)=true:=by simpa using hxy
     rw[c2,Ak,show Int.toNat ((n+1:Nat):Int)=n+1 from rfl,i3,Aa,Aa,B4,show Int.toNat (n:Int)=n from rfl,s2];have Pm:r.Pairwise (· <= ·):=(BK.1 hs).1;obtain ⟨j,hj⟩:=Z3 l n r x (y::q) hr Pm (by omega);refine ⟨j,?_⟩;rw[hj,Yc _ _ _ hxy];simp
   . have c2:decide (x<y)=false:=by simpa using hxy
     rw[c2,Aj,Aa,B0];refine ⟨((n+1:Nat):Int),?_⟩;rw[Yd _ _ _ hs hxy];simp
theorem WT:∀(q p:List Int),p.Pairwise (· <= ·)->p.length+q.length<10000000->∃j,CC (K5 0 ((p.length+q.length:Nat):Int)) (p++q,(p.length:Int))=some (q.foldl Fs p,j)
 | [],p,hs,hn=>by
   rw[C0,K5.eq_1];simp[HS]
 | x::q,p,hs,hn=>by
   have hl:p.length+(x::q).length=(Fs p x).length+q.length:=by rw[Qu];simp;omega
   rw[C0,K5.eq_1];have c1:decide ((p.length:Int)<((p.length+(x::q).length:Nat):Int))=true:=Ag (by simp only[An];omega);obtain ⟨j,hj⟩:=Z3 [] p.length p x q rfl hs (by simp at hn;omega);have hw:IntKind.i64.wrap ((p.length:Int)+1)=((Fs p x).length:Int):=by rw[IntKind.wrap_i64,Qu];simp at hn;omega
   rw[c1,Ak,hj,Aa,Aa,B4,hw,hl];obtain ⟨j2,hj2⟩:=WT q (Fs p x) (Sw p x hs) (by rw[Qu];simp at hn;omega);exact ⟨j2,by rw[hj2];rfl⟩
theorem Z2(l:List Int)(hl:l.length<10000000):To l 0 (l.length:Int)=some (Dn l):=by
 unfold To;cases l with
 | nil=>
   rw[C0,K5.eq_1];simp[HS,Dn,IntKind.wrap_i64]
 | cons x r=>
   have hw:IntKind.i64.wrap (0+1)=(([x]:List Int).length:Int):=by rw[IntKind.wrap_i64];simp
   obtain ⟨j,hj⟩:=WT r [x] (by simp) (by simp at hl ⊢;omega);rw[hw,show ((x::r).length:Int)=(([x]:List Int).length+r.length:Nat) by simp;omega,show x::r=[x]++r from rfl,hj];rfl
theorem Als(n:Nat)(hn:n<=12):B2 prog 154 [.p (.int .u64 n)] [] λ h r=>h=[]/\∃m:Int,r= .p (.int .i64 m):=by
 have c1:decide ((4294967296:Int)<=(n:Int))=false:=by simp;omega
 have c2:decide ((65536:Int)<=(n:Int))=false:=by simp;omega
 have c3:decide ((256:Int)<=(n:Int))=false:=by simp;omega
 have w1:IntKind.u8.wrap (n:Int)=(n:Int):=by simp only[IntKind.wrap,IntKind.signed,IntKind.bits];first | omega | (simp;omega)
 have r1:(0:Int)<=(n:Int)/\(n:Int)<256:=by omega
 refine B1 func154 rfl Ah7 (by simp[Tryz.f154]) ?_;simp only[go_sem,c1,c2,c3,w1];refine ⟨by simp;omega,?_⟩;exact ⟨_,rfl⟩
theorem Auy(n:Nat)(hn:n<=12):B2 prog 115 [.p (.int .u64 n)] [] λ h r=>h=[]/\∃m:Int,r= .p (.int .i64 m):=by
 refine B1 func115 rfl Ahs (by simp[Tryz.f115]) ?_;simp only[go_sem];refine Em (Als n hn) ?_;rintro h' r ⟨rfl,m,rfl⟩;simp only[go_sem];exact ⟨m,rfl⟩
theorem Afi(l:List Int)(hl:l.length<=12)(m:Int):B2 prog 114 [.ref 1000000 0 l.length l.length,.p (.int .i64 0),.p (.int .i64 l.length),.p (.int .i64 m)] [(1000000,.arr 3 1 (BZ l))]
   λ h r=>h=[(1000000,.arr 3 1 (BZ (Dn l)))]/\r= .Dv []:=by
 have w1:IntKind.i64.wrap ((l.length:Int) - 0)=(l.length:Int):=by rw[IntKind.wrap_i64];omega
 have c1:decide ((l.length:Int)<=12)=true:=by simp;omega
 refine B1 func114 rfl Aht (by simp[Tryz.f114]) ?_;simp only[go_sem];refine YL 1 ?_;rw[Aw8];refine ⟨_,Wk.refl _,?_⟩;simp only[go_sem,w1,c1,BY];refine PQ rfl rfl ?_;simp only[go_sem,JW];refine Vq (Ag2 l 0 l.length _ (Z2 l (by omega))) ?_;rintro h' r ⟨rfl,rfl⟩;simp only[go_sem];all_goals (try refine Cp ?_)
 all_goals (try simp only[go_sem])
theorem Ak7(l:List Int)(hl:l.length<=12):B2 prog 66 [.ref 1000000 0 l.length l.length] [(1000000,.arr 3 1 (BZ l))] λ h r=>h=[(1000000,.arr 3 1 (BZ (Dn l)))]/\r= .Dv []:=by
 have w1:IntKind.u64.wrap (l.length:Int)=(l.length:Int):=by simp only[IntKind.wrap,IntKind.signed,IntKind.bits];first | omega | (simp;omega)
 refine B1 func66 rfl Anj (by simp[Tryz.f66]) ?_;simp only[go_sem,BY,w1];refine Em (Auy l.length hl) ?_;rintro h' r ⟨rfl,m,rfl⟩;simp only[go_sem,BY];refine PQ rfl rfl ?_;simp only[go_sem,JW];refine Vq (Afi l hl m) ?_;rintro h' r ⟨rfl,rfl⟩;simp only[go_sem];all_goals (try refine Cp ?_)
 all_goals (try simp only[go_sem])
theorem Ak6(rows:List (List Int))(i k:Nat)(hi:i<rows.length)(hl:(rows.getD i []).length<=12):
   B2 prog 66 [.nr 1000000 i (rows.getD i []).length k] [(1000000,.DF 22 3 1 k (encR rows) none)] λ h r=>h=[(1000000,.DF 22 3 1 k (encR (rows.set i (Dn (rows.getD i [])))) none)]/\r= .Dv []:=by
 have hg:(encR rows)[i]?=some (BZ (rows.getD i [])):=by simp[encR,List.getD,hi]
 refine (Vv (ps:=[]) hg (BY _).symm (Ak7 (rows.getD i []) hl) (R':=λ es r=>es=BZ (Dn (rows.getD i []))/\r= .Dv []) ?_).mono ?_
 . rintro h' r ⟨rfl,rfl⟩;exact ⟨_,rfl,by rw[BY,KI],.inl rfl,rfl,rfl⟩
 . rintro h' r ⟨OE,rfl,_,rfl,rfl⟩;exact ⟨by rw[r4],rfl⟩
def nt0:Nt:=⟨[],[],[],[],0,0,0,0⟩
def CM.init:CM:=⟨[],[],[],4,2,1,8,[],[],[],0,[],false⟩
def Gb:CM->List Dc->Option (Int×Int)×CM
 | b,[]=>(none,b)
 | b,d::r=>if (b.ED d).1=0 then Gb (b.ED d).2 r else (some (d.line,(b.ED d).1),b)
def GK(n:Int)(sp:List Da)(ba:List Int):List Da:=List.zipWith (λ s x=>{s with base:=n+x}) sp ba
def PU(sp:List Da)(p:Int×Int):Int:=(sp.getD p.1.toNat Cu).base+p.2 - 1
def CM.net(b:CM):Nt:=⟨b.bl,b.nx.map Dn,GK b.bl.length b.sp b.ba,b.pl.map (PU (GK b.bl.length b.sp b.ba)),b.cq,b.ca,b.cd,b.cp⟩
def nbuildV(d:List Dc):Nt×Int×Int:=match Gb CM.init d with
 | (some (l,e),_)=>(nt0,l,e)
 | (none,b)=>if decide (b.bl.length=0)=true then (nt0,0,15) else if b.sp.any (·.CE)=false then (nt0,0,16) else (b.net,0,0)
def CM.Bav(b:CM):List D:=[.ref 901 0 b.bl.length b.bl.length,.DI 902 b.nx.length,.ref 903 0 b.sp.length b.sp.length,.cl [],.p (.int .i64 b.cq),.p (.int .i64 b.ca),.p (.int .i64 b.cd),.p (.int .i64 b.cp),
 .mv 14,.mv 15,.ref 906 0 b.ba.length b.ba.length,.p (.int .i64 b.sl),.ref 907 0 b.pl.length b.pl.length,.p (.bool b.cf)]
def CM.lh(b:CM)(k:Nat):Hp:=[(17,.box b.Bav),(901,.arr 76 3 (CX b.bl)),(902,.DF 22 3 1 k (encR b.nx) none),(903,.arr 68 6 (CR b.sp)),
 (14,.mp (KD b.mb)),(15,.mp (KD b.ms)),(906,.arr 3 1 (BZ b.ba)),(907,.arr 120 2 (IS b.pl))]
theorem GG(b:CM)(k:Nat):b.lh k=[(17,.box [.ref 901 0 b.bl.length b.bl.length,.DI 902 b.nx.length,.ref 903 0 b.sp.length b.sp.length,.cl [],.p (.int .i64 b.cq),.p (.int .i64 b.ca),.p (.int .i64 b.cd),.p (.int .i64 b.cp),
 .mv 14,.mv 15,.ref 906 0 b.ba.length b.ba.length,.p (.int .i64 b.sl),.ref 907 0 b.pl.length b.pl.length,.p (.bool b.cf)]),(901,.arr 76 3 (CX b.bl)),(902,.DF 22 3 1 k (encR b.nx) none),(903,.arr 68 6 (CR b.sp)),
 (14,.mp (KD b.mb)),(15,.mp (KD b.ms)),(906,.arr 3 1 (BZ b.ba)),(907,.arr 120 2 (IS b.pl))]:=rfl
theorem BI.init:BI CM.init:=by
 refine ⟨by simp[CM.init],rfl,λ x i h=>?_,λ x i h=>?_,λ i=>by simp[CM.init],by simp[CM.init],rfl,by simp[CM.init],by simp[CM.init],by simp[CM.init],by simp[CM.init],by simp[CM.init]⟩<;>simp[CM.init,Es] at h
theorem BI.Aab:∀(l:List Dc) {b:CM},BI b->BI (Gb b l).2
 | [],b,h=>h
 | d::r,b,h=>by
   simp only[Gb];split
   . exact BI.Aab r (h.add d)
   . exact h
theorem Aii(l:List Dc)(i:Nat)(h:i<l.length):(DX l).getD i []=[.int .i64 (l.getD i IU).word,.int .i64 (l.getD i IU).line,.sl (CB (l.getD i IU).names),.sl (BZ (l.getD i IU).Cb)]:=by simp[DX,List.getD,h]
theorem Avv(l:List Da)(hl:l.length<10000000):Oh l=some (l.any (·.CE)):=by
 have h:=K1 (step:=DZ l) l.length (λ i=>(i:Int)) (Sum.inl (l.length:Int)) (λ i=>if (l.getD i Cu).CE=true then some (Sum.inr (i:Int)) else none)
   (λ i hi _=>by
     have hx:CK l (i:Int)=some (l.getD i Cu):=by rw[GX];simp[List.getD,hi]
     rw[DZ.eq_1,Ag (by omega:(i:Int)<((l.length:Nat):Int)),Ak,hx,Aa];simp only[Fy,Aa];cases c:(l.getD i Cu).CE
     . simp[Cd i (by omega)]
     . simp)
   (λ _=>by rw[DZ.eq_1,Ah (by omega:¬((l.length:Nat):Int)<((l.length:Nat):Int)),Aj])
 unfold Oh EP;rw[show ((0:Nat):Int)=0 from rfl] at h;rw[h];cases hf:(List.range l.length).findSome? (λ i=>if (l.getD i Cu).CE=true then some (Sum.inr (i:Int):Int⊕Int) else none) with
 | none=>
   rw[Bw] at hf;have:l.any (·.CE)=false:=by
     rw[List.any_eq_false];intro x hx;obtain ⟨i,hi,rfl⟩:=List.getElem_of_mem hx;have:=hf i (by simpa using hi);simp[List.getD,hi] at this
     simpa using this
   simp[this]
 | some e=>
   obtain ⟨i,hi,he⟩:=List.exists_of_findSome?_eq_some hf;simp only[List.mem_range] at hi;split at he
   . rename_i hd;cases he;have:l.any (·.CE)=true:=AV.2 ⟨l.getD i Cu,CF l i Cu hi,hd⟩;simp[this]
   . cases he
def sB(n:Int)(sp:List Da)(ba:List Int)(i:Nat):List Da:=GK n (sp.take i) (ba.take i)++sp.drop i
theorem NV(n:Int)(sp:List Da)(ba:List Int)(h:ba.length=sp.length):(GK n sp ba).length=sp.length:=by simp[GK,h]
theorem XV(n:Int)(sp:List Da)(ba:List Int)(i:Nat)(h:ba.length=sp.length)(hi:i<=sp.length):(sB n sp ba i).length=sp.length:=by
 simp only[sB,Aq,BM];rw[NV _ _ _ (by simp[h]),A8];omega
theorem Atb(n:Int)(sp:List Da)(ba:List Int)(i:Nat)(h:ba.length=sp.length)(hi:i<sp.length):(sB n sp ba i).getD i Cu=sp.getD i Cu:=by
 have hl:(GK n (sp.take i) (ba.take i)).length=i:=by rw[NV _ _ _ (by simp[h]),A8];omega
 simp only[sB,List.getD];rw[A1 (by omega),hl,AR];simp
theorem Akd(n:Int)(sp:List Da)(ba:List Int)(i:Nat)(h:ba.length=sp.length)(hi:i<sp.length):(sB n sp ba i).set i {sp.getD i Cu with base:=n+ba.getD i 0}=sB n sp ba (i+1):=by
 have hl:(GK n (sp.take i) (ba.take i)).length=i:=by rw[NV _ _ _ (by simp[h]),A8];omega
 have hd:sp.drop i=sp.getD i Cu::sp.drop (i+1):=by rw[AT hi];simp[List.getD,hi]
 have ht:sp.take (i+1)=sp.take i++[sp.getD i Cu]:=by rw[BP];simp[List.getD,hi]
 have hb:ba.take (i+1)=ba.take i++[ba.getD i 0]:=by rw[BP];simp[List.getD,h,hi]
 unfold sB;rw[List.set_append_right _ _ (by omega),hl,Nat.sub_self,hd,List.set_cons_zero,ht,hb];unfold GK;rw[List.zipWith_append (by simp[h])];simp
def smallD(d:List Dc):Prop:=d.length<10000000/\∀x∈d,x.names.length<=10000000/\x.Cb.length<=10000000
set_option maxHeartbeats 4000000 in
theorem Afp (d:List Dc) (hd:smallD d):B2 prog 31 [.p (.sl (DX d))] [] λ h r=>h=[]/\r= .Dv [.agg (nbuildV d).1.cs,.p (.int .i64 (nbuildV d).2.1),.p (.int .i64 (nbuildV d).2.2)]:=by
  obtain ⟨OD,I4⟩:=hd;refine B1 func31 rfl Ao8 (by simp[Tryz.f31]) ?_;simp only[go_sem,KK.fit];refine B7 (λ q:Nat×CM×Nat=>⟨[(2,.ptr 2 0),(5,.ptr 17 0),(23,.p (.sl (DX d))),(24,.p (.int .i64 d.length)),(25,.p (.int .i64 (q.1:Nat)))],(2,.box [.cl [],.cl [],.cl [],.cl [],.p (.int .i64 0),.p (.int .i64 0),.p (.int .i64 0),.p (.int .i64 0)])::q.2.1.lh q.2.2,139⟩)
    (λ q=>q.1<=d.length/\BI q.2.1/\Gb CM.init d=Gb q.2.1 (d.drop q.1)) (λ q=>d.length - q.1) (0,CM.init,0) ⟨AE _,BI.init,by simp⟩
    ((DC (id:=17) (j:=0) (q:=901) (sz:=3) 76 rfl rfl rfl (by decide)).trans ((Wk.Ar9 (id:=17) (j:=1) (q:=902) (sz:=1) 22 3 rfl rfl rfl (by decide)).trans
      ((DC (id:=17) (j:=2) (q:=903) (sz:=6) 68 rfl rfl rfl (by decide)).trans ((DC (id:=17) (j:=10) (q:=906) (sz:=1) 3 rfl rfl rfl (by decide)).trans
      ((DC (id:=17) (j:=12) (q:=907) (sz:=2) 120 rfl rfl rfl (by decide)).trans (BW (by simp[ZF,GG,CM.init,CX,CR,BZ,encR,IS,KD,CS]))))))) ?_
  rintro ⟨i,b,k⟩ n ⟨hi,hB,he⟩ ih;dsimp only at hi hB he;simp only[go_sem,GG];refine Cy (λ h2=>?_) (λ h2=>?_)
  . have Cv:i<d.length:=by simp at h2;omega
    have hw:=Cd i (by omega);have hg:=Aii d i Cv;have r1:(0:Int)<=(i:Int)/\(i:Int)<(d.length:Int):=by omega
    have Oa:d.drop i=d.getD i IU::d.drop (i+1):=by
      rw[AT Cv];simp[List.getD,Cv]
    have hx:=I4 (d.getD i IU) (CF d i IU Cv);rw[Oa] at he;generalize d.getD i IU=x at*;simp only[go_sem,GG,CS,Ab,r1,hg];refine Em (Avz b k x hB hx) ?_;rintro h' r ⟨k2,rfl,rfl⟩;have hB2:=hB.add x;simp only[Gb] at he;cases c1:decide ((b.ED x).1=0)
    . have c1':¬(b.ED x).1=0:=Ae c1;rw[if_neg c1'] at he;simp only[go_sem,CV (b.ED x).2 k2,c1];refine Dp [(7,.box [.p (.int .i64 x.word),.p (.int .i64 x.line),.p (.sl (CB x.names)),.p (.sl (BZ x.Cb))])] mixed (p:=[(0,0),(1,0),(2,0),(3,0),(4,2),(5,0),(6,0)]) (by kernel_rfl) (by simp[C8,get]) ?_;simp only[go_sem];refine BX ?_;simp only[go_sem];unfold nbuildV;rw[he];rfl
    . have c1':(b.ED x).1=0:=Ad c1;rw[if_pos c1'] at he;simp only[go_sem,CV (b.ED x).2 k2,c1,hw];refine ih (i+1,(b.ED x).2,k2) _ ⟨Cv,hB2,he⟩ (by simp;omega) ?_
      (refine BW ?_;simp[ZF,GG];done)
  . have:i=d.length:=by simp at h2;omega
    subst this;rw[AZ] at he;simp only[Gb] at he;have hv:nbuildV d=if decide (b.bl.length=0)=true then (nt0,0,15) else if b.sp.any (·.CE)=false then (nt0,0,16) else (b.net,0,0):=by
      unfold nbuildV;rw[he]
    rw[hv];have hc:decide ((b.bl.length:Int)=0)=decide (b.bl.length=0):=by
      by_cases h:b.bl.length=0<;>simp[h]
    cases c1:decide (b.bl.length=0);rotate_left
    . simp only[go_sem,Ci,hc,c1];refine BX ?_;simp only[go_sem];rfl
    simp only[go_sem,Ci,hc,c1];refine PS rfl rfl (Aa1 b.sp _ (Avv b.sp (by have:=hB.ns;omega))) (by simp[GF,MA,ev,get,AA,ZB]) ?_;rintro h' r ⟨rfl,rfl⟩;refine ⟨rfl,rfl,?_⟩;cases c2:b.sp.any (·.CE)
    . simp only[go_sem,c2];refine BX ?_;simp only[go_sem];rfl
    simp only[go_sem,c2];have hnb:=hB.nb;have hns:=hB.ns;have VE:=hB.nba;refine B7 (λ i:Nat=>⟨[(2,.ptr 2 0),(5,.ptr 17 0),(60,.p (.int .i64 b.sp.length)),(61,.p (.int .i64 (i:Nat)))],(2,.box [.cl [],.cl [],.cl [],.cl [],.p (.int .i64 0),.p (.int .i64 0),.p (.int .i64 0),.p (.int .i64 0)])::({b with sp:=sB b.bl.length b.sp b.ba i}:CM).lh k,139⟩)
      (λ i=>i<=b.sp.length) (λ i=>b.sp.length - i) 0 (AE _) (BW (by simp[ZF,GG,sB,GK,Fj])) ?_
    rintro i m hi Hw;have hl:=XV b.bl.length b.sp b.ba i VE hi;simp only[go_sem,GG,hl];refine Cy (λ h3=>?_) (λ h3=>?_)
    . have Cv:i<b.sp.length:=by simp at h3;omega
      have hw:=Cd i (by omega);have g1:=EB (sB b.bl.length b.sp b.ba i) i (by omega);rw[Atb _ _ _ _ VE Cv] at g1;have g2:=Cm b.ba i (by omega);have hbb:=hB.bas (b.ba.getD i 0) (CF b.ba i 0 (by omega));have w1:IntKind.i64.wrap ((b.bl.length:Int)+b.ba.getD i 0)=(b.bl.length:Int)+b.ba.getD i 0:=by rw[IntKind.wrap_i64];omega
      have r1:(0:Int)<=(i:Int)/\(i:Int)<(b.sp.length:Int):=by omega
      have hs:=Akd b.bl.length b.sp b.ba i VE Cv;simp only[go_sem,GG,hl];refine CG mixed (p:=[(0,0),(1,0),(2,0),(3,0),(4,0),(5,0),(6,0),(7,0),(8,0),(9,0),(10,0),(11,0),(12,0),(13,0),(14,0),(15,0),(16,0),(17,0),(18,0),(19,0),(20,0),(21,0),(22,3)]) (by kernel_rfl) (by simp[C8,get]) ?_;simp only[go_sem,VE,r1,BY,Ci,Fj,Ab,g1,g2,w1,hl,hw];refine Hw (i+1) _ Cv (by omega) ?_;rw[<-hs]
      (refine BW ?_;simp[ZF,GG,RV,Fj,hl,VE];done)
    obtain rfl:i=b.sp.length:=by simp at h3;omega
    have hsB:sB b.bl.length b.sp b.ba b.sp.length=GK b.bl.length b.sp b.ba:=by
      unfold sB;rw[AZ,List.append_nil,Ar,<-VE,Ar]
    rw[hsB] at hl ⊢;have Mw:=hB.np;simp only[go_sem,GG,EW];refine B7 (λ i:Nat=>⟨[(2,.ptr 2 0),(5,.ptr 17 0),(90,.ref 907 0 b.pl.length b.pl.length),(91,.p (.int .i64 b.pl.length)),(92,.p (.int .i64 (i:Nat)))],[(2,.box [.cl [],.cl [],.cl [],.cl [],.p (.int .i64 0),.p (.int .i64 0),.p (.int .i64 0),.p (.int .i64 0)]),
        (17,.box [.ref 901 0 b.bl.length b.bl.length,.DI 902 b.nx.length,.ref 903 0 b.sp.length b.sp.length,.ref 904 0 i i,.p (.int .i64 b.cq),.p (.int .i64 b.ca),.p (.int .i64 b.cd),.p (.int .i64 b.cp),
          .mv 14,.mv 15,.ref 906 0 b.ba.length b.ba.length,.p (.int .i64 b.sl),.ref 907 0 b.pl.length b.pl.length,.p (.bool b.cf)]),(901,.arr 76 3 (CX b.bl)),(902,.DF 22 3 1 k (encR b.nx) none),(903,.arr 68 6 (CR (GK b.bl.length b.sp b.ba))),
        (14,.mp (KD b.mb)),(15,.mp (KD b.ms)),(906,.arr 3 1 (BZ b.ba)),(904,.arr 3 1 (BZ ((b.pl.take i).map (PU (GK b.bl.length b.sp b.ba))))),(907,.arr 120 2 (IS b.pl))],139⟩)
      (λ i=>i<=b.pl.length) (λ i=>b.pl.length - i) 0 (AE _) ((DC (id:=17) (j:=3) (q:=904) (sz:=1) 3 rfl rfl rfl (by decide)).trans (BW (by simp[ZF,BZ,EW,hl]))) ?_
    rintro i m hi ih3;simp only[go_sem];refine Cy (λ h3=>?_) (λ h3=>?_)
    . have Cv:i<b.pl.length:=by simp at h3;omega
      have hw:=Cd i (by omega);have g1:(IS b.pl).getD i []=[.int .i64 (b.pl.getD i (0,0)).1,.int .i64 (b.pl.getD i (0,0)).2]:=by simp[IS,List.getD,Cv]
      have r1:(0:Int)<=(i:Int)/\(i:Int)<(b.pl.length:Int):=by omega
      obtain ⟨⟨j,hj,hjl⟩,KF⟩:=hB.pls (b.pl.getD i (0,0)) (CF b.pl i (0,0) Cv);have r2:(0:Int)<=(j:Int)/\(j:Int)<(b.sp.length:Int):=by omega
      have g2:=EB (GK b.bl.length b.sp b.ba) j (by omega);have hbs:0<=((GK b.bl.length b.sp b.ba).getD j Cu).base/\((GK b.bl.length b.sp b.ba).getD j Cu).base<=48:=by
        have:=hB.bas (b.ba.getD j 0) (CF b.ba j 0 (by omega));have e:((GK b.bl.length b.sp b.ba).getD j Cu).base=b.bl.length+b.ba.getD j 0:=by
          simp[GK,List.getD,List.getElem?_zipWith,hjl,show j<b.ba.length by omega]
        omega
      have hpl:PU (GK b.bl.length b.sp b.ba) (b.pl.getD i (0,0))=((GK b.bl.length b.sp b.ba).getD j Cu).base+(b.pl.getD i (0,0)).2 - 1:=by
        unfold PU;rw[hj];rfl
      have Z9:(b.pl.take (i+1)).map (PU (GK b.bl.length b.sp b.ba))=(b.pl.take i).map (PU (GK b.bl.length b.sp b.ba))++[PU (GK b.bl.length b.sp b.ba) (b.pl.getD i (0,0))]:=by
        rw[BP,Bg];congr 1;simp[List.getD,Cv]
      rw[hj] at g1;generalize (GK b.bl.length b.sp b.ba).getD j Cu=sj at*;generalize b.pl.getD i (0,0)=pi at*;have w1:IntKind.i64.wrap (IntKind.i64.wrap (sj.base+pi.2) - 1)=sj.base+pi.2 - 1:=by rw[IntKind.wrap_i64,IntKind.wrap_i64];omega
      simp only[go_sem,EW,r1,Ab,g1];refine Dp [(17,.box [.ref 901 0 b.bl.length b.bl.length,.DI 902 b.nx.length,.ref 903 0 b.sp.length b.sp.length,.ref 904 0 i i,.p (.int .i64 b.cq),.p (.int .i64 b.ca),.p (.int .i64 b.cd),.p (.int .i64 b.cp),
          .mv 14,.mv 15,.ref 906 0 b.ba.length b.ba.length,.p (.int .i64 b.sl),.ref 907 0 b.pl.length b.pl.length,.p (.bool b.cf)]),(11,.box [.p (.int .i64 j),.p (.int .i64 pi.2)]),(903,.arr 68 6 (CR (GK b.bl.length b.sp b.ba)))] mixed (p:=[(0,0),(1,0),(2,0),(3,0),(4,0),(5,0),(6,0),(7,0),(8,0),(9,0),(10,0),(11,0),(12,0),(13,0),(14,0),(15,0),(16,0),(17,0),(18,0),(19,0),(20,1),(21,2),(22,0),(23,0),(24,0),(25,3)]) (by kernel_rfl) (by simp[C8,get]) ?_
      simp only[go_sem,hl,r2,Ab,Fj,g2,w1,BY,Ba,A8,Nat.min_eq_left hi];refine ⟨⟨Dy _ _ rfl,by omega⟩,?_⟩;simp only[go_sem,hw];refine ih3 (i+1) _ Cv (by omega) ?_;rw[Z9,hpl]
      (refine BW ?_;simp[ZF,D0,Nat.min_eq_left hi];done)
    obtain rfl:i=b.pl.length:=by simp at h3;omega
    rw[Ar];have hnn:=hB.nn;simp only[go_sem,IA];refine B7 (λ q:Nat×List (List Int)=>⟨[(2,.ptr 2 0),(5,.ptr 17 0),(126,.DI 902 b.nx.length),(127,.p (.int .i64 b.nx.length)),(128,.p (.int .i64 (q.1:Nat)))],[(2,.box [.cl [],.cl [],.cl [],.cl [],.p (.int .i64 0),.p (.int .i64 0),.p (.int .i64 0),.p (.int .i64 0)]),
        (17,.box [.ref 901 0 b.bl.length b.bl.length,.DI 902 b.nx.length,.ref 903 0 b.sp.length b.sp.length,.ref 904 0 b.pl.length b.pl.length,.p (.int .i64 b.cq),.p (.int .i64 b.ca),.p (.int .i64 b.cd),.p (.int .i64 b.cp),
          .mv 14,.mv 15,.ref 906 0 b.ba.length b.ba.length,.p (.int .i64 b.sl),.ref 907 0 b.pl.length b.pl.length,.p (.bool b.cf)]),(901,.arr 76 3 (CX b.bl)),(902,.DF 22 3 1 k (encR q.2) none),(903,.arr 68 6 (CR (GK b.bl.length b.sp b.ba))),
        (14,.mp (KD b.mb)),(15,.mp (KD b.ms)),(906,.arr 3 1 (BZ b.ba)),(904,.arr 3 1 (BZ (b.pl.map (PU (GK b.bl.length b.sp b.ba))))),(907,.arr 120 2 (IS b.pl))],139⟩)
      (λ q=>q.1<=b.nx.length/\q.2=(b.nx.take q.1).map Dn++b.nx.drop q.1) (λ q=>b.nx.length - q.1) (0,b.nx) ⟨AE _,by simp⟩ (BW (by simp[ZF])) ?_
    rintro ⟨i,rows⟩ m ⟨hi,hrw⟩ Sx;dsimp only at hi hrw;have hrl:rows.length=b.nx.length:=by rw[hrw];simp;omega
    simp only[go_sem];refine Cy (λ h3=>?_) (λ h3=>?_)
    . have Cv:i<b.nx.length:=by simp at h3;omega
      have hw:=Cd i (by omega);have r1:(0:Int)<=(i:Int)/\(i:Int)<(b.nx.length:Int):=by omega
      have Jr:rows.getD i []=b.nx.getD i []:=by
        rw[hrw];simp only[List.getD];rw[A1 (by simp;omega),AR];simp[Nat.min_eq_left hi]
      have E2:rows.set i (Dn (rows.getD i []))=(b.nx.take (i+1)).map Dn++b.nx.drop (i+1):=by
        rw[Jr,hrw,List.set_append_right _ _ (by simp;omega)];have Oa:b.nx.drop i=b.nx.getD i []::b.nx.drop (i+1):=by rw[AT Cv];simp[List.getD,Cv]
        rw[Oa,show i - ((b.nx.take i).map Dn).length=0 by simp;omega,List.set_cons_zero,BP,Bg];simp[List.getD,Cv]
      have Dq:=hB.row i;simp only[go_sem,r1,Ab,IA,NA,BY,hrl];refine PQ rfl rfl ?_;simp only[go_sem,JW];refine Vq (Ak6 rows i k (by omega) (by rw[Jr];omega)) ?_;rintro h' r ⟨rfl,rfl⟩;simp only[go_sem,hw];refine Sx (i+1,_) _ ⟨Cv,E2⟩ (by simp;omega) ?_
      (refine BW ?_;simp[ZF];done)
    obtain rfl:i=b.nx.length:=by simp at h3;omega
    rw[Ar,AZ,List.append_nil] at hrw;subst hrw;simp only[go_sem];refine BX ?_;simp only[go_sem,Ci,Fj,BY,hl,IA,Ba];have e1:List.take b.sp.length (CR (GK b.bl.length b.sp b.ba))=CR (GK b.bl.length b.sp b.ba):=AA (by rw[Fj,hl];exact Ai _);have e2:List.take b.pl.length (BZ (b.pl.map (PU (GK b.bl.length b.sp b.ba))))=BZ (b.pl.map (PU (GK b.bl.length b.sp b.ba))):=AA (by simp[BZ]);have e3:(encR (b.nx.map Dn)).map (λ r=>[Pd.sl r])=Cj (b.nx.map Dn):=by simp[encR,Cj]
    rw[e1,e2,e3];simp[c1];rfl
def UG(a0:List Int)(a1:Int):Int->Option ((Int)⊕(Int⊕Bool))
 | v2=>cond (decide (v2<((a0.length:Nat):Int))) (Option.bind (CK a0 v2) λ x9=>cond (decide (x9=a1)) (some (Sum.inr (.inr ((true:Bool))))) (some (Sum.inl (IntKind.i64.wrap (v2+1))))) (some (Sum.inr (.inl v2)))
def W2(a0:List Int)(a1:Int):Option (Bool):=
 Option.bind (CC (UG a0 a1) 0) (λ | .inl O2=>some false | .inr (r15)=>some r15)
theorem Ady(a0:List Int)(a1:Int)(r:Bool)(hr:W2 a0 a1=some r):
   B2 prog 45 [.p (.sl (BZ a0)),.p (.int .i64 a1)] [] λ h d=>h=[]/\d= .p (.bool r):=by
 refine B1 func45 rfl UY (by simp[Tryz.f45]) ?_;unfold W2 at hr;obtain ⟨e6,g7,hr⟩:=bE hr;try simp only[go_sem]
 refine CP g7 (λ q:Int=>⟨[(0,.p (.sl (BZ a0))),(1,.p (.int .i64 a1)),(5,.p (.int .i64 q))],[],18⟩) ((BW (by simp[ZF,ZE]))) ?_;rintro v2 m5 F9 Sx;rw[UG.eq_1] at F9;cases c8:decide (v2<((a0.length:Nat):Int))
 . simp only[c8,Aj] at F9;simp only[Aa,B0] at F9;cases F9;(try dsimp only at hr);cases hr;(try simp only[go_sem,c8]);all_goals ((try refine BX ?_);(try simp only[go_sem,c8]);try first | rfl | exact ⟨rfl,rfl⟩ | (simp;done))
 simp only[c8,Ak] at F9;obtain ⟨x9,g10,F9⟩:=bK F9;have f11:=B8 g10;have f12:(BZ a0).getD (Int.toNat v2) []=[(.int .i64 x9)]:=B9 _ g10;cases IZ:decide (x9=a1)
 . simp only[IZ,Aj] at F9;simp only[Aa,B4] at F9;(try simp only[go_sem,c8,f11,f12,IZ]);exact Sx (IntKind.i64.wrap (v2+1)) _ F9 ((BW (by simp[ZF,ZE])))
 simp only[IZ,Ak] at F9;simp only[Aa,B0] at F9;cases F9;try dsimp only at hr
 cases hr;try simp only[go_sem,c8,f11,f12,IZ]
 all_goals ((try refine BX ?_);(try simp only[go_sem,c8,f11,f12,IZ]);try first | rfl | exact ⟨rfl,rfl⟩ | (simp;done))
def K6(a0:List Int)(a1:Int):(List Int)×Bool×Int->Option (((List Int)×Bool×Int)⊕(((List Int)×Bool×Int)))
 | (v6,v7,v8)=>cond (decide (v8<((a0.length:Nat):Int))) (cond v7 (Option.bind (CK a0 v8) λ MC=>cond (decide (v6.length+1<10000000)) (some (Sum.inl ((v6++[MC]),true,(IntKind.i64.wrap (v8+1))))) none) (Option.bind (CK a0 v8) λ PZ=>cond (decide (a1<PZ)) (cond (decide (v6.length+1<10000000)) (cond (decide ((v6++[a1]).length+1<10000000)) (some (Sum.inl (((v6++[a1])++[PZ]),true,(IntKind.i64.wrap (v8+1))))) none) none) (cond (decide (v6.length+1<10000000)) (some (Sum.inl ((v6++[PZ]),false,(IntKind.i64.wrap (v8+1))))) none))) (some (Sum.inr (v6,v7,v8)))
def Nh(a0:List Int)(a1:Int):Option ((List Int)):=
 Option.bind (CC (K6 a0 a1) ([],false,0)) (λ (v32,v33,v34)=>cond v33 (some v32) (cond (decide (v32.length+1<10000000)) (some (v32++[a1])) none))
theorem Abx(a0:List Int)(a1:Int)(r:(List Int))(hr:Nh a0 a1=some r):
   B2 prog 102 [.p (.sl (BZ a0)),.p (.int .i64 a1)] [] λ h d=>h=[]/\d= .p (.sl (BZ r)):=by
 refine B1 func102 rfl Xj (by simp[Tryz.f102]) ?_;unfold Nh at hr;obtain ⟨e12,g13,hr⟩:=bE hr;try simp only[go_sem]
 refine CP g13 (λ q:(List Int)×Bool×Int=>⟨[(0,.p (.sl (BZ a0))),(1,.p (.int .i64 a1)),(5,.ref 34 0 q.1.length q.1.length),(6,.p (.bool q.2.1)),(7,.p (.int .i64 q.2.2))],[(34,.arr 3 1 (BZ q.1))],42⟩) ((Wk.nil (t:=5) (q:=34) (sz:=1) 3 rfl rfl (by decide)).trans ((BW (by simp[ZF,ZE])))) ?_;rintro ⟨v6,v7,v8⟩ m11 RN Av1;rw[K6.eq_1] at RN;cases c14:decide (v8<((a0.length:Nat):Int))
 . simp only[c14,Aj] at RN;simp only[Aa,B0] at RN;cases RN;(try dsimp only at hr);cases HW:v7
   . simp only[HW,Aj] at hr;obtain ⟨IY,hr⟩:=gE hr;(try simp only[go_sem,c14,HW]);refine ⟨by have:=Ad IY;(try simp only[An,Ax,Aq] at*);(repeat' refine And.intro ?_ ?_)<;>first | exact Dy _ _ rfl | exact EX _ | omega | (simp[Ka];done),?_⟩;cases hr;(try simp only[go_sem]);all_goals ((try refine BX ?_);(try simp only[go_sem]);try first | rfl | exact ⟨rfl,rfl⟩ | (simp;done))
   simp only[HW,Ak] at hr;cases hr;(try simp only[go_sem,c14,HW]);all_goals ((try refine BX ?_);(try simp only[go_sem,c14,HW]);try first | rfl | exact ⟨rfl,rfl⟩ | (simp;done))
 simp only[c14,Ak] at RN;cases Ik:v7
 . simp only[Ik,Aj] at RN;obtain ⟨PZ,g19,RN⟩:=bK RN;have f20:=B8 g19;have f21:(BZ a0).getD (Int.toNat v8) []=[(.int .i64 PZ)]:=B9 _ g19;cases IW:decide (a1<PZ)
   . simp only[IW,Aj] at RN;obtain ⟨R2,RN⟩:=gK RN;(try simp only[go_sem,c14,Ik,f20,f21,IW]);refine ⟨by have:=Ad R2;(try simp only[An,Ax,Aq] at*);(repeat' refine And.intro ?_ ?_)<;>first | exact Dy _ _ rfl | exact EX _ | omega | (simp[Ka];done),?_⟩;simp only[Aa,B4] at RN;(try simp only[go_sem,Ik]);exact Av1 ((v6++[PZ]),false,(IntKind.i64.wrap (v8+1))) _ RN ((BW (by simp[ZF,ZE,Ik])))
   simp only[IW,Ak] at RN;obtain ⟨HN,RN⟩:=gK RN;(try simp only[go_sem,c14,Ik,f20,f21,IW]);refine ⟨by have:=Ad HN;(try simp only[An,Ax,Aq] at*);(repeat' refine And.intro ?_ ?_)<;>first | exact Dy _ _ rfl | exact EX _ | omega | (simp[Ka];done),?_⟩;obtain ⟨c25,RN⟩:=gK RN;(try simp only[go_sem,f20,f21]);refine ⟨by have:=Ad c25;(try simp only[An,Ax,Aq] at*);(repeat' refine And.intro ?_ ?_)<;>first | exact Dy _ _ rfl | exact EX _ | omega | (simp[Ka];done),?_⟩;simp only[Aa,B4] at RN;(try simp only[go_sem]);exact Av1 (((v6++[a1])++[PZ]),true,(IntKind.i64.wrap (v8+1))) _ RN ((BW (by simp[ZF,ZE,Ik])))
 simp only[Ik,Ak] at RN;obtain ⟨MC,g27,RN⟩:=bK RN;have f28:=B8 g27;have f29:(BZ a0).getD (Int.toNat v8) []=[(.int .i64 MC)]:=B9 _ g27;obtain ⟨L7,RN⟩:=gK RN;try simp only[go_sem,c14,Ik,f28,f29]
 refine ⟨by have:=Ad L7;(try simp only[An,Ax,Aq] at*);(repeat' refine And.intro ?_ ?_)<;>first | exact Dy _ _ rfl | exact EX _ | omega | (simp[Ka];done),?_⟩;simp only[Aa,B4] at RN;try simp only[go_sem,Ik]
 exact Av1 ((v6++[MC]),true,(IntKind.i64.wrap (v8+1))) _ RN ((BW (by simp[ZF,ZE,Ik])))
def KN(a0:Nt)(a1:List UInt8):Int->Option ((Int)⊕(Int⊕Int))
 | v2=>cond (decide (v2<((a0.blocks.length:Nat):Int))) (Option.bind (CK a0.blocks v2) λ x9=>cond (decide (x9.name=a1)) (some (Sum.inr (.inr ((v2:Int))))) (some (Sum.inl (IntKind.i64.wrap (v2+1))))) (some (Sum.inr (.inl v2)))
def GV(a0:Nt)(a1:List UInt8):Option (Int):=
 Option.bind (CC (KN a0 a1) 0) (λ | .inl O2=>some (-1) | .inr (r15)=>some r15)
theorem H4(a0:Nt)(a1:List UInt8)(r:Int)(hr:GV a0 a1=some r):
   B2 prog 121 [.agg [.p (.sl (CX a0.blocks)),.p (.sl (Cj a0.next)),.p (.sl (CR a0.spurs)),.p (.sl (BZ a0.B6)),.p (.int .i64 a0.cq),.p (.int .i64 a0.ca),.p (.int .i64 a0.cd),.p (.int .i64 a0.cp)],.p (.str a1)] [] λ h d=>h=[]/\d= .p (.int .i64 r):=by
 refine B1 func121 rfl Ahn (by simp[Tryz.f121]) ?_;unfold GV at hr;obtain ⟨e6,g7,hr⟩:=bE hr;try simp only[go_sem]
 refine CP g7 (λ q:Int=>⟨[(1,.p (.str a1)),(2,.ptr 2 0),(5,.p (.int .i64 q))],[(2,.box [.p (.sl (CX a0.blocks)),.p (.sl (Cj a0.next)),.p (.sl (CR a0.spurs)),.p (.sl (BZ a0.B6)),.p (.int .i64 a0.cq),.p (.int .i64 a0.ca),.p (.int .i64 a0.cd),.p (.int .i64 a0.cp)])],22⟩) ((BW (by simp[ZF,ZE]))) ?_;rintro v2 m5 F9 Sx;rw[KN.eq_1] at F9;cases c8:decide (v2<((a0.blocks.length:Nat):Int))
 . simp only[c8,Aj] at F9;simp only[Aa,B0] at F9;cases F9;(try dsimp only at hr);cases hr;(try simp only[go_sem,c8]);all_goals ((try refine BX ?_);(try simp only[go_sem,c8]);try first | rfl | exact ⟨rfl,rfl⟩ | (simp;done))
 simp only[c8,Ak] at F9;obtain ⟨x9,g10,F9⟩:=bK F9;have f11:=B8 g10;have f12:(CX a0.blocks).getD (Int.toNat v2) []=[(.str x9.name),(.int .i64 x9.x),(.int .i64 x9.y)]:=B9 _ g10;cases IZ:decide (x9.name=a1)
 . simp only[IZ,Aj] at F9;simp only[Aa,B4] at F9;(try simp only[go_sem,c8,f11,f12,IZ]);exact Sx (IntKind.i64.wrap (v2+1)) _ F9 ((BW (by simp[ZF,ZE])))
 simp only[IZ,Ak] at F9;simp only[Aa,B0] at F9;cases F9;try dsimp only at hr
 cases hr;try simp only[go_sem,c8,f11,f12,IZ]
 all_goals ((try refine BX ?_);(try simp only[go_sem,c8,f11,f12,IZ]);try first | rfl | exact ⟨rfl,rfl⟩ | (simp;done))
def MP(a0:Nt)(a1:List UInt8):Int->Option ((Int)⊕(Int⊕Int))
 | v2=>cond (decide (v2<((a0.spurs.length:Nat):Int))) (Option.bind (CK a0.spurs v2) λ x9=>cond (decide (x9.name=a1)) (some (Sum.inr (.inr ((v2:Int))))) (some (Sum.inl (IntKind.i64.wrap (v2+1))))) (some (Sum.inr (.inl v2)))
def LD(a0:Nt)(a1:List UInt8):Option (Int):=
 Option.bind (CC (MP a0 a1) 0) (λ | .inl O2=>some (-1) | .inr (r15)=>some r15)
theorem Rj(a0:Nt)(a1:List UInt8)(r:Int)(hr:LD a0 a1=some r):
   B2 prog 122 [.agg [.p (.sl (CX a0.blocks)),.p (.sl (Cj a0.next)),.p (.sl (CR a0.spurs)),.p (.sl (BZ a0.B6)),.p (.int .i64 a0.cq),.p (.int .i64 a0.ca),.p (.int .i64 a0.cd),.p (.int .i64 a0.cp)],.p (.str a1)] [] λ h d=>h=[]/\d= .p (.int .i64 r):=by
 refine B1 func122 rfl Ahm (by simp[Tryz.f122]) ?_;unfold LD at hr;obtain ⟨e6,g7,hr⟩:=bE hr;try simp only[go_sem]
 refine CP g7 (λ q:Int=>⟨[(1,.p (.str a1)),(2,.ptr 2 0),(5,.p (.int .i64 q))],[(2,.box [.p (.sl (CX a0.blocks)),.p (.sl (Cj a0.next)),.p (.sl (CR a0.spurs)),.p (.sl (BZ a0.B6)),.p (.int .i64 a0.cq),.p (.int .i64 a0.ca),.p (.int .i64 a0.cd),.p (.int .i64 a0.cp)])],22⟩) ((BW (by simp[ZF,ZE]))) ?_;rintro v2 m5 F9 Sx;rw[MP.eq_1] at F9;cases c8:decide (v2<((a0.spurs.length:Nat):Int))
 . simp only[c8,Aj] at F9;simp only[Aa,B0] at F9;cases F9;(try dsimp only at hr);cases hr;(try simp only[go_sem,c8]);all_goals ((try refine BX ?_);(try simp only[go_sem,c8]);try first | rfl | exact ⟨rfl,rfl⟩ | (simp;done))
 simp only[c8,Ak] at F9;obtain ⟨x9,g10,F9⟩:=bK F9;have f11:=B8 g10;have f12:(CR a0.spurs).getD (Int.toNat v2) []=[(.str x9.name),(.bool x9.CE),(.int .i64 x9.HL),(.int .i64 x9.out),(.int .i64 x9.Cs),(.int .i64 x9.base)]:=B9 _ g10;cases IZ:decide (x9.name=a1)
 . simp only[IZ,Aj] at F9;simp only[Aa,B4] at F9;(try simp only[go_sem,c8,f11,f12,IZ]);exact Sx (IntKind.i64.wrap (v2+1)) _ F9 ((BW (by simp[ZF,ZE])))
 simp only[IZ,Ak] at F9;simp only[Aa,B0] at F9;cases F9;try dsimp only at hr
 cases hr;try simp only[go_sem,c8,f11,f12,IZ]
 all_goals ((try refine BX ?_);(try simp only[go_sem,c8,f11,f12,IZ]);try first | rfl | exact ⟨rfl,rfl⟩ | (simp;done))
def GU(a0:Aag):Option (Bool):=
 cond (decide (1<=a0.cq)) (cond (decide (a0.cq<=8)) (cond (decide (0<=a0.ca)) (cond (decide (a0.ca<=4)) (cond (decide (0<=a0.cd)) (cond (decide (a0.cd<=3)) (cond (decide (1<=a0.cp)) (some (decide (a0.cp<=16))) (some false)) (some false)) (some false)) (some false)) (some false)) (some false)) (some false)
theorem S0(a0:Aag)(r:Bool)(hr:GU a0=some r):
   B2 prog 85 [.agg [.p (.int .i64 a0.cq),.p (.int .i64 a0.ca),.p (.int .i64 a0.cd),.p (.int .i64 a0.cp)]] [] λ h d=>h=[]/\d= .p (.bool r):=by
 refine B1 func85 rfl o4 (by simp[Tryz.f85]) ?_;unfold GU at hr;cases c1:decide (1<=a0.cq)
 . simp only[c1,Aj] at hr;cases hr;(try simp only[go_sem,c1]);all_goals ((try refine BX ?_);(try simp only[go_sem,c1]);try first | rfl | exact ⟨rfl,rfl⟩ | (simp;done))
 simp only[c1,Ak] at hr;cases c2:decide (a0.cq<=8)
 . simp only[c2,Aj] at hr;cases hr;(try simp only[go_sem,c1,c2]);all_goals ((try refine BX ?_);(try simp only[go_sem,c1,c2]);try first | rfl | exact ⟨rfl,rfl⟩ | (simp;done))
 simp only[c2,Ak] at hr;cases c3:decide (0<=a0.ca)
 . simp only[c3,Aj] at hr;cases hr;(try simp only[go_sem,c1,c2,c3]);all_goals ((try refine BX ?_);(try simp only[go_sem,c1,c2,c3]);try first | rfl | exact ⟨rfl,rfl⟩ | (simp;done))
 simp only[c3,Ak] at hr;cases c4:decide (a0.ca<=4)
 . simp only[c4,Aj] at hr;cases hr;(try simp only[go_sem,c1,c2,c3,c4]);all_goals ((try refine BX ?_);(try simp only[go_sem,c1,c2,c3,c4]);try first | rfl | exact ⟨rfl,rfl⟩ | (simp;done))
 simp only[c4,Ak] at hr;cases c5:decide (0<=a0.cd)
 . simp only[c5,Aj] at hr;cases hr;(try simp only[go_sem,c1,c2,c3,c4,c5]);all_goals ((try refine BX ?_);(try simp only[go_sem,c1,c2,c3,c4,c5]);try first | rfl | exact ⟨rfl,rfl⟩ | (simp;done))
 simp only[c5,Ak] at hr;cases c6:decide (a0.cd<=3)
 . simp only[c6,Aj] at hr;cases hr;(try simp only[go_sem,c1,c2,c3,c4,c5,c6]);all_goals ((try refine BX ?_);(try simp only[go_sem,c1,c2,c3,c4,c5,c6]);try first | rfl | exact ⟨rfl,rfl⟩ | (simp;done))
 simp only[c6,Ak] at hr;cases c7:decide (1<=a0.cp)
 . simp only[c7,Aj] at hr;cases hr;(try simp only[go_sem,c1,c2,c3,c4,c5,c6,c7]);all_goals ((try refine BX ?_);(try simp only[go_sem,c1,c2,c3,c4,c5,c6,c7]);try first | rfl | exact ⟨rfl,rfl⟩ | (simp;done))
 simp only[c7,Ak] at hr;cases hr;try simp only[go_sem,c1,c2,c3,c4,c5,c6,c7]
 all_goals ((try refine BX ?_);(try simp only[go_sem,c1,c2,c3,c4,c5,c6,c7]);try first | rfl | exact ⟨rfl,rfl⟩ | (simp;done))
def KQ(a0:List Et)(a1:List (List Int))(a2:List Da)(a3:List Int)(a4:Int)(a5:Int)(a6:Int)(a7:Int)(a8:Bool)(a9:Dc):Option (Int×(List Et)×(List (List Int))×(List Da)×(List Int)×Int×Int×Int×Int×Bool):=
 Option.bind (CK a9.names 0) λ x1=>Option.bind (GV (⟨a0,a1,a2,a3,a4,a5,a6,a7⟩:Nt) x1) λ x5=>cond (decide (0<=x5)) (some (8,a0,a1,a2,a3,a4,a5,a6,a7,a8)) (Option.bind (LD (⟨a0,a1,a2,a3,a4,a5,a6,a7⟩:Nt) x1) λ x8=>cond (decide (0<=x8)) (some (8,a0,a1,a2,a3,a4,a5,a6,a7,a8)) (cond (decide (((a0.length:Nat):Int)=24)) (some (14,a0,a1,a2,a3,a4,a5,a6,a7,a8)) (Option.bind (CK a9.Cb 0) λ SV=>Option.bind (CK a9.Cb 1) λ OX=>cond (decide (a0.length+1<10000000)) (cond (decide (a1.length+1<10000000)) (some (0,(a0++[(⟨x1,SV,OX⟩:Et)]),(a1++[[]]),a2,a3,a4,a5,a6,a7,a8)) none) none)))
theorem ZD(a0:List Et)(a1:List (List Int))(a2:List Da)(a3:List Int)(a4:Int)(a5:Int)(a6:Int)(a7:Int)(a8:Bool)(a9:Dc)(r:Int×(List Et)×(List (List Int))×(List Da)×(List Int)×Int×Int×Int×Int×Bool)(hr:KQ a0 a1 a2 a3 a4 a5 a6 a7 a8 a9=some r):
   B2 prog 76 [.ptr 1000000 0,.agg [.p (.int .i64 a9.word),.p (.int .i64 a9.line),.p (.sl (CB a9.names)),.p (.sl (BZ a9.Cb))]] [(1000000,.box [.ref 1000001 0 a0.length a0.length,.ref 1000002 0 a1.length a1.length,.ref 1000003 0 a2.length a2.length,.ref 1000004 0 a3.length a3.length,.p (.int .i64 a4),.p (.int .i64 a5),.p (.int .i64 a6),.p (.int .i64 a7),.p (.bool a8)]),(1000001,.arr 76 3 (CX a0)),(1000002,.arr 22 1 (Cj a1)),(1000003,.arr 68 6 (CR a2)),(1000004,.arr 3 1 (BZ a3))] λ h d=>h=[(1000000,.box [.ref 1000001 0 r.2.1.length r.2.1.length,.ref 1000002 0 r.2.2.1.length r.2.2.1.length,.ref 1000003 0 r.2.2.2.1.length r.2.2.2.1.length,.ref 1000004 0 r.2.2.2.2.1.length r.2.2.2.2.1.length,.p (.int .i64 r.2.2.2.2.2.1),.p (.int .i64 r.2.2.2.2.2.2.1),.p (.int .i64 r.2.2.2.2.2.2.2.1),.p (.int .i64 r.2.2.2.2.2.2.2.2.1),.p (.bool r.2.2.2.2.2.2.2.2.2)]),(1000001,.arr 76 3 (CX r.2.1)),(1000002,.arr 22 1 (Cj r.2.2.1)),(1000003,.arr 68 6 (CR r.2.2.2.1)),(1000004,.arr 3 1 (BZ r.2.2.2.2.1))]/\d= .p (.int .i64 r.1):=by
 refine B1 func76 rfl Anc (by simp[Tryz.f76]) ?_;unfold KQ at hr;try simp only[go_sem]
 refine CG mixed (p:=[(0,0),(1,0),(2,0),(3,0),(4,0),(5,0),(6,0),(7,0),(8,2),(9,0),(10,0),(11,0),(12,0),(13,0),(14,0),(15,0),(16,0),(17,0),(18,0),(19,2),(20,0),(21,0)]) (by kernel_rfl) (by simp[C8,get]) ?_;obtain ⟨x1,g2,hr⟩:=bE hr;have f3:=B8 g2;have f4:(CB a9.names).getD 0 []=[(.str x1)]:=B9 _ g2;obtain ⟨x5,g6,hr⟩:=bE hr;try simp only[go_sem,f3,f4]
 refine J1 rfl rfl (H4 (⟨a0,a1,a2,a3,a4,a5,a6,a7⟩:Nt) x1 _ g6) (by simp[GF,MA,ev,get,AA,ZB]<;>rfl) ?_;rintro h' r ⟨rfl,rfl⟩;refine ⟨rfl,rfl,?_⟩;cases c7:decide (0<=x5)
 . simp only[c7,Aj] at hr;obtain ⟨x8,g9,hr⟩:=bE hr;(try simp only[go_sem,c7,f3,f4]);refine J1 rfl rfl (Rj (⟨a0,a1,a2,a3,a4,a5,a6,a7⟩:Nt) x1 _ g9) (by simp[GF,MA,ev,get,AA,ZB]<;>rfl) ?_;rintro h' r ⟨rfl,rfl⟩;refine ⟨rfl,rfl,?_⟩;cases HY:decide (0<=x8)
   . simp only[HY,Aj] at hr;cases c11:decide (((a0.length:Nat):Int)=24)
     . simp only[c11,Aj] at hr;(try simp only[go_sem,c7,HY,c11]);refine Dp [(3,.box [.p (.int .i64 a9.word),.p (.int .i64 a9.line),.p (.sl (CB a9.names)),.p (.sl (BZ a9.Cb))]),(1000000,.box [.ref 1000001 0 a0.length a0.length,.ref 1000002 0 a1.length a1.length,.ref 1000003 0 a2.length a2.length,.ref 1000004 0 a3.length a3.length,.p (.int .i64 a4),.p (.int .i64 a5),.p (.int .i64 a6),.p (.int .i64 a7),.p (.bool a8)])] mixed (p:=[(0,0),(1,0),(2,0),(3,0),(4,0),(5,0),(6,0),(7,0),(8,0),(9,0),(10,0),(11,0),(12,0),(13,0),(14,0),(15,0),(16,0),(17,0),(18,0),(19,1),(20,2),(21,0),(22,0),(23,0),(24,3)]) (by kernel_rfl) (by simp[C8,get]) ?_;obtain ⟨SV,g13,hr⟩:=bE hr;have f14:=B8 g13;have f15:(BZ a9.Cb).getD 0 []=[(.int .i64 SV)]:=B9 _ g13;obtain ⟨OX,g17,hr⟩:=bE hr;have f18:=B8 g17;have f19:(BZ a9.Cb).getD 1 []=[(.int .i64 OX)]:=B9 _ g17;obtain ⟨NK,hr⟩:=gE hr;(try simp only[go_sem,f3,f4,f14,f15,f18,f19]);refine ⟨by have:=Ad NK;(try simp only[An,Ax,Aq] at*);(repeat' refine And.intro ?_ ?_)<;>first | exact Dy _ _ rfl | exact Aou _ | omega | (simp[Ka];done),?_⟩;(try simp only[go_sem]);refine Aaj rfl Aeo Aep rfl rfl ?_;obtain ⟨MF,hr⟩:=gE hr;(try simp only[go_sem]);refine ⟨by have:=Ad MF;(try simp only[An,Ax,Aq] at*);(repeat' refine And.intro ?_ ?_)<;>first | exact Dy _ _ rfl | exact Aow _ | omega | (simp[Ka];done),?_⟩;cases hr;(try simp only[go_sem]);all_goals ((try refine Cp ?_);(try simp only[go_sem]);try first | rfl | exact ⟨rfl,rfl⟩ | (simp;done))
     simp only[c11,Ak] at hr;cases hr;(try simp only[go_sem,c7,HY,c11]);all_goals ((try refine Cp ?_);(try simp only[go_sem,c7,HY,c11]);try first | rfl | exact ⟨rfl,rfl⟩ | (simp;done))
   simp only[HY,Ak] at hr;cases hr;(try simp only[go_sem,c7,HY]);all_goals ((try refine Cp ?_);(try simp only[go_sem,c7,HY]);try first | rfl | exact ⟨rfl,rfl⟩ | (simp;done))
 simp only[c7,Ak] at hr;cases hr;try simp only[go_sem,c7]
 all_goals ((try refine Cp ?_);(try simp only[go_sem,c7]);try first | rfl | exact ⟨rfl,rfl⟩ | (simp;done))
def Jk(a0:List Et)(a2:List Da)(a3:List Int)(a4:Int)(a5:Int)(a6:Int)(a7:Int)(a8:Bool)(a9:Dc):(List (List Int))×Int->Option (((List (List Int))×Int)⊕(((List (List Int))×Int)⊕(Int×(List Et)×(List (List Int))×(List Da)×(List Int)×Int×Int×Int×Int×Bool)))
 | (v3,v4)=>cond (decide ((IntKind.i64.wrap (v4+1))<((a9.names.length:Nat):Int))) (Option.bind (CK a9.names v4) λ Du=>Option.bind (CK a9.names (IntKind.i64.wrap (v4+1))) λ x15=>Option.bind (GV (⟨a0,v3,a2,a3,a4,a5,a6,a7⟩:Nt) Du) λ R9=>Option.bind (GV (⟨a0,v3,a2,a3,a4,a5,a6,a7⟩:Nt) x15) λ OW=>cond (decide (R9<0)) (some (Sum.inr (.inr (((9,a0,v3,a2,a3,a4,a5,a6,a7,a8):Int×(List Et)×(List (List Int))×(List Da)×(List Int)×Int×Int×Int×Int×Bool))))) (cond (decide (OW<0)) (some (Sum.inr (.inr (((9,a0,v3,a2,a3,a4,a5,a6,a7,a8):Int×(List Et)×(List (List Int))×(List Da)×(List Int)×Int×Int×Int×Int×Bool))))) (cond (decide (R9=OW)) (some (Sum.inr (.inr (((10,a0,v3,a2,a3,a4,a5,a6,a7,a8):Int×(List Et)×(List (List Int))×(List Da)×(List Int)×Int×Int×Int×Int×Bool))))) (Option.bind (CK v3 R9) λ MC=>Option.bind (W2 MC OW) λ Q3=>cond Q3 (some (Sum.inr (.inr (((11,a0,v3,a2,a3,a4,a5,a6,a7,a8):Int×(List Et)×(List (List Int))×(List Da)×(List Int)×Int×Int×Int×Int×Bool))))) (cond (decide (((MC.length:Nat):Int)=4)) (some (Sum.inr (.inr (((14,a0,v3,a2,a3,a4,a5,a6,a7,a8):Int×(List Et)×(List (List Int))×(List Da)×(List Int)×Int×Int×Int×Int×Bool))))) (Option.bind (Nh MC OW) λ Wh=>some (Sum.inl ((v3.set (Int.toNat R9) Wh),(IntKind.i64.wrap (v4+1)))))))))) (some (Sum.inr (.inl (v3,v4))))
def MQ(a0:List Et)(a1:List (List Int))(a2:List Da)(a3:List Int)(a4:Int)(a5:Int)(a6:Int)(a7:Int)(a8:Bool)(a9:Dc):Option (Int×(List Et)×(List (List Int))×(List Da)×(List Int)×Int×Int×Int×Int×Bool):=
 Option.bind (CC (Jk a0 a2 a3 a4 a5 a6 a7 a8 a9) (a1,0)) (λ | .inl (v36,v37)=>some (0,a0,v36,a2,a3,a4,a5,a6,a7,a8) | .inr (r38)=>some r38)
theorem Ab1(a0:List Et)(a1:List (List Int))(a2:List Da)(a3:List Int)(a4:Int)(a5:Int)(a6:Int)(a7:Int)(a8:Bool)(a9:Dc)(r:Int×(List Et)×(List (List Int))×(List Da)×(List Int)×Int×Int×Int×Int×Bool)(hr:MQ a0 a1 a2 a3 a4 a5 a6 a7 a8 a9=some r):
   B2 prog 77 [.ptr 1000000 0,.agg [.p (.int .i64 a9.word),.p (.int .i64 a9.line),.p (.sl (CB a9.names)),.p (.sl (BZ a9.Cb))]] [(1000000,.box [.ref 1000001 0 a0.length a0.length,.ref 1000002 0 a1.length a1.length,.ref 1000003 0 a2.length a2.length,.ref 1000004 0 a3.length a3.length,.p (.int .i64 a4),.p (.int .i64 a5),.p (.int .i64 a6),.p (.int .i64 a7),.p (.bool a8)]),(1000001,.arr 76 3 (CX a0)),(1000002,.arr 22 1 (Cj a1)),(1000003,.arr 68 6 (CR a2)),(1000004,.arr 3 1 (BZ a3))] λ h d=>h=[(1000000,.box [.ref 1000001 0 r.2.1.length r.2.1.length,.ref 1000002 0 r.2.2.1.length r.2.2.1.length,.ref 1000003 0 r.2.2.2.1.length r.2.2.2.1.length,.ref 1000004 0 r.2.2.2.2.1.length r.2.2.2.2.1.length,.p (.int .i64 r.2.2.2.2.2.1),.p (.int .i64 r.2.2.2.2.2.2.1),.p (.int .i64 r.2.2.2.2.2.2.2.1),.p (.int .i64 r.2.2.2.2.2.2.2.2.1),.p (.bool r.2.2.2.2.2.2.2.2.2)]),(1000001,.arr 76 3 (CX r.2.1)),(1000002,.arr 22 1 (Cj r.2.2.1)),(1000003,.arr 68 6 (CR r.2.2.2.1)),(1000004,.arr 3 1 (BZ r.2.2.2.2.1))]/\d= .p (.int .i64 r.1):=by
 refine B1 func77 rfl Anb (by simp[Tryz.f77]) ?_;unfold MQ at hr;obtain ⟨e8,g9,hr⟩:=bE hr;try simp only[go_sem]
 refine CP g9 (λ q:(List (List Int))×Int=>⟨[(0,.ptr 1000000 0),(3,.ptr 3 0),(5,.p (.int .i64 q.2))],[(3,.box [.p (.int .i64 a9.word),.p (.int .i64 a9.line),.p (.sl (CB a9.names)),.p (.sl (BZ a9.Cb))]),(1000000,.box [.ref 1000001 0 a0.length a0.length,.ref 1000002 0 q.1.length q.1.length,.ref 1000003 0 a2.length a2.length,.ref 1000004 0 a3.length a3.length,.p (.int .i64 a4),.p (.int .i64 a5),.p (.int .i64 a6),.p (.int .i64 a7),.p (.bool a8)]),(1000001,.arr 76 3 (CX a0)),(1000002,.arr 22 1 (Cj q.1)),(1000003,.arr 68 6 (CR a2)),(1000004,.arr 3 1 (BZ a3))],87⟩) ((BW (by simp[ZF,ZE]))) ?_;rintro ⟨v3,v4⟩ m7 FQ ih6;rw[Jk.eq_1] at FQ;cases HY:decide ((IntKind.i64.wrap (v4+1))<((a9.names.length:Nat):Int))
 . simp only[HY,Aj] at FQ;simp only[Aa,B0] at FQ;cases FQ;(try dsimp only at hr);cases hr;(try simp only[go_sem,HY]);all_goals ((try refine Cp ?_);(try simp only[go_sem,HY]);try first | rfl | exact ⟨rfl,rfl⟩ | (simp;done))
 simp only[HY,Ak] at FQ;try simp only[go_sem,HY]
 refine CG mixed (p:=[(0,0),(1,0),(2,0),(3,0),(4,0),(5,0),(6,0),(7,0),(8,0),(10,0),(11,0),(12,0),(13,0),(14,0),(15,0),(16,0),(17,0),(18,0),(19,0),(9,2),(20,2),(21,0),(22,0)]) (by kernel_rfl) (by simp[C8,get]) ?_;obtain ⟨Du,g12,FQ⟩:=bK FQ;have f13:=B8 g12;have f14:(CB a9.names).getD (Int.toNat v4) []=[(.str Du)]:=B9 _ g12;obtain ⟨x15,g16,FQ⟩:=bK FQ;have f17:=B8 g16;have f18:(CB a9.names).getD (Int.toNat (IntKind.i64.wrap (v4+1))) []=[(.str x15)]:=B9 _ g16;obtain ⟨R9,g20,FQ⟩:=bK FQ;try simp only[go_sem,f13,f14,f17,f18]
 refine J1 rfl rfl (H4 (⟨a0,v3,a2,a3,a4,a5,a6,a7⟩:Nt) Du _ g20) (by simp[GF,MA,ev,get,AA,ZB]<;>rfl) ?_;rintro h' r ⟨rfl,rfl⟩;refine ⟨rfl,rfl,?_⟩;obtain ⟨OW,g22,FQ⟩:=bK FQ;try simp only[go_sem]
 refine J1 rfl rfl (H4 (⟨a0,v3,a2,a3,a4,a5,a6,a7⟩:Nt) x15 _ g22) (by simp[GF,MA,ev,get,AA,ZB]<;>rfl) ?_;rintro h' r ⟨rfl,rfl⟩;refine ⟨rfl,rfl,?_⟩;cases R2:decide (R9<0)
 . simp only[R2,Aj] at FQ;cases HN:decide (OW<0)
   . simp only[HN,Aj] at FQ;cases c25:decide (R9=OW)
     . simp only[c25,Aj] at FQ;obtain ⟨MC,g27,FQ⟩:=bK FQ;have f28:=B8 g27;have f29:(Cj v3).getD (Int.toNat R9) []=[(.sl (BZ MC))]:=B9 _ g27;obtain ⟨Q3,g31,FQ⟩:=bK FQ;(try simp only[go_sem,R2,HN,c25,f28,f29]);refine Cq (Ady MC OW _ g31) ?_;cases c32:Q3
       . simp only[c32,Aj] at FQ;cases Wf:decide (((MC.length:Nat):Int)=4)
         . simp only[Wf,Aj] at FQ;(try simp only[go_sem,c32,f28,f29,Wf]);refine CG mixed (p:=[(0,0),(1,0),(2,0),(3,0),(4,0),(5,0),(6,0),(7,0),(8,0),(9,0),(10,0),(11,0),(12,0),(13,0),(14,0),(15,2),(16,0),(17,3)]) (by kernel_rfl) (by simp[C8,get]) ?_;obtain ⟨Wh,g35,FQ⟩:=bK FQ;(try simp only[go_sem,f28,f29]);refine Gq (Abx MC OW _ g35) ?_;simp only[Aa,B4] at FQ;(try simp only[go_sem,f28,f29]);exact ih6 ((v3.set (Int.toNat R9) Wh),(IntKind.i64.wrap (v4+1))) _ FQ ((BW (by simp[ZF,ZE,c32])))
         simp only[Wf,Ak] at FQ;simp only[Aa,B0] at FQ;cases FQ;(try dsimp only at hr);cases hr;(try simp only[go_sem,c32,f28,f29,Wf]);all_goals ((try refine Cp ?_);(try simp only[go_sem,c32,f28,f29,Wf]);try first | rfl | exact ⟨rfl,rfl⟩ | (simp;done))
       simp only[c32,Ak] at FQ;simp only[Aa,B0] at FQ;cases FQ;(try dsimp only at hr);cases hr;(try simp only[go_sem,c32]);all_goals ((try refine Cp ?_);(try simp only[go_sem,c32]);try first | rfl | exact ⟨rfl,rfl⟩ | (simp;done))
     simp only[c25,Ak] at FQ;simp only[Aa,B0] at FQ;cases FQ;(try dsimp only at hr);cases hr;(try simp only[go_sem,R2,HN,c25]);all_goals ((try refine Cp ?_);(try simp only[go_sem,R2,HN,c25]);try first | rfl | exact ⟨rfl,rfl⟩ | (simp;done))
   simp only[HN,Ak] at FQ;simp only[Aa,B0] at FQ;cases FQ;(try dsimp only at hr);cases hr;(try simp only[go_sem,R2,HN]);all_goals ((try refine Cp ?_);(try simp only[go_sem,R2,HN]);try first | rfl | exact ⟨rfl,rfl⟩ | (simp;done))
 simp only[R2,Ak] at FQ;simp only[Aa,B0] at FQ;cases FQ;try dsimp only at hr
 cases hr;try simp only[go_sem,R2]
 all_goals ((try refine Cp ?_);(try simp only[go_sem,R2]);try first | rfl | exact ⟨rfl,rfl⟩ | (simp;done))
def KO(a0:List Et)(a1:List (List Int))(a2:List Da)(a3:List Int)(a4:Int)(a5:Int)(a6:Int)(a7:Int)(a8:Bool)(a9:Dc):Option (Int×(List Et)×(List (List Int))×(List Da)×(List Int)×Int×Int×Int×Int×Bool):=
 Option.bind (CK a9.names 1) λ x1=>Option.bind (CK a9.names 2) λ x5=>Option.bind (GV (⟨a0,a1,a2,a3,a4,a5,a6,a7⟩:Nt) x1) λ x9=>Option.bind (GV (⟨a0,a1,a2,a3,a4,a5,a6,a7⟩:Nt) x5) λ Du=>Option.bind (CK a9.names 0) λ KC=>Option.bind (GV (⟨a0,a1,a2,a3,a4,a5,a6,a7⟩:Nt) KC) λ KB=>cond (decide (0<=KB)) (some (8,a0,a1,a2,a3,a4,a5,a6,a7,a8)) (Option.bind (LD (⟨a0,a1,a2,a3,a4,a5,a6,a7⟩:Nt) KC) λ SU=>cond (decide (0<=SU)) (some (8,a0,a1,a2,a3,a4,a5,a6,a7,a8)) (cond (decide (x9<0)) (some (9,a0,a1,a2,a3,a4,a5,a6,a7,a8)) (cond (decide (Du<0)) (some (9,a0,a1,a2,a3,a4,a5,a6,a7,a8)) (Option.bind (CK a9.Cb 0) λ Mt=>cond (decide (Mt<1)) (some (12,a0,a1,a2,a3,a4,a5,a6,a7,a8)) (cond (decide (4<Mt)) (some (12,a0,a1,a2,a3,a4,a5,a6,a7,a8)) (cond (decide (((a2.length:Nat):Int)=6)) (some (14,a0,a1,a2,a3,a4,a5,a6,a7,a8)) (cond (decide (a2.length+1<10000000)) (some (0,a0,a1,(a2++[(⟨KC,decide (a9.word=4),x9,Du,Mt,0⟩:Da)]),a3,a4,a5,a6,a7,a8)) none)))))))
theorem TT(a0:List Et)(a1:List (List Int))(a2:List Da)(a3:List Int)(a4:Int)(a5:Int)(a6:Int)(a7:Int)(a8:Bool)(a9:Dc)(r:Int×(List Et)×(List (List Int))×(List Da)×(List Int)×Int×Int×Int×Int×Bool)(hr:KO a0 a1 a2 a3 a4 a5 a6 a7 a8 a9=some r):
   B2 prog 78 [.ptr 1000000 0,.agg [.p (.int .i64 a9.word),.p (.int .i64 a9.line),.p (.sl (CB a9.names)),.p (.sl (BZ a9.Cb))]] [(1000000,.box [.ref 1000001 0 a0.length a0.length,.ref 1000002 0 a1.length a1.length,.ref 1000003 0 a2.length a2.length,.ref 1000004 0 a3.length a3.length,.p (.int .i64 a4),.p (.int .i64 a5),.p (.int .i64 a6),.p (.int .i64 a7),.p (.bool a8)]),(1000001,.arr 76 3 (CX a0)),(1000002,.arr 22 1 (Cj a1)),(1000003,.arr 68 6 (CR a2)),(1000004,.arr 3 1 (BZ a3))] λ h d=>h=[(1000000,.box [.ref 1000001 0 r.2.1.length r.2.1.length,.ref 1000002 0 r.2.2.1.length r.2.2.1.length,.ref 1000003 0 r.2.2.2.1.length r.2.2.2.1.length,.ref 1000004 0 r.2.2.2.2.1.length r.2.2.2.2.1.length,.p (.int .i64 r.2.2.2.2.2.1),.p (.int .i64 r.2.2.2.2.2.2.1),.p (.int .i64 r.2.2.2.2.2.2.2.1),.p (.int .i64 r.2.2.2.2.2.2.2.2.1),.p (.bool r.2.2.2.2.2.2.2.2.2)]),(1000001,.arr 76 3 (CX r.2.1)),(1000002,.arr 22 1 (Cj r.2.2.1)),(1000003,.arr 68 6 (CR r.2.2.2.1)),(1000004,.arr 3 1 (BZ r.2.2.2.2.1))]/\d= .p (.int .i64 r.1):=by
 refine B1 func78 rfl Ana (by simp[Tryz.f78]) ?_;unfold KO at hr;try simp only[go_sem]
 refine CG mixed (p:=[(0,0),(1,0),(2,0),(3,0),(4,0),(5,0),(6,0),(7,0),(9,0),(10,0),(11,0),(12,0),(13,0),(14,0),(15,0),(16,0),(8,2),(17,2),(18,0),(19,0)]) (by kernel_rfl) (by simp[C8,get]) ?_;obtain ⟨x1,g2,hr⟩:=bE hr;have f3:=B8 g2;have f4:(CB a9.names).getD 1 []=[(.str x1)]:=B9 _ g2;obtain ⟨x5,g6,hr⟩:=bE hr;have f7:=B8 g6;have f8:(CB a9.names).getD 2 []=[(.str x5)]:=B9 _ g6;obtain ⟨x9,g10,hr⟩:=bE hr;try simp only[go_sem,f3,f4,f7,f8]
 refine J1 rfl rfl (H4 (⟨a0,a1,a2,a3,a4,a5,a6,a7⟩:Nt) x1 _ g10) (by simp[GF,MA,ev,get,AA,ZB]<;>rfl) ?_;rintro h' r ⟨rfl,rfl⟩;refine ⟨rfl,rfl,?_⟩;obtain ⟨Du,g12,hr⟩:=bE hr;try simp only[go_sem]
 refine J1 rfl rfl (H4 (⟨a0,a1,a2,a3,a4,a5,a6,a7⟩:Nt) x5 _ g12) (by simp[GF,MA,ev,get,AA,ZB]<;>rfl) ?_;rintro h' r ⟨rfl,rfl⟩;refine ⟨rfl,rfl,?_⟩;try simp only[go_sem]
 refine CG mixed (p:=[(0,0),(1,0),(2,0),(3,0),(4,0),(5,0),(6,0),(7,0),(8,2),(9,0),(10,0),(11,0),(12,0),(13,0),(14,0),(15,0),(16,0),(17,0),(18,0),(19,2),(20,0),(21,0),(22,0)]) (by kernel_rfl) (by simp[C8,get]) ?_;obtain ⟨KC,g14,hr⟩:=bE hr;have f15:=B8 g14;have f16:(CB a9.names).getD 0 []=[(.str KC)]:=B9 _ g14;obtain ⟨KB,g18,hr⟩:=bE hr;try simp only[go_sem,f15,f16]
 refine J1 rfl rfl (H4 (⟨a0,a1,a2,a3,a4,a5,a6,a7⟩:Nt) KC _ g18) (by simp[GF,MA,ev,get,AA,ZB]<;>rfl) ?_;rintro h' r ⟨rfl,rfl⟩;refine ⟨rfl,rfl,?_⟩;cases Jg:decide (0<=KB)
 . simp only[Jg,Aj] at hr;obtain ⟨SU,g21,hr⟩:=bE hr;(try simp only[go_sem,Jg,f15,f16]);refine J1 rfl rfl (Rj (⟨a0,a1,a2,a3,a4,a5,a6,a7⟩:Nt) KC _ g21) (by simp[GF,MA,ev,get,AA,ZB]<;>rfl) ?_;rintro h' r ⟨rfl,rfl⟩;refine ⟨rfl,rfl,?_⟩;cases IW:decide (0<=SU)
   . simp only[IW,Aj] at hr;cases R2:decide (x9<0)
     . simp only[R2,Aj] at hr;cases HN:decide (Du<0)
       . simp only[HN,Aj] at hr;obtain ⟨Mt,g26,hr⟩:=bE hr;have f27:=B8 g26;have f28:(BZ a9.Cb).getD 0 []=[(.int .i64 Mt)]:=B9 _ g26;cases Kz:decide (Mt<1)
         . simp only[Kz,Aj] at hr;cases L7:decide (4<Mt)
           . simp only[L7,Aj] at hr;cases Oj:decide (((a2.length:Nat):Int)=6)
             . simp only[Oj,Aj] at hr;(try simp only[go_sem,Jg,IW,R2,HN,f27,f28,Kz,L7,Oj]);refine Dp [(3,.box [.p (.int .i64 a9.word),.p (.int .i64 a9.line),.p (.sl (CB a9.names)),.p (.sl (BZ a9.Cb))]),(1000000,.box [.ref 1000001 0 a0.length a0.length,.ref 1000002 0 a1.length a1.length,.ref 1000003 0 a2.length a2.length,.ref 1000004 0 a3.length a3.length,.p (.int .i64 a4),.p (.int .i64 a5),.p (.int .i64 a6),.p (.int .i64 a7),.p (.bool a8)])] mixed (p:=[(0,0),(1,0),(2,0),(3,0),(4,0),(5,0),(6,0),(7,0),(8,0),(9,0),(10,0),(11,0),(12,0),(13,0),(14,0),(15,0),(16,0),(17,0),(18,0),(19,0),(20,1),(21,2),(22,0),(23,0),(24,0),(25,3)]) (by kernel_rfl) (by simp[C8,get]) ?_;obtain ⟨c32,hr⟩:=gE hr;(try simp only[go_sem,f15,f16,f27,f28]);refine ⟨by have:=Ad c32;(try simp only[An,Ax,Aq] at*);(repeat' refine And.intro ?_ ?_)<;>first | exact Dy _ _ rfl | exact Aot _ | omega | (simp[Ka];done),?_⟩;cases hr;(try simp only[go_sem]);all_goals ((try refine Cp ?_);(try simp only[go_sem]);try first | rfl | exact ⟨rfl,rfl⟩ | (simp;done))
             simp only[Oj,Ak] at hr;cases hr;(try simp only[go_sem,Jg,IW,R2,HN,f27,f28,Kz,L7,Oj]);all_goals ((try refine Cp ?_);(try simp only[go_sem,Jg,IW,R2,HN,f27,f28,Kz,L7,Oj]);try first | rfl | exact ⟨rfl,rfl⟩ | (simp;done))
           simp only[L7,Ak] at hr;cases hr;(try simp only[go_sem,Jg,IW,R2,HN,f27,f28,Kz,L7]);all_goals ((try refine Cp ?_);(try simp only[go_sem,Jg,IW,R2,HN,f27,f28,Kz,L7]);try first | rfl | exact ⟨rfl,rfl⟩ | (simp;done))
         simp only[Kz,Ak] at hr;cases hr;(try simp only[go_sem,Jg,IW,R2,HN,f27,f28,Kz]);all_goals ((try refine Cp ?_);(try simp only[go_sem,Jg,IW,R2,HN,f27,f28,Kz]);try first | rfl | exact ⟨rfl,rfl⟩ | (simp;done))
       simp only[HN,Ak] at hr;cases hr;(try simp only[go_sem,Jg,IW,R2,HN]);all_goals ((try refine Cp ?_);(try simp only[go_sem,Jg,IW,R2,HN]);try first | rfl | exact ⟨rfl,rfl⟩ | (simp;done))
     simp only[R2,Ak] at hr;cases hr;(try simp only[go_sem,Jg,IW,R2]);all_goals ((try refine Cp ?_);(try simp only[go_sem,Jg,IW,R2]);try first | rfl | exact ⟨rfl,rfl⟩ | (simp;done))
   simp only[IW,Ak] at hr;cases hr;(try simp only[go_sem,Jg,IW]);all_goals ((try refine Cp ?_);(try simp only[go_sem,Jg,IW]);try first | rfl | exact ⟨rfl,rfl⟩ | (simp;done))
 simp only[Jg,Ak] at hr;cases hr;try simp only[go_sem,Jg]
 all_goals ((try refine Cp ?_);(try simp only[go_sem,Jg]);try first | rfl | exact ⟨rfl,rfl⟩ | (simp;done))
def KP(a0:List Et)(a1:List (List Int))(a2:List Da)(a3:List Int)(a4:Int)(a5:Int)(a6:Int)(a7:Int)(a8:Bool)(a9:Dc):Option (Int×(List Et)×(List (List Int))×(List Da)×(List Int)×Int×Int×Int×Int×Bool):=
 Option.bind (CK a9.names 0) λ x1=>Option.bind (LD (⟨a0,a1,a2,a3,a4,a5,a6,a7⟩:Nt) x1) λ x5=>cond (decide (x5<0)) (some (9,a0,a1,a2,a3,a4,a5,a6,a7,a8)) (Option.bind (CK a2 x5) λ x8=>cond x8.CE (Option.bind (CK a9.Cb 0) λ KC=>cond (decide (KC<1)) (some (12,a0,a1,a2,a3,a4,a5,a6,a7,a8)) (cond (decide (x8.Cs<KC)) (some (12,a0,a1,a2,a3,a4,a5,a6,a7,a8)) (Option.bind (W2 a3 (IntKind.i64.wrap ((IntKind.i64.wrap (x5*8))+KC))) λ R9=>cond R9 (some (13,a0,a1,a2,a3,a4,a5,a6,a7,a8)) (cond (decide (((a3.length:Nat):Int)=8)) (some (14,a0,a1,a2,a3,a4,a5,a6,a7,a8)) (cond (decide (a3.length+1<10000000)) (some (0,a0,a1,a2,(a3++[(IntKind.i64.wrap ((IntKind.i64.wrap (x5*8))+KC))]),a4,a5,a6,a7,a8)) none))))) (some (9,a0,a1,a2,a3,a4,a5,a6,a7,a8)))
theorem ZC(a0:List Et)(a1:List (List Int))(a2:List Da)(a3:List Int)(a4:Int)(a5:Int)(a6:Int)(a7:Int)(a8:Bool)(a9:Dc)(r:Int×(List Et)×(List (List Int))×(List Da)×(List Int)×Int×Int×Int×Int×Bool)(hr:KP a0 a1 a2 a3 a4 a5 a6 a7 a8 a9=some r):
   B2 prog 79 [.ptr 1000000 0,.agg [.p (.int .i64 a9.word),.p (.int .i64 a9.line),.p (.sl (CB a9.names)),.p (.sl (BZ a9.Cb))]] [(1000000,.box [.ref 1000001 0 a0.length a0.length,.ref 1000002 0 a1.length a1.length,.ref 1000003 0 a2.length a2.length,.ref 1000004 0 a3.length a3.length,.p (.int .i64 a4),.p (.int .i64 a5),.p (.int .i64 a6),.p (.int .i64 a7),.p (.bool a8)]),(1000001,.arr 76 3 (CX a0)),(1000002,.arr 22 1 (Cj a1)),(1000003,.arr 68 6 (CR a2)),(1000004,.arr 3 1 (BZ a3))] λ h d=>h=[(1000000,.box [.ref 1000001 0 r.2.1.length r.2.1.length,.ref 1000002 0 r.2.2.1.length r.2.2.1.length,.ref 1000003 0 r.2.2.2.1.length r.2.2.2.1.length,.ref 1000004 0 r.2.2.2.2.1.length r.2.2.2.2.1.length,.p (.int .i64 r.2.2.2.2.2.1),.p (.int .i64 r.2.2.2.2.2.2.1),.p (.int .i64 r.2.2.2.2.2.2.2.1),.p (.int .i64 r.2.2.2.2.2.2.2.2.1),.p (.bool r.2.2.2.2.2.2.2.2.2)]),(1000001,.arr 76 3 (CX r.2.1)),(1000002,.arr 22 1 (Cj r.2.2.1)),(1000003,.arr 68 6 (CR r.2.2.2.1)),(1000004,.arr 3 1 (BZ r.2.2.2.2.1))]/\d= .p (.int .i64 r.1):=by
 refine B1 func79 rfl An9 (by simp[Tryz.f79]) ?_;unfold KP at hr;try simp only[go_sem]
 refine CG mixed (p:=[(0,0),(1,0),(2,0),(3,0),(4,0),(5,0),(6,0),(7,0),(8,2),(9,0)]) (by kernel_rfl) (by simp[C8,get]) ?_;obtain ⟨x1,g2,hr⟩:=bE hr;have f3:=B8 g2;have f4:(CB a9.names).getD 0 []=[(.str x1)]:=B9 _ g2;obtain ⟨x5,g6,hr⟩:=bE hr;try simp only[go_sem,f3,f4]
 refine J1 rfl rfl (Rj (⟨a0,a1,a2,a3,a4,a5,a6,a7⟩:Nt) x1 _ g6) (by simp[GF,MA,ev,get,AA,ZB]<;>rfl) ?_;rintro h' r ⟨rfl,rfl⟩;refine ⟨rfl,rfl,?_⟩;cases c7:decide (x5<0)
 . simp only[c7,Aj] at hr;obtain ⟨x8,g9,hr⟩:=bE hr;have f10:=B8 g9;have f11:(CR a2).getD (Int.toNat x5) []=[(.str x8.name),(.bool x8.CE),(.int .i64 x8.HL),(.int .i64 x8.out),(.int .i64 x8.Cs),(.int .i64 x8.base)]:=B9 _ g9;cases c12:x8.CE
   . simp only[c12,Aj] at hr;cases hr;(try simp only[go_sem,c7,f10,f11,c12]);all_goals ((try refine Cp ?_);(try simp only[go_sem,c7,f10,f11,c12]);try first | rfl | exact ⟨rfl,rfl⟩ | (simp;done))
   simp only[c12,Ak] at hr;(try simp only[go_sem,c7,f10,f11,c12]);refine CG mixed (p:=[(0,0),(1,0),(2,0),(3,0),(4,0),(5,0),(6,0),(7,0),(8,0),(9,0),(10,0),(11,0),(12,0),(13,0),(14,0),(15,0),(16,0),(17,0),(18,0),(19,0),(20,0)]) (by kernel_rfl) (by simp[C8,get]) ?_;obtain ⟨KC,g14,hr⟩:=bE hr;have f15:=B8 g14;have f16:(BZ a9.Cb).getD 0 []=[(.int .i64 KC)]:=B9 _ g14;cases Ik:decide (KC<1)
   . simp only[Ik,Aj] at hr;cases IX:decide (x8.Cs<KC)
     . simp only[IX,Aj] at hr;obtain ⟨R9,g20,hr⟩:=bE hr;(try simp only[go_sem,f15,f16,Ik,f10,f11,IX]);refine PS rfl rfl (Ady a3 (IntKind.i64.wrap ((IntKind.i64.wrap (x5*8))+KC)) _ g20) (by simp[GF,MA,ev,get,AA,ZB]<;>rfl) ?_;rintro h' r ⟨rfl,rfl⟩;refine ⟨rfl,rfl,?_⟩;cases MF:R9
       . simp only[MF,Aj] at hr;cases IW:decide (((a3.length:Nat):Int)=8)
         . simp only[IW,Aj] at hr;obtain ⟨R2,hr⟩:=gE hr;(try simp only[go_sem,MF,IW]);refine ⟨by have:=Ad R2;(try simp only[An,Ax,Aq] at*);(repeat' refine And.intro ?_ ?_)<;>first | exact Dy _ _ rfl | exact EX _ | omega | (simp[Ka];done),?_⟩;cases hr;(try simp only[go_sem]);all_goals ((try refine Cp ?_);(try simp only[go_sem]);try first | rfl | exact ⟨rfl,rfl⟩ | (simp;done))
         simp only[IW,Ak] at hr;cases hr;(try simp only[go_sem,MF,IW]);all_goals ((try refine Cp ?_);(try simp only[go_sem,MF,IW]);try first | rfl | exact ⟨rfl,rfl⟩ | (simp;done))
       simp only[MF,Ak] at hr;cases hr;(try simp only[go_sem,MF]);all_goals ((try refine Cp ?_);(try simp only[go_sem,MF]);try first | rfl | exact ⟨rfl,rfl⟩ | (simp;done))
     simp only[IX,Ak] at hr;cases hr;(try simp only[go_sem,f15,f16,Ik,f10,f11,IX]);all_goals ((try refine Cp ?_);(try simp only[go_sem,f15,f16,Ik,f10,f11,IX]);try first | rfl | exact ⟨rfl,rfl⟩ | (simp;done))
   simp only[Ik,Ak] at hr;cases hr;(try simp only[go_sem,f15,f16,Ik]);all_goals ((try refine Cp ?_);(try simp only[go_sem,f15,f16,Ik]);try first | rfl | exact ⟨rfl,rfl⟩ | (simp;done))
 simp only[c7,Ak] at hr;cases hr;try simp only[go_sem,c7]
 all_goals ((try refine Cp ?_);(try simp only[go_sem,c7]);try first | rfl | exact ⟨rfl,rfl⟩ | (simp;done))
def JG(a0:List Et)(a1:List (List Int))(a2:List Da)(a3:List Int)(a4:Int)(a5:Int)(a6:Int)(a7:Int)(a8:Bool)(a9:Dc):Option (Int×(List Et)×(List (List Int))×(List Da)×(List Int)×Int×Int×Int×Int×Bool):=
 cond a8 (some (11,a0,a1,a2,a3,a4,a5,a6,a7,true)) (Option.bind (CK a9.Cb 0) λ x2=>Option.bind (CK a9.Cb 1) λ x6=>Option.bind (CK a9.Cb 2) λ Tw=>Option.bind (CK a9.Cb 3) λ J4=>Option.bind (GU (⟨x2,x6,Tw,J4⟩:Aag)) λ PZ=>cond PZ (some (0,a0,a1,a2,a3,x2,x6,Tw,J4,true)) (some (19,a0,a1,a2,a3,a4,a5,a6,a7,false)))
theorem XY(a0:List Et)(a1:List (List Int))(a2:List Da)(a3:List Int)(a4:Int)(a5:Int)(a6:Int)(a7:Int)(a8:Bool)(a9:Dc)(r:Int×(List Et)×(List (List Int))×(List Da)×(List Int)×Int×Int×Int×Int×Bool)(hr:JG a0 a1 a2 a3 a4 a5 a6 a7 a8 a9=some r):
   B2 prog 80 [.ptr 1000000 0,.agg [.p (.int .i64 a9.word),.p (.int .i64 a9.line),.p (.sl (CB a9.names)),.p (.sl (BZ a9.Cb))]] [(1000000,.box [.ref 1000001 0 a0.length a0.length,.ref 1000002 0 a1.length a1.length,.ref 1000003 0 a2.length a2.length,.ref 1000004 0 a3.length a3.length,.p (.int .i64 a4),.p (.int .i64 a5),.p (.int .i64 a6),.p (.int .i64 a7),.p (.bool a8)]),(1000001,.arr 76 3 (CX a0)),(1000002,.arr 22 1 (Cj a1)),(1000003,.arr 68 6 (CR a2)),(1000004,.arr 3 1 (BZ a3))] λ h d=>h=[(1000000,.box [.ref 1000001 0 r.2.1.length r.2.1.length,.ref 1000002 0 r.2.2.1.length r.2.2.1.length,.ref 1000003 0 r.2.2.2.1.length r.2.2.2.1.length,.ref 1000004 0 r.2.2.2.2.1.length r.2.2.2.2.1.length,.p (.int .i64 r.2.2.2.2.2.1),.p (.int .i64 r.2.2.2.2.2.2.1),.p (.int .i64 r.2.2.2.2.2.2.2.1),.p (.int .i64 r.2.2.2.2.2.2.2.2.1),.p (.bool r.2.2.2.2.2.2.2.2.2)]),(1000001,.arr 76 3 (CX r.2.1)),(1000002,.arr 22 1 (Cj r.2.2.1)),(1000003,.arr 68 6 (CR r.2.2.2.1)),(1000004,.arr 3 1 (BZ r.2.2.2.2.1))]/\d= .p (.int .i64 r.1):=by
 refine B1 func80 rfl An8 (by simp[Tryz.f80]) ?_;unfold JG at hr;cases c1:a8
 . simp only[c1,Aj] at hr;(try simp only[go_sem,c1]);refine CG mixed (p:=[(0,0),(1,0),(2,0),(3,0),(4,0),(5,0),(6,0),(7,0),(8,0),(9,0),(10,0),(11,0),(12,0),(13,0),(14,0),(15,0),(16,0),(17,1),(18,3)]) (by kernel_rfl) (by simp[C8,get]) ?_;obtain ⟨x2,g3,hr⟩:=bE hr;have f4:=B8 g3;have f5:(BZ a9.Cb).getD 0 []=[(.int .i64 x2)]:=B9 _ g3;obtain ⟨x6,g7,hr⟩:=bE hr;have f8:=B8 g7;have f9:(BZ a9.Cb).getD 1 []=[(.int .i64 x6)]:=B9 _ g7;obtain ⟨Tw,g11,hr⟩:=bE hr;have f12:=B8 g11;have f13:(BZ a9.Cb).getD 2 []=[(.int .i64 Tw)]:=B9 _ g11;obtain ⟨J4,g15,hr⟩:=bE hr;have f16:=B8 g15;have f17:(BZ a9.Cb).getD 3 []=[(.int .i64 J4)]:=B9 _ g15;obtain ⟨PZ,g19,hr⟩:=bE hr;(try simp only[go_sem,f4,f5,f8,f9,f12,f13,f16,f17]);refine Cq (S0 (⟨x2,x6,Tw,J4⟩:Aag) _ g19) ?_;cases NK:PZ
   . simp only[NK,Aj] at hr;cases hr;(try simp only[go_sem,NK]);all_goals ((try refine Cp ?_);(try simp only[go_sem,NK]);try first | rfl | exact ⟨rfl,rfl⟩ | (simp;done))
   simp only[NK,Ak] at hr;cases hr;(try simp only[go_sem,NK]);all_goals ((try refine Cp ?_);(try simp only[go_sem,NK]);try first | rfl | exact ⟨rfl,rfl⟩ | (simp;done))
 simp only[c1,Ak] at hr;cases hr;try simp only[go_sem,c1]
 all_goals ((try refine Cp ?_);(try simp only[go_sem,c1]);try first | rfl | exact ⟨rfl,rfl⟩ | (simp;done))
def QI(l:List UInt8):Option Bool:=some (C3 l)
theorem W9(l:List UInt8)(r:Bool)(h:QI l=some r):B2 prog 42 [.p (.str l)] [] λ h d=>h=[]/\d= .p (.bool r):=by cases h;exact Qi l
def XW(l:List UInt8):Option Bool:=some (C3 l)
theorem Wy(l:List UInt8)(r:Bool)(h:XW l=some r):B2 prog 73 [.p (.str l)] [] λ h d=>h=[]/\d= .p (.bool r):=by cases h;exact Qh l
def Ir(a0:Int):Option (Int×Int):=
 cond (decide (a0=1)) (some (1,2)) (cond (decide (a0=2)) (some (2,0)) (cond (decide (a0=3)) (some (3,1)) (cond (decide (a0=4)) (some (3,1)) (cond (decide (a0=5)) (some (1,1)) (some (0,4))))))
theorem VO(a0:Int)(r:Int×Int)(hr:Ir a0=some r):
   B2 prog 72 [.p (.int .i64 a0)] [] λ h d=>h=[]/\d= .Dv [.p (.int .i64 r.1),.p (.int .i64 r.2)]:=by
 refine B1 func72 rfl o6 (by simp[Tryz.f72]) ?_;unfold Ir at hr;cases c1:decide (a0=1)
 . simp only[c1,Aj] at hr;cases c2:decide (a0=2)
   . simp only[c2,Aj] at hr;cases c3:decide (a0=3)
     . simp only[c3,Aj] at hr;cases c4:decide (a0=4)
       . simp only[c4,Aj] at hr;cases c5:decide (a0=5)
         . simp only[c5,Aj] at hr;cases hr;(try simp only[go_sem,c1,c2,c3,c4,c5]);all_goals ((try refine BX ?_);(try simp only[go_sem,c1,c2,c3,c4,c5]);try first | rfl | exact ⟨rfl,rfl⟩ | (simp;done))
         simp only[c5,Ak] at hr;cases hr;(try simp only[go_sem,c1,c2,c3,c4,c5]);all_goals ((try refine BX ?_);(try simp only[go_sem,c1,c2,c3,c4,c5]);try first | rfl | exact ⟨rfl,rfl⟩ | (simp;done))
       simp only[c4,Ak] at hr;cases hr;(try simp only[go_sem,c1,c2,c3,c4]);all_goals ((try refine BX ?_);(try simp only[go_sem,c1,c2,c3,c4]);try first | rfl | exact ⟨rfl,rfl⟩ | (simp;done))
     simp only[c3,Ak] at hr;cases hr;(try simp only[go_sem,c1,c2,c3]);all_goals ((try refine BX ?_);(try simp only[go_sem,c1,c2,c3]);try first | rfl | exact ⟨rfl,rfl⟩ | (simp;done))
   simp only[c2,Ak] at hr;cases hr;(try simp only[go_sem,c1,c2]);all_goals ((try refine BX ?_);(try simp only[go_sem,c1,c2]);try first | rfl | exact ⟨rfl,rfl⟩ | (simp;done))
 simp only[c1,Ak] at hr;cases hr;try simp only[go_sem,c1]
 all_goals ((try refine BX ?_);(try simp only[go_sem,c1]);try first | rfl | exact ⟨rfl,rfl⟩ | (simp;done))
def EU(a0:Dc):Int->Option ((Int)⊕(Int⊕Bool))
 | Vx=>cond (decide (Vx<((a0.Cb.length:Nat):Int))) (Option.bind (CK a0.Cb Vx) λ Mt=>cond (decide (Mt<(-9999))) (some (Sum.inr (.inr ((false:Bool))))) (cond (decide (9999<Mt)) (some (Sum.inr (.inr ((false:Bool))))) (some (Sum.inl (IntKind.i64.wrap (Vx+1)))))) (some (Sum.inr (.inl Vx)))
def ET(a0:Dc):Int->Option ((Int)⊕(Int⊕Bool))
 | v10=>cond (decide (v10<((a0.names.length:Nat):Int))) (Option.bind (CK a0.names v10) λ x33=>Option.bind (XW x33) λ Tg=>cond Tg (some (Sum.inl (IntKind.i64.wrap (v10+1)))) (some (Sum.inr (.inr ((false:Bool)))))) (some (Sum.inr (.inl v10)))
def Is(a0:Dc):Option (Bool):=
 cond (decide (a0.word<1)) (some false) (cond (decide (6<a0.word)) (some false) (Option.bind (Ir a0.word) λ (x3,x4)=>cond (decide (((a0.Cb.length:Nat):Int)=x4)) (cond (decide (((a0.names.length:Nat):Int)<x3)) (some false) (cond (decide (x3<((a0.names.length:Nat):Int))) (cond (decide (a0.word=2)) (Option.bind (CC (ET a0) 0) (λ | .inl v90=>Option.bind (CC (EU a0) 0) (λ | .inl v105=>some true | .inr (Bas)=>some Bas) | .inr (Bar)=>some Bar)) (some false)) (Option.bind (CC (ET a0) 0) (λ | .inl v40=>Option.bind (CC (EU a0) 0) (λ | .inl v55=>some true | .inr (r56)=>some r56) | .inr (r57)=>some r57)))) (some false)))
theorem VP(a0:Dc)(r:Bool)(hr:Is a0=some r):
   B2 prog 75 [.agg [.p (.int .i64 a0.word),.p (.int .i64 a0.line),.p (.sl (CB a0.names)),.p (.sl (BZ a0.Cb))]] [] λ h d=>h=[]/\d= .p (.bool r):=by
 refine B1 func75 rfl o5 (by simp[Tryz.f75]) ?_;unfold Is at hr;cases c1:decide (a0.word<1)
 . simp only[c1,Aj] at hr;cases c2:decide (6<a0.word)
   . simp only[c2,Aj] at hr;obtain ⟨⟨x3,x4⟩,g5,hr⟩:=bE hr;(try simp only[go_sem,c1,c2]);refine Cq (VO a0.word _ g5) ?_;cases c6:decide (((a0.Cb.length:Nat):Int)=x4)
     . simp only[c6,Aj] at hr;cases hr;(try simp only[go_sem,c6]);all_goals ((try refine BX ?_);(try simp only[go_sem,c6]);try first | rfl | exact ⟨rfl,rfl⟩ | (simp;done))
     simp only[c6,Ak] at hr;cases c7:decide (((a0.names.length:Nat):Int)<x3)
     . simp only[c7,Aj] at hr;cases c8:decide (x3<((a0.names.length:Nat):Int))
       . simp only[c8,Aj] at hr;obtain ⟨e14,g15,hr⟩:=bE hr;(try simp only[go_sem,c6,c7,c8]);refine CP g15 (λ q:Int=>⟨[(1,.ptr 1 0),(5,.p (.int .i64 q))],[(1,.box [.p (.int .i64 a0.word),.p (.int .i64 a0.line),.p (.sl (CB a0.names)),.p (.sl (BZ a0.Cb))])],80⟩) ((BW (by simp[ZF,ZE]))) ?_;rintro v10 m13 Ps Bb4;rw[ET.eq_1] at Ps;cases IY:decide (v10<((a0.names.length:Nat):Int))
         . simp only[IY,Aj] at Ps;simp only[Aa,B0] at Ps;cases Ps;(try dsimp only at hr);obtain ⟨e22,g23,hr⟩:=bE hr;(try simp only[go_sem,IY]);refine CP g23 (λ q:Int=>⟨[(1,.ptr 1 0),(6,.p (.int .i64 q))],[(1,.box [.p (.int .i64 a0.word),.p (.int .i64 a0.line),.p (.sl (CB a0.names)),.p (.sl (BZ a0.Cb))])],80⟩) ((BW (by simp[ZF,ZE]))) ?_;rintro Vx m21 FD Auz;rw[EU.eq_1] at FD;cases HN:decide (Vx<((a0.Cb.length:Nat):Int))
           . simp only[HN,Aj] at FD;simp only[Aa,B0] at FD;cases FD;(try dsimp only at hr);cases hr;(try simp only[go_sem,HN]);all_goals ((try refine BX ?_);(try simp only[go_sem,HN]);try first | rfl | exact ⟨rfl,rfl⟩ | (simp;done))
           simp only[HN,Ak] at FD;obtain ⟨Mt,g26,FD⟩:=bK FD;have f27:=B8 g26;have f28:(BZ a0.Cb).getD (Int.toNat Vx) []=[(.int .i64 Mt)]:=B9 _ g26;cases Kz:decide (Mt<(-9999))
           . simp only[Kz,Aj] at FD;cases L7:decide (9999<Mt)
             . simp only[L7,Aj] at FD;simp only[Aa,B4] at FD;(try simp only[go_sem,HN,f27,f28,Kz,L7]);exact Auz (IntKind.i64.wrap (Vx+1)) _ FD ((BW (by simp[ZF,ZE])))
             simp only[L7,Ak] at FD;simp only[Aa,B0] at FD;cases FD;(try dsimp only at hr);cases hr;(try simp only[go_sem,HN,f27,f28,Kz,L7]);all_goals ((try refine BX ?_);(try simp only[go_sem,HN,f27,f28,Kz,L7]);try first | rfl | exact ⟨rfl,rfl⟩ | (simp;done))
           simp only[Kz,Ak] at FD;simp only[Aa,B0] at FD;cases FD;(try dsimp only at hr);cases hr;(try simp only[go_sem,HN,f27,f28,Kz]);all_goals ((try refine BX ?_);(try simp only[go_sem,HN,f27,f28,Kz]);try first | rfl | exact ⟨rfl,rfl⟩ | (simp;done))
         simp only[IY,Ak] at Ps;obtain ⟨x33,g34,Ps⟩:=bK Ps;have f35:=B8 g34;have f36:(CB a0.names).getD (Int.toNat v10) []=[(.str x33)]:=B9 _ g34;obtain ⟨Tg,g38,Ps⟩:=bK Ps;(try simp only[go_sem,IY,f35,f36]);refine Cq (Wy x33 _ g38) ?_;cases c39:Tg
         . simp only[c39,Aj] at Ps;simp only[Aa,B0] at Ps;cases Ps;(try dsimp only at hr);cases hr;(try simp only[go_sem,c39]);all_goals ((try refine BX ?_);(try simp only[go_sem,c39]);try first | rfl | exact ⟨rfl,rfl⟩ | (simp;done))
         simp only[c39,Ak] at Ps;simp only[Aa,B4] at Ps;(try simp only[go_sem,c39]);exact Bb4 (IntKind.i64.wrap (v10+1)) _ Ps ((BW (by simp[ZF,ZE,c39])))
       simp only[c8,Ak] at hr;cases c58:decide (a0.word=2)
       . simp only[c58,Aj] at hr;cases hr;(try simp only[go_sem,c6,c7,c8,c58]);all_goals ((try refine BX ?_);(try simp only[go_sem,c6,c7,c8,c58]);try first | rfl | exact ⟨rfl,rfl⟩ | (simp;done))
       simp only[c58,Ak] at hr;obtain ⟨e64,g65,hr⟩:=bE hr;(try simp only[go_sem,c6,c7,c8,c58]);refine CP g65 (λ q:Int=>⟨[(1,.ptr 1 0),(5,.p (.int .i64 q))],[(1,.box [.p (.int .i64 a0.word),.p (.int .i64 a0.line),.p (.sl (CB a0.names)),.p (.sl (BZ a0.Cb))])],80⟩) ((BW (by simp[ZF,ZE]))) ?_;rintro v60 m63 Pp Bay;rw[ET.eq_1] at Pp;cases c66:decide (v60<((a0.names.length:Nat):Int))
       . simp only[c66,Aj] at Pp;simp only[Aa,B0] at Pp;cases Pp;(try dsimp only at hr);obtain ⟨e72,g73,hr⟩:=bE hr;(try simp only[go_sem,c66]);refine CP g73 (λ q:Int=>⟨[(1,.ptr 1 0),(6,.p (.int .i64 q))],[(1,.box [.p (.int .i64 a0.word),.p (.int .i64 a0.line),.p (.sl (CB a0.names)),.p (.sl (BZ a0.Cb))])],80⟩) ((BW (by simp[ZF,ZE]))) ?_;rintro v68 m71 Nn Bax;rw[EU.eq_1] at Nn;cases c74:decide (v68<((a0.Cb.length:Nat):Int))
         . simp only[c74,Aj] at Nn;simp only[Aa,B0] at Nn;cases Nn;(try dsimp only at hr);cases hr;(try simp only[go_sem,c74]);all_goals ((try refine BX ?_);(try simp only[go_sem,c74]);try first | rfl | exact ⟨rfl,rfl⟩ | (simp;done))
         simp only[c74,Ak] at Nn;obtain ⟨x75,g76,Nn⟩:=bK Nn;have f77:=B8 g76;have f78:(BZ a0.Cb).getD (Int.toNat v68) []=[(.int .i64 x75)]:=B9 _ g76;cases c79:decide (x75<(-9999))
         . simp only[c79,Aj] at Nn;cases Y3:decide (9999<x75)
           . simp only[Y3,Aj] at Nn;simp only[Aa,B4] at Nn;(try simp only[go_sem,c74,f77,f78,c79,Y3]);exact Bax (IntKind.i64.wrap (v68+1)) _ Nn ((BW (by simp[ZF,ZE])))
           simp only[Y3,Ak] at Nn;simp only[Aa,B0] at Nn;cases Nn;(try dsimp only at hr);cases hr;(try simp only[go_sem,c74,f77,f78,c79,Y3]);all_goals ((try refine BX ?_);(try simp only[go_sem,c74,f77,f78,c79,Y3]);try first | rfl | exact ⟨rfl,rfl⟩ | (simp;done))
         simp only[c79,Ak] at Nn;simp only[Aa,B0] at Nn;cases Nn;(try dsimp only at hr);cases hr;(try simp only[go_sem,c74,f77,f78,c79]);all_goals ((try refine BX ?_);(try simp only[go_sem,c74,f77,f78,c79]);try first | rfl | exact ⟨rfl,rfl⟩ | (simp;done))
       simp only[c66,Ak] at Pp;obtain ⟨x83,g84,Pp⟩:=bK Pp;have f85:=B8 g84;have f86:(CB a0.names).getD (Int.toNat v60) []=[(.str x83)]:=B9 _ g84;obtain ⟨x87,g88,Pp⟩:=bK Pp;(try simp only[go_sem,c66,f85,f86]);refine Cq (Wy x83 _ g88) ?_;cases c89:x87
       . simp only[c89,Aj] at Pp;simp only[Aa,B0] at Pp;cases Pp;(try dsimp only at hr);cases hr;(try simp only[go_sem,c89]);all_goals ((try refine BX ?_);(try simp only[go_sem,c89]);try first | rfl | exact ⟨rfl,rfl⟩ | (simp;done))
       simp only[c89,Ak] at Pp;simp only[Aa,B4] at Pp;(try simp only[go_sem,c89]);exact Bay (IntKind.i64.wrap (v60+1)) _ Pp ((BW (by simp[ZF,ZE,c89])))
     simp only[c7,Ak] at hr;cases hr;(try simp only[go_sem,c6,c7]);all_goals ((try refine BX ?_);(try simp only[go_sem,c6,c7]);try first | rfl | exact ⟨rfl,rfl⟩ | (simp;done))
   simp only[c2,Ak] at hr;cases hr;(try simp only[go_sem,c1,c2]);all_goals ((try refine BX ?_);(try simp only[go_sem,c1,c2]);try first | rfl | exact ⟨rfl,rfl⟩ | (simp;done))
 simp only[c1,Ak] at hr;cases hr;try simp only[go_sem,c1]
 all_goals ((try refine BX ?_);(try simp only[go_sem,c1]);try first | rfl | exact ⟨rfl,rfl⟩ | (simp;done))
def ES(a0:List Et)(a1:List (List Int))(a2:List Da)(a3:List Int)(a4:Int)(a5:Int)(a6:Int)(a7:Int)(a8:Bool)(a9:Dc):Option (Int×(List Et)×(List (List Int))×(List Da)×(List Int)×Int×Int×Int×Int×Bool):=
 Option.bind (Is (⟨a9.word,a9.line,a9.names,a9.Cb⟩:Dc)) λ x1=>cond x1 (cond (decide (a9.word=1)) (Option.bind (KQ a0 a1 a2 a3 a4 a5 a6 a7 a8 (⟨a9.word,a9.line,a9.names,a9.Cb⟩:Dc)) λ (x64,x65,x66,x67,x68,x69,x70,Lx,x72,x73)=>some (x64,x65,x66,x67,x68,x69,x70,Lx,x72,x73)) (cond (decide (a9.word=2)) (Option.bind (MQ a0 a1 a2 a3 a4 a5 a6 a7 a8 (⟨a9.word,a9.line,a9.names,a9.Cb⟩:Dc)) λ (x53,x54,x55,x56,x57,x58,x59,x60,x61,x62)=>some (x53,x54,x55,x56,x57,x58,x59,x60,x61,x62)) (cond (decide (a9.word=3)) (Option.bind (KO a0 a1 a2 a3 a4 a5 a6 a7 a8 (⟨a9.word,a9.line,a9.names,a9.Cb⟩:Dc)) λ (x42,x43,x44,x45,x46,x47,x48,x49,x50,x51)=>some (x42,x43,x44,x45,x46,x47,x48,x49,x50,x51)) (cond (decide (a9.word=4)) (Option.bind (KO a0 a1 a2 a3 a4 a5 a6 a7 a8 (⟨a9.word,a9.line,a9.names,a9.Cb⟩:Dc)) λ (x31,XG,x33,Wh,x35,x36,Tg,x38,x39,x40)=>some (x31,XG,x33,Wh,x35,x36,Tg,x38,x39,x40)) (cond (decide (a9.word=5)) (Option.bind (KP a0 a1 a2 a3 a4 a5 a6 a7 a8 (⟨a9.word,a9.line,a9.names,a9.Cb⟩:Dc)) λ (SU,OW,x22,x23,x24,Mt,MC,Wi,x28,x29)=>some (SU,OW,x22,x23,x24,Mt,MC,Wi,x28,x29)) (Option.bind (JG a0 a1 a2 a3 a4 a5 a6 a7 a8 (⟨a9.word,a9.line,a9.names,a9.Cb⟩:Dc)) λ (x9,Tw,Du,SV,KC,J4,x15,OX,KB,PZ)=>some (x9,Tw,Du,SV,KC,J4,x15,OX,KB,PZ))))))) (some (20,a0,a1,a2,a3,a4,a5,a6,a7,a8))
theorem Ot(a0:List Et)(a1:List (List Int))(a2:List Da)(a3:List Int)(a4:Int)(a5:Int)(a6:Int)(a7:Int)(a8:Bool)(a9:Dc)(r:Int×(List Et)×(List (List Int))×(List Da)×(List Int)×Int×Int×Int×Int×Bool)(hr:ES a0 a1 a2 a3 a4 a5 a6 a7 a8 a9=some r):
   B2 prog 37 [.ptr 1000000 0,.agg [.p (.int .i64 a9.word),.p (.int .i64 a9.line),.p (.sl (CB a9.names)),.p (.sl (BZ a9.Cb))]] [(1000000,.box [.ref 1000001 0 a0.length a0.length,.ref 1000002 0 a1.length a1.length,.ref 1000003 0 a2.length a2.length,.ref 1000004 0 a3.length a3.length,.p (.int .i64 a4),.p (.int .i64 a5),.p (.int .i64 a6),.p (.int .i64 a7),.p (.bool a8)]),(1000001,.arr 76 3 (CX a0)),(1000002,.arr 22 1 (Cj a1)),(1000003,.arr 68 6 (CR a2)),(1000004,.arr 3 1 (BZ a3))] λ h d=>h=[(1000000,.box [.ref 1000001 0 r.2.1.length r.2.1.length,.ref 1000002 0 r.2.2.1.length r.2.2.1.length,.ref 1000003 0 r.2.2.2.1.length r.2.2.2.1.length,.ref 1000004 0 r.2.2.2.2.1.length r.2.2.2.2.1.length,.p (.int .i64 r.2.2.2.2.2.1),.p (.int .i64 r.2.2.2.2.2.2.1),.p (.int .i64 r.2.2.2.2.2.2.2.1),.p (.int .i64 r.2.2.2.2.2.2.2.2.1),.p (.bool r.2.2.2.2.2.2.2.2.2)]),(1000001,.arr 76 3 (CX r.2.1)),(1000002,.arr 22 1 (Cj r.2.2.1)),(1000003,.arr 68 6 (CR r.2.2.2.1)),(1000004,.arr 3 1 (BZ r.2.2.2.2.1))]/\d= .p (.int .i64 r.1):=by
 refine B1 func37 rfl Ao2 (by simp[Tryz.f37]) ?_;unfold ES at hr;obtain ⟨x1,g2,hr⟩:=bE hr;try simp only[go_sem]
 refine Cq (VP (⟨a9.word,a9.line,a9.names,a9.Cb⟩:Dc) _ g2) ?_;cases c3:x1
 . simp only[c3,Aj] at hr;cases hr;(try simp only[go_sem,c3]);all_goals ((try refine Cp ?_);(try simp only[go_sem,c3]);try first | rfl | exact ⟨rfl,rfl⟩ | (simp;done))
 simp only[c3,Ak] at hr;cases c4:decide (a9.word=1)
 . simp only[c4,Aj] at hr;cases c5:decide (a9.word=2)
   . simp only[c5,Aj] at hr;cases c6:decide (a9.word=3)
     . simp only[c6,Aj] at hr;cases c7:decide (a9.word=4)
       . simp only[c7,Aj] at hr;cases c8:decide (a9.word=5)
         . simp only[c8,Aj] at hr;obtain ⟨⟨x9,Tw,Du,SV,KC,J4,x15,OX,KB,PZ⟩,g19,hr⟩:=bE hr;(try simp only[go_sem,c3,c4,c5,c6,c7,c8]);refine Cq (XY a0 a1 a2 a3 a4 a5 a6 a7 a8 (⟨a9.word,a9.line,a9.names,a9.Cb⟩:Dc) _ g19) ?_;cases hr;(try simp only[go_sem]);all_goals ((try refine Cp ?_);(try simp only[go_sem]);try first | rfl | exact ⟨rfl,rfl⟩ | (simp;done))
         simp only[c8,Ak] at hr;obtain ⟨⟨SU,OW,x22,x23,x24,Mt,MC,Wi,x28,x29⟩,g30,hr⟩:=bE hr;(try simp only[go_sem,c3,c4,c5,c6,c7,c8]);refine Cq (ZC a0 a1 a2 a3 a4 a5 a6 a7 a8 (⟨a9.word,a9.line,a9.names,a9.Cb⟩:Dc) _ g30) ?_;cases hr;(try simp only[go_sem]);all_goals ((try refine Cp ?_);(try simp only[go_sem]);try first | rfl | exact ⟨rfl,rfl⟩ | (simp;done))
       simp only[c7,Ak] at hr;obtain ⟨⟨x31,XG,x33,Wh,x35,x36,Tg,x38,x39,x40⟩,g41,hr⟩:=bE hr;(try simp only[go_sem,c3,c4,c5,c6,c7]);refine Cq (TT a0 a1 a2 a3 a4 a5 a6 a7 a8 (⟨a9.word,a9.line,a9.names,a9.Cb⟩:Dc) _ g41) ?_;cases hr;(try simp only[go_sem]);all_goals ((try refine Cp ?_);(try simp only[go_sem]);try first | rfl | exact ⟨rfl,rfl⟩ | (simp;done))
     simp only[c6,Ak] at hr;obtain ⟨⟨x42,x43,x44,x45,x46,x47,x48,x49,x50,x51⟩,g52,hr⟩:=bE hr;(try simp only[go_sem,c3,c4,c5,c6]);refine Cq (TT a0 a1 a2 a3 a4 a5 a6 a7 a8 (⟨a9.word,a9.line,a9.names,a9.Cb⟩:Dc) _ g52) ?_;cases hr;(try simp only[go_sem]);all_goals ((try refine Cp ?_);(try simp only[go_sem]);try first | rfl | exact ⟨rfl,rfl⟩ | (simp;done))
   simp only[c5,Ak] at hr;obtain ⟨⟨x53,x54,x55,x56,x57,x58,x59,x60,x61,x62⟩,g63,hr⟩:=bE hr;(try simp only[go_sem,c3,c4,c5]);refine Cq (Ab1 a0 a1 a2 a3 a4 a5 a6 a7 a8 (⟨a9.word,a9.line,a9.names,a9.Cb⟩:Dc) _ g63) ?_;cases hr;(try simp only[go_sem]);all_goals ((try refine Cp ?_);(try simp only[go_sem]);try first | rfl | exact ⟨rfl,rfl⟩ | (simp;done))
 simp only[c4,Ak] at hr;obtain ⟨⟨x64,x65,x66,x67,x68,x69,x70,Lx,x72,x73⟩,g74,hr⟩:=bE hr;try simp only[go_sem,c3,c4]
 refine Cq (ZD a0 a1 a2 a3 a4 a5 a6 a7 a8 (⟨a9.word,a9.line,a9.names,a9.Cb⟩:Dc) _ g74) ?_;cases hr;try simp only[go_sem]
 all_goals ((try refine Cp ?_);(try simp only[go_sem]);try first | rfl | exact ⟨rfl,rfl⟩ | (simp;done))
def Jn(v32:List Da):(List Int)×Int->Option (((List Int)×Int)⊕(((List Int)×Int)))
 | (v45,v46)=>cond (decide (v46<((v45.length:Nat):Int))) (Option.bind (CK v45 v46) λ x53=>Option.bind (CK v32 (IntKind.i64.wrap (Int.tdiv x53 8))) λ x57=>some (Sum.inl ((v45.set (Int.toNat v46) (IntKind.i64.wrap ((IntKind.i64.wrap (x57.base+(Int.tmod x53 8))) - 1))),(IntKind.i64.wrap (v46+1))))) (some (Sum.inr (v45,v46)))
def Jl:(List Da)×Int×Int×Int->Option (((List Da)×Int×Int×Int)⊕(((List Da)×Int×Int×Int)))
 | (v32,v33,v34,v35)=>cond (decide (v33<((v32.length:Nat):Int))) (Option.bind (CK v32 v33) λ J3=>Option.bind (CK (v32.set (Int.toNat v33) (⟨J3.name,J3.CE,J3.HL,J3.out,J3.Cs,v35⟩:Da)) v33) λ x67=>cond x67.CE (some (Sum.inl ((v32.set (Int.toNat v33) (⟨J3.name,J3.CE,J3.HL,J3.out,J3.Cs,v35⟩:Da)),(IntKind.i64.wrap (v33+1)),(IntKind.i64.wrap (v34+1)),(IntKind.i64.wrap (v35+x67.Cs))))) (some (Sum.inl ((v32.set (Int.toNat v33) (⟨J3.name,J3.CE,J3.HL,J3.out,J3.Cs,v35⟩:Da)),(IntKind.i64.wrap (v33+1)),v34,(IntKind.i64.wrap (v35+x67.Cs)))))) (some (Sum.inr (v32,v33,v34,v35)))
def KR(a0:List Dc):(List Et)×(List (List Int))×(List Da)×(List Int)×Int×Int×Int×Int×Bool×Int->Option (((List Et)×(List (List Int))×(List Da)×(List Int)×Int×Int×Int×Int×Bool×Int)⊕(((List Et)×(List (List Int))×(List Da)×(List Int)×Int×Int×Int×Int×Bool×Int)⊕(Nt×Int×Int)))
 | (v11,v12,Mf,O2,v15,Vy,v17,Vx,Sa,v20)=>cond (decide (v20<((a0.length:Nat):Int))) (Option.bind (CK a0 v20) λ x97=>Option.bind (ES v11 v12 Mf O2 v15 Vy v17 Vx Sa (⟨x97.word,x97.line,x97.names,x97.Cb⟩:Dc)) λ (Aqg,Au4,Au3,Aeb,Au2,Au1,Au0,Ajk,Atz,Aty)=>cond (decide (Aqg=0)) (some (Sum.inl (Au4,Au3,Aeb,Au2,Au1,Au0,Ajk,Atz,Aty,(IntKind.i64.wrap (v20+1))))) (some (Sum.inr (.inr ((((⟨[],[],[],[],0,0,0,0⟩:Nt),x97.line,Aqg):Nt×Int×Int)))))) (some (Sum.inr (.inl (v11,v12,Mf,O2,v15,Vy,v17,Vx,Sa,v20))))
def MS(a0:List Dc):Option (Nt×Int×Int):=
 Option.bind (CC (KR a0) ([],[],[],[],4,2,1,8,false,0)) (λ | .inl (Ajs,Ba1,Awx,Aue,v117,Ba0,Azz,Azy,v121,v122)=>cond (decide (((Ajs.length:Nat):Int)=0)) (some ((⟨[],[],[],[],0,0,0,0⟩:Nt),0,15)) (Option.bind (CC Jl (Awx,0,0,((Ajs.length:Nat):Int))) (λ (v168,v169,Azv,v171)=>cond (decide (Azv=0)) (some ((⟨[],[],[],[],0,0,0,0⟩:Nt),0,16)) (Option.bind (CC (Jn v168) (Aue,0)) (λ (Azu,v192)=>some ((⟨Ajs,Ba1,v168,Azu,v117,Ba0,Azz,Azy⟩:Nt),0,0))))) | .inr (Baq)=>some Baq)
theorem Ab7(a0:List Dc)(r:Nt×Int×Int)(hr:MS a0=some r):
   B2 prog 16 [.p (.sl (DX a0))] [] λ h d=>h=[]/\d= .Dv [.agg [.p (.sl (CX r.1.blocks)),.p (.sl (Cj r.1.next)),.p (.sl (CR r.1.spurs)),.p (.sl (BZ r.1.B6)),.p (.int .i64 r.1.cq),.p (.int .i64 r.1.ca),.p (.int .i64 r.1.cd),.p (.int .i64 r.1.cp)],.p (.int .i64 r.2.1),.p (.int .i64 r.2.2)]:=by
 refine B1 func16 rfl Aoj (by simp[Tryz.f16]) ?_;unfold MS at hr;obtain ⟨e24,g25,hr⟩:=bE hr;try simp only[go_sem]
 refine CP g25 (λ q:(List Et)×(List (List Int))×(List Da)×(List Int)×Int×Int×Int×Int×Bool×Int=>⟨[(0,.p (.sl (DX a0))),(2,.ptr 2 0),(5,.ptr 16 0),(6,.p (.int .i64 q.2.2.2.2.2.2.2.2.2))],[(2,.box [.cl [],.cl [],.cl [],.cl [],.p (.int .i64 0),.p (.int .i64 0),.p (.int .i64 0),.p (.int .i64 0)]),(16,.box [.ref 516000 0 q.1.length q.1.length,.ref 516001 0 q.2.1.length q.2.1.length,.ref 516002 0 q.2.2.1.length q.2.2.1.length,.ref 516003 0 q.2.2.2.1.length q.2.2.2.1.length,.p (.int .i64 q.2.2.2.2.1),.p (.int .i64 q.2.2.2.2.2.1),.p (.int .i64 q.2.2.2.2.2.2.1),.p (.int .i64 q.2.2.2.2.2.2.2.1),.p (.bool q.2.2.2.2.2.2.2.2.1)]),(516000,.arr 76 3 (CX q.1)),(516001,.arr 22 1 (Cj q.2.1)),(516002,.arr 68 6 (CR q.2.2.1)),(516003,.arr 3 1 (BZ q.2.2.2.1))],139⟩) ((DC (id:=16) (j:=0) (q:=516000) (sz:=3) 76 rfl rfl rfl (by decide)).trans ((DC (id:=16) (j:=1) (q:=516001) (sz:=1) 22 rfl rfl rfl (by decide)).trans ((DC (id:=16) (j:=2) (q:=516002) (sz:=6) 68 rfl rfl rfl (by decide)).trans ((DC (id:=16) (j:=3) (q:=516003) (sz:=1) 3 rfl rfl rfl (by decide)).trans ((BW (by simp[ZF,ZE]))))))) ?_;rintro ⟨v11,v12,Mf,O2,v15,Vy,v17,Vx,Sa,v20⟩ m23 GL Arn;rw[KR.eq_1] at GL;cases Td:decide (v20<((a0.length:Nat):Int))
 . simp only[Td,Aj] at GL;simp only[Aa,B0] at GL;cases GL;(try dsimp only at hr);cases PM:decide (((v11.length:Nat):Int)=0)
   . simp only[PM,Aj] at hr;(try simp only[go_sem,Td,PM]);refine CG mixed (p:=[(0,0),(1,0),(2,0),(3,0),(4,0),(5,0),(6,0),(7,0)]) (by kernel_rfl) (by simp[C8,get]) ?_;obtain ⟨e39,g40,hr⟩:=bE hr;(try simp only[go_sem]);refine CP g40 (λ q:(List Da)×Int×Int×Int=>⟨[(2,.ptr 2 0),(5,.ptr 16 0),(8,.p (.int .i64 q.2.2.1)),(9,.p (.int .i64 q.2.2.2)),(10,.p (.int .i64 q.2.1))],[(2,.box [.cl [],.cl [],.cl [],.cl [],.p (.int .i64 0),.p (.int .i64 0),.p (.int .i64 0),.p (.int .i64 0)]),(16,.box [.ref 516000 0 v11.length v11.length,.ref 516001 0 v12.length v12.length,.ref 516002 0 q.1.length q.1.length,.ref 516003 0 O2.length O2.length,.p (.int .i64 v15),.p (.int .i64 Vy),.p (.int .i64 v17),.p (.int .i64 Vx),.p (.bool Sa)]),(516000,.arr 76 3 (CX v11)),(516001,.arr 22 1 (Cj v12)),(516002,.arr 68 6 (CR q.1)),(516003,.arr 3 1 (BZ O2))],139⟩) ((BW (by simp[ZF,ZE]))) ?_;rintro ⟨v32,v33,v34,v35⟩ m38 Pq Axd;rw[Jl.eq_1] at Pq;cases c41:decide (v33<((v32.length:Nat):Int))
     . simp only[c41,Aj] at Pq;simp only[Aa,B0] at Pq;cases Pq;(try dsimp only at hr);cases c42:decide (v34=0)
       . simp only[c42,Aj] at hr;obtain ⟨e50,g51,hr⟩:=bE hr;(try simp only[go_sem,c41,c42]);refine CP g51 (λ q:(List Int)×Int=>⟨[(2,.ptr 2 0),(5,.ptr 16 0),(11,.p (.int .i64 q.2))],[(2,.box [.cl [],.cl [],.cl [],.cl [],.p (.int .i64 0),.p (.int .i64 0),.p (.int .i64 0),.p (.int .i64 0)]),(16,.box [.ref 516000 0 v11.length v11.length,.ref 516001 0 v12.length v12.length,.ref 516002 0 v32.length v32.length,.ref 516003 0 q.1.length q.1.length,.p (.int .i64 v15),.p (.int .i64 Vy),.p (.int .i64 v17),.p (.int .i64 Vx),.p (.bool Sa)]),(516000,.arr 76 3 (CX v11)),(516001,.arr 22 1 (Cj v12)),(516002,.arr 68 6 (CR v32)),(516003,.arr 3 1 (BZ q.1))],139⟩) ((BW (by simp[ZF,ZE]))) ?_;rintro ⟨v45,v46⟩ m49 UD Baz;rw[Jn.eq_1] at UD;cases c52:decide (v46<((v45.length:Nat):Int))
         . simp only[c52,Aj] at UD;simp only[Aa,B0] at UD;cases UD;(try dsimp only at hr);cases hr;(try simp only[go_sem,c52]);all_goals ((try refine BX ?_);(try simp only[go_sem,c52]);try first | rfl | exact ⟨rfl,rfl⟩ | (simp;done))
         simp only[c52,Ak] at UD;obtain ⟨x53,g54,UD⟩:=bK UD;have f55:=B8 g54;have f56:(BZ v45).getD (Int.toNat v46) []=[(.int .i64 x53)]:=B9 _ g54;(try simp only[go_sem,c52,f55,f56]);refine CG mixed (p:=[(0,0),(1,0),(2,0),(3,0),(4,0),(5,0),(6,0),(7,0),(8,0),(9,0),(10,0),(11,0),(12,0),(13,0),(14,0),(15,0),(16,0),(17,0),(18,0),(19,0),(20,0),(21,3)]) (by kernel_rfl) (by simp[C8,get]) ?_;obtain ⟨x57,g58,UD⟩:=bK UD;have f59:=B8 g58;have f60:(CR v32).getD (Int.toNat (IntKind.i64.wrap (Int.tdiv x53 8))) []=[(.str x57.name),(.bool x57.CE),(.int .i64 x57.HL),(.int .i64 x57.out),(.int .i64 x57.Cs),(.int .i64 x57.base)]:=B9 _ g58;simp only[Aa,B4] at UD;(try simp only[go_sem,f59,f60,f55,f56]);exact Baz ((v45.set (Int.toNat v46) (IntKind.i64.wrap ((IntKind.i64.wrap (x57.base+(Int.tmod x53 8))) - 1))),(IntKind.i64.wrap (v46+1))) _ UD ((BW (by simp[ZF,ZE])))
       simp only[c42,Ak] at hr;cases hr;(try simp only[go_sem,c41,c42]);all_goals ((try refine BX ?_);(try simp only[go_sem,c41,c42]);try first | rfl | exact ⟨rfl,rfl⟩ | (simp;done))
     simp only[c41,Ak] at Pq;obtain ⟨J3,g64,Pq⟩:=bK Pq;have f65:=B8 g64;have f66:(CR v32).getD (Int.toNat v33) []=[(.str J3.name),(.bool J3.CE),(.int .i64 J3.HL),(.int .i64 J3.out),(.int .i64 J3.Cs),(.int .i64 J3.base)]:=B9 _ g64;obtain ⟨x67,g68,Pq⟩:=bK Pq;have f69:=B8 g68;have f70:(CR (v32.set (Int.toNat v33) (⟨J3.name,J3.CE,J3.HL,J3.out,J3.Cs,v35⟩:Da))).getD (Int.toNat v33) []=[(.str x67.name),(.bool x67.CE),(.int .i64 x67.HL),(.int .i64 x67.out),(.int .i64 x67.Cs),(.int .i64 x67.base)]:=B9 _ g68;cases c71:x67.CE
     . simp only[c71,Aj] at Pq;simp only[Aa,B4] at Pq;(try simp only[go_sem,c41,f65,f66,f69,f70,c71]);exact Axd ((v32.set (Int.toNat v33) (⟨J3.name,J3.CE,J3.HL,J3.out,J3.Cs,v35⟩:Da)),(IntKind.i64.wrap (v33+1)),v34,(IntKind.i64.wrap (v35+x67.Cs))) _ Pq ((BW (by simp[ZF,ZE,c71])))
     simp only[c71,Ak] at Pq;simp only[Aa,B4] at Pq;(try simp only[go_sem,c41,f65,f66,f69,f70,c71]);exact Axd ((v32.set (Int.toNat v33) (⟨J3.name,J3.CE,J3.HL,J3.out,J3.Cs,v35⟩:Da)),(IntKind.i64.wrap (v33+1)),(IntKind.i64.wrap (v34+1)),(IntKind.i64.wrap (v35+x67.Cs))) _ Pq ((BW (by simp[ZF,ZE,c71])))
   simp only[PM,Ak] at hr;cases hr;(try simp only[go_sem,Td,PM]);all_goals ((try refine BX ?_);(try simp only[go_sem,Td,PM]);try first | rfl | exact ⟨rfl,rfl⟩ | (simp;done))
 simp only[Td,Ak] at GL;obtain ⟨x97,g98,GL⟩:=bK GL;have f99:=B8 g98;have f100:(DX a0).getD (Int.toNat v20) []=[(.int .i64 x97.word),(.int .i64 x97.line),(.sl (CB x97.names)),(.sl (BZ x97.Cb))]:=B9 _ g98;obtain ⟨⟨Aqg,Au4,Au3,Aeb,Au2,Au1,Au0,Ajk,Atz,Aty⟩,Bcl,GL⟩:=bK GL;try simp only[go_sem,Td,f99,f100]
 refine Cq (Ot v11 v12 Mf O2 v15 Vy v17 Vx Sa (⟨x97.word,x97.line,x97.names,x97.Cb⟩:Dc) _ Bcl) ?_;cases Aiz:decide (Aqg=0)
 . simp only[Aiz,Aj] at GL;(try simp only[go_sem,Aiz]);refine Dp [] mixed (p:=[(0,0),(1,0),(2,0),(3,0),(4,0),(5,0),(6,0),(7,2),(8,0),(9,0)]) (by kernel_rfl) (by simp[C8,get]) ?_;simp only[Aa,B0] at GL;cases GL;(try dsimp only at hr);cases hr;(try simp only[go_sem,f99,f100]);all_goals ((try refine BX ?_);(try simp only[go_sem,f99,f100]);try first | rfl | exact ⟨rfl,rfl⟩ | (simp;done))
 simp only[Aiz,Ak] at GL;simp only[Aa,B4] at GL;try simp only[go_sem,Aiz]
 exact Arn (Au4,Au3,Aeb,Au2,Au1,Au0,Ajk,Atz,Aty,(IntKind.i64.wrap (v20+1))) _ GL ((BW (by simp[ZF,ZE])))
def Gr(a0:List Int)(a1:List Int):Int->Option ((Int)⊕(Int⊕Bool))
 | v3=>cond (decide (v3<((a0.length:Nat):Int))) (Option.bind (CK a0 v3) λ Tw=>Option.bind (CK a1 v3) λ J4=>cond (decide (Tw=J4)) (some (Sum.inl (IntKind.i64.wrap (v3+1)))) (some (Sum.inr (.inr ((false:Bool)))))) (some (Sum.inr (.inl v3)))
def E0(a0:List Int)(a1:List Int):Option (Bool):=
 cond (decide (((a0.length:Nat):Int)=((a1.length:Nat):Int))) (Option.bind (CC (Gr a0 a1) 0) (λ | .inl Sa=>some true | .inr (r20)=>some r20)) (some false)
theorem IL(a0:List Int)(a1:List Int)(r:Bool)(hr:E0 a0 a1=some r):
   B2 prog 26 [.p (.sl (BZ a0)),.p (.sl (BZ a1))] [] λ h d=>h=[]/\d= .p (.bool r):=by
 refine B1 func26 rfl Aoc (by simp[Tryz.f26]) ?_;unfold E0 at hr;cases c1:decide (((a0.length:Nat):Int)=((a1.length:Nat):Int))
 . simp only[c1,Aj] at hr;cases hr;(try simp only[go_sem,c1]);all_goals ((try refine BX ?_);(try simp only[go_sem,c1]);try first | rfl | exact ⟨rfl,rfl⟩ | (simp;done))
 simp only[c1,Ak] at hr;obtain ⟨e7,g8,hr⟩:=bE hr;try simp only[go_sem,c1]
 refine CP g8 (λ q:Int=>⟨[(0,.p (.sl (BZ a0))),(1,.p (.sl (BZ a1))),(5,.p (.int .i64 q))],[],26⟩) ((BW (by simp[ZF,ZE]))) ?_;rintro v3 m6 Ec VV;rw[Gr.eq_1] at Ec;cases c9:decide (v3<((a0.length:Nat):Int))
 . simp only[c9,Aj] at Ec;simp only[Aa,B0] at Ec;cases Ec;(try dsimp only at hr);cases hr;(try simp only[go_sem,c9]);all_goals ((try refine BX ?_);(try simp only[go_sem,c9]);try first | rfl | exact ⟨rfl,rfl⟩ | (simp;done))
 simp only[c9,Ak] at Ec;try simp only[go_sem,c9]
 refine CG mixed (p:=[(0,0),(1,0),(2,0),(3,0),(4,0),(5,0),(6,0),(7,0),(8,0)]) (by kernel_rfl) (by simp[C8,get]) ?_;obtain ⟨Tw,g11,Ec⟩:=bK Ec;have f12:=B8 g11;have f13:(BZ a0).getD (Int.toNat v3) []=[(.int .i64 Tw)]:=B9 _ g11;obtain ⟨J4,g15,Ec⟩:=bK Ec;have f16:=B8 g15;have f17:(BZ a1).getD (Int.toNat v3) []=[(.int .i64 J4)]:=B9 _ g15;cases IX:decide (Tw=J4)
 . simp only[IX,Aj] at Ec;simp only[Aa,B0] at Ec;cases Ec;(try dsimp only at hr);cases hr;(try simp only[go_sem,f12,f13,f16,f17,IX]);all_goals ((try refine BX ?_);(try simp only[go_sem,f12,f13,f16,f17,IX]);try first | rfl | exact ⟨rfl,rfl⟩ | (simp;done))
 simp only[IX,Ak] at Ec;simp only[Aa,B4] at Ec;try simp only[go_sem,f12,f13,f16,f17,IX]
 exact VV (IntKind.i64.wrap (v3+1)) _ Ec ((BW (by simp[ZF,ZE])))
def FP(a0:List (List Int))(a1:List (List Int)):Int->Option ((Int)⊕(Int⊕Bool))
 | v3=>cond (decide (v3<((a0.length:Nat):Int))) (Option.bind (CK a0 v3) λ Tw=>Option.bind (CK a1 v3) λ J4=>Option.bind (E0 Tw J4) λ PZ=>cond PZ (some (Sum.inl (IntKind.i64.wrap (v3+1)))) (some (Sum.inr (.inr ((false:Bool)))))) (some (Sum.inr (.inl v3)))
def Gn(a0:List (List Int))(a1:List (List Int)):Option (Bool):=
 cond (decide (((a0.length:Nat):Int)=((a1.length:Nat):Int))) (Option.bind (CC (FP a0 a1) 0) (λ | .inl v21=>some true | .inr (r22)=>some r22)) (some false)
theorem RB(a0:List (List Int))(a1:List (List Int))(r:Bool)(hr:Gn a0 a1=some r):
   B2 prog 34 [.p (.sl (Cj a0)),.p (.sl (Cj a1))] [] λ h d=>h=[]/\d= .p (.bool r):=by
 refine B1 func34 rfl Ao5 (by simp[Tryz.f34]) ?_;unfold Gn at hr;cases c1:decide (((a0.length:Nat):Int)=((a1.length:Nat):Int))
 . simp only[c1,Aj] at hr;cases hr;(try simp only[go_sem,c1]);all_goals ((try refine BX ?_);(try simp only[go_sem,c1]);try first | rfl | exact ⟨rfl,rfl⟩ | (simp;done))
 simp only[c1,Ak] at hr;obtain ⟨e7,g8,hr⟩:=bE hr;try simp only[go_sem,c1]
 refine CP g8 (λ q:Int=>⟨[(0,.p (.sl (Cj a0))),(1,.p (.sl (Cj a1))),(5,.p (.int .i64 q))],[],27⟩) ((BW (by simp[ZF,ZE]))) ?_;rintro v3 m6 Ec VV;rw[FP.eq_1] at Ec;cases c9:decide (v3<((a0.length:Nat):Int))
 . simp only[c9,Aj] at Ec;simp only[Aa,B0] at Ec;cases Ec;(try dsimp only at hr);cases hr;(try simp only[go_sem,c9]);all_goals ((try refine BX ?_);(try simp only[go_sem,c9]);try first | rfl | exact ⟨rfl,rfl⟩ | (simp;done))
 simp only[c9,Ak] at Ec;try simp only[go_sem,c9]
 refine CG mixed (p:=[(0,0),(1,0),(2,0),(3,0),(4,0),(5,0),(6,0),(7,0),(8,2),(9,0)]) (by kernel_rfl) (by simp[C8,get]) ?_;obtain ⟨Tw,g11,Ec⟩:=bK Ec;have f12:=B8 g11;have f13:(Cj a0).getD (Int.toNat v3) []=[(.sl (BZ Tw))]:=B9 _ g11;obtain ⟨J4,g15,Ec⟩:=bK Ec;have f16:=B8 g15;have f17:(Cj a1).getD (Int.toNat v3) []=[(.sl (BZ J4))]:=B9 _ g15;obtain ⟨PZ,g19,Ec⟩:=bK Ec;try simp only[go_sem,f12,f13,f16,f17]
 refine Gq (IL Tw J4 _ g19) ?_;cases NK:PZ
 . simp only[NK,Aj] at Ec;simp only[Aa,B0] at Ec;cases Ec;(try dsimp only at hr);cases hr;(try simp only[go_sem,NK]);all_goals ((try refine BX ?_);(try simp only[go_sem,NK]);try first | rfl | exact ⟨rfl,rfl⟩ | (simp;done))
 simp only[NK,Ak] at Ec;simp only[Aa,B4] at Ec;try simp only[go_sem,NK]
 exact VV (IntKind.i64.wrap (v3+1)) _ Ec ((BW (by simp[ZF,ZE,NK])))
def JC(a0:Nt)(a1:Nt):Int->Option ((Int)⊕(Int⊕Bool))
 | Sa=>cond (decide (Sa<((a0.spurs.length:Nat):Int))) (Option.bind (CK a0.spurs Sa) λ MC=>Option.bind (CK a1.spurs Sa) λ Q3=>cond (decide (MC.name=Q3.name)&&((MC.CE==Q3.CE)&&(decide (MC.HL=Q3.HL)&&(decide (MC.out=Q3.out)&&(decide (MC.Cs=Q3.Cs)&&decide (MC.base=Q3.base)))))) (some (Sum.inl (IntKind.i64.wrap (Sa+1)))) (some (Sum.inr (.inr ((false:Bool)))))) (some (Sum.inr (.inl Sa)))
def JB(a0:Nt)(a1:Nt):Int->Option ((Int)⊕(Int⊕Bool))
 | v11=>cond (decide (v11<((a0.blocks.length:Nat):Int))) (Option.bind (CK a0.blocks v11) λ Tg=>Option.bind (CK a1.blocks v11) λ x41=>cond (decide (Tg.name=x41.name)&&(decide (Tg.x=x41.x)&&decide (Tg.y=x41.y))) (some (Sum.inl (IntKind.i64.wrap (v11+1)))) (some (Sum.inr (.inr ((false:Bool)))))) (some (Sum.inr (.inl v11)))
def KJ(a0:Nt)(a1:Nt):Option (Bool):=
 cond (decide (((a0.blocks.length:Nat):Int)=((a1.blocks.length:Nat):Int))) (Option.bind (Gn a0.next a1.next) λ x2=>cond x2 (cond (decide (((a0.spurs.length:Nat):Int)=((a1.spurs.length:Nat):Int))) (Option.bind (E0 a0.B6 a1.B6) λ x6=>cond x6 (cond (decide (a0.cq=a1.cq)&&(decide (a0.ca=a1.ca)&&(decide (a0.cd=a1.cd)&&decide (a0.cp=a1.cp)))) (Option.bind (CC (JB a0 a1) 0) (λ | .inl v46=>Option.bind (CC (JC a0 a1) 0) (λ | .inl v64=>some true | .inr (r65)=>some r65) | .inr (r66)=>some r66)) (some false)) (some false)) (some false)) (some false)) (some false)
theorem Zt(a0:Nt)(a1:Nt)(r:Bool)(hr:KJ a0 a1=some r):
   B2 prog 12 [.agg [.p (.sl (CX a0.blocks)),.p (.sl (Cj a0.next)),.p (.sl (CR a0.spurs)),.p (.sl (BZ a0.B6)),.p (.int .i64 a0.cq),.p (.int .i64 a0.ca),.p (.int .i64 a0.cd),.p (.int .i64 a0.cp)],.agg [.p (.sl (CX a1.blocks)),.p (.sl (Cj a1.next)),.p (.sl (CR a1.spurs)),.p (.sl (BZ a1.B6)),.p (.int .i64 a1.cq),.p (.int .i64 a1.ca),.p (.int .i64 a1.cd),.p (.int .i64 a1.cp)]] [] λ h d=>h=[]/\d= .p (.bool r):=by
 refine B1 func12 rfl Aon (by simp[Tryz.f12]) ?_;unfold KJ at hr;cases c1:decide (((a0.blocks.length:Nat):Int)=((a1.blocks.length:Nat):Int))
 . simp only[c1,Aj] at hr;cases hr;(try simp only[go_sem,c1]);all_goals ((try refine BX ?_);(try simp only[go_sem,c1]);try first | rfl | exact ⟨rfl,rfl⟩ | (simp;done))
 simp only[c1,Ak] at hr;obtain ⟨x2,g3,hr⟩:=bE hr;try simp only[go_sem,c1]
 refine Cq (RB a0.next a1.next _ g3) ?_;cases c4:x2
 . simp only[c4,Aj] at hr;cases hr;(try simp only[go_sem,c1,c4]);all_goals ((try refine BX ?_);(try simp only[go_sem,c1,c4]);try first | rfl | exact ⟨rfl,rfl⟩ | (simp;done))
 simp only[c4,Ak] at hr;cases c5:decide (((a0.spurs.length:Nat):Int)=((a1.spurs.length:Nat):Int))
 . simp only[c5,Aj] at hr;cases hr;(try simp only[go_sem,c1,c4,c5]);all_goals ((try refine BX ?_);(try simp only[go_sem,c1,c4,c5]);try first | rfl | exact ⟨rfl,rfl⟩ | (simp;done))
 simp only[c5,Ak] at hr;obtain ⟨x6,g7,hr⟩:=bE hr;try simp only[go_sem,c1,c4,c5]
 refine Cq (IL a0.B6 a1.B6 _ g7) ?_;cases c8:x6
 . simp only[c8,Aj] at hr;cases hr;(try simp only[go_sem,c5,c8]);all_goals ((try refine BX ?_);(try simp only[go_sem,c5,c8]);try first | rfl | exact ⟨rfl,rfl⟩ | (simp;done))
 simp only[c8,Ak] at hr;cases c9:decide (a0.cq=a1.cq)&&(decide (a0.ca=a1.ca)&&(decide (a0.cd=a1.cd)&&decide (a0.cp=a1.cp)))
 . simp only[c9,Aj] at hr;cases hr;(try simp only[go_sem,c5,c8,c9]);all_goals ((try refine BX ?_);(try simp only[go_sem,c5,c8,c9]);try first | rfl | exact ⟨rfl,rfl⟩ | (simp;done))
 simp only[c9,Ak] at hr;obtain ⟨e15,g16,hr⟩:=bE hr;try simp only[go_sem,c5,c8,c9]
 refine CP g16 (λ q:Int=>⟨[(2,.ptr 2 0),(3,.ptr 3 0),(5,.p (.int .i64 q))],[(2,.box [.p (.sl (CX a0.blocks)),.p (.sl (Cj a0.next)),.p (.sl (CR a0.spurs)),.p (.sl (BZ a0.B6)),.p (.int .i64 a0.cq),.p (.int .i64 a0.ca),.p (.int .i64 a0.cd),.p (.int .i64 a0.cp)]),(3,.box [.p (.sl (CX a1.blocks)),.p (.sl (Cj a1.next)),.p (.sl (CR a1.spurs)),.p (.sl (BZ a1.B6)),.p (.int .i64 a1.cq),.p (.int .i64 a1.ca),.p (.int .i64 a1.cd),.p (.int .i64 a1.cp)])],82⟩) ((BW (by simp[ZF,ZE,c4,c8]))) ?_;rintro v11 m14 C7 Uo;rw[JB.eq_1] at C7;cases Ik:decide (v11<((a0.blocks.length:Nat):Int))
 . simp only[Ik,Aj] at C7;simp only[Aa,B0] at C7;cases C7;(try dsimp only at hr);obtain ⟨e23,g24,hr⟩:=bE hr;(try simp only[go_sem,Ik]);refine CP g24 (λ q:Int=>⟨[(2,.ptr 2 0),(3,.ptr 3 0),(6,.p (.int .i64 q))],[(2,.box [.p (.sl (CX a0.blocks)),.p (.sl (Cj a0.next)),.p (.sl (CR a0.spurs)),.p (.sl (BZ a0.B6)),.p (.int .i64 a0.cq),.p (.int .i64 a0.ca),.p (.int .i64 a0.cd),.p (.int .i64 a0.cp)]),(3,.box [.p (.sl (CX a1.blocks)),.p (.sl (Cj a1.next)),.p (.sl (CR a1.spurs)),.p (.sl (BZ a1.B6)),.p (.int .i64 a1.cq),.p (.int .i64 a1.ca),.p (.int .i64 a1.cd),.p (.int .i64 a1.cp)])],82⟩) ((BW (by simp[ZF,ZE,c4,c8]))) ?_;rintro Sa m22 Pr Bb2;rw[JC.eq_1] at Pr;cases c25:decide (Sa<((a0.spurs.length:Nat):Int))
   . simp only[c25,Aj] at Pr;simp only[Aa,B0] at Pr;cases Pr;(try dsimp only at hr);cases hr;(try simp only[go_sem,c25]);all_goals ((try refine BX ?_);(try simp only[go_sem,c25]);try first | rfl | exact ⟨rfl,rfl⟩ | (simp;done))
   simp only[c25,Ak] at Pr;(try simp only[go_sem,c25]);refine CG mixed (p:=[(0,0),(1,0),(2,0),(3,0),(4,0),(5,0),(6,0),(7,0),(8,0),(9,0),(10,0)]) (by kernel_rfl) (by simp[C8,get]) ?_;obtain ⟨MC,g27,Pr⟩:=bK Pr;have f28:=B8 g27;have f29:(CR a0.spurs).getD (Int.toNat Sa) []=[(.str MC.name),(.bool MC.CE),(.int .i64 MC.HL),(.int .i64 MC.out),(.int .i64 MC.Cs),(.int .i64 MC.base)]:=B9 _ g27;obtain ⟨Q3,g31,Pr⟩:=bK Pr;have f32:=B8 g31;have f33:(CR a1.spurs).getD (Int.toNat Sa) []=[(.str Q3.name),(.bool Q3.CE),(.int .i64 Q3.HL),(.int .i64 Q3.out),(.int .i64 Q3.Cs),(.int .i64 Q3.base)]:=B9 _ g31;cases c34:decide (MC.name=Q3.name)&&((MC.CE==Q3.CE)&&(decide (MC.HL=Q3.HL)&&(decide (MC.out=Q3.out)&&(decide (MC.Cs=Q3.Cs)&&decide (MC.base=Q3.base)))))
   . simp only[c34,Aj] at Pr;simp only[Aa,B0] at Pr;cases Pr;(try dsimp only at hr);cases hr;(try simp only[go_sem,f28,f29,f32,f33,c34]);all_goals ((try refine BX ?_);(try simp only[go_sem,f28,f29,f32,f33,c34]);try first | rfl | exact ⟨rfl,rfl⟩ | (simp;done))
   simp only[c34,Ak] at Pr;simp only[Aa,B4] at Pr;(try simp only[go_sem,f28,f29,f32,f33,c34]);exact Bb2 (IntKind.i64.wrap (Sa+1)) _ Pr ((BW (by simp[ZF,ZE,c4,c8])))
 simp only[Ik,Ak] at C7;try simp only[go_sem,Ik]
 refine CG mixed (p:=[(0,0),(1,0),(2,0),(3,0),(4,0),(5,0),(6,0),(7,0),(8,0),(9,0),(10,0)]) (by kernel_rfl) (by simp[C8,get]) ?_;obtain ⟨Tg,g38,C7⟩:=bK C7;have f39:=B8 g38;have f40:(CX a0.blocks).getD (Int.toNat v11) []=[(.str Tg.name),(.int .i64 Tg.x),(.int .i64 Tg.y)]:=B9 _ g38;obtain ⟨x41,g42,C7⟩:=bK C7;have f43:=B8 g42;have f44:(CX a1.blocks).getD (Int.toNat v11) []=[(.str x41.name),(.int .i64 x41.x),(.int .i64 x41.y)]:=B9 _ g42;cases c45:decide (Tg.name=x41.name)&&(decide (Tg.x=x41.x)&&decide (Tg.y=x41.y))
 . simp only[c45,Aj] at C7;simp only[Aa,B0] at C7;cases C7;(try dsimp only at hr);cases hr;(try simp only[go_sem,f39,f40,f43,f44,c45]);all_goals ((try refine BX ?_);(try simp only[go_sem,f39,f40,f43,f44,c45]);try first | rfl | exact ⟨rfl,rfl⟩ | (simp;done))
 simp only[c45,Ak] at C7;simp only[Aa,B4] at C7;try simp only[go_sem,f39,f40,f43,f44,c45]
 exact Uo (IntKind.i64.wrap (v11+1)) _ C7 ((BW (by simp[ZF,ZE,c4,c8])))
def C5(a0:Int)(a1:Int)(a2:Int):Option (Bool):=
 cond (decide (a1<=a0)) (some (decide (a0<=a2))) (some false)
theorem Dg(a0:Int)(a1:Int)(a2:Int)(r:Bool)(hr:C5 a0 a1 a2=some r):
   B2 prog 40 [.p (.int .i64 a0),.p (.int .i64 a1),.p (.int .i64 a2)] [] λ h d=>h=[]/\d= .p (.bool r):=by
 refine B1 func40 rfl p6 (by simp[Tryz.f40]) ?_;unfold C5 at hr;cases c1:decide (a1<=a0)
 . simp only[c1,Aj] at hr;cases hr;(try simp only[go_sem,c1]);all_goals ((try refine BX ?_);(try simp only[go_sem,c1]);try first | rfl | exact ⟨rfl,rfl⟩ | (simp;done))
 simp only[c1,Ak] at hr;cases hr;try simp only[go_sem,c1]
 all_goals ((try refine BX ?_);(try simp only[go_sem,c1]);try first | rfl | exact ⟨rfl,rfl⟩ | (simp;done))
def D5(a0:Aag):Option (Bool):=
 Option.bind (C5 a0.cq 1 8) λ x1=>cond x1 (Option.bind (C5 a0.ca 0 4) λ x4=>cond x4 (Option.bind (C5 a0.cd 0 3) λ x7=>cond x7 (Option.bind (C5 a0.cp 1 16) λ Tw=>some Tw) (some false)) (some false)) (some false)
theorem LL(a0:Aag)(r:Bool)(hr:D5 a0=some r):
   B2 prog 41 [.agg [.p (.int .i64 a0.cq),.p (.int .i64 a0.ca),.p (.int .i64 a0.cd),.p (.int .i64 a0.cp)]] [] λ h d=>h=[]/\d= .p (.bool r):=by
 refine B1 func41 rfl p5 (by simp[Tryz.f41]) ?_;unfold D5 at hr;obtain ⟨x1,g2,hr⟩:=bE hr;try simp only[go_sem]
 refine Cq (Dg a0.cq 1 8 _ g2) ?_;cases c3:x1
 . simp only[c3,Aj] at hr;cases hr;(try simp only[go_sem,c3]);all_goals ((try refine BX ?_);(try simp only[go_sem,c3]);try first | rfl | exact ⟨rfl,rfl⟩ | (simp;done))
 simp only[c3,Ak] at hr;obtain ⟨x4,g5,hr⟩:=bE hr;try simp only[go_sem,c3]
 refine Cq (Dg a0.ca 0 4 _ g5) ?_;cases c6:x4
 . simp only[c6,Aj] at hr;cases hr;(try simp only[go_sem,c3,c6]);all_goals ((try refine BX ?_);(try simp only[go_sem,c3,c6]);try first | rfl | exact ⟨rfl,rfl⟩ | (simp;done))
 simp only[c6,Ak] at hr;obtain ⟨x7,g8,hr⟩:=bE hr;try simp only[go_sem,c3,c6]
 refine Cq (Dg a0.cd 0 3 _ g8) ?_;cases c9:x7
 . simp only[c9,Aj] at hr;cases hr;(try simp only[go_sem,c6,c9]);all_goals ((try refine BX ?_);(try simp only[go_sem,c6,c9]);try first | rfl | exact ⟨rfl,rfl⟩ | (simp;done))
 simp only[c9,Ak] at hr;obtain ⟨Tw,g11,hr⟩:=bE hr;try simp only[go_sem,c6,c9]
 refine Cq (Dg a0.cp 1 16 _ g11) ?_;cases hr;try simp only[go_sem,c9]
 all_goals ((try refine BX ?_);(try simp only[go_sem,c9]);try first | rfl | exact ⟨rfl,rfl⟩ | (simp;done))
def Ef(a0:List Int)(a1:Int)(a2:Int):Int×Int->Option ((Int×Int)⊕((Int×Int)⊕Bool))
 | (v3,v4)=>cond (decide (v3<((a0.length:Nat):Int))) (Option.bind (CK a0 v3) λ Du=>cond (decide (Du<=v4)) (some (Sum.inr (.inr ((false:Bool))))) (cond (decide (a2<=Du)) (some (Sum.inr (.inr ((false:Bool))))) (cond (decide (Du=a1)) (some (Sum.inr (.inr ((false:Bool))))) (some (Sum.inl ((IntKind.i64.wrap (v3+1)),Du)))))) (some (Sum.inr (.inl (v3,v4))))
def Ex(a0:List Int)(a1:Int)(a2:Int):Option (Bool):=
 Option.bind (CC (Ef a0 a1 a2) (0,(-1))) (λ | .inl (Vx,Sa)=>some (decide (((a0.length:Nat):Int)<=4)) | .inr (r20)=>some r20)
theorem M8(a0:List Int)(a1:Int)(a2:Int)(r:Bool)(hr:Ex a0 a1 a2=some r):
   B2 prog 43 [.p (.sl (BZ a0)),.p (.int .i64 a1),.p (.int .i64 a2)] [] λ h d=>h=[]/\d= .p (.bool r):=by
 refine B1 func43 rfl Ao0 (by simp[Tryz.f43]) ?_;unfold Ex at hr;obtain ⟨e8,g9,hr⟩:=bE hr;try simp only[go_sem]
 refine CP g9 (λ q:Int×Int=>⟨[(0,.p (.sl (BZ a0))),(1,.p (.int .i64 a1)),(2,.p (.int .i64 a2)),(7,.p (.int .i64 q.2)),(10,.p (.sl (BZ a0))),(11,.p (.int .i64 ((a0.length:Nat):Int))),(12,.p (.int .i64 q.1))],[],34⟩) ((BW (by simp[ZF,ZE]))) ?_;rintro ⟨v3,v4⟩ m7 FQ ih6;rw[Ef.eq_1] at FQ;cases HY:decide (v3<((a0.length:Nat):Int))
 . simp only[HY,Aj] at FQ;simp only[Aa,B0] at FQ;cases FQ;(try dsimp only at hr);cases hr;(try simp only[go_sem,HY]);all_goals ((try refine BX ?_);(try simp only[go_sem,HY]);try first | rfl | exact ⟨rfl,rfl⟩ | (simp;done))
 simp only[HY,Ak] at FQ;obtain ⟨Du,g12,FQ⟩:=bK FQ;have f13:=B8 g12;have f14:(BZ a0).getD (Int.toNat v3) []=[(.int .i64 Du)]:=B9 _ g12;cases HW:decide (Du<=v4)
 . simp only[HW,Aj] at FQ;cases IY:decide (a2<=Du)
   . simp only[IY,Aj] at FQ;cases Ik:decide (Du=a1)
     . simp only[Ik,Aj] at FQ;simp only[Aa,B4] at FQ;(try simp only[go_sem,HY,f13,f14,HW,IY,Ik]);exact ih6 ((IntKind.i64.wrap (v3+1)),Du) _ FQ ((BW (by simp[ZF,ZE])))
     simp only[Ik,Ak] at FQ;simp only[Aa,B0] at FQ;cases FQ;(try dsimp only at hr);cases hr;(try simp only[go_sem,HY,f13,f14,HW,IY,Ik]);all_goals ((try refine BX ?_);(try simp only[go_sem,HY,f13,f14,HW,IY,Ik]);try first | rfl | exact ⟨rfl,rfl⟩ | (simp;done))
   simp only[IY,Ak] at FQ;simp only[Aa,B0] at FQ;cases FQ;(try dsimp only at hr);cases hr;(try simp only[go_sem,HY,f13,f14,HW,IY]);all_goals ((try refine BX ?_);(try simp only[go_sem,HY,f13,f14,HW,IY]);try first | rfl | exact ⟨rfl,rfl⟩ | (simp;done))
 simp only[HW,Ak] at FQ;simp only[Aa,B0] at FQ;cases FQ;try dsimp only at hr
 cases hr;try simp only[go_sem,HY,f13,f14,HW]
 all_goals ((try refine BX ?_);(try simp only[go_sem,HY,f13,f14,HW]);try first | rfl | exact ⟨rfl,rfl⟩ | (simp;done))
def EL(a0:Nt):(List (Int×Bool))×Int->Option (((List (Int×Bool))×Int)⊕(((List (Int×Bool))×Int)))
 | (v37,v38)=>cond (decide (v38<((a0.B6.length:Nat):Int))) (Option.bind (CK a0.B6 v38) λ x45=>some (Sum.inl ((Mz v37 x45),(IntKind.i64.wrap (v38+1))))) (some (Sum.inr (v37,v38)))
def Eb(a0:Nt):(List (Int×Bool))×Bool×Int->Option (((List (Int×Bool))×Bool×Int)⊕(((List (Int×Bool))×Bool×Int)))
 | (v54,v55,v56)=>cond (decide (v56<((a0.B6.length:Nat):Int))) (Option.bind (CK a0.B6 v56) λ J3=>cond v55 (some (Sum.inl ((Mz v54 J3),((Je v54 J3).getD false),(IntKind.i64.wrap (v56+1))))) (some (Sum.inl ((Mz v54 J3),false,(IntKind.i64.wrap (v56+1)))))) (some (Sum.inr (v54,v55,v56)))
def EK(Lx:Da):(List (Int×Bool))×Int×Int->Option (((List (Int×Bool))×Int×Int)⊕(((List (Int×Bool))×Int×Int)))
 | (v91,v92,v93)=>cond (decide (v92<Lx.Cs)) (cond Lx.CE (some (Sum.inl ((Rq v91 v93 true),(IntKind.i64.wrap (v92+1)),(IntKind.i64.wrap (v93+1))))) (some (Sum.inl (v91,(IntKind.i64.wrap (v92+1)),(IntKind.i64.wrap (v93+1)))))) (some (Sum.inr (v91,v92,v93)))
def EJ(a0:Nt):(List (List UInt8×Int))×(List (Int×Bool))×Int×Int->Option (((List (List UInt8×Int))×(List (Int×Bool))×Int×Int)⊕(((List (List UInt8×Int))×(List (Int×Bool))×Int×Int)⊕Bool))
 | (v24,Th,v26,v27)=>cond (decide (v27<((a0.spurs.length:Nat):Int))) (Option.bind (CK a0.spurs v27) λ Lx=>Option.bind (QI Lx.name) λ x75=>cond x75 (Option.bind (C5 Lx.HL 0 (IntKind.i64.wrap (((a0.blocks.length:Nat):Int) - 1))) λ x78=>cond x78 (Option.bind (C5 Lx.out 0 (IntKind.i64.wrap (((a0.blocks.length:Nat):Int) - 1))) λ x81=>cond x81 (Option.bind (C5 Lx.Cs 1 4) λ x84=>cond x84 (cond (decide (Lx.base=v26)) (Option.bind (CC (EK Lx) (Th,0,v26)) (λ (Ba3,v102,Ba2)=>some (Sum.inl ((IJ v24 Lx.name (IntKind.i64.wrap (((Es v24 Lx.name).getD 0)+1))),Ba3,Ba2,(IntKind.i64.wrap (v27+1)))))) (some (Sum.inr (.inr ((false:Bool)))))) (some (Sum.inr (.inr ((false:Bool)))))) (some (Sum.inr (.inr ((false:Bool)))))) (some (Sum.inr (.inr ((false:Bool)))))) (some (Sum.inr (.inr ((false:Bool)))))) (some (Sum.inr (.inl (v24,Th,v26,v27))))
def EI(a0:Nt):(List (List UInt8×Int))×Int->Option (((List (List UInt8×Int))×Int)⊕(((List (List UInt8×Int))×Int)⊕Bool))
 | (v12,Mf)=>cond (decide (Mf<((a0.blocks.length:Nat):Int))) (Option.bind (CK a0.blocks Mf) λ P0=>Option.bind (QI P0.name) λ Atx=>cond Atx (Option.bind (C5 P0.x (-9999) 9999) λ Aji=>cond Aji (Option.bind (C5 P0.y (-9999) 9999) λ Atw=>cond Atw (Option.bind (CK a0.next Mf) λ Aqf=>Option.bind (Ex Aqf Mf ((a0.blocks.length:Nat):Int)) λ Atv=>cond Atv (some (Sum.inl ((IJ v12 P0.name (IntKind.i64.wrap (((Es v12 P0.name).getD 0)+1))),(IntKind.i64.wrap (Mf+1))))) (some (Sum.inr (.inr ((false:Bool)))))) (some (Sum.inr (.inr ((false:Bool)))))) (some (Sum.inr (.inr ((false:Bool)))))) (some (Sum.inr (.inr ((false:Bool)))))) (some (Sum.inr (.inl (v12,Mf))))
def Gm(a0:Nt):Option (Bool):=
 Option.bind (C5 ((a0.blocks.length:Nat):Int) 1 24) λ x1=>cond x1 (cond (decide (((a0.next.length:Nat):Int)=((a0.blocks.length:Nat):Int))) (cond (decide (6<((a0.spurs.length:Nat):Int))) (some false) (cond (decide (8<((a0.B6.length:Nat):Int))) (some false) (Option.bind (D5 (⟨a0.cq,a0.ca,a0.cd,a0.cp⟩:Aag)) λ x7=>cond x7 (Option.bind (CC (EI a0) ([],0)) (λ | .inl (Azw,v167)=>Option.bind (CC (EJ a0) (Azw,[],((a0.blocks.length:Nat):Int),0)) (λ | .inl (Azt,Auc,v254,v255)=>cond (decide (0<((Auc.length:Nat):Int))) (Option.bind (CC (Eb a0) (Auc,decide (((Azt.length:Nat):Int)=(IntKind.i64.wrap (((a0.blocks.length:Nat):Int)+((a0.spurs.length:Nat):Int)))),0)) (λ (v290,Azs,v292)=>some Azs)) (Option.bind (CC (EL a0) (Auc,0)) (λ (v271,v272)=>some false)) | .inr (Bap)=>some Bap) | .inr (Bao)=>some Bao)) (some false)))) (some false)) (some false)
theorem Rw(a0:Nt)(r:Bool)(hr:Gm a0=some r):
   B2 prog 19 [.agg [.p (.sl (CX a0.blocks)),.p (.sl (Cj a0.next)),.p (.sl (CR a0.spurs)),.p (.sl (BZ a0.B6)),.p (.int .i64 a0.cq),.p (.int .i64 a0.ca),.p (.int .i64 a0.cd),.p (.int .i64 a0.cp)]] [] λ h d=>h=[]/\d= .p (.bool r):=by
 refine B1 func19 rfl Aoh (by simp[Tryz.f19]) ?_;unfold Gm at hr;obtain ⟨x1,g2,hr⟩:=bE hr;try simp only[go_sem]
 refine Cq (Dg ((a0.blocks.length:Nat):Int) 1 24 _ g2) ?_;cases c3:x1
 . simp only[c3,Aj] at hr;cases hr;(try simp only[go_sem,c3]);all_goals ((try refine BX ?_);(try simp only[go_sem,c3]);try first | rfl | exact ⟨rfl,rfl⟩ | (simp;done))
 simp only[c3,Ak] at hr;cases c4:decide (((a0.next.length:Nat):Int)=((a0.blocks.length:Nat):Int))
 . simp only[c4,Aj] at hr;cases hr;(try simp only[go_sem,c3,c4]);all_goals ((try refine BX ?_);(try simp only[go_sem,c3,c4]);try first | rfl | exact ⟨rfl,rfl⟩ | (simp;done))
 simp only[c4,Ak] at hr;cases c5:decide (6<((a0.spurs.length:Nat):Int))
 . simp only[c5,Aj] at hr;cases c6:decide (8<((a0.B6.length:Nat):Int))
   . simp only[c6,Aj] at hr;obtain ⟨x7,g8,hr⟩:=bE hr;(try simp only[go_sem,c3,c4,c5,c6]);refine Cq (LL (⟨a0.cq,a0.ca,a0.cd,a0.cp⟩:Aag) _ g8) ?_;cases c9:x7
     . simp only[c9,Aj] at hr;cases hr;(try simp only[go_sem,c6,c9]);all_goals ((try refine BX ?_);(try simp only[go_sem,c6,c9]);try first | rfl | exact ⟨rfl,rfl⟩ | (simp;done))
     simp only[c9,Ak] at hr;obtain ⟨e17,g18,hr⟩:=bE hr;(try simp only[go_sem,c6,c9]);refine CP g18 (λ q:(List (List UInt8×Int))×Int=>⟨[(1,.ptr 1 0),(3,.mv 45),(47,.p (.sl (CX a0.blocks))),(48,.p (.int .i64 ((a0.blocks.length:Nat):Int))),(49,.p (.int .i64 q.2))],[(1,.box [.p (.sl (CX a0.blocks)),.p (.sl (Cj a0.next)),.p (.sl (CR a0.spurs)),.p (.sl (BZ a0.B6)),.p (.int .i64 a0.cq),.p (.int .i64 a0.ca),.p (.int .i64 a0.cd),.p (.int .i64 a0.cp)]),(45,.mp (KD q.1))],185⟩) ((BW (by simp[ZF,ZE,c3,c9]))) ?_;rintro ⟨v12,Mf⟩ m16 EA Av0;rw[EI.eq_1] at EA;cases Jg:decide (Mf<((a0.blocks.length:Nat):Int))
     . simp only[Jg,Aj] at EA;simp only[Aa,B0] at EA;cases EA;(try dsimp only at hr);obtain ⟨e31,g32,hr⟩:=bE hr;(try simp only[go_sem,Jg]);refine CP g32 (λ q:(List (List UInt8×Int))×(List (Int×Bool))×Int×Int=>⟨[(1,.ptr 1 0),(3,.mv 45),(6,.p (.int .i64 q.2.2.1)),(7,.mv 92),(94,.p (.sl (CR a0.spurs))),(95,.p (.int .i64 ((a0.spurs.length:Nat):Int))),(96,.p (.int .i64 q.2.2.2))],[(1,.box [.p (.sl (CX a0.blocks)),.p (.sl (Cj a0.next)),.p (.sl (CR a0.spurs)),.p (.sl (BZ a0.B6)),.p (.int .i64 a0.cq),.p (.int .i64 a0.ca),.p (.int .i64 a0.cd),.p (.int .i64 a0.cp)]),(45,.mp (KD q.1)),(92,.mp (X7 q.2.1))],185⟩) ((BW (by simp[ZF,ZE,c3,c9]))) ?_;rintro ⟨v24,Th,v26,v27⟩ m30 Ft Bb1;rw[EJ.eq_1] at Ft;cases Wf:decide (v27<((a0.spurs.length:Nat):Int))
       . simp only[Wf,Aj] at Ft;simp only[Aa,B0] at Ft;cases Ft;(try dsimp only at hr);(try simp only[go_sem,Wf]);refine XF rfl rfl rfl rfl Alg rfl rfl ?_;cases c34:decide (0<((Th.length:Nat):Int))
         . simp only[c34,Aj] at hr;obtain ⟨e42,g43,hr⟩:=bE hr;(try simp only[go_sem,c34]);refine CP g43 (λ q:(List (Int×Bool))×Int=>⟨[(7,.mv 92),(10,.p (.bool false)),(169,.p (.sl (BZ a0.B6))),(170,.p (.int .i64 ((a0.B6.length:Nat):Int))),(171,.p (.int .i64 q.2))],[(92,.mp (X7 q.1))],185⟩) ((BW (by simp[ZF,ZE,c3,c9]))) ?_;rintro ⟨v37,v38⟩ m41 Yn Bb0;rw[EL.eq_1] at Yn;cases c44:decide (v38<((a0.B6.length:Nat):Int))
           . simp only[c44,Aj] at Yn;simp only[Aa,B0] at Yn;cases Yn;(try dsimp only at hr);cases hr;(try simp only[go_sem,c44]);all_goals ((try refine BX ?_);(try simp only[go_sem,c44]);try first | rfl | exact ⟨rfl,rfl⟩ | (simp;done))
           simp only[c44,Ak] at Yn;obtain ⟨x45,g46,Yn⟩:=bK Yn;have f47:=B8 g46;have f48:(BZ a0.B6).getD (Int.toNat v38) []=[(.int .i64 x45)]:=B9 _ g46;(try simp only[go_sem,c44,f47,f48]);refine R7 rfl rfl rfl rfl Alg rfl rfl rfl rfl (Uc _ _) ?_;simp only[Aa,B4] at Yn;(try simp only[go_sem]);exact Bb0 ((Mz v37 x45),(IntKind.i64.wrap (v38+1))) _ Yn ((BW (by simp[ZF,ZE,c3,c9])))
         simp only[c34,Ak] at hr;(try simp only[go_sem,c34]);refine XF rfl rfl rfl rfl Ax9 rfl rfl ?_;obtain ⟨e60,g61,hr⟩:=bE hr;(try simp only[go_sem,c34]);refine CP g61 (λ q:(List (Int×Bool))×Bool×Int=>⟨[(7,.mv 92),(10,.p (.bool q.2.1)),(169,.p (.sl (BZ a0.B6))),(170,.p (.int .i64 ((a0.B6.length:Nat):Int))),(171,.p (.int .i64 q.2.2))],[(92,.mp (X7 q.1))],185⟩) ((BW (by simp[ZF,ZE,c3,c9]))) ?_;rintro ⟨v54,v55,v56⟩ m59 RO Axc;rw[Eb.eq_1] at RO;cases c62:decide (v56<((a0.B6.length:Nat):Int))
         . simp only[c62,Aj] at RO;simp only[Aa,B0] at RO;cases RO;(try dsimp only at hr);cases hr;(try simp only[go_sem,c62]);all_goals ((try refine BX ?_);(try simp only[go_sem,c62]);try first | rfl | exact ⟨rfl,rfl⟩ | (simp;done))
         simp only[c62,Ak] at RO;obtain ⟨J3,g64,RO⟩:=bK RO;have f65:=B8 g64;have f66:(BZ a0.B6).getD (Int.toNat v56) []=[(.int .i64 J3)]:=B9 _ g64;cases c67:v55
         . simp only[c67,Aj] at RO;(try simp only[go_sem,c62,f65,f66,c67]);refine R7 rfl rfl rfl rfl Alg rfl rfl rfl rfl (Uc _ _) ?_;simp only[Aa,B4] at RO;(try simp only[go_sem]);exact Axc ((Mz v54 J3),false,(IntKind.i64.wrap (v56+1))) _ RO ((BW (by simp[ZF,ZE,c3,c9,c67])))
         simp only[c67,Ak] at RO;(try simp only[go_sem,c62,f65,f66,c67]);refine R7 rfl rfl rfl rfl Alg rfl rfl rfl rfl (Uc _ _) ?_;simp only[Aa,B4] at RO;(try simp only[go_sem]);exact Axc ((Mz v54 J3),((Je v54 J3).getD false),(IntKind.i64.wrap (v56+1))) _ RO ((BW (by simp[ZF,ZE,c3,c9,c67])))
       simp only[Wf,Ak] at Ft;obtain ⟨Lx,g72,Ft⟩:=bK Ft;have f73:=B8 g72;have f74:(CR a0.spurs).getD (Int.toNat v27) []=[(.str Lx.name),(.bool Lx.CE),(.int .i64 Lx.HL),(.int .i64 Lx.out),(.int .i64 Lx.Cs),(.int .i64 Lx.base)]:=B9 _ g72;obtain ⟨x75,g76,Ft⟩:=bK Ft;(try simp only[go_sem,Wf,f73,f74]);refine Cq (W9 Lx.name _ g76) ?_;cases c77:x75
       . simp only[c77,Aj] at Ft;simp only[Aa,B0] at Ft;cases Ft;(try dsimp only at hr);cases hr;(try simp only[go_sem,c77]);all_goals ((try refine BX ?_);(try simp only[go_sem,c77]);try first | rfl | exact ⟨rfl,rfl⟩ | (simp;done))
       simp only[c77,Ak] at Ft;obtain ⟨x78,g79,Ft⟩:=bK Ft;(try simp only[go_sem,c77]);refine Cq (Dg Lx.HL 0 (IntKind.i64.wrap (((a0.blocks.length:Nat):Int) - 1)) _ g79) ?_;cases Y3:x78
       . simp only[Y3,Aj] at Ft;simp only[Aa,B0] at Ft;cases Ft;(try dsimp only at hr);cases hr;(try simp only[go_sem,c77,Y3]);all_goals ((try refine BX ?_);(try simp only[go_sem,c77,Y3]);try first | rfl | exact ⟨rfl,rfl⟩ | (simp;done))
       simp only[Y3,Ak] at Ft;obtain ⟨x81,g82,Ft⟩:=bK Ft;(try simp only[go_sem,c77,Y3]);refine Cq (Dg Lx.out 0 (IntKind.i64.wrap (((a0.blocks.length:Nat):Int) - 1)) _ g82) ?_;cases XB:x81
       . simp only[XB,Aj] at Ft;simp only[Aa,B0] at Ft;cases Ft;(try dsimp only at hr);cases hr;(try simp only[go_sem,Y3,XB]);all_goals ((try refine BX ?_);(try simp only[go_sem,Y3,XB]);try first | rfl | exact ⟨rfl,rfl⟩ | (simp;done))
       simp only[XB,Ak] at Ft;obtain ⟨x84,g85,Ft⟩:=bK Ft;(try simp only[go_sem,Y3,XB]);refine Cq (Dg Lx.Cs 1 4 _ g85) ?_;cases c86:x84
       . simp only[c86,Aj] at Ft;simp only[Aa,B0] at Ft;cases Ft;(try dsimp only at hr);cases hr;(try simp only[go_sem,XB,c86]);all_goals ((try refine BX ?_);(try simp only[go_sem,XB,c86]);try first | rfl | exact ⟨rfl,rfl⟩ | (simp;done))
       simp only[c86,Ak] at Ft;cases c87:decide (Lx.base=v26)
       . simp only[c87,Aj] at Ft;simp only[Aa,B0] at Ft;cases Ft;(try dsimp only at hr);cases hr;(try simp only[go_sem,XB,c86,c87]);all_goals ((try refine BX ?_);(try simp only[go_sem,XB,c86,c87]);try first | rfl | exact ⟨rfl,rfl⟩ | (simp;done))
       simp only[c87,Ak] at Ft;obtain ⟨e97,g98,Ft⟩:=bK Ft;(try simp only[go_sem,XB,c86,c87]);refine CP g98 (λ q:(List (Int×Bool))×Int×Int=>⟨[(1,.ptr 1 0),(3,.mv 45),(6,.p (.int .i64 q.2.2)),(7,.mv 92),(9,.ptr 9 0),(94,.p (.sl (CR a0.spurs))),(95,.p (.int .i64 ((a0.spurs.length:Nat):Int))),(96,.p (.int .i64 v27)),(142,.p (.int .i64 Lx.Cs)),(143,.p (.int .i64 q.2.1))],[(1,.box [.p (.sl (CX a0.blocks)),.p (.sl (Cj a0.next)),.p (.sl (CR a0.spurs)),.p (.sl (BZ a0.B6)),.p (.int .i64 a0.cq),.p (.int .i64 a0.ca),.p (.int .i64 a0.cd),.p (.int .i64 a0.cp)]),(9,.box [.p (.str Lx.name),.p (.bool Lx.CE),.p (.int .i64 Lx.HL),.p (.int .i64 Lx.out),.p (.int .i64 Lx.Cs),.p (.int .i64 Lx.base)]),(45,.mp (KD (IJ v24 Lx.name (IntKind.i64.wrap (((Es v24 Lx.name).getD 0)+1))))),(92,.mp (X7 q.1))],185⟩) ((BW (by simp[ZF,ZE,c3,c9,c77,Y3,XB,c86]))) ?_;rintro ⟨v91,v92,v93⟩ m96 UC Axb;rw[EK.eq_1] at UC;cases c99:decide (v92<Lx.Cs)
       . simp only[c99,Aj] at UC;simp only[Aa,B0] at UC;cases UC;(try dsimp only at Ft);simp only[Aa,B4] at Ft;(try simp only[go_sem,c99]);exact Bb1 ((IJ v24 Lx.name (IntKind.i64.wrap (((Es v24 Lx.name).getD 0)+1))),v91,v93,(IntKind.i64.wrap (v27+1))) _ Ft ((BW (by simp[ZF,ZE,c3,c9,c77,Y3,XB,c86])))
       simp only[c99,Ak] at UC;cases Aj0:Lx.CE
       . simp only[Aj0,Aj] at UC;simp only[Aa,B4] at UC;(try simp only[go_sem,c99,Aj0]);exact Axb (v91,(IntKind.i64.wrap (v92+1)),(IntKind.i64.wrap (v93+1))) _ UC ((BW (by simp[ZF,ZE,c3,c9,c77,Y3,XB,c86,Aj0])))
       simp only[Aj0,Ak] at UC;simp only[Aa,B4] at UC;(try simp only[go_sem,c99,Aj0]);exact Axb ((Rq v91 v93 true),(IntKind.i64.wrap (v92+1)),(IntKind.i64.wrap (v93+1))) _ UC ((BW (by simp[ZF,ZE,c3,c9,c77,Y3,XB,c86,Aj0])))
     simp only[Jg,Ak] at EA;obtain ⟨P0,Ays,EA⟩:=bK EA;have f148:=B8 Ays;have f149:(CX a0.blocks).getD (Int.toNat Mf) []=[(.str P0.name),(.int .i64 P0.x),(.int .i64 P0.y)]:=B9 _ Ays;(try simp only[go_sem,Jg,f148,f149]);refine CG mixed (p:=[(0,0),(1,0),(2,2),(3,0),(4,0),(5,0),(6,0),(7,2),(8,0),(9,0),(10,0),(11,0),(12,0),(13,2),(14,0),(15,0),(16,0),(17,0),(18,0),(19,0),(20,0),(21,0),(22,0),(23,0),(24,0),(25,0),(26,2),(27,0),(28,0)]) (by kernel_rfl) (by simp[C8,get]) ?_;obtain ⟨Atx,Bcj,EA⟩:=bK EA;(try simp only[go_sem]);refine Gq (W9 P0.name _ Bcj) ?_;cases YH:Atx
     . simp only[YH,Aj] at EA;simp only[Aa,B0] at EA;cases EA;(try dsimp only at hr);cases hr;(try simp only[go_sem,YH]);all_goals ((try refine BX ?_);(try simp only[go_sem,YH]);try first | rfl | exact ⟨rfl,rfl⟩ | (simp;done))
     simp only[YH,Ak] at EA;obtain ⟨Aji,As1,EA⟩:=bK EA;(try simp only[go_sem,YH]);refine Gq (Dg P0.x (-9999) 9999 _ As1) ?_;cases YG:Aji
     . simp only[YG,Aj] at EA;simp only[Aa,B0] at EA;cases EA;(try dsimp only at hr);cases hr;(try simp only[go_sem,YH,YG]);all_goals ((try refine BX ?_);(try simp only[go_sem,YH,YG]);try first | rfl | exact ⟨rfl,rfl⟩ | (simp;done))
     simp only[YG,Ak] at EA;obtain ⟨Atw,Bci,EA⟩:=bK EA;(try simp only[go_sem,YH,YG]);refine Gq (Dg P0.y (-9999) 9999 _ Bci) ?_;cases YF:Atw
     . simp only[YF,Aj] at EA;simp only[Aa,B0] at EA;cases EA;(try dsimp only at hr);cases hr;(try simp only[go_sem,YG,YF]);all_goals ((try refine BX ?_);(try simp only[go_sem,YG,YF]);try first | rfl | exact ⟨rfl,rfl⟩ | (simp;done))
     simp only[YF,Ak] at EA;obtain ⟨Aqf,Ayq,EA⟩:=bK EA;have f161:=B8 Ayq;have f162:(Cj a0.next).getD (Int.toNat Mf) []=[(.sl (BZ Aqf))]:=B9 _ Ayq;obtain ⟨Atv,Bch,EA⟩:=bK EA;(try simp only[go_sem,YG,YF,f161,f162]);refine Gq (M8 Aqf Mf ((a0.blocks.length:Nat):Int) _ Bch) ?_;cases Aix:Atv
     . simp only[Aix,Aj] at EA;simp only[Aa,B0] at EA;cases EA;(try dsimp only at hr);cases hr;(try simp only[go_sem,YF,Aix]);all_goals ((try refine BX ?_);(try simp only[go_sem,YF,Aix]);try first | rfl | exact ⟨rfl,rfl⟩ | (simp;done))
     simp only[Aix,Ak] at EA;simp only[Aa,B4] at EA;(try simp only[go_sem,YF,Aix]);exact Av0 ((IJ v12 P0.name (IntKind.i64.wrap (((Es v12 P0.name).getD 0)+1))),(IntKind.i64.wrap (Mf+1))) _ EA ((BW (by simp[ZF,ZE,c3,c9,YH,YG,YF,Aix])))
   simp only[c6,Ak] at hr;cases hr;(try simp only[go_sem,c3,c4,c5,c6]);all_goals ((try refine BX ?_);(try simp only[go_sem,c3,c4,c5,c6]);try first | rfl | exact ⟨rfl,rfl⟩ | (simp;done))
 simp only[c5,Ak] at hr;cases hr;try simp only[go_sem,c3,c4,c5]
 all_goals ((try refine BX ?_);(try simp only[go_sem,c3,c4,c5]);try first | rfl | exact ⟨rfl,rfl⟩ | (simp;done))
theorem Dk{σ ε:Type}{step:σ->Option (σ⊕ε)}(n:Nat)(S:Nat->σ)(out:ε)(h1:∀i,i<n->step (S i)=some (.inl (S (i+1))))(h2:step (S n)=some (.inr out)):CC step (S 0)=some out:=by
 have:=K1 n S out (λ _=>none) (λ i hi _=>h1 i hi) (λ _=>h2);rw[this];have:(List.range n).findSome? (λ _=>(none:Option ε))=none:=by rw[Bw];simp
 rw[this];rfl
theorem EM{σ ε:Type}{step:σ->Option (σ⊕ε)}(n:Nat)(S:Nat->σ)(out bad:ε)(Pw:Nat->Bool)
   (h1:∀i,i<n->(∀j,j<i->Pw j=true)->step (S i)=some (if Pw i=true then .inl (S (i+1)) else .inr bad)) (h2:(∀j,j<n->Pw j=true)->step (S n)=some (.inr out)):
   CC step (S 0)=some (if (∀j,j<n->Pw j=true) then out else bad):=by
 have h:=K1 n S out (λ i=>if Pw i=true then none else some bad)
   (λ i hi hj=>by
     rw[h1 i hi (λ j hj2=>by have:=hj j hj2;by_cases g:Pw j=true;exact g;simp[g] at this)];by_cases g:Pw i=true<;>simp[g])
   (λ hj=>h2 (λ j hj2=>by have:=hj j hj2;by_cases g:Pw j=true;exact g;simp[g] at this))
 rw[h];by_cases g:∀j,j<n->Pw j=true
 . rw[if_pos g];have:(List.range n).findSome? (λ i=>if Pw i=true then none else some bad)=none:=by
     rw[Bw];intro x hx;simp[g x (by simpa using hx)]
   rw[this];rfl
 . rw[if_neg g];cases hf:(List.range n).findSome? (λ i=>if Pw i=true then none else some bad) with
   | none=>
     exfalso;rw[Bw] at hf;refine g λ j hj=>?_;have:=hf j (by simpa using hj);by_cases g2:Pw j=true
     . exact g2
     . simp[g2] at this
   | some e=>
     obtain ⟨i,hi,he⟩:=List.exists_of_findSome?_eq_some hf;by_cases g2:Pw i=true
     . simp[g2] at he
     . simp[g2] at he;simp[he]
theorem Cr{α:Type}(l:List α)(i:Nat)(x:α)(h:i<l.length):CK l (i:Int)=some (l.getD i x):=by rw[GX];simp[List.getD,h]
theorem E1{i n:Nat}(h:i<n):decide ((i:Int)<((n:Nat):Int))=true:=Ag (by omega)
theorem FA{n:Nat}:decide ((n:Int)<((n:Nat):Int))=false:=Ah (by omega)
theorem P1(a lo hi:Int):C5 a lo hi=some (decide (lo<=a)&&decide (a<=hi)):=by
 unfold C5;cases decide (lo<=a)<;>rfl
theorem Az9:∀b1 b2 b3 b4:Bool,cond b1 (cond b2 (cond b3 (some b4) (some false)) (some false)) (some false)=some (b1&&(b2&&(b3&&b4))):=by decide
theorem VG(q a d p:Int):D5 ⟨q,a,d,p⟩=some (decide (IV q a d p)):=by
 unfold D5;simp only[P1,Aa];rw[Az9]
 congr 1
 rw[Bm];simp only[As,Au];exact ⟨λ ⟨⟨a1,a2⟩,⟨b1,b2⟩,⟨c1,c2⟩,d1,d2⟩=>⟨a1,a2,b1,b2,c1,c2,d1,d2⟩,λ ⟨a1,a2,b1,b2,c1,c2,d1,d2⟩=>⟨⟨a1,a2⟩,⟨b1,b2⟩,⟨c1,c2⟩,d1,d2⟩⟩
def Qo(l:List Int)(i:Nat):Int:=if i=0 then -1 else l.getD (i - 1) 0
theorem Zc(l:List Int)(i nb:Nat)(hl:l.length<=10000000):Ex l (i:Int) (nb:Int)=some (decide (Ip nb i l/\l.length<=4)):=by
 have h:=EM (step:=Ef l (i:Int) (nb:Int)) l.length (λ k=>((k:Int),Qo l k)) (Sum.inl ((l.length:Int),Qo l l.length)) (Sum.inr false) (λ k=>decide (JK nb i l k))
   (λ k hk hj=>by
     rw[Ef.eq_1,E1 hk,Ak,Cr l k 0 hk,Aa];have hw:=CA (show k<10000000 by omega);have Axu:0<k->0<=l.getD (k - 1) 0:=λ h=>by have:=Ad (hj (k - 1) (by omega));exact this.1
     have j7:Qo l (k+1)=l.getD k 0:=by unfold Qo;rw[if_neg (by omega)];rfl
     by_cases c1:l.getD k 0<=Qo l k
     . rw[Ag c1,Ak,if_neg];intro h;have:=Ad h;unfold Qo at c1;split at c1
       . have:=this.1;omega
       . have:=this.2.2.2 (by omega);omega
     . rw[Ah c1,Aj];by_cases c2:(nb:Int)<=l.getD k 0
       . rw[Ag c2,Ak,if_neg];intro h;have:=(Ad h).2.1;omega
       . rw[Ah c2,Aj];by_cases c3:l.getD k 0=(i:Int)
         . rw[Ag c3,Ak,if_neg];intro h;exact (Ad h).2.2.1 c3
         . rw[Ah c3,Aj,if_pos,hw,j7];refine Ag ⟨?_,by omega,c3,λ h=>?_⟩
           . unfold Qo at c1;split at c1
             . omega
             . have:=Axu (by omega);omega
           . unfold Qo at c1;rw[if_neg (by omega)] at c1;omega)
   (λ _=>by rw[Ef.eq_1,FA,Aj])
 unfold Ex;rw[show ((0:Int),(-1:Int))=(((0:Nat):Int),Qo l 0) from rfl,h,Aa];by_cases g:∀j,j<l.length->decide (JK nb i l j)=true
 . rw[if_pos g];simp only
   congr 1
   have hr:Ip nb i l:=λ k hk=>Ad (g k hk);by_cases h4:l.length<=4
   . rw[Ag (show (l.length:Int)<=4 by omega),Ag ⟨hr,h4⟩]
   . rw[Ah (show ¬(l.length:Int)<=4 by omega),Ah (λ h=>h4 h.2)]
 . rw[if_neg g];simp only
   congr 1
   symm
   exact Ah λ h=>g λ j hj=>Ag (h.1 j hj)
def G2:List (List UInt8×Int)->List (List UInt8)->List (List UInt8×Int)
 | m,[]=>m
 | m,x::r=>G2 (IJ m x (IntKind.i64.wrap ((Es m x).getD 0+1))) r
theorem Xw(m:List (List UInt8×Int))(l:List (List UInt8))(x:List UInt8):G2 m (l++[x])=IJ (G2 m l) x (IntKind.i64.wrap ((Es (G2 m l) x).getD 0+1)):=by
 induction l generalizing m with
 | nil=>rfl
 | cons y r ih=>simp only[A6,G2];exact ih _
theorem Ap9(m:List (List UInt8×Int))(a b:List (List UInt8)):G2 m (a++b)=G2 (G2 m a) b:=by
 induction a generalizing m with
 | nil=>rfl
 | cons y r ih=>simp only[A6,G2];exact ih _
theorem Afd(m:List (List UInt8×Int))(k:List UInt8)(v:Int):(IJ m k v).map (·.1)=if k∈m.map (·.1) then m.map (·.1) else m.map (·.1)++[k]:=by
 induction m with
 | nil=>simp[IJ]
 | cons p r ih=>
   simp only[IJ];by_cases h:p.1=k
   . simp[h]
   . rw[if_neg h,AH,ih];by_cases h2:k∈r.map (·.1)
     . rw[if_pos h2,if_pos (by simp only[AH,AG];exact .inr h2)];rfl
     . rw[if_neg h2,if_neg (by simp only[AH,AG,not_or];exact ⟨Bc h,h2⟩)];rfl
theorem Xx:∀(l:List (List UInt8)) (m:List (List UInt8×Int)),(m.map (·.1)).Nodup->((G2 m l).map (·.1)).Nodup/\(G2 m l).length<=m.length+l.length/\((G2 m l).length=m.length+l.length↔(m.map (·.1)++l).Nodup)
 | [],m,h=>by simp[G2,h]
 | x::r,m,h=>by
   simp only[G2];have hk:=Afd m x (IntKind.i64.wrap ((Es m x).getD 0+1));have hlen:(IJ m x (IntKind.i64.wrap ((Es m x).getD 0+1))).length=if x∈m.map (·.1) then m.length else m.length+1:=by
     have:=congrArg List.length hk;rw[Ba] at this;rw[this];split<;>simp
   have hnd:((IJ m x (IntKind.i64.wrap ((Es m x).getD 0+1))).map (·.1)).Nodup:=by
     rw[hk];split
     . exact h
     . rename_i hx;rw[BQ];exact ⟨h,by simp,λ a ha b hb=>by simp at hb;subst hb;intro e;subst e;exact hx ha⟩
   obtain ⟨h1,h2,h3⟩:=Xx r _ hnd;refine ⟨h1,by rw[hlen] at h2;split at h2<;>simp<;>omega,?_⟩;by_cases hx:x∈m.map (·.1)
   . rw[hlen,if_pos hx] at h2;constructor
     . intro he;simp at he;omega
     . intro hn;rw[BQ] at hn;exact (hn.2.2 x hx x (by simp) rfl).elim
   . rw[hlen,if_neg hx,hk,if_neg hx] at h3;rw[show m.length+(x::r).length=m.length+1+r.length by simp;omega,h3,A9];rfl
theorem GC(p:Int×Bool)(r:List (Int×Bool))(x:Int):Je (p::r) x=if p.1=x then some p.2 else Je r x:=by
 unfold Je;rw[List.find?_cons];by_cases h:p.1=x
 . simp[h]
 . rw[if_neg h,beq_eq_false_iff_ne.2 h]
theorem WA(p:Int×Bool)(r:List (Int×Bool))(k:Int)(v:Bool):Rq (p::r) k v=if p.1=k then (k,v)::r else p::Rq r k v:=rfl
theorem Xs(p:Int×Bool)(r:List (Int×Bool))(k:Int):Mz (p::r) k=if p.1=k then r else p::Mz r k:=rfl
theorem Agk(m:List (Int×Bool))(k:Int)(v:Bool)(x:Int):Je (Rq m k v) x=if x=k then some v else Je m x:=by
 induction m with
 | nil=>
   have:Rq [] k v=[(k,v)]:=rfl;rw[this,GC];by_cases h:x=k
   . rw[if_pos h,if_pos h.symm]
   . rw[if_neg h,if_neg (Bc h)]
 | cons p r ih=>
   rw[WA,GC];by_cases h:p.1=k
   . rw[if_pos h,GC];by_cases h2:x=k
     . rw[if_pos h2,if_pos h2.symm]
     . rw[if_neg h2,if_neg (Bc h2),if_neg (λ e=>h2 (by rw[<-e,<-h]))]
   . rw[if_neg h,GC,ih];by_cases h2:p.1=x
     . rw[if_pos h2,if_pos h2,if_neg (λ e=>h (by rw[h2,e]))]
     . rw[if_neg h2,if_neg h2]
theorem Aff(m:List (Int×Bool))(k:Int)(v:Bool):(Rq m k v).map (·.1)=if k∈m.map (·.1) then m.map (·.1) else m.map (·.1)++[k]:=by
 induction m with
 | nil=>simp[Rq]
 | cons p r ih=>
   rw[WA];by_cases h:p.1=k
   . simp[h]
   . rw[if_neg h,AH,ih];by_cases h2:k∈r.map (·.1)
     . rw[if_pos h2,if_pos (by simp only[AH,AG];exact .inr h2)];rfl
     . rw[if_neg h2,if_neg (by simp only[AH,AG,not_or];exact ⟨Bc h,h2⟩)];rfl
theorem Ap1(m:List (Int×Bool))(k x:Int)(h:x∈(Mz m k).map (·.1)):x∈m.map (·.1):=by
 induction m with
 | nil=>exact h
 | cons p r ih=>
   rw[Xs] at h;split at h
   . simp only[AH,AG];exact .inr h
   . simp only[AH,AG] at h ⊢;exact h.imp id ih
theorem Agl(m:List (Int×Bool))(x:Int):Je m x=none↔x∉m.map (·.1):=by
 induction m with
 | nil=>simp[Je]
 | cons p r ih=>
   rw[GC];by_cases h:p.1=x
   . simp[h]
   . rw[if_neg h,ih];simp[Bc h]
theorem u4(m:List (Int×Bool))(k x:Int)(hn:(m.map (·.1)).Nodup):((Mz m k).map (·.1)).Nodup/\Je (Mz m k) x=if x=k then none else Je m x:=by
 induction m with
 | nil=>exact ⟨hn,by simp[Mz,Je]⟩
 | cons p r ih=>
   simp only[AH,BD] at hn;obtain ⟨h1,h2⟩:=ih hn.2;rw[Xs];by_cases h:p.1=k
   . rw[if_pos h];refine ⟨hn.2,?_⟩;by_cases hx:x=k
     . rw[if_pos hx,Agl,hx,<-h];exact hn.1
     . rw[if_neg hx,GC,if_neg (λ e=>hx (by rw[<-e,h]))]
   . rw[if_neg h];refine ⟨by simp only[AH,BD];exact ⟨λ hm=>hn.1 (Ap1 r k _ hm),h1⟩,?_⟩;rw[GC,GC,h2];by_cases hp:p.1=x
     . rw[if_pos hp,if_pos hp,if_neg (λ e=>h (by rw[hp,e]))]
     . rw[if_neg hp,if_neg hp]
def MB(m:List (Int×Bool))(f:Int->Bool):Prop:=(m.map (·.1)).Nodup/\∀x,Je m x=if f x=true then some true else none
theorem MB.nil:MB [] (λ _=>false):=⟨by simp,λ x=>by simp[Je]⟩
theorem MB.put{m:List (Int×Bool)}{f:Int->Bool}(h:MB m f)(k:Int):MB (Rq m k true) (λ x=>f x||decide (x=k)):=by
 refine ⟨?_,λ x=>?_⟩
 . rw[Aff];split
   . exact h.1
   . rename_i hx;rw[BQ];exact ⟨h.1,by simp,λ a ha b hb=>by simp at hb;subst hb;intro e;subst e;exact hx ha⟩
 . rw[Agk,h.2];by_cases hx:x=k
   . simp[hx]
   . simp[hx]
theorem MB.del{m:List (Int×Bool)}{f:Int->Bool}(h:MB m f)(k:Int):MB (Mz m k) (λ x=>f x&&!decide (x=k)):=by
 refine ⟨(u4 m k 0 h.1).1,λ x=>?_⟩;rw[(u4 m k x h.1).2,h.2];by_cases hx:x=k
 . simp[hx]
 . simp[hx]
theorem MB.pos{m:List (Int×Bool)}{f:Int->Bool}(h:MB m f):0<m.length↔∃x,f x=true:=by
 constructor
 . intro hm;obtain ⟨p,r,rfl⟩:∃p r,m=p::r:=by cases m with | nil=>simp at hm | cons p r=>exact ⟨p,r,rfl⟩
   refine ⟨p.1,?_⟩;have:=h.2 p.1;rw[GC,if_pos rfl] at this;by_cases hf:f p.1=true
   . exact hf
   . rw[if_neg hf] at this;cases this
 . rintro ⟨x,hx⟩;cases m with
   | nil=>have:=h.2 x;rw[if_pos hx] at this;simp[Je] at this
   | cons p r=>simp
theorem MB.congr{m:List (Int×Bool)}{f g:Int->Bool}(h:MB m f)(e:∀x,f x=g x):MB m g:=⟨h.1,λ x=>by rw[<-e];exact h.2 x⟩
def X0(m:List (Int×Bool))(b:Int):Nat->List (Int×Bool)
 | 0=>m
 | n+1=>Rq (X0 m b n) (b+n) true
theorem MB.X0{m:List (Int×Bool)}{f:Int->Bool}(h:MB m f)(b:Int):∀n:Nat,MB (X0 m b n) (λ x=>f x||(decide (b<=x)&&decide (x<b+n)))
 | 0=>h.congr λ x=>by
   have:(decide (b<=x)&&decide (x<b+((0:Nat):Int)))=false:=by
     rw[Bool.and_eq_false_iff];by_cases h:b<=x
     . exact .inr (Ah (by omega))
     . exact .inl (Ah h)
   rw[this,Bool.or_false]
 | n+1=>(MB.put (h.X0 b n) (b+n)).congr λ x=>by
   rw[Bool.or_assoc]
   congr 1
   rw[Bm];simp only[Bool.or_eq_true,As,Au];omega
def L4(m:List (Int×Bool))(s:Da):List (Int×Bool):=if s.CE=true then X0 m s.base s.Cs.toNat else m
theorem MB.dep{m:List (Int×Bool)}{f:Int->Bool}(h:MB m f)(s:Da)(hs:0<=s.Cs):MB (L4 m s) (λ x=>f x||Mu x s):=by
 unfold L4 Mu;cases s.CE
 . exact h.congr λ x=>by simp
 . refine (h.X0 s.base s.Cs.toNat).congr λ x=>?_;rw[Int.toNat_of_nonneg hs];simp
theorem MB.Az7{m:List (Int×Bool)}{f:Int->Bool}:∀(l:List Da) (h:MB m f),(∀s∈l,0<=s.Cs)->MB (l.foldl L4 m) (λ x=>f x||l.any (Mu x))
 | [],h,_=>h.congr λ x=>by simp
 | s::r,h,hs=>by
   rw[Bs];exact (MB.Az7 r (h.dep s (hs s (by simp))) (λ t ht=>hs t (by simp[ht]))).congr λ x=>by simp[Bool.or_assoc]
theorem Aqq(s:Da)(m:List (Int×Bool))(hs:1<=s.Cs/\s.Cs<=4)(hb:0<=s.base/\s.base<=100):CC (EK s) (m,0,s.base)=some (L4 m s,s.Cs,s.base+s.Cs):=by
 have e:∃n:Nat,s.Cs=(n:Int):=⟨s.Cs.toNat,by omega⟩;obtain ⟨n,hn⟩:=e;have h:=Dk (step:=EK s) n (λ j=>(if s.CE=true then X0 m s.base j else m,(j:Int),s.base+(j:Int))) (L4 m s,s.Cs,s.base+s.Cs)
   (λ j hj=>by
     rw[EK.eq_1,hn,E1 hj,Ak];have w1:=CA (show j<10000000 by omega);have w2:IntKind.i64.wrap (s.base+(j:Int)+1)=s.base+((j+1:Nat):Int):=by rw[IntKind.wrap_i64];omega
     cases s.CE
     . rw[Aj,w1,w2];rfl
     . rw[Ak,w1,w2];rfl)
   (by
     rw[EK.eq_1,hn,FA,Aj];unfold L4;rw[hn];rfl)
 have e0:(m,(0:Int),s.base)=(if s.CE=true then X0 m s.base 0 else m,((0:Nat):Int),s.base+((0:Nat):Int)):=by
   cases s.CE<;>simp[X0]
 rw[e0,h]
theorem Rg(sp:List Da)(i:Nat)(h:i<sp.length):Di (sp.take (i+1))=Di (sp.take i)+(sp.getD i Cu).Cs:=by rw[CI sp i Cu h,D9]
def W4(n:Nt)(i:Nat):Bool:=C3 (n.blocks.getD i FR).name&&(decide (YS (n.blocks.getD i FR))&&decide (Ip n.blocks.length i (n.next.getD i [])/\(n.next.getD i []).length<=4))
def SH(n:Nt)(i:Nat):Bool:=C3 (n.spurs.getD i Cu).name&&decide (Mh n.blocks.length (n.blocks.length+Di (n.spurs.take i)) (n.spurs.getD i Cu))
theorem Aqj(n:Nt)(hl:n.blocks.length<=24)(hn:n.next.length=n.blocks.length)(hr:∀r∈n.next,r.length<=10000000):
   CC (EI n) ([],0)=some (if (∀j,j<n.blocks.length->W4 n j=true) then Sum.inl (G2 [] (n.blocks.map Et.name),(n.blocks.length:Int)) else Sum.inr false):=by
 have h:=EM (step:=EI n) n.blocks.length (λ i=>(G2 [] ((n.blocks.take i).map Et.name),(i:Int))) (Sum.inl (G2 [] (n.blocks.map Et.name),(n.blocks.length:Int))) (Sum.inr false) (λ i=>W4 n i)
   (λ i hi hj=>by
     rw[EI.eq_1,E1 hi,Ak,Cr n.blocks i FR hi,Aa];have w2:=CA (show i<10000000 by omega);simp only[QI,P1,Aa];have hnx:(G2 [] ((n.blocks.take (i+1)).map Et.name),((i+1:Nat):Int))=
         (IJ (G2 [] ((n.blocks.take i).map Et.name)) (n.blocks.getD i FR).name (IntKind.i64.wrap ((Es (G2 [] ((n.blocks.take i).map Et.name)) (n.blocks.getD i FR).name).getD 0+1)),((i+1:Nat):Int)):=by
       rw[CI n.blocks i FR hi,Bg,AH,BE,Xw]
     rw[hnx,Cr n.next i [] (by omega),Aa,Zc _ i n.blocks.length (by have:=hr (n.next.getD i []) (CF n.next i [] (by omega));exact this),Aa];unfold W4;generalize n.blocks.getD i FR=b;cases c0:C3 b.name
     . simp
     rw[Ak,A7];by_cases c1:(-9999)<=b.x/\b.x<=9999;rotate_left
     . have e1:(decide ((-9999)<=b.x)&&decide (b.x<=9999))=false:=by rw[<-BG];exact Ah c1
       rw[e1,Aj,if_neg (by rw[As,Au];intro h;exact c1 ⟨h.1.1,h.1.2.1⟩)]
     rw[show (decide ((-9999)<=b.x)&&decide (b.x<=9999))=true by rw[<-BG];exact Ag c1,Ak];by_cases c2:(-9999)<=b.y/\b.y<=9999;rotate_left
     . have e1:(decide ((-9999)<=b.y)&&decide (b.y<=9999))=false:=by rw[<-BG];exact Ah c2
       rw[e1,Aj,if_neg (by rw[As,Au];intro h;exact c2 ⟨h.1.2.2.1,h.1.2.2.2⟩)]
     rw[show (decide ((-9999)<=b.y)&&decide (b.y<=9999))=true by rw[<-BG];exact Ag c2,Ak];rw[show decide (YS b)=true from Ag ⟨c1.1,c1.2,c2.1,c2.2⟩,A7];cases decide (Ip n.blocks.length i (n.next.getD i [])/\(n.next.getD i []).length<=4)
     . simp
     . rw[Ak,if_pos rfl,w2])
   (λ hj=>by rw[EI.eq_1,FA,Aj,Ar])
 exact h
theorem Aub(n:Nt)(m:List (List UInt8×Int))(hb:1<=n.blocks.length/\n.blocks.length<=24)(hl:n.spurs.length<=6):
   CC (EJ n) (m,[],(n.blocks.length:Int),0)=some (if (∀j,j<n.spurs.length->SH n j=true) then Sum.inl (G2 m (n.spurs.map Da.name),n.spurs.foldl L4 [],(n.blocks.length:Int)+Di n.spurs,(n.spurs.length:Int)) else Sum.inr false):=by
 have Mv:∀i,i<=n.spurs.length->(∀j,j<i->SH n j=true)->0<=Di (n.spurs.take i)/\Di (n.spurs.take i)<=4*i:=by
   intro i hi hj;exact Io n.blocks.length n.spurs i hi (λ j h=>by
     have:=hj j h;simp only[SH,As,Au] at this;exact this.2)
 have h:=EM (step:=EJ n) n.spurs.length (λ i=>(G2 m ((n.spurs.take i).map Da.name),(n.spurs.take i).foldl L4 [],(n.blocks.length:Int)+Di (n.spurs.take i),(i:Int)))
   (Sum.inl (G2 m (n.spurs.map Da.name),n.spurs.foldl L4 [],(n.blocks.length:Int)+Di n.spurs,(n.spurs.length:Int))) (Sum.inr false) (λ i=>SH n i)
   (λ i hi hj=>by
     have hs:=Mv i (by omega) hj;rw[EJ.eq_1,E1 hi,Ak,Cr n.spurs i Cu hi,Aa];have w1:IntKind.i64.wrap ((n.blocks.length:Int) - 1)=(n.blocks.length:Int) - 1:=by rw[IntKind.wrap_i64];omega
     have w2:=CA (show i<10000000 by omega);simp only[QI,P1,Aa,w1];have hnx:(G2 m ((n.spurs.take (i+1)).map Da.name),(n.spurs.take (i+1)).foldl L4 [],(n.blocks.length:Int)+Di (n.spurs.take (i+1)),((i+1:Nat):Int))=
         (IJ (G2 m ((n.spurs.take i).map Da.name)) (n.spurs.getD i Cu).name (IntKind.i64.wrap ((Es (G2 m ((n.spurs.take i).map Da.name)) (n.spurs.getD i Cu).name).getD 0+1)),L4 ((n.spurs.take i).foldl L4 []) (n.spurs.getD i Cu),(n.blocks.length:Int)+Di (n.spurs.take i)+(n.spurs.getD i Cu).Cs,((i+1:Nat):Int)):=by
       rw[Rg _ _ hi,CI n.spurs i Cu hi,Bg,List.foldl_append,AH,BE,Xw,Int.add_assoc];rfl
     rw[hnx];unfold SH;generalize hse:n.spurs.getD i Cu=s;cases c0:C3 s.name
     . simp
     rw[Ak,A7];by_cases c1:0<=s.HL/\s.HL<=(n.blocks.length:Int) - 1;rotate_left
     . have e1:(decide (0<=s.HL)&&decide (s.HL<=(n.blocks.length:Int) - 1))=false:=by rw[<-BG];exact Ah c1
       rw[e1,Aj,if_neg (by rw[Au];intro h;exact c1 ⟨h.1,by have:=h.2.1;omega⟩)]
     rw[show (decide (0<=s.HL)&&decide (s.HL<=(n.blocks.length:Int) - 1))=true by rw[<-BG];exact Ag c1,Ak];by_cases c2:0<=s.out/\s.out<=(n.blocks.length:Int) - 1;rotate_left
     . have e1:(decide (0<=s.out)&&decide (s.out<=(n.blocks.length:Int) - 1))=false:=by rw[<-BG];exact Ah c2
       rw[e1,Aj,if_neg (by rw[Au];intro h;exact c2 ⟨h.2.2.1,by have:=h.2.2.2.1;omega⟩)]
     rw[show (decide (0<=s.out)&&decide (s.out<=(n.blocks.length:Int) - 1))=true by rw[<-BG];exact Ag c2,Ak];by_cases c3:1<=s.Cs/\s.Cs<=4;rotate_left
     . have e1:(decide (1<=s.Cs)&&decide (s.Cs<=4))=false:=by rw[<-BG];exact Ah c3
       rw[e1,Aj,if_neg (by rw[Au];intro h;exact c3 ⟨h.2.2.2.2.1,h.2.2.2.2.2.1⟩)]
     rw[show (decide (1<=s.Cs)&&decide (s.Cs<=4))=true by rw[<-BG];exact Ag c3,Ak];by_cases c4:s.base=(n.blocks.length:Int)+Di (n.spurs.take i);rotate_left
     . rw[Ah c4,Aj,if_neg (by rw[Au];intro h;exact c4 h.2.2.2.2.2.2)]
     rw[Ag c4,Ak,if_pos (Ag ⟨c1.1,by omega,c2.1,by omega,c3.1,c3.2,c4⟩),<-c4,Aqq s _ c3 (by omega),Aa,w2])
   (λ hj=>by rw[EJ.eq_1,FA,Aj,Ar])
 have e0:(m,([]:List (Int×Bool)),(n.blocks.length:Int),(0:Int))=(G2 m ((n.spurs.take 0).map Da.name),(n.spurs.take 0).foldl L4 [],(n.blocks.length:Int)+Di (n.spurs.take 0),((0:Nat):Int)):=by
   simp[G2,Di]
 rw[e0];exact h
theorem Aqi(n:Nt)(m:List (Int×Bool))(f:Int->Bool)(hm:MB m f)(ok:Bool)(hl:n.B6.length<=8):
   ∃m',CC (Eb n) (m,ok,0)=some (m',ok&&decide (∀i,i<n.B6.length->f (n.B6.getD i 0)=true/\n.B6.getD i 0∉n.B6.take i),(n.B6.length:Int)):=by
 have key:∀k,k<=n.B6.length->∃m',MB m' (λ x=>f x&&decide (x∉n.B6.take k))/\
     ∀r,CC (Eb n) (m',ok&&decide (∀i,i<k->f (n.B6.getD i 0)=true/\n.B6.getD i 0∉n.B6.take i),(k:Int))=some r->CC (Eb n) (m,ok,0)=some r:=by
   intro k
   induction k with
   | zero=>
     intro _;refine ⟨m,hm.congr λ x=>by simp,λ r hr=>?_⟩;simp only[A0,false_implies,implies_true,BS,Bool.and_true] at hr;exact hr
   | succ k ih=>
     intro hk;obtain ⟨m',h1,h2⟩:=ih (by omega);refine ⟨Mz m' (n.B6.getD k 0),(h1.del _).congr λ x=>?_,λ r hr=>h2 r ?_⟩
     . rw[CI n.B6 k 0 (by omega),Bool.and_assoc]
       congr 1
       rw[Bm];simp[not_or]
     . have w2:=CA (show k<10000000 by omega);rw[C0,Eb.eq_1,E1 (by omega),Ak,Cr n.B6 k 0 (by omega),Aa,w2];have hg:(Je m' (n.B6.getD k 0)).getD false=(f (n.B6.getD k 0)&&decide (n.B6.getD k 0∉n.B6.take k)):=by
         rw[h1.2];split
         . rename_i e;simpa using e.symm
         . rename_i e;simpa using e
       have Mm:decide (∀i,i<k+1->f (n.B6.getD i 0)=true/\n.B6.getD i 0∉n.B6.take i)=(decide (∀i,i<k->f (n.B6.getD i 0)=true/\n.B6.getD i 0∉n.B6.take i)&&(f (n.B6.getD k 0)&&decide (n.B6.getD k 0∉n.B6.take k))):=by
         rw[Bm];simp only[As,Au];constructor
         . intro h;exact ⟨λ i hi=>h i (by omega),h k (by omega)⟩
         . rintro ⟨h3,h4⟩ i hi;by_cases e:i=k
           . subst e;exact h4
           . exact h3 i (by omega)
       rw[Mm] at hr;cases c:(ok&&decide (∀i,i<k->f (n.B6.getD i 0)=true/\n.B6.getD i 0∉n.B6.take i))
       . rw[Aj,Aa,B4];rw[<-Bool.and_assoc,c,Bool.false_and] at hr;exact hr
       . rw[Ak,Aa,B4,hg];rw[<-Bool.and_assoc,c,A7] at hr;exact hr
 obtain ⟨m',h1,h2⟩:=key n.B6.length (Ai _);exact ⟨m',h2 _ (by rw[C0,Eb.eq_1,FA,Aj,Aa,B0])⟩
theorem Ajo(n:Nt)(m:List (Int×Bool))(hl:n.B6.length<=8):∃r,CC (EL n) (m,0)=some r:=by
 have key:∀k (m:List (Int×Bool)) i,i+k=n.B6.length->∃r,CC (EL n) (m,(i:Int))=some r:=by
   intro k
   induction k with
   | zero=>
     intro m i hi;obtain rfl:i=n.B6.length:=by omega
     exact ⟨_,by rw[C0,EL.eq_1,FA,Aj,Aa,B0]⟩
   | succ k ih=>
     intro m i hi;have w2:=CA (show i<10000000 by omega);obtain ⟨r,hr⟩:=ih (Mz m (n.B6.getD i 0)) (i+1) (by omega);exact ⟨r,by rw[C0,EL.eq_1,E1 (by omega),Ak,Cr n.B6 i 0 (by omega),Aa,w2,Aa,B4];exact hr⟩
 exact key n.B6.length m 0 (by omega)
theorem T4(l:List (List UInt8)):l.Nodup↔∀i,i<l.length->∀k,k<i->l.getD i []≠l.getD k []:=by
 unfold List.Nodup;rw[List.pairwise_iff_getElem];constructor
 . intro h i hi k hk;have:=h k i (by omega) hi hk;rw[getD_eq hi,getD_eq (show k<l.length by omega)];exact Bc this
 . intro h i j hi hj hij;have:=h j hj i hij;rw[getD_eq hi,getD_eq hj] at this;exact Bc this
theorem Al9(n:Nt)(hs:F3 n):Gm n=some (decide (validN n)):=by
 obtain ⟨s1,⟨s2,s2'⟩,s3,s4⟩:=hs;have no:∀{r:Option Bool},¬validN n->r=some false->r=some (decide (validN n)):=λ h hr=>by rw[hr,Ah h]
 unfold Gm;rw[P1,Aa];by_cases b1:1<=n.blocks.length/\n.blocks.length<=24;rotate_left
 . refine no (λ h=>b1 ⟨h.1.1,h.1.2.1⟩) ?_;rw[show (decide ((1:Int)<=((n.blocks.length:Nat):Int))&&decide (((n.blocks.length:Nat):Int)<=24))=false by rw[<-BG];exact Ah (by omega)];rfl
 rw[show (decide ((1:Int)<=((n.blocks.length:Nat):Int))&&decide (((n.blocks.length:Nat):Int)<=24))=true by rw[<-BG];exact Ag (by omega),Ak];by_cases b2:n.next.length=n.blocks.length
 rotate_left
 . refine no (λ h=>b2 h.1.2.2.1) ?_;rw[Ah (by omega),Aj]
 rw[Ag (by omega),Ak];by_cases b3:n.spurs.length<=6;rotate_left
 . refine no (λ h=>b3 h.2.1) ?_;rw[Ag (by omega),Ak]
 rw[Ah (by omega:¬(6:Int)<((n.spurs.length:Nat):Int)),Aj];by_cases b4:n.B6.length<=8;rotate_left
 . refine no (λ h=>b4 h.2.2.2.1) ?_;rw[Ag (by omega),Ak]
 rw[Ah (by omega:¬(8:Int)<((n.B6.length:Nat):Int)),Aj,VG,Aa];by_cases b5:IV n.cq n.ca n.cd n.cp;rotate_left
 . refine no (λ h=>b5 h.2.2.2.2.1) ?_;rw[Ah b5,Aj]
 rw[Ag b5,Ak,Aqj n b1.2 b2 s2',Aa];by_cases b6:∀j,j<n.blocks.length->W4 n j=true;rotate_left
 . refine no (λ h=>b6 λ j hj=>?_) ?_
   . have h1:=h.1.2.2.2 j hj;have h2:=(h.2.2.1 j (by simp[Ds];omega)).1;have h3:(Ds n).getD j []=(n.blocks.getD j FR).name:=by
       unfold Ds;simp[List.getD,AL,hj]
     rw[h3] at h2;simp only[W4,As,Au];exact ⟨h2,h1.1,h1.2.2,h1.2.1⟩
   . rw[if_neg b6]
 rw[if_pos b6];simp only;rw[Aub n _ b1 b3,Aa];by_cases b7:∀j,j<n.spurs.length->SH n j=true;rotate_left
 . refine no (λ h=>b7 λ j hj=>?_) ?_
   . have h1:=h.2.2.2.2.2.1 j hj;have h2:=(h.2.2.1 (n.blocks.length+j) (by simp[Ds];omega)).1;have h3:(Ds n).getD (n.blocks.length+j) []=(n.spurs.getD j Cu).name:=by
       unfold Ds;simp[List.getD,AL,hj]
     rw[h3] at h2;simp only[SH,As,Au];exact ⟨h2,h1⟩
   . rw[if_neg b7]
 rw[if_pos b7];simp only;have g6:∀j,j<n.blocks.length->C3 (n.blocks.getD j FR).name=true/\YS (n.blocks.getD j FR)/\(n.next.getD j []).length<=4/\Ip n.blocks.length j (n.next.getD j []):=λ j hj=>by
   have:=b6 j hj;simp only[W4,As,Au] at this;exact ⟨this.1,this.2.1,this.2.2.2,this.2.2.1⟩
 have g7:∀j,j<n.spurs.length->C3 (n.spurs.getD j Cu).name=true/\Mh n.blocks.length (n.blocks.length+Di (n.spurs.take j)) (n.spurs.getD j Cu):=λ j hj=>by
   have:=b7 j hj;simp only[SH,As,Au] at this;exact this
 have Am1:∀s∈n.spurs,1<=s.Cs:=by
   intro s hs;obtain ⟨i,hi,rfl⟩:=List.getElem_of_mem hs;have:=(g7 i hi).2.2.2.2.2.1;rwa[getD_eq hi] at this
 have hM:=(MB.Az7 n.spurs MB.nil (λ s hs=>by have:=Am1 s hs;omega)).congr (g:=λ x=>n.spurs.any (Mu x)) (λ x=>by simp);have Amj:(0<(n.spurs.foldl L4 []).length)↔0<(n.spurs.filter Da.CE).length:=by
   rw[hM.pos,List.length_pos_iff_exists_mem];constructor
   . rintro ⟨x,hx⟩;obtain ⟨s,hs,h⟩:=AV.1 hx;refine ⟨s,List.mem_filter.2 ⟨hs,?_⟩⟩;unfold Mu at h;simp only[As] at h;exact h.1
   . rintro ⟨s,hs⟩;obtain ⟨hs,hd⟩:=List.mem_filter.1 hs;refine ⟨s.base,AV.2 ⟨s,hs,?_⟩⟩;have:=Am1 s hs;simp[Mu,hd];omega
 have j8:=Xx (Ds n) [] (by simp);have Ayk:G2 (G2 [] (n.blocks.map Et.name)) (n.spurs.map Da.name)=G2 [] (Ds n):=by rw[<-Ap9];rfl
 have OA:(Ds n).length=n.blocks.length+n.spurs.length:=by simp[Ds]
 rw[Ayk];have w1:IntKind.i64.wrap (((n.blocks.length:Nat):Int)+((n.spurs.length:Nat):Int))=((n.blocks.length+n.spurs.length:Nat):Int):=by rw[IntKind.wrap_i64];omega
 have hnn:IK n↔(Ds n).Nodup:=by
   rw[T4];constructor
   . intro h i hi k hk;exact (h i hi).2 k hk
   . intro h i hi;refine ⟨?_,λ k hk=>h i hi k hk⟩;by_cases hb:i<n.blocks.length
     . have h3:(Ds n).getD i []=(n.blocks.getD i FR).name:=by
         unfold Ds;simp[List.getD,AL,hb]
       rw[h3];exact (g6 i hb).1
     . have h3:(Ds n).getD i []=(n.spurs.getD (i - n.blocks.length) Cu).name:=by
         unfold Ds;simp[List.getD,AL,hb,show i - n.blocks.length<n.spurs.length by omega]
       rw[h3];exact (g7 _ (by omega)).1
 have Qx:decide ((((G2 [] (Ds n)).length:Nat):Int)=((n.blocks.length+n.spurs.length:Nat):Int))=decide (IK n):=by
   rw[Bm,Au,Au,hnn];have:=j8.2.2;simp only[Ax,Bf,BE,Bl] at this;rw[<-this,OA];omega
 by_cases b8:0<(n.spurs.foldl L4 []).length
 . rw[Ag (by omega:(0:Int)<(((n.spurs.foldl L4 []).length:Nat):Int)),Ak,w1,Qx];obtain ⟨m',hm'⟩:=Aqi n (n.spurs.foldl L4 []) _ hM (decide (IK n)) b4;rw[hm',Aa];simp only
   congr 1
   rw[Bm,As,Au,Au,Au];constructor
   . rintro ⟨h1,h2⟩;exact ⟨⟨b1.1,b1.2,b2,λ i hi=>(g6 i hi).2⟩,b3,h1,b4,b5,λ i hi=>(g7 i hi).2,h2,Amj.1 b8⟩
   . intro h;exact ⟨h.2.2.1,h.2.2.2.2.2.2.1⟩
 . rw[Ah (by omega:¬(0:Int)<(((n.spurs.foldl L4 []).length:Nat):Int)),Aj];obtain ⟨r,hr⟩:=Ajo n (n.spurs.foldl L4 []) b4;rw[hr,Aa];exact no (λ h=>b8 (Amj.2 h.2.2.2.2.2.2.2)) rfl
def Lu(a0:List (List Int))(v3:Int)(Du:List Int):Int->Option ((Int)⊕(Int⊕Int))
 | Vy=>cond (decide (Vy<((Du.length:Nat):Int))) (Option.bind (CK Du Vy) λ x23=>cond (decide (x23<0)) (some (Sum.inr (.inr ((20:Int))))) (cond (decide (((a0.length:Nat):Int)<=x23)) (some (Sum.inr (.inr ((20:Int))))) (cond (decide (x23=v3)) (some (Sum.inr (.inr ((20:Int))))) (cond (decide (0<Vy)) (Option.bind (CK Du (IntKind.i64.wrap (Vy - 1))) λ x31=>cond (decide (x23<=x31)) (some (Sum.inr (.inr ((20:Int))))) (some (Sum.inl (IntKind.i64.wrap (Vy+1))))) (some (Sum.inl (IntKind.i64.wrap (Vy+1)))))))) (some (Sum.inr (.inl Vy)))
def Lt(a0:List (List Int)):Int->Option ((Int)⊕(Int⊕Int))
 | v3=>cond (decide (v3<((a0.length:Nat):Int))) (Option.bind (CK a0 v3) λ Du=>Option.bind (CC (Lu a0 v3 Du) 0) (λ | .inl v36=>some (Sum.inl (IntKind.i64.wrap (v3+1))) | .inr (r37)=>some (Sum.inr (.inr (r37))))) (some (Sum.inr (.inl v3)))
def EY(a0:List (List Int))(a1:List Bool):Option (Int):=
 cond (decide (24<((a0.length:Nat):Int))) (some 20) (Option.bind (CC (Lt a0) 0) (λ | .inl v38=>cond (decide (((a1.length:Nat):Int)=((a0.length:Nat):Int))) (some 0) (some 19) | .inr (r40)=>some r40))
theorem Vg(a0:List (List Int))(a1:List Bool)(r:Int)(hr:EY a0 a1=some r):
   B2 prog 116 [.p (.sl (Cj a0)),.p (.sl (CO a1))] [] λ h d=>h=[]/\d= .p (.int .i64 r):=by
 refine B1 func116 rfl Ahr (by simp[Tryz.f116]) ?_;unfold EY at hr;cases c1:decide (24<((a0.length:Nat):Int))
 . simp only[c1,Aj] at hr;obtain ⟨e7,g8,hr⟩:=bE hr;(try simp only[go_sem,c1]);refine CP g8 (λ q:Int=>⟨[(0,.p (.sl (Cj a0))),(1,.p (.sl (CO a1))),(12,.p (.sl (Cj a0))),(13,.p (.int .i64 ((a0.length:Nat):Int))),(14,.p (.int .i64 q))],[],59⟩) ((BW (by simp[ZF,ZE]))) ?_;rintro v3 m6 Ec VV;rw[Lt.eq_1] at Ec;cases c9:decide (v3<((a0.length:Nat):Int))
   . simp only[c9,Aj] at Ec;simp only[Aa,B0] at Ec;cases Ec;(try dsimp only at hr);cases HY:decide (((a1.length:Nat):Int)=((a0.length:Nat):Int))
     . simp only[HY,Aj] at hr;cases hr;(try simp only[go_sem,c9,HY]);all_goals ((try refine BX ?_);(try simp only[go_sem,c9,HY]);try first | rfl | exact ⟨rfl,rfl⟩ | (simp;done))
     simp only[HY,Ak] at hr;cases hr;(try simp only[go_sem,c9,HY]);all_goals ((try refine BX ?_);(try simp only[go_sem,c9,HY]);try first | rfl | exact ⟨rfl,rfl⟩ | (simp;done))
   simp only[c9,Ak] at Ec;obtain ⟨Du,g12,Ec⟩:=bK Ec;have f13:=B8 g12;have f14:(Cj a0).getD (Int.toNat v3) []=[(.sl (BZ Du))]:=B9 _ g12;obtain ⟨e20,g21,Ec⟩:=bK Ec;(try simp only[go_sem,c9,f13,f14]);refine CP g21 (λ q:Int=>⟨[(0,.p (.sl (Cj a0))),(1,.p (.sl (CO a1))),(5,.p (.int .i64 v3)),(6,.p (.sl (BZ Du))),(12,.p (.sl (Cj a0))),(13,.p (.int .i64 ((a0.length:Nat):Int))),(14,.p (.int .i64 v3)),(19,.p (.sl (BZ Du))),(20,.p (.int .i64 ((Du.length:Nat):Int))),(21,.p (.int .i64 q))],[],59⟩) ((BW (by simp[ZF,ZE]))) ?_;rintro Vy m19 G8 Axg;rw[Lu.eq_1] at G8;cases IW:decide (Vy<((Du.length:Nat):Int))
   . simp only[IW,Aj] at G8;simp only[Aa,B0] at G8;cases G8;(try dsimp only at Ec);simp only[Aa,B4] at Ec;(try simp only[go_sem,IW]);exact VV (IntKind.i64.wrap (v3+1)) _ Ec ((BW (by simp[ZF,ZE])))
   simp only[IW,Ak] at G8;obtain ⟨x23,g24,G8⟩:=bK G8;have f25:=B8 g24;have f26:(BZ Du).getD (Int.toNat Vy) []=[(.int .i64 x23)]:=B9 _ g24;cases PM:decide (x23<0)
   . simp only[PM,Aj] at G8;cases R1:decide (((a0.length:Nat):Int)<=x23)
     . simp only[R1,Aj] at G8;cases Kz:decide (x23=v3)
       . simp only[Kz,Aj] at G8;cases L7:decide (0<Vy)
         . simp only[L7,Aj] at G8;simp only[Aa,B4] at G8;(try simp only[go_sem,IW,f25,f26,PM,R1,Kz,L7]);exact Axg (IntKind.i64.wrap (Vy+1)) _ G8 ((BW (by simp[ZF,ZE])))
         simp only[L7,Ak] at G8;obtain ⟨x31,g32,G8⟩:=bK G8;have f33:=B8 g32;have f34:(BZ Du).getD (Int.toNat (IntKind.i64.wrap (Vy - 1))) []=[(.int .i64 x31)]:=B9 _ g32;cases c35:decide (x23<=x31)
         . simp only[c35,Aj] at G8;simp only[Aa,B4] at G8;(try simp only[go_sem,IW,f25,f26,PM,R1,Kz,L7,f33,f34,c35]);exact Axg (IntKind.i64.wrap (Vy+1)) _ G8 ((BW (by simp[ZF,ZE])))
         simp only[c35,Ak] at G8;simp only[Aa,B0] at G8;cases G8;(try dsimp only at Ec);simp only[Aa,B0] at Ec;cases Ec;(try dsimp only at hr);cases hr;(try simp only[go_sem,IW,f25,f26,PM,R1,Kz,L7,f33,f34,c35]);all_goals ((try refine BX ?_);(try simp only[go_sem,IW,f25,f26,PM,R1,Kz,L7,f33,f34,c35]);try first | rfl | exact ⟨rfl,rfl⟩ | (simp;done))
       simp only[Kz,Ak] at G8;simp only[Aa,B0] at G8;cases G8;(try dsimp only at Ec);simp only[Aa,B0] at Ec;cases Ec;(try dsimp only at hr);cases hr;(try simp only[go_sem,IW,f25,f26,PM,R1,Kz]);all_goals ((try refine BX ?_);(try simp only[go_sem,IW,f25,f26,PM,R1,Kz]);try first | rfl | exact ⟨rfl,rfl⟩ | (simp;done))
     simp only[R1,Ak] at G8;simp only[Aa,B0] at G8;cases G8;(try dsimp only at Ec);simp only[Aa,B0] at Ec;cases Ec;(try dsimp only at hr);cases hr;(try simp only[go_sem,IW,f25,f26,PM,R1]);all_goals ((try refine BX ?_);(try simp only[go_sem,IW,f25,f26,PM,R1]);try first | rfl | exact ⟨rfl,rfl⟩ | (simp;done))
   simp only[PM,Ak] at G8;simp only[Aa,B0] at G8;cases G8;(try dsimp only at Ec);simp only[Aa,B0] at Ec;cases Ec;(try dsimp only at hr);cases hr;(try simp only[go_sem,IW,f25,f26,PM]);all_goals ((try refine BX ?_);(try simp only[go_sem,IW,f25,f26,PM]);try first | rfl | exact ⟨rfl,rfl⟩ | (simp;done))
 simp only[c1,Ak] at hr;cases hr;try simp only[go_sem,c1]
 all_goals ((try refine BX ?_);(try simp only[go_sem,c1]);try first | rfl | exact ⟨rfl,rfl⟩ | (simp;done))
def KL(a0:List Int)(a1:Int):Int->Option ((Int)⊕(Int⊕Int))
 | v2=>cond (decide (v2<((a0.length:Nat):Int))) (Option.bind (CK a0 v2) λ x9=>cond (decide (a1=x9)) (some (Sum.inr (.inr ((v2:Int))))) (some (Sum.inl (IntKind.i64.wrap (v2+1))))) (some (Sum.inr (.inl v2)))
def P8(a0:List Int)(a1:Int):Option (Int):=
 Option.bind (CC (KL a0 a1) 0) (λ | .inl O2=>some (-1) | .inr (r15)=>some r15)
theorem Aay(a0:List Int)(a1:Int)(r:Int)(hr:P8 a0 a1=some r):
   B2 prog 171 [.p (.sl (BZ a0)),.p (.int .i64 a1)] [] λ h d=>h=[]/\d= .p (.int .i64 r):=by
 refine B1 func171 rfl Xf (by simp[Tryz.f171]) ?_;unfold P8 at hr;obtain ⟨e6,g7,hr⟩:=bE hr;try simp only[go_sem]
 refine CP g7 (λ q:Int=>⟨[(0,.p (.sl (BZ a0))),(1,.p (.int .i64 a1)),(7,.p (.int .i64 ((a0.length:Nat):Int))),(8,.p (.int .i64 q))],[],19⟩) ((BW (by simp[ZF,ZE]))) ?_;rintro v2 m5 F9 Sx;rw[KL.eq_1] at F9;cases c8:decide (v2<((a0.length:Nat):Int))
 . simp only[c8,Aj] at F9;simp only[Aa,B0] at F9;cases F9;(try dsimp only at hr);cases hr;(try simp only[go_sem,c8]);all_goals ((try refine BX ?_);(try simp only[go_sem,c8]);try first | rfl | exact ⟨rfl,rfl⟩ | (simp;done))
 simp only[c8,Ak] at F9;obtain ⟨x9,g10,F9⟩:=bK F9;have f11:=B8 g10;have f12:(BZ a0).getD (Int.toNat v2) []=[(.int .i64 x9)]:=B9 _ g10;cases IZ:decide (a1=x9)
 . simp only[IZ,Aj] at F9;simp only[Aa,B4] at F9;(try simp only[go_sem,c8,f11,f12,IZ]);exact Sx (IntKind.i64.wrap (v2+1)) _ F9 ((BW (by simp[ZF,ZE])))
 simp only[IZ,Ak] at F9;simp only[Aa,B0] at F9;cases F9;try dsimp only at hr
 cases hr;try simp only[go_sem,c8,f11,f12,IZ]
 all_goals ((try refine BX ?_);(try simp only[go_sem,c8,f11,f12,IZ]);try first | rfl | exact ⟨rfl,rfl⟩ | (simp;done))
def P7(a0:List Int):Int×Int->Option ((Int×Int)⊕((Int×Int)))
 | (v8,v9)=>cond (decide (v9<((a0.length:Nat):Int))) (Option.bind (CK a0 v9) λ OX=>some (Sum.inl ((if OX<v8 then OX else v8),(IntKind.i64.wrap (v9+1))))) (some (Sum.inr (v8,v9)))
def XU(a0:List Int):Option (Int):=
 cond (decide (((a0.length:Nat):Int)<1)) none (Option.bind (CK a0 0) λ x2=>Option.bind (CC (P7 a0) (x2,1)) (λ (v20,v21)=>some v20))
theorem Akc(a0:List Int)(r:Int)(hr:XU a0=some r):
   B2 prog 179 [.p (.sl (BZ a0))] [] λ h d=>h=[]/\d= .p (.int .i64 r):=by
 refine B1 func179 rfl Agx (by simp[Tryz.f179]) ?_;unfold XU at hr;cases c1:decide (((a0.length:Nat):Int)<1)
 . simp only[c1,Aj] at hr;obtain ⟨x2,g3,hr⟩:=bE hr;have f4:=B8 g3;have f5:(BZ a0).getD 0 []=[(.int .i64 x2)]:=B9 _ g3;obtain ⟨e13,g14,hr⟩:=bE hr;(try simp only[go_sem,c1,f4,f5]);refine CP g14 (λ q:Int×Int=>⟨[(0,.p (.sl (BZ a0))),(3,.p (.int .i64 q.1)),(4,.p (.int .i64 q.2))],[],25⟩) ((BW (by simp[ZF,ZE]))) ?_;rintro ⟨v8,v9⟩ m12 Yo Bb5;rw[P7.eq_1] at Yo;cases HW:decide (v9<((a0.length:Nat):Int))
   . simp only[HW,Aj] at Yo;simp only[Aa,B0] at Yo;cases Yo;(try dsimp only at hr);cases hr;(try simp only[go_sem,HW]);all_goals ((try refine BX ?_);(try simp only[go_sem,HW]);try first | rfl | exact ⟨rfl,rfl⟩ | (simp;done))
   simp only[HW,Ak] at Yo;obtain ⟨OX,g17,Yo⟩:=bK Yo;have f18:=B8 g17;have f19:(BZ a0).getD (Int.toNat v9) []=[(.int .i64 OX)]:=B9 _ g17;simp only[Aa,B4] at Yo;(try simp only[go_sem,HW,f18,f19]);exact Bb5 ((if OX<v8 then OX else v8),(IntKind.i64.wrap (v9+1))) _ Yo ((BW (by simp[ZF,ZE])))
 simp only[c1,Ak] at hr;simp at hr
def okE(n v:Nat)(r:List Int)(i:Nat):Bool:=!decide (r.getD i 0<0)&&!decide ((n:Int)<=r.getD i 0)&&!decide (r.getD i 0=(v:Int))&&(decide (i=0)||!decide (r.getD i 0<=r.getD (i - 1) 0))
def VA(n v:Nat)(r:List Int):Prop:=∀i,i<r.length->okE n v r i=true
instance (n v:Nat) (r:List Int):Decidable (VA n v r):=by unfold VA;infer_instance
theorem cL1(g:List (List Int))(v:Nat)(r:List Int)(hr:r.length<=2000000):
   CC (Lu g (v:Nat) r) 0=some (if VA g.length v r then .inl ((r.length:Nat):Int) else .inr 20):=by
 refine EM r.length (λ i=>((i:Nat):Int)) _ _ (okE g.length v r) ?_ ?_
 . intro i hi _;rw[Lu.eq_1,E1 hi,Ak,Cr r i 0 hi,Aa];unfold okE;cases c1:decide (r.getD i 0<0)
   . cases c2:decide ((g.length:Int)<=r.getD i 0)
     . cases c3:decide (r.getD i 0=(v:Int))
       . rcases i with _ | i
         . have c4:decide (0<(((0:Nat):Int)))=false:=by decide
           simp only[Aj,c4];rw[CA (by omega)];simp
         . have c4:decide (0<(((i+1:Nat):Int)))=true:=Ag (by omega);have e1:IntKind.i64.wrap (((i+1:Nat):Int) - 1)=((i:Nat):Int):=by
             simp[IntKind.wrap,IntKind.bits,IntKind.signed];omega
           simp only[Aj,Ak,c4,e1];rw[Cr r i 0 (by omega),Aa,CA (by omega)];have e2:i+1 - 1=i:=rfl;rw[e2];cases c5:decide (r.getD (i+1) 0<=r.getD i 0)<;>simp
       . simp
     . simp
   . simp
 . intro _;rw[Lu.eq_1,FA,Aj]
theorem cL2(g:List (List Int))(hn:g.length<=2000000)(hr:∀v,v<g.length->(g.getD v []).length<=2000000):
   CC (Lt g) 0=some (if ∀v,v<g.length->decide (VA g.length v (g.getD v []))=true then .inl ((g.length:Nat):Int) else .inr 20):=by
 refine EM g.length (λ i=>((i:Nat):Int)) _ _ (λ v=>decide (VA g.length v (g.getD v []))) ?_ ?_
 . intro v hv _;rw[Lt.eq_1,E1 hv,Ak,Cr g v [] hv,Aa,cL1 g v _ (hr v hv),Aa];by_cases h:VA g.length v (g.getD v [])
   . rw[if_pos h,if_pos (Ag h)];simp only;rw[CA (by omega)]
   . rw[if_neg h,if_neg (λ h9=>h (Ad h9))]
 . intro _;rw[Lt.eq_1,FA,Aj]
theorem Oi(g:List (List Int))(sh:List Bool)(hr:∀v,v<g.length->(g.getD v []).length<=2000000):
   EY g sh=some (if 24<g.length then 20 else if ∀v,v<g.length->decide (VA g.length v (g.getD v []))=true then (if sh.length=g.length then 0 else 19) else 20):=by
 unfold EY;by_cases h1:24<g.length
 . rw[if_pos h1,Ag (by omega),Ak]
 . rw[if_neg h1,Ah (by omega),Aj,cL2 g (by omega) hr,Aa];by_cases h2:∀v,v<g.length->decide (VA g.length v (g.getD v []))=true
   . rw[if_pos h2,if_pos h2];simp only;by_cases h3:sh.length=g.length
     . rw[if_pos h3,Ag (by omega),Ak]
     . rw[if_neg h3,Ah (by omega),Aj]
   . rw[if_neg h2,if_neg h2]
theorem Ar6{n v:Nat}{r:List Int}(h:VA n v r)(k:Nat)(hk:k<r.length):∃w:Nat,r.getD k 0=(w:Int)/\w<n:=by
 have:=h k hk;unfold okE at this;simp only[As,Bool.not_eq_true',Bn] at this;obtain ⟨⟨⟨h1,h2⟩,_⟩,_⟩:=this;exact ⟨(r.getD k 0).toNat,by omega,by omega⟩
theorem Ait{g:List (List Int)}{sh:List Bool}(hr:∀v,v<g.length->(g.getD v []).length<=2000000)(h:EY g sh=some 0):
   g.length<=24/\sh.length=g.length/\∀v k,k<(g.getD v []).length->∃w:Nat,(g.getD v []).getD k 0=(w:Int)/\w<g.length:=by
 rw[Oi g sh hr] at h;have h:=Ac h;split at h
 . cases h
 rename_i h1;split at h
 case isFalse=>cases h
 rename_i h2;split at h
 case isFalse=>cases h
 rename_i h3;refine ⟨by omega,h3,λ v k hk=>?_⟩;by_cases hv:v<g.length
 . exact Ar6 (Ad (h2 v hv)) k hk
 . rw[List.getD,List.getElem?_eq_none (by omega)] at hk;exact absurd hk (A0 _)
def Ed(g:List (List Int))(sh:List Bool)(v w:Nat):Prop:=(w:Int)∈g.getD v []/\sh.getD w false=false
inductive I8 (g:List (List Int)) (sh:List Bool):Nat->Nat->Prop
 | refl (v:Nat):I8 g sh v v
 | tail {u v w:Nat} (h:I8 g sh u v) (e:Ed g sh v w):I8 g sh u w
theorem I8.trans{g:List (List Int)}{sh:List Bool}{u v w:Nat}(h:I8 g sh u v)(k:I8 g sh v w):I8 g sh u w:=by
 induction k with
 | refl=>exact h
 | tail _ e ih=>exact ih.tail e
def R6(g:List (List Int))(sh:List Bool)(v:Nat)(x:Int):Prop:=∃y:Nat,x=(y:Int)/\I8 g sh v y/\I8 g sh y v/\∀z,I8 g sh v z->I8 g sh z v->y<=z
structure Sr where
 seen:List Nat
 low:List Nat
 at_:List Nat
 path:List Nat
 held:List Nat
 count:Nat
 names:List Int
def Sr.sn(s:Sr)(v:Nat):Nat:=s.seen.getD v 0
def Sr.lw(s:Sr)(v:Nat):Nat:=s.low.getD v 0
def Sr.ad(s:Sr)(v:Nat):Nat:=s.at_.getD v 0
def Sr.nm(s:Sr)(v:Nat):Int:=s.names.getD v (-1)
structure TJ(g:List (List Int))(sh:List Bool)(VR:Nat->Prop)(s:Sr):Prop where
 l1:s.seen.length=g.length
 l2:s.low.length=g.length
 l3:s.at_.length=g.length
 l4:s.names.length=g.length
 rng:∀v k,k<(g.getD v []).length->∃w:Nat,(g.getD v []).getD k 0=(w:Int)/\w<g.length
 z7:∀v,s.sn v<=s.count
 inj:∀v w,s.sn v=s.sn w->s.sn v≠0->v=w
 YU:∀v,s.sn v≠0->v<g.length/\sh.getD v false=false
 at0:∀v,s.sn v=0->s.ad v=0
 atl:∀v,s.ad v<=(g.getD v []).length
 N8:∀v,v∈s.held↔s.sn v≠0/\s.nm v<0
 hso:s.held.Pairwise λ a b=>s.sn a<s.sn b
 Vz:∀p∈s.path,p∈s.held
 pso:s.path.Pairwise λ a b=>s.sn a<s.sn b
 Tm:∀v,0<=s.nm v->s.sn v≠0/\R6 g sh v (s.nm v)
 nmc:∀v w,0<=s.nm v->Ed g sh v w->0<=s.nm w
 fin:∀x∈s.held,x∉s.path->s.ad x=(g.getD x []).length/\s.lw x<s.sn x
 edg:∀x∈s.held,∀k,k<s.ad x->∀w:Nat,(g.getD x []).getD k 0=(w:Int)->sh.getD w false=false->(s.sn w=0->VR w)/\(w∈s.held->s.lw x<=s.sn w)
 low:∀x∈s.held,s.lw x<=s.sn x/\∃u∈s.held,s.sn u=s.lw x/\I8 g sh x u
 rch:∀p∈s.path,∀x∈s.held,s.sn p<=s.sn x->I8 g sh p x
 own:∀p∈s.path,∀x∈s.held,x∉s.path->s.sn p<s.sn x->(∀q∈s.path,s.sn q<=s.sn x->s.sn q<=s.sn p)->s.lw p<=s.lw x
 anc:∀x∈s.held,∃p∈s.path,s.sn p<=s.sn x
 nmx:∀v,s.nm v<0->s.nm v=-1
def Sr.enter(s:Sr)(v:Nat):Sr:={s with count:=s.count+1,seen:=s.seen.set v (s.count+1),low:=s.low.set v (s.count+1),path:=s.path++[v],held:=s.held++[v]}
def Qg:Nat->Prop:=λ _=>False
theorem TJ.enter{g:List (List Int)}{sh:List Bool}{s:Sr}{v:Nat}(h:TJ g sh (λ w=>w=v) s)(hv:v<g.length)(ho:sh.getD v false=false)(h0:s.sn v=0)(hp:∀p∈s.path,I8 g sh p v):TJ g sh Qg (s.enter v):=by
 have Er:∀w,(s.enter v).sn w=if w=v then s.count+1 else s.sn w:=λ w=>Fg _ _ _ _ _ (by rw[h.l1];exact hv)
 have lw':∀w,(s.enter v).lw w=if w=v then s.count+1 else s.lw w:=λ w=>Fg _ _ _ _ _ (by rw[h.l2];exact hv)
 have Q4:v∉s.held:=λ hm=>((h.N8 v).1 hm).1 h0;have Dt:∀x∈s.held,x≠v:=λ x hx e=>Q4 (e ▸ hx);have mh:∀x,x∈(s.enter v).held↔x∈s.held∨x=v:=λ x=>by simp[Sr.enter]
 have mp:∀x,x∈(s.enter v).path↔x∈s.path∨x=v:=λ x=>by simp[Sr.enter]
 have Wt:∀x∈s.held,(s.enter v).sn x=s.sn x:=λ x hx=>by rw[Er,if_neg (Dt x hx)]
 have lwh:∀x∈s.held,(s.enter v).lw x=s.lw x:=λ x hx=>by rw[lw',if_neg (Dt x hx)]
 have snv:(s.enter v).sn v=s.count+1:=by rw[Er,if_pos rfl]
 have lwv:(s.enter v).lw v=s.count+1:=by rw[lw',if_pos rfl]
 have nmv:s.nm v<0:=by
   rcases Int.lt_or_le (s.nm v) 0 with h1 | h1
   . exact h1
   . exact absurd h0 (h.Tm v h1).1
 refine ⟨by simp[Sr.enter,h.l1],by simp[Sr.enter,h.l2],h.l3,h.l4,h.rng,?_,?_,?_,?_,h.atl,?_,?_,?_,?_,?_,h.nmc,?_,?_,?_,?_,?_,?_,h.nmx⟩
 . intro w;rw[Er];have:=h.z7 w;show _<=s.count+1;split<;>omega
 . intro a b;rw[Er,Er];have ha:=h.z7 a;have hb:=h.z7 b
   by_cases e1:a=v
   . by_cases e2:b=v
     . intros;omega
     . rw[if_pos e1,if_neg e2];intros;omega
   . by_cases e2:b=v
     . rw[if_neg e1,if_pos e2];intros;omega
     . rw[if_neg e1,if_neg e2];exact h.inj a b
 . intro w;rw[Er];split
   . rename_i e;subst e;exact λ _=>⟨hv,ho⟩
   . exact h.YU w
 . intro w;rw[Er];split
   . intro;omega
   . exact h.at0 w
 . intro w;rw[mh,Er];by_cases e:w=v
   . subst e;simp only[or_true,AP,true_iff];exact ⟨by omega,nmv⟩
   . rw[if_neg e];simp only[e,or_false];rw[h.N8];exact Iff.rfl
 . show (s.held++[v]).Pairwise _
   rw[BK];refine ⟨?_,by simp,λ a ha b hb=>?_⟩
   . exact List.Pairwise.imp_of_mem (λ ha hb V5=>by rw[Wt _ ha,Wt _ hb];exact V5) h.hso
   . rw[Ay.1 hb,Wt a ha,snv];have:=h.z7 a;omega
 . intro p hp';rw[mh];rcases (mp p).1 hp' with h1 | h1
   . exact .inl (h.Vz p h1)
   . exact .inr h1
 . show (s.path++[v]).Pairwise _
   rw[BK];refine ⟨?_,by simp,λ a ha b hb=>?_⟩
   . exact List.Pairwise.imp_of_mem (λ ha hb V5=>by rw[Wt _ (h.Vz _ ha),Wt _ (h.Vz _ hb)];exact V5) h.pso
   . rw[Ay.1 hb,Wt a (h.Vz a ha),snv];have:=h.z7 a;omega
 . intro w hw;have:=h.Tm w hw;refine ⟨?_,this.2⟩;rw[Er];split
   . omega
   . exact this.1
 . intro x Sz hp';rcases (mh x).1 Sz with h1 | h1
   . have Mw:x∉s.path:=λ hm=>hp' ((mp x).2 (.inl hm));rw[lwh x h1,Wt x h1];exact h.fin x h1 Mw
   . exact absurd ((mp x).2 (.inr h1)) hp'
 . intro x Sz k hk w hw how;have hk':k<s.ad x:=hk;rcases (mh x).1 Sz with h1 | h1
   . obtain ⟨a,b⟩:=h.edg x h1 k hk' w hw how;by_cases Yg:w=v
     . rw[Er,if_pos Yg,lwh x h1];have h3:=(h.low x h1).1;have h4:=h.z7 x;exact ⟨λ h=>by omega,λ _=>by omega⟩
     . rw[Er,if_neg Yg,lwh x h1];refine ⟨λ h5=>absurd (a h5) Yg,λ hm=>?_⟩;rcases (mh w).1 hm with h2 | h2
       . exact b h2
       . exact absurd h2 Yg
   . subst h1;have:=h.at0 x h0;omega
 . intro x Sz;rcases (mh x).1 Sz with h1 | h1
   . obtain ⟨a,u,b,c,d⟩:=h.low x h1;rw[lwh x h1,Wt x h1];exact ⟨a,u,(mh u).2 (.inl b),by rw[Wt u b];exact c,d⟩
   . subst h1;rw[lwv,snv];exact ⟨Ai _,x,(mh x).2 (.inr rfl),snv,.refl x⟩
 . intro p hp' x Sz;rcases (mp p).1 hp' with h1 | h1
   . rcases (mh x).1 Sz with h2 | h2
     . rw[Wt p (h.Vz p h1),Wt x h2];exact h.rch p h1 x h2
     . subst h2;intro _;exact hp p h1
   . subst h1;rcases (mh x).1 Sz with h2 | h2
     . rw[snv,Wt x h2];have:=h.z7 x;intro;omega
     . subst h2;intro _;exact .refl x
 . intro p hp' x Sz Mw Cv hq;rcases (mh x).1 Sz with h2 | h2
   . have Bbl:x∉s.path:=λ hm=>Mw ((mp x).2 (.inl hm));rcases (mp p).1 hp' with h1 | h1
     . rw[lwh p (h.Vz p h1),lwh x h2];rw[Wt p (h.Vz p h1),Wt x h2] at Cv;refine h.own p h1 x h2 Bbl Cv λ q Uv VZ=>?_;have:=hq q ((mp q).2 (.inl Uv));rw[Wt q (h.Vz q Uv),Wt x h2,Wt p (h.Vz p h1)] at this;exact this VZ
     . subst h1;rw[snv,Wt x h2] at Cv;have:=h.z7 x;omega
   . exact absurd ((mp x).2 (.inr h2)) Mw
 . intro x Sz;rcases (mh x).1 Sz with h2 | h2
   . obtain ⟨p,h3,h4⟩:=h.anc x h2;exact ⟨p,(mp p).2 (.inl h3),by rw[Wt p (h.Vz p h3),Wt x h2];exact h4⟩
   . exact ⟨v,(mp v).2 (.inr rfl),by rw[h2];exact Ai _⟩
theorem TJ.last{g:List (List Int)}{sh:List Bool}{VR:Nat->Prop}{s:Sr}(h:TJ g sh VR s){ps:List Nat}{v:Nat}(hp:s.path=ps++[v]):v∈s.path/\v∈s.held/\v<g.length/\sh.getD v false=false/\(∀q∈s.path,s.sn q<=s.sn v)/\(∀q∈ps,s.sn q<s.sn v)/\v∉ps:=by
 have hv:v∈s.path:=by rw[hp];simp
 have hh:=h.Vz v hv;have ho:=h.YU v ((h.N8 v).1 hh).1;have Cv:∀q∈ps,s.sn q<s.sn v:=by
   have:=h.pso;rw[hp,BK] at this;exact λ q hq=>this.2.2 q hq v (by simp)
 refine ⟨hv,hh,ho.1,ho.2,λ q hq=>?_,Cv,λ hm=>?_⟩
 . rw[hp] at hq;rcases Aw.1 hq with h1 | h1
   . exact Nat.le_of_lt (Cv q h1)
   . rw[Ay.1 h1];exact Ai _
 . have:=Cv v hm;omega
theorem TJ.step{g:List (List Int)}{sh:List Bool}{s s':Sr}{VR:Nat->Prop}(h:TJ g sh Qg s){ps:List Nat}{v w L:Nat}(hp:s.path=ps++[v])(hk:s.ad v<(g.getD v []).length)(hw:(g.getD v []).getD (s.ad v) 0=(w:Int))
   (e1:s'.seen=s.seen) (e2:∀x,s'.lw x=if x=v then L else s.lw x) (e2':s'.low.length=s.low.length) (e3:∀x,s'.ad x=if x=v then s.ad v+1 else s.ad x) (e3':s'.at_.length=s.at_.length)
   (e4:s'.path=s.path) (e5:s'.held=s.held) (e6:s'.count=s.count) (e7:s'.names=s.names)
   (hL:L<=s.lw v) (hu:∃u∈s.held,s.sn u=L/\I8 g sh v u) (hq:sh.getD w false=false->(s.sn w=0->VR w)/\(w∈s.held->L<=s.sn w)):TJ g sh VR s':=by
 obtain ⟨hvp,Q4,Ml,hvo,Uy,_,_⟩:=h.last hp;have Er:∀x,s'.sn x=s.sn x:=λ x=>by unfold Sr.sn;rw[e1]
 have nm':∀x,s'.nm x=s.nm x:=λ x=>by unfold Sr.nm;rw[e7]
 refine ⟨by rw[e1];exact h.l1,by rw[e2'];exact h.l2,by rw[e3'];exact h.l3,by rw[e7];exact h.l4,h.rng,?_,?_,?_,?_,?_,?_,?_,?_,?_,?_,?_,?_,?_,?_,?_,?_,?_,λ x=>by rw[nm'];exact h.nmx x⟩
 . intro x;rw[Er,e6];exact h.z7 x
 . intro a b;rw[Er,Er];exact h.inj a b
 . intro x;rw[Er];exact h.YU x
 . intro x;rw[Er,e3];split
   . rename_i e;subst e;intro h0;exact absurd h0 ((h.N8 x).1 Q4).1
   . exact h.at0 x
 . intro x;rw[e3];split
   . rename_i e;subst e;omega
   . exact h.atl x
 . intro x;rw[e5,Er,nm'];exact h.N8 x
 . rw[e5];exact h.hso.imp λ V5=>by rw[Er,Er];exact V5
 . rw[e4,e5];exact h.Vz
 . rw[e4];exact h.pso.imp λ V5=>by rw[Er,Er];exact V5
 . intro x;rw[nm',Er];exact h.Tm x
 . intro x y;rw[nm',nm'];exact h.nmc x y
 . intro x hx Mw;rw[e5] at hx;rw[e4] at Mw;have Dt:x≠v:=λ e=>Mw (e ▸ hvp);rw[e3,e2,Er,if_neg Dt,if_neg Dt];exact h.fin x hx Mw
 . intro x hx k hk' y hy hyo;rw[e5] at hx;rw[e3] at hk';rw[Er,e5,e2];by_cases hxv:x=v
   . subst hxv;rw[if_pos rfl] at hk' ⊢;by_cases IF:k=s.ad x
     . subst IF;rw[hw] at hy;obtain rfl:w=y:=by omega
       exact hq hyo
     . obtain ⟨a,b⟩:=h.edg x hx k (by omega) y hy hyo;exact ⟨λ h0=>(a h0).elim,λ hm=>Bp hL (b hm)⟩
   . rw[if_neg hxv] at hk' ⊢;obtain ⟨a,b⟩:=h.edg x hx k hk' y hy hyo;exact ⟨λ h0=>(a h0).elim,b⟩
 . intro x hx;rw[e5] at hx;obtain ⟨a,u,b,c,d⟩:=h.low x hx;rw[e2,Er];by_cases hxv:x=v
   . subst hxv;rw[if_pos rfl];obtain ⟨u2,b2,c2,d2⟩:=hu;exact ⟨by omega,u2,by rw[e5];exact b2,by rw[Er];exact c2,d2⟩
   . rw[if_neg hxv];exact ⟨a,u,by rw[e5];exact b,by rw[Er];exact c,d⟩
 . intro p hp' x hx;rw[e4] at hp';rw[e5] at hx;rw[Er,Er];exact h.rch p hp' x hx
 . intro p hp' x hx Mw Cv Y2;rw[e4] at hp' Mw Y2;rw[e5] at hx;rw[Er,Er] at Cv;have Dt:x≠v:=λ e=>Mw (e ▸ hvp);have:=h.own p hp' x hx Mw Cv λ q h1 h2=>by have:=Y2 q h1;rw[Er,Er,Er] at this;exact this h2
   rw[e2,e2,if_neg Dt];split
   . rename_i e;subst e;omega
   . exact this
 . intro x hx;rw[e5] at hx;obtain ⟨p,h1,h2⟩:=h.anc x hx;exact ⟨p,by rw[e4];exact h1,by rw[Er,Er];exact h2⟩
theorem Alk{g:List (List Int)}{sh:List Bool}{x w:Nat}(h:Ed g sh x w):∃k,k<(g.getD x []).length/\(g.getD x []).getD k 0=(w:Int):=by
 obtain ⟨k,hk,he⟩:=AD.1 h.1;refine ⟨k,hk,?_⟩;generalize g.getD x []=l at*;rw[<-he];simp[List.getD,hk]
theorem TJ.named{g:List (List Int)}{sh:List Bool}{VR:Nat->Prop}{s:Sr}(h:TJ g sh VR s){v w:Nat}(hv:0<=s.nm v)(hr:I8 g sh v w):0<=s.nm w:=by
 induction hr with
 | refl=>exact hv
 | tail _ e ih=>exact h.nmc _ _ ih e
theorem TJ.comp{g:List (List Int)}{sh:List Bool}{s:Sr}(h:TJ g sh Qg s){ps:List Nat}{v:Nat}(hp:s.path=ps++[v])(ha:s.ad v=(g.getD v []).length)(hl:s.lw v=s.sn v):
   (∀x∈s.held,s.sn v<=s.sn x->s.lw v<=s.lw x/\I8 g sh v x/\I8 g sh x v/\∀y,Ed g sh x y->0<=s.nm y∨(y∈s.held/\s.sn v<=s.sn y))/\∀y,I8 g sh v y->I8 g sh y v->y∈s.held/\s.sn v<=s.sn y:=by
 obtain ⟨hvp,Q4,Ml,hvo,Uy,_,_⟩:=h.last hp;have Avd:∀x∈s.held,s.sn v<=s.sn x->s.lw v<=s.lw x/\(x=v∨x∉s.path):=by
   intro x hx hsx;by_cases hxv:x=v
   . exact ⟨by rw[hxv];exact Ai _,.inl hxv⟩
   . have Dt:s.sn v≠s.sn x:=λ e=>hxv (h.inj x v e.symm ((h.N8 x).1 hx).1);have Mw:x∉s.path:=λ hm=>by have:=Uy x hm;omega
     exact ⟨h.own v hvp x hx Mw (by omega) λ q hq _=>Uy q hq,.inr Mw⟩
 have Ho:∀n,∀x∈s.held,s.sn v<=s.sn x->s.sn x<=n->I8 g sh x v:=by
   intro n
   induction n with
   | zero=>intro x hx _ h0;exact absurd (Nat.le_zero.1 h0) ((h.N8 x).1 hx).1
   | succ n ih=>
     intro x hx hsx hn;obtain ⟨hlo,hor⟩:=Avd x hx hsx;rcases hor with rfl | Mw
     . exact .refl _
     . obtain ⟨_,hf⟩:=h.fin x hx Mw;obtain ⟨_,u,hu,hul,hru⟩:=h.low x hx;exact hru.trans (ih u hu (by omega) (by omega))
 have Pt:∀x∈s.held,s.sn v<=s.sn x->∀y,Ed g sh x y->0<=s.nm y∨(y∈s.held/\s.sn v<=s.sn y):=by
   intro x hx hsx y hy;obtain ⟨hlo,hor⟩:=Avd x hx hsx;have DD:s.ad x=(g.getD x []).length:=by
     rcases hor with rfl | Mw
     . exact ha
     . exact (h.fin x hx Mw).1
   obtain ⟨k,hk,hky⟩:=Alk hy;obtain ⟨a,b⟩:=h.edg x hx k (by omega) y hky hy.2;have hsy:s.sn y≠0:=λ e=>(a e).elim;rcases Int.lt_or_le (s.nm y) 0 with h1 | h1
   . have hyh:=(h.N8 y).2 ⟨hsy,h1⟩;have:=b hyh;exact .inr ⟨hyh,by omega⟩
   . exact .inl h1
 refine ⟨λ x hx hsx=>⟨(Avd x hx hsx).1,h.rch v hvp x hx hsx,Ho _ x hx hsx (Ai _),Pt x hx hsx⟩,λ y h1 h2=>?_⟩;have key:∀y,I8 g sh v y->0<=s.nm y∨(y∈s.held/\s.sn v<=s.sn y):=by
   intro y hy
   induction hy with
   | refl=>exact .inr ⟨Q4,Ai _⟩
   | tail _ e ih=>
     rcases ih with h3 | h3
     . exact .inl (h.nmc _ _ h3 e)
     . exact Pt _ h3.1 h3.2 _ e
 rcases key y h1 with h3 | h3
 . have:=h.named h3 h2;have:=((h.N8 v).1 Q4).2;omega
 . exact h3
theorem TJ.complete{g:List (List Int)}{sh:List Bool}{s s':Sr}(h:TJ g sh Qg s){ps:List Nat}{v:Nat}(hp:s.path=ps++[v])(ha:s.ad v=(g.getD v []).length)(hl:s.lw v=s.sn v){y0:Nat}
   (hy:y0∈s.held/\s.sn v<=s.sn y0) (j6:∀z∈s.held,s.sn v<=s.sn z->y0<=z)
   (e1:s'.seen=s.seen) (e2:s'.low=s.low) (e3:s'.at_=s.at_) (e4:s'.path=ps) (e5:∀x,x∈s'.held↔x∈s.held/\s.sn x<s.sn v) (e5':s'.held.Pairwise λ a b=>s.sn a<s.sn b) (e6:s'.count=s.count)
   (e7:∀x,s'.nm x=if x∈s.held/\s.sn v<=s.sn x then (y0:Int) else s.nm x) (e7':s'.names.length=s.names.length):TJ g sh Qg s':=by
 obtain ⟨hvp,Q4,Ml,hvo,Uy,hps,Arr⟩:=h.last hp;obtain ⟨hK,hC⟩:=h.comp hp ha hl;have Er:∀x,s'.sn x=s.sn x:=λ x=>by unfold Sr.sn;rw[e1]
 have lw':∀x,s'.lw x=s.lw x:=λ x=>by unfold Sr.lw;rw[e2]
 have ad':∀x,s'.ad x=s.ad x:=λ x=>by unfold Sr.ad;rw[e3]
 have IP:∀p∈ps,p∈s.path:=λ p KF=>by rw[hp];simp[KF]
 have Axt:∀x∈s.held,s.sn x<s.sn v->x∉ps->x∉s.path:=λ x hx Cv hn hm=>by
   rw[hp] at hm;rcases Aw.1 hm with h1 | h1
   . exact hn h1
   . rw[Ay.1 h1] at Cv;omega
 refine ⟨by rw[e1];exact h.l1,by rw[e2];exact h.l2,by rw[e3];exact h.l3,by rw[e7'];exact h.l4,h.rng,?_,?_,?_,?_,?_,?_,?_,?_,?_,?_,?_,?_,?_,?_,?_,?_,?_,λ x hx=>by rw[e7] at hx ⊢;(by_cases hn:x∈s.held/\s.sn v<=s.sn x);(rw[if_pos hn] at hx;omega);(rw[if_neg hn] at hx ⊢;exact h.nmx x hx)⟩
 . intro x;rw[Er,e6];exact h.z7 x
 . intro a b;rw[Er,Er];exact h.inj a b
 . intro x;rw[Er];exact h.YU x
 . intro x;rw[Er,ad'];exact h.at0 x
 . intro x;rw[ad'];exact h.atl x
 . intro x;rw[e5,Er,e7];constructor
   . rintro ⟨hxh,c⟩;obtain ⟨a,b⟩:=(h.N8 x).1 hxh;rw[if_neg (λ hh=>by omega)];exact ⟨a,b⟩
   . rintro ⟨a,b⟩;split at b
     . omega
     . rename_i hn;refine ⟨(h.N8 x).2 ⟨a,b⟩,?_⟩;rcases Nat.lt_or_ge (s.sn x) (s.sn v) with h1 | h1
       . exact h1
       . exact absurd ⟨(h.N8 x).2 ⟨a,b⟩,h1⟩ hn
 . exact e5'.imp λ V5=>by rw[Er,Er];exact V5
 . intro p KF;rw[e4] at KF;exact (e5 p).2 ⟨h.Vz p (IP p KF),hps p KF⟩
 . rw[e4];have:=h.pso;rw[hp,BK] at this;exact this.1.imp λ V5=>by rw[Er,Er];exact V5
 . intro x hx;rw[e7] at hx ⊢;rw[Er];split at hx
   . rename_i N9;rw[if_pos N9];obtain ⟨_,k2,k3,_⟩:=hK x N9.1 N9.2;obtain ⟨_,k5,k6,_⟩:=hK y0 hy.1 hy.2;refine ⟨((h.N8 x).1 N9.1).1,y0,rfl,k3.trans k5,k6.trans k2,λ z hz1 hz2=>?_⟩;obtain ⟨m1,m2⟩:=hC z (k2.trans hz1) (hz2.trans k3);exact j6 z m1 m2
   . rename_i hn;rw[if_neg hn];exact h.Tm x hx
 . intro x y hx hxy;rw[e7] at hx ⊢;split
   . omega
   . rename_i hny;split at hx
     . rename_i N9;rcases (hK x N9.1 N9.2).2.2.2 y hxy with h1 | h1
       . exact h1
       . exact absurd h1 hny
     . exact h.nmc x y hx hxy
 . intro x hx Mw;rw[e4] at Mw;obtain ⟨h1,h2⟩:=(e5 x).1 hx;rw[ad',lw',Er];exact h.fin x h1 (Axt x h1 h2 Mw)
 . intro x hx k hk y hy hyo;obtain ⟨h1,h2⟩:=(e5 x).1 hx;rw[ad'] at hk;rw[Er,lw'];obtain ⟨a,b⟩:=h.edg x h1 k hk y hy hyo;exact ⟨a,λ hm=>b ((e5 y).1 hm).1⟩
 . intro x hx;obtain ⟨h1,h2⟩:=(e5 x).1 hx;obtain ⟨a,u,b,c,d⟩:=h.low x h1;rw[lw',Er];exact ⟨a,u,(e5 u).2 ⟨b,by omega⟩,by rw[Er];exact c,d⟩
 . intro p KF x hx;rw[e4] at KF;rw[Er,Er];exact h.rch p (IP p KF) x ((e5 x).1 hx).1
 . intro p KF x hx Mw Cv hq;rw[e4] at KF Mw hq;obtain ⟨h1,h2⟩:=(e5 x).1 hx;rw[Er,Er] at Cv;rw[lw',lw'];refine h.own p (IP p KF) x h1 (Axt x h1 h2 Mw) Cv λ q Uv VZ=>?_;rw[hp] at Uv;rcases Aw.1 Uv with h3 | h3
   . have:=hq q h3;rw[Er,Er,Er] at this;exact this VZ
   . rw[Ay.1 h3] at VZ;omega
 . intro x hx;obtain ⟨h1,h2⟩:=(e5 x).1 hx;obtain ⟨p,h3,h4⟩:=h.anc x h1;rw[hp] at h3;rcases Aw.1 h3 with h5 | h5
   . exact ⟨p,by rw[e4];exact h5,by rw[Er,Er];exact h4⟩
   . rw[Ay.1 h5] at h4;omega
theorem TJ.back{g:List (List Int)}{sh:List Bool}{s s':Sr}(h:TJ g sh Qg s){ps:List Nat}{v t:Nat}(hp:s.path=ps++[t]++[v])(ha:s.ad v=(g.getD v []).length)(hl:s.lw v≠s.sn v)
   (e1:s'.seen=s.seen) (e2:∀x,s'.lw x=if x=t then min (s.lw t) (s.lw v) else s.lw x) (e2':s'.low.length=s.low.length) (e3:s'.at_=s.at_) (e4:s'.path=ps++[t]) (e5:s'.held=s.held) (e6:s'.count=s.count) (e7:s'.names=s.names):TJ g sh Qg s':=by
 obtain ⟨hvp,Q4,Ml,hvo,Uy,hps,Arr⟩:=h.last hp;have Er:∀x,s'.sn x=s.sn x:=λ x=>by unfold Sr.sn;rw[e1]
 have nm':∀x,s'.nm x=s.nm x:=λ x=>by unfold Sr.nm;rw[e7]
 have ad':∀x,s'.ad x=s.ad x:=λ x=>by unfold Sr.ad;rw[e3]
 have hlv:=h.low v Q4;have IP:∀p∈ps++[t],p∈s.path:=λ p KF=>by rw[hp,Aw];exact .inl KF
 have htp:t∈s.path:=IP t (by simp);have hth:=h.Vz t htp;have htv:s.sn t<s.sn v:=hps t (by simp);have hmt:∀q∈ps++[t],s.sn q<=s.sn t:=by
   have:=h.pso;rw[hp,BK,BK] at this;intro q hq;rcases Aw.1 hq with h1 | h1
   . exact Nat.le_of_lt (this.1.2.2 q h1 t (by simp))
   . rw[Ay.1 h1];exact Ai _
 have Cv:s.lw v<s.sn v:=by omega
 have Uu:∀q,q∈s.path↔q∈ps++[t]∨q=v:=λ q=>by rw[hp,Aw,Ay]
 refine ⟨by rw[e1];exact h.l1,by rw[e2'];exact h.l2,by rw[e3];exact h.l3,by rw[e7];exact h.l4,h.rng,?_,?_,?_,?_,?_,?_,?_,?_,?_,?_,?_,?_,?_,?_,?_,?_,?_,λ x=>by rw[nm'];exact h.nmx x⟩
 . intro x;rw[Er,e6];exact h.z7 x
 . intro a b;rw[Er,Er];exact h.inj a b
 . intro x;rw[Er];exact h.YU x
 . intro x;rw[Er,ad'];exact h.at0 x
 . intro x;rw[ad'];exact h.atl x
 . intro x;rw[e5,Er,nm'];exact h.N8 x
 . rw[e5];exact h.hso.imp λ V5=>by rw[Er,Er];exact V5
 . intro p KF;rw[e4] at KF;rw[e5];exact h.Vz p (IP p KF)
 . rw[e4];have:=h.pso;rw[hp,BK] at this;exact this.1.imp λ V5=>by rw[Er,Er];exact V5
 . intro x;rw[nm',Er];exact h.Tm x
 . intro x y;rw[nm',nm'];exact h.nmc x y
 . intro x hx Mw;rw[e5] at hx;rw[e4] at Mw;have hxt:x≠t:=λ e=>Mw (by rw[e];simp);rw[ad',e2,if_neg hxt,Er];by_cases hxv:x=v
   . subst hxv;exact ⟨ha,Cv⟩
   . exact h.fin x hx λ hm=>by exact ((Uu x).1 hm).elim Mw hxv
 . intro x hx k hk y hy hyo;rw[e5] at hx;rw[ad'] at hk;rw[Er,e5,e2];obtain ⟨a,b⟩:=h.edg x hx k hk y hy hyo;refine ⟨a,λ hm=>?_⟩;have:=b hm;split
   . rename_i e;subst e;omega
   . exact this
 . intro x hx;rw[e5] at hx;obtain ⟨a,u,b,c,d⟩:=h.low x hx;rw[e2,Er];by_cases hxt:x=t
   . subst hxt;rw[if_pos rfl];refine ⟨by omega,?_⟩;rcases Nat.le_total (s.lw x) (s.lw v) with h1 | h1
     . exact ⟨u,by rw[e5];exact b,by rw[Er,Nat.min_eq_left h1];exact c,d⟩
     . obtain ⟨_,u2,b2,c2,d2⟩:=hlv;exact ⟨u2,by rw[e5];exact b2,by rw[Er,Nat.min_eq_right h1];exact c2,(h.rch x htp v Q4 (by omega)).trans d2⟩
   . rw[if_neg hxt];exact ⟨a,u,by rw[e5];exact b,by rw[Er];exact c,d⟩
 . intro p KF x hx;rw[e4] at KF;rw[e5] at hx;rw[Er,Er];exact h.rch p (IP p KF) x hx
 . intro p KF x hx Mw Yl hq;rw[e4] at KF Mw hq;rw[e5] at hx;rw[Er,Er] at Yl;have hxt:x≠t:=λ e=>Mw (by rw[e];simp);have VZ:∀q∈ps++[t],s.sn q<=s.sn x->s.sn q<=s.sn p:=λ q h1 h2=>by have:=hq q h1;rw[Er,Er,Er] at this;exact this h2
   rw[e2,e2,if_neg hxt];have base:s.sn v<=s.sn x->p=t/\s.lw v<=s.lw x:=by
     intro ME;have h1:=VZ t (by simp) (by omega);have h2:=hmt p KF;have hpt:p=t:=h.inj p t (by omega) ((h.N8 p).1 (h.Vz p (IP p KF))).1;refine ⟨hpt,?_⟩;by_cases hxv:x=v
     . rw[hxv];exact Ai _
     . have Dt:s.sn v≠s.sn x:=λ e=>hxv (h.inj x v e.symm ((h.N8 x).1 hx).1);exact h.own v hvp x hx (λ hm=>by exact ((Uu x).1 hm).elim Mw hxv) (by omega) λ q Uv _=>Uy q Uv
   rcases Nat.lt_or_ge (s.sn x) (s.sn v) with ME | ME
   . have:=h.own p (IP p KF) x hx (λ hm=>by
       rcases (Uu x).1 hm with h3 | h3
       . exact Mw h3
       . rw[h3] at ME;omega) Yl λ q Uv hq3=>by
         rcases (Uu q).1 Uv with h3 | h3
         . exact VZ q h3 hq3
         . rw[h3] at hq3;omega
     split
     . rename_i e;subst e;omega
     . exact this
   . obtain ⟨h1,h2⟩:=base ME;rw[if_pos h1];omega
 . intro x hx;rw[e5] at hx;obtain ⟨p,h3,h4⟩:=h.anc x hx;rcases (Uu p).1 h3 with h5 | h5
   . exact ⟨p,by rw[e4];exact h5,by rw[Er,Er];exact h4⟩
   . rw[h5] at h4;exact ⟨t,by rw[e4];simp,by rw[Er,Er];omega⟩
theorem TJ.root{g:List (List Int)}{sh:List Bool}{s:Sr}(h:TJ g sh Qg s){v:Nat}(hp:s.path=[v]):s.lw v=s.sn v:=by
 obtain ⟨hvp,Q4,_⟩:=h.last (ps:=[]) (v:=v) hp;obtain ⟨a,u,b,c,_⟩:=h.low v Q4;obtain ⟨p,h1,h2⟩:=h.anc u b;rw[hp] at h1;rw[Ay.1 h1] at h2;omega
def VH(n:Nat)(f:Nat->Nat):Nat:=((List.range n).map f).sum
theorem Ji(n:Nat)(f:Nat->Nat):VH (n+1) f=VH n f+f n:=by simp[VH,List.range_succ]
theorem Aao(n:Nat){f f':Nat->Nat}(h:∀x,x<n->f' x=f x):VH n f'=VH n f:=by
 induction n with
 | zero=>rfl
 | succ n ih=>rw[Ji,Ji,ih (λ x hx=>h x (by omega)),h n (by omega)]
theorem Zj{n v d:Nat}{f f':Nat->Nat}(hv:v<n)(h:∀x,x≠v->f' x=f x)(h1:f' v+d=f v):VH n f'+d=VH n f:=by
 induction n with
 | zero=>omega
 | succ n ih=>
   rw[Ji,Ji];by_cases e:v=n
   . subst e;rw[Aao v (f:=f) (f':=f') (λ x hx=>h x (by omega))];omega
   . have:=ih (by omega);rw[h n (Bc e)];omega
def Rn(g:List (List Int))(s:Sr):Nat:=VH g.length λ v=>(g.getD v []).length - s.ad v
def Mg(g:List (List Int))(s:Sr):Nat:=VH g.length λ v=>if s.sn v=0 then 1 else 0
def FM(g:List (List Int))(s:Sr):Nat:=Rn g s+2*Mg g s+s.path.length
theorem Rl{g:List (List Int)}{s s':Sr}{v:Nat}(hv:v<g.length)(hk:s.ad v<(g.getD v []).length)(h:∀x,s'.ad x=if x=v then s.ad v+1 else s.ad x):Rn g s'+1=Rn g s:=by
 unfold Rn;refine Zj hv (λ x hx=>by rw[h,if_neg hx]) ?_;rw[h,if_pos rfl];omega
theorem Rm{g:List (List Int)}{s s':Sr}(h:s'.at_=s.at_):Rn g s'=Rn g s:=by unfold Rn Sr.ad;rw[h]
theorem Im{g:List (List Int)}{s s':Sr}(h:s'.seen=s.seen):Mg g s'=Mg g s:=by unfold Mg Sr.sn;rw[h]
theorem Aem{g:List (List Int)}{s:Sr}{v:Nat}(hv:v<g.length)(hl:s.seen.length=g.length)(h0:s.sn v=0):Mg g (s.enter v)+1=Mg g s:=by
 have Er:∀w,(s.enter v).sn w=if w=v then s.count+1 else s.sn w:=λ w=>Fg _ _ _ _ _ (by rw[hl];exact hv)
 unfold Mg;refine Zj hv (λ x hx=>by rw[Er,if_neg hx]) ?_;rw[Er,if_pos rfl,h0];simp
theorem Ajt(g:List (List Int))(s:Sr):Mg g s<=g.length:=by
 unfold Mg;generalize g.length=n
 induction n with
 | zero=>exact Ai _
 | succ n ih=>rw[Ji];split<;>omega
theorem Au6(n:Int)(h0:0<=n)(h1:n<=24):IntKind.u64.wrap n=n:=Wj n h0 (by omega)
theorem Au7(n:Int)(h0:0<=n)(h1:n<=24):IntKind.i64.wrap n=n:=by
 simp[IntKind.wrap,IntKind.bits,IntKind.signed];omega
def JE(n k:Nat):List Int:=List.replicate k (-1)++List.replicate (n - k) 0
theorem Zy(n k:Nat)(h:k<=n):(JE n k).length=n:=by simp[JE];omega
theorem Af1(n:Nat):JE n n=List.replicate n (-1):=by simp[JE]
theorem Af0(n k:Nat)(h:k<=n):(JE n k).take k++((JE n k).take k).take (n - k)++(JE n k).drop (k+min (n - k) k)=JE n (k+min (n - k) k):=by
 have t1:(JE n k).take k=List.replicate k (-1):=by simp[JE]
 have t2:(List.replicate k (-1:Int)).take (n - k)=List.replicate (min (n - k) k) (-1):=by simp
 have t3:(JE n k).drop (k+min (n - k) k)=List.replicate (n - (k+min (n - k) k)) 0:=by
   simp only[JE,List.drop_append,Bi];rw[List.drop_eq_nil_of_le (by simp),Bl,List.drop_replicate]
   congr 1;omega
 rw[t1,t2,t3,List.replicate_append_replicate];rfl
theorem Azq(l:List Int):Ka 1 (BZ l):=by simp[Ka,BZ]
end Go.Am
end
