/- Texts of this proof, what it rests on, merged: part J. -/
import Derived.Test.YtjbklifaekjilaaGreatDoorLpI
noncomputable section
namespace Go.Am
open Go Go.Proofs
open Tryz
set_option maxRecDepth 100000
set_option linter.unusedVariables false
set_option linter.unusedSimpArgs false
set_option maxHeartbeats 2000000
theorem Aqx(n:Nat)(hn:n<=24):
   B2 prog 117 [.p (.sl (BZ [-1])),.p (.int .i64 (n:Nat))] [] λ h d=>h=[(0,.arr 3 1 (BZ (List.replicate n (-1))))]/\d= .ref 0 0 n n:=by
 have h0:(0:Int)<=(n:Nat):=by omega
 have h1:((n:Nat):Int)<=24:=by omega
 have w1:=Au6 n h0 h1;have w2:=Au7 n h0 h1;have c1:decide (((n:Nat):Int)<0)=false:=by simp
 have w3:IntKind.u64.wrap 1=1:=Wj 1 (by omega) (by omega);refine B1 func117 rfl Ahq (by simp[Tryz.f117]) ?_;simp only[go_sem,c1,w1,w3];refine Cq ((Auv n h0 (by omega))) ?_;have c2:decide (9223372036854775807<((n:Nat):Int))=false:=by simp;omega
 simp only[go_sem,c2,w2,Ab];refine ⟨by omega,⟨⟨by simp[Ka,BZ],by simp⟩,?_⟩⟩;refine B7 (λ k:Nat=>⟨[(7,.ref 30 0 n n),(8,.p (.int .i64 (k:Nat)))],[(30,.arr 3 1 (BZ (JE n k)))],48⟩) (λ k=>k<=n/\(k=0->n=0)) (λ k=>n - k) (min n 1) ⟨by omega,by omega⟩
   ?_ ?_
 . rcases n with _ | n
   . exact (BW (by simp[ZF,JE]))
   . have e1:min (n+1) 1=1:=by omega
     rw[e1];exact (BW (by simp[ZF,BZ,JE]))
 rintro k m ⟨Pn,IF⟩ ih;cases c3:decide ((k:Int)<(n:Nat))
 . obtain rfl:k=n:=by have:=Ae c3;omega
   have hl:=Zy k k (Ai _);simp only[go_sem,c3,hl];refine Cp ?_;simp only[go_sem,c3,hl,Af1]
 . have hk3:k<n:=by simpa using Ad c3
   have hl:=Zy n k (by omega);have h4:(0:Int)<=(k:Int)/\(k:Int)<=((n:Nat):Int):=by omega
   simp only[go_sem,c3,h4,hl];refine Dp [(30,.arr 3 1 (BZ (JE n k)))] mixed (p:=[(0,0),(1,0),(2,0),(3,0),(4,0),(5,0),(6,0),(7,4),(8,4),(9,4)]) (by kernel_rfl) (by simp[C8,get]) ?_;have Uz:(BZ (JE n k)).length=n:=by rw[BY];exact hl
   have e1:(((n:Nat):Int) - (k:Int)).toNat=n - k:=by omega
   have e2:((k:Int) - 0).toNat=k:=by omega
   have e3:((BZ (JE n k)).take k).length=k:=by rw[A8,Uz];omega
   have e4:IntKind.i64.wrap ((k:Int)+((min (n - k) k:Nat):Int))=((k+min (n - k) k:Nat):Int):=by
     simp[IntKind.wrap,IntKind.bits,IntKind.signed];omega
   have e5:(BZ (JE n k)).take k++((BZ (JE n k)).take k).take (n - k)++(BZ (JE n k)).drop (k+min (n - k) k)=BZ (JE n (k+min (n - k) k)):=by
     rw[<-Af0 n k Pn];simp[BZ,BN,List.map_drop]
   have e6:Ka 1 ((BZ (JE n k)).take k):=by
     rw[L2];exact Azq _
   simp only[go_sem,c3,h4,hl];simp only[e1,e2,e3,e4,e5];refine ⟨Bx _,⟨e6,by omega⟩,ih (k+min (n - k) k) _ ⟨by omega,by omega⟩ (by omega) (BW (by simp[ZF]))⟩
def NZ(a0:List (List Int))(v3:Int):Int->Option ((Int)⊕(Int⊕Bool))
 | v11=>Option.bind (CK a0 v3) λ KB=>cond (decide (v11<((KB.length:Nat):Int))) (Option.bind (CK KB v11) λ x22=>cond (decide (x22<0)) (some (Sum.inr (.inr ((false:Bool))))) (cond (decide (((a0.length:Nat):Int)<=x22)) (some (Sum.inr (.inr ((false:Bool))))) (cond (decide (x22=v3)) (some (Sum.inr (.inr ((false:Bool))))) (cond (decide (0<v11)) (Option.bind (CK KB (IntKind.i64.wrap (v11 - 1))) λ Q3=>cond (decide (x22<=Q3)) (some (Sum.inr (.inr ((false:Bool))))) (some (Sum.inl (IntKind.i64.wrap (v11+1))))) (some (Sum.inl (IntKind.i64.wrap (v11+1)))))))) (some (Sum.inr (.inl v11)))
def Qd(a0:List (List Int)):Int->Option ((Int)⊕(Int⊕Bool))
 | v3=>cond (decide (v3<((a0.length:Nat):Int))) (Option.bind (CC (NZ a0 v3) 0) (λ | .inl v35=>some (Sum.inl (IntKind.i64.wrap (v3+1))) | .inr (r36)=>some (Sum.inr (.inr (r36))))) (some (Sum.inr (.inl v3)))
def TW(a0:List (List Int)):Option (Bool):=
 cond (decide (24<((a0.length:Nat):Int))) (some false) (Option.bind (CC (Qd a0) 0) (λ | .inl v37=>some true | .inr (r38)=>some r38))
theorem Aky(a0:List (List Int))(r:Bool)(hr:TW a0=some r):
   B2 prog 119 [.p (.sl (Cj a0))] [] λ h d=>h=[]/\d= .p (.bool r):=by
 refine B1 func119 rfl Xi (by simp[Tryz.f119]) ?_;unfold TW at hr;cases c1:decide (24<((a0.length:Nat):Int))
 . simp only[c1,Aj] at hr;obtain ⟨e7,g8,hr⟩:=bE hr;(try simp only[go_sem,c1]);refine CP g8 (λ q:Int=>⟨[(0,.p (.sl (Cj a0))),(3,.p (.int .i64 q))],[],60⟩) ((BW (by simp[ZF,ZE]))) ?_;rintro v3 m6 Ec VV;rw[Qd.eq_1] at Ec;cases c9:decide (v3<((a0.length:Nat):Int))
   . simp only[c9,Aj] at Ec;simp only[Aa,B0] at Ec;cases Ec;(try dsimp only at hr);cases hr;(try simp only[go_sem,c9]);all_goals ((try refine BX ?_);(try simp only[go_sem,c9]);try first | rfl | exact ⟨rfl,rfl⟩ | (simp;done))
   simp only[c9,Ak] at Ec;obtain ⟨e15,g16,Ec⟩:=bK Ec;(try simp only[go_sem,c9]);refine CP g16 (λ q:Int=>⟨[(0,.p (.sl (Cj a0))),(3,.p (.int .i64 v3)),(4,.p (.int .i64 q))],[],60⟩) ((BW (by simp[ZF,ZE]))) ?_;rintro v11 m14 C7 Uo;rw[NZ.eq_1] at C7;obtain ⟨KB,g18,C7⟩:=bK C7;have f19:=B8 g18;have f20:(Cj a0).getD (Int.toNat v3) []=[(.sl (BZ KB))]:=B9 _ g18;cases MF:decide (v11<((KB.length:Nat):Int))
   . simp only[MF,Aj] at C7;simp only[Aa,B0] at C7;cases C7;(try dsimp only at Ec);simp only[Aa,B4] at Ec;(try simp only[go_sem,f19,f20,MF]);exact VV (IntKind.i64.wrap (v3+1)) _ Ec ((BW (by simp[ZF,ZE])))
   simp only[MF,Ak] at C7;obtain ⟨x22,g23,C7⟩:=bK C7;have f24:=B8 g23;have f25:(BZ KB).getD (Int.toNat v11) []=[(.int .i64 x22)]:=B9 _ g23;cases Td:decide (x22<0)
   . simp only[Td,Aj] at C7;cases PM:decide (((a0.length:Nat):Int)<=x22)
     . simp only[PM,Aj] at C7;cases R1:decide (x22=v3)
       . simp only[R1,Aj] at C7;cases Kz:decide (0<v11)
         . simp only[Kz,Aj] at C7;simp only[Aa,B4] at C7;(try simp only[go_sem,f19,f20,MF,f24,f25,Td,PM,R1,Kz]);exact Uo (IntKind.i64.wrap (v11+1)) _ C7 ((BW (by simp[ZF,ZE])))
         simp only[Kz,Ak] at C7;obtain ⟨Q3,g31,C7⟩:=bK C7;have f32:=B8 g31;have f33:(BZ KB).getD (Int.toNat (IntKind.i64.wrap (v11 - 1))) []=[(.int .i64 Q3)]:=B9 _ g31;cases c34:decide (x22<=Q3)
         . simp only[c34,Aj] at C7;simp only[Aa,B4] at C7;(try simp only[go_sem,f19,f20,MF,f24,f25,Td,PM,R1,Kz,f32,f33,c34]);exact Uo (IntKind.i64.wrap (v11+1)) _ C7 ((BW (by simp[ZF,ZE])))
         simp only[c34,Ak] at C7;simp only[Aa,B0] at C7;cases C7;(try dsimp only at Ec);simp only[Aa,B0] at Ec;cases Ec;(try dsimp only at hr);cases hr;(try simp only[go_sem,f19,f20,MF,f24,f25,Td,PM,R1,Kz,f32,f33,c34]);all_goals ((try refine BX ?_);(try simp only[go_sem,f19,f20,MF,f24,f25,Td,PM,R1,Kz,f32,f33,c34]);try first | rfl | exact ⟨rfl,rfl⟩ | (simp;done))
       simp only[R1,Ak] at C7;simp only[Aa,B0] at C7;cases C7;(try dsimp only at Ec);simp only[Aa,B0] at Ec;cases Ec;(try dsimp only at hr);cases hr;(try simp only[go_sem,f19,f20,MF,f24,f25,Td,PM,R1]);all_goals ((try refine BX ?_);(try simp only[go_sem,f19,f20,MF,f24,f25,Td,PM,R1]);try first | rfl | exact ⟨rfl,rfl⟩ | (simp;done))
     simp only[PM,Ak] at C7;simp only[Aa,B0] at C7;cases C7;(try dsimp only at Ec);simp only[Aa,B0] at Ec;cases Ec;(try dsimp only at hr);cases hr;(try simp only[go_sem,f19,f20,MF,f24,f25,Td,PM]);all_goals ((try refine BX ?_);(try simp only[go_sem,f19,f20,MF,f24,f25,Td,PM]);try first | rfl | exact ⟨rfl,rfl⟩ | (simp;done))
   simp only[Td,Ak] at C7;simp only[Aa,B0] at C7;cases C7;(try dsimp only at Ec);simp only[Aa,B0] at Ec;cases Ec;(try dsimp only at hr);cases hr;(try simp only[go_sem,f19,f20,MF,f24,f25,Td]);all_goals ((try refine BX ?_);(try simp only[go_sem,f19,f20,MF,f24,f25,Td]);try first | rfl | exact ⟨rfl,rfl⟩ | (simp;done))
 simp only[c1,Ak] at hr;cases hr;try simp only[go_sem,c1]
 all_goals ((try refine BX ?_);(try simp only[go_sem,c1]);try first | rfl | exact ⟨rfl,rfl⟩ | (simp;done))
def TX(a0:List (List Int))(a1:List Bool):Option (Int):=
 Option.bind (TW a0) λ x1=>cond x1 (cond (decide (((a1.length:Nat):Int)=((a0.length:Nat):Int))) (some 0) (some 19)) (some 20)
theorem Al1(a0:List (List Int))(a1:List Bool)(r:Int)(hr:TX a0 a1=some r):
   B2 prog 68 [.p (.sl (Cj a0)),.p (.sl (CO a1))] [] λ h d=>h=[]/\d= .p (.int .i64 r):=by
 refine B1 func68 rfl o7 (by simp[Tryz.f68]) ?_;unfold TX at hr;obtain ⟨x1,g2,hr⟩:=bE hr;try simp only[go_sem]
 refine Cq (Aky a0 _ g2) ?_;cases c3:x1
 . simp only[c3,Aj] at hr;cases hr;(try simp only[go_sem,c3]);all_goals ((try refine BX ?_);(try simp only[go_sem,c3]);try first | rfl | exact ⟨rfl,rfl⟩ | (simp;done))
 simp only[c3,Ak] at hr;cases c4:decide (((a1.length:Nat):Int)=((a0.length:Nat):Int))
 . simp only[c4,Aj] at hr;cases hr;(try simp only[go_sem,c3,c4]);all_goals ((try refine BX ?_);(try simp only[go_sem,c3,c4]);try first | rfl | exact ⟨rfl,rfl⟩ | (simp;done))
 simp only[c4,Ak] at hr;cases hr;try simp only[go_sem,c3,c4]
 all_goals ((try refine BX ?_);(try simp only[go_sem,c3,c4]);try first | rfl | exact ⟨rfl,rfl⟩ | (simp;done))
def N5(l:List (List UInt8))(x:List UInt8):Option Nat:=l.findIdx? (λ y=>decide (y=x))
def ixI(o:Option Nat):Int:=match o with | some i=>(i:Int) | none=>-1
theorem LS(o:Option Nat):decide (0<=ixI o)=o.isSome:=by cases o<;>simp[ixI]
theorem Qs(o:Option Nat):decide (ixI o<0)=o.isNone:=by
 cases o with
 | none=>rfl
 | some i=>exact Ah (by simp only[ixI];omega)
theorem Uj{l:List (List UInt8)}{x:List UInt8}{i:Nat}(h:N5 l x=some i):i<l.length/\l.getD i []=x:=by
 unfold N5 at h;obtain ⟨h1,h2,_⟩:=List.findIdx?_eq_some_iff_getElem.1 h;exact ⟨h1,by rw[getD_eq h1];simpa using h2⟩
theorem K4{l:List (List UInt8)}{x:List UInt8}:N5 l x=none↔x∉l:=by
 unfold N5;rw[List.findIdx?_eq_none_iff];constructor
 . intro h hx;have:=h x hx;simp at this
 . intro h y hy;simp;rintro rfl;exact h hy
theorem Z1(l:List (List UInt8))(y x:List UInt8)(hy:y∉l):N5 (l++[y]) x=if x=y then some l.length else N5 l x:=by
 unfold N5;rw[List.findIdx?_append];by_cases h:x=y
 . subst h;have:l.findIdx? (λ z=>decide (z=x))=none:=K4.2 hy;rw[this,if_pos rfl];simp
 . rw[if_neg h];cases hf:l.findIdx? (λ z=>decide (z=x)) with
   | some i=>rfl
   | none=>simp[Bc h]
theorem Adm{ns:List (List UInt8)}{x:List UInt8}(step:Int->Option (Int⊕(Int⊕Int)))(hl:ns.length<=10000000)
   (h1:∀i,i<ns.length->step (i:Int)=some (if ns.getD i []=x then .inr (.inr (i:Int)) else .inl ((i+1:Nat):Int))) (h2:step (ns.length:Int)=some (.inr (.inl (ns.length:Int)))):
   CC step 0=some (match N5 ns x with | some i=> .inr (i:Int) | none=> .inl (ns.length:Int)):=by
 have h:=K1 (step:=step) ns.length (λ i=>(i:Int)) (Sum.inl (ns.length:Int)) (λ i=>if ns.getD i []=x then some (Sum.inr (i:Int)) else none)
   (λ i hi _=>by rw[h1 i hi];split<;>simp_all) (λ _=>h2)
 rw[show ((0:Nat):Int)=0 from rfl] at h;rw[h]
 congr 1
 cases hx:N5 ns x with
 | none=>
   have hn:=K4.1 hx;have:(List.range ns.length).findSome? (λ i=>if ns.getD i []=x then some (Sum.inr (i:Int):Int⊕Int) else none)=none:=by
     rw[Bw];intro i hi;rw[if_neg];intro e;exact hn (by rw[<-e];exact CF ns i [] (by simpa using hi))
   rw[this];rfl
 | some i=>
   obtain ⟨g1,g2⟩:=Uj hx;have Bc1:∀j,j<i->ns.getD j []≠x:=by
     intro j hj;have:=(List.findIdx?_eq_some_iff_getElem.1 hx).2.2 j hj;rw[getD_eq (by omega)]
     simpa using this
   have hr:List.range ns.length=List.range i++i::(List.range (ns.length - i - 1)).map (· +(i+1)):=by
     have:ns.length=i+1+(ns.length - i - 1):=by omega
     conv=>lhs;rw[this,List.range_add,List.range_succ]
     simp[Nat.add_comm]
   rw[hr,List.findSome?_append];have:(List.range i).findSome? (λ i=>if ns.getD i []=x then some (Sum.inr (i:Int):Int⊕Int) else none)=none:=by
     rw[Bw];intro j hj;rw[if_neg (Bc1 j (by simpa using hj))]
   rw[this,Option.none_or,List.findSome?_cons,if_pos g2];rfl
theorem Jj(n:Nt)(x:List UInt8)(hl:n.blocks.length<=10000000):GV n x=some (ixI (N5 (n.blocks.map Et.name) x)):=by
 have h:=Adm (ns:=n.blocks.map Et.name) (x:=x) (KN n x) (by simpa using hl)
   (λ i hi=>by
     have Ea:i<n.blocks.length:=by simpa using hi
     rw[KN.eq_1,E1 Ea,Ak,Cr n.blocks i FR Ea,Aa,CA (by omega)];have e:(n.blocks.map Et.name).getD i []=(n.blocks.getD i FR).name:=by simp[List.getD,Ea]
     rw[e];by_cases c:(n.blocks.getD i FR).name=x
     . rw[if_pos c,Ag c];rfl
     . rw[if_neg c,Ah c];rfl)
   (by rw[Ba,KN.eq_1,FA,Aj])
 unfold GV;rw[h];cases N5 (n.blocks.map Et.name) x<;>rfl
theorem TP(n:Nt)(x:List UInt8)(hl:n.spurs.length<=10000000):LD n x=some (ixI (N5 (n.spurs.map Da.name) x)):=by
 have h:=Adm (ns:=n.spurs.map Da.name) (x:=x) (MP n x) (by simpa using hl)
   (λ i hi=>by
     have Ea:i<n.spurs.length:=by simpa using hi
     rw[MP.eq_1,E1 Ea,Ak,Cr n.spurs i Cu Ea,Aa,CA (by omega)];have e:(n.spurs.map Da.name).getD i []=(n.spurs.getD i Cu).name:=by simp[List.getD,Ea]
     rw[e];by_cases c:(n.spurs.getD i Cu).name=x
     . rw[if_pos c,Ag c];rfl
     . rw[if_neg c,Ah c];rfl)
   (by rw[Ba,MP.eq_1,FA,Aj])
 unfold LD;rw[h];cases N5 (n.spurs.map Da.name) x<;>rfl
theorem Ws(l p:List Int)(x:Int):x∈l.foldl Fs p↔x∈p∨x∈l:=by
 induction l generalizing p with
 | nil=>simp
 | cons y r ih=>
   rw[Bs,ih,Qt];simp only[AG];constructor
   . rintro ((h | h) | h)<;>simp[h]
   . rintro (h | h | h)<;>simp[h]
theorem Amn(l:List Int)(x:Int)(hl:l.length<=10000000):W2 l x=some (decide (x∈l)):=by
 have h:=K1 (step:=UG l x) l.length (λ i=>(i:Int)) (Sum.inl (l.length:Int)) (λ i=>if l.getD i 0=x then some (Sum.inr true) else none)
   (λ i hi _=>by
     rw[UG.eq_1,E1 hi,Ak,Cr l i 0 hi,Aa,CA (by omega)];by_cases c:l.getD i 0=x
     . rw[if_pos c,Ag c];rfl
     . rw[if_neg c,Ah c];rfl)
   (λ _=>by rw[UG.eq_1,FA,Aj])
 unfold W2;rw[show ((0:Nat):Int)=0 from rfl] at h;rw[h];by_cases c:x∈l
 . rw[Ag c];cases hf:(List.range l.length).findSome? (λ i=>if l.getD i 0=x then some (Sum.inr true:Int⊕Bool) else none) with
   | none=>
     exfalso;rw[Bw] at hf;obtain ⟨i,hi,e⟩:=List.getElem_of_mem c;have:=hf i (by simpa using hi);rw[getD_eq hi,if_pos e] at this;cases this
   | some e=>
     obtain ⟨i,hi,he⟩:=List.exists_of_findSome?_eq_some hf;split at he
     . cases he;rfl
     . cases he
 . rw[Ah c];have:(List.range l.length).findSome? (λ i=>if l.getD i 0=x then some (Sum.inr true:Int⊕Bool) else none)=none:=by
     rw[Bw];intro i hi;rw[if_neg];intro e;exact c (by rw[<-e];exact CF l i 0 (by simpa using hi))
   rw[this];rfl
theorem Ag4(l:List Int)(x:Int)(hl:l.length<=1000000):Nh l x=some (Fs l x):=by
 have key:∀(r p:List Int) (dn:Bool),p.length+2*r.length<=3000000->(∃q:List Int,q.length+r.length=l.length/\l=q++r)->
     ∃dn' i',CC (K6 l x) (p,dn,((l.length - r.length:Nat):Int))=some (if dn=true then p++r else (if dn'=true then p++Fs r x else p++r),dn',i')/\(dn=true->dn'=true)/\(dn=false->dn'=false->Fs r x=r++[x]):=by
   intro r
   induction r with
   | nil=>
     intro p dn hp hq;refine ⟨dn,((l.length - 0:Nat):Int),?_,id,λ h _=>by simp[Fs]⟩;rw[C0,K6.eq_1,Ax,Nat.sub_zero,FA,Aj,Aa,B0];cases dn<;>simp[Fs]
   | cons y r ih=>
     intro p dn hp ⟨q,Uv,VZ⟩;have hql:q.length<l.length:=by simp at Uv;omega
     have FC:l.length - (y::r).length=q.length:=by simp at Uv ⊢;omega
     have Jr:CK l (q.length:Int)=some y:=by rw[GX,VZ];simp
     have hnx:((l.length - r.length:Nat):Int)=((q.length+1:Nat):Int):=by simp at Uv;omega
     rw[FC,C0,K6.eq_1,E1 hql,Ak];simp only[Jr,Aa,CA (show q.length<10000000 by omega)];have hlp:p.length+2<10000000:=by simp only[An] at hp;omega
     cases dn with
     | true=>
       rw[Ak,Ag (by (try simp only[An,Ax]);omega),Ak,Aa,B4,<-hnx];obtain ⟨dn',i',h1,h2,h3⟩:=ih (p++[y]) true (by simp only[Aq,An,Ax] at hp ⊢;omega) ⟨q++[y],(by simp only[Aq,An,Ax] at Uv ⊢;omega),(by simp[VZ])⟩;exact ⟨dn',i',by rw[h1];simp,h2,λ h=>(by cases h)⟩
     | false=>
       rw[Aj];by_cases c:x<y
       . rw[Ag c,Ak,Ag (by (try simp only[An,Ax]);omega),Ak,Ag (by (try simp only[Aq,An,Ax]);omega),Ak,Aa,B4,<-hnx];obtain ⟨dn',i',h1,h2,h3⟩:=ih ((p++[x])++[y]) true (by simp only[Aq,An,Ax] at hp ⊢;omega) ⟨q++[y],(by simp only[Aq,An,Ax] at Uv ⊢;omega),(by simp[VZ])⟩;refine ⟨true,i',?_,λ h=>(by cases h),λ _ h=>(by cases h)⟩;rw[h1,h2 rfl];simp[Fs,c]
       . rw[Ah c,Aj,Ag (by (try simp only[An,Ax]);omega),Ak,Aa,B4,<-hnx];obtain ⟨dn',i',h1,h2,h3⟩:=ih (p++[y]) false (by simp only[Aq,An,Ax] at hp ⊢;omega) ⟨q++[y],(by simp only[Aq,An,Ax] at Uv ⊢;omega),(by simp[VZ])⟩;refine ⟨dn',i',?_,λ h=>(by cases h),λ _ h=>(by simp[Fs,c,h3 rfl h])⟩;rw[h1];simp[Fs,c]
 obtain ⟨dn',i',h1,_,h3⟩:=key l [] false (by simp only[Ax];omega) ⟨[],by simp,rfl⟩;rw[Nat.sub_self] at h1;unfold Nh;rw[show ((0:Nat):Int)=0 from rfl] at h1;rw[h1,Aa];simp only[AM,Bb,Bl];cases dn'
 . simp only[AM,Bb,Aj];rw[Ag (by (try simp only[An,Ax]);omega),Ak,h3 rfl rfl]
 . simp
def Hv(p:Int×Int):Int:=p.1*8+p.2
def Sv(o:Option Nat):Option Int:=match o with | some i=>some (i:Int) | none=>none
structure NI(b:CM):Prop where
 mb:∀x,Es b.mb x=Sv (N5 (b.bl.map Et.name) x)
 ms:∀x,Es b.ms x=Sv (N5 (b.sp.map Da.name) x)
 ba:∀i,i<b.sp.length->b.ba.getD i 0=Di (b.sp.take i)
 sl:b.sl=Di b.sp
def rS(b:CM):(List Et)×(List (List Int))×(List Da)×(List Int)×Int×Int×Int×Int×Bool:=(b.bl,b.nx.map Dn,b.sp,b.pl.map Hv,b.cq,b.ca,b.cd,b.cp,b.cf)
theorem T9{b:CM}(n:NI b)(x:List UInt8):b.Kp x=((N5 (b.bl.map Et.name) x).isSome||(N5 (b.sp.map Da.name) x).isSome):=by
 unfold CM.Kp;rw[n.mb,n.ms];cases N5 (b.bl.map Et.name) x<;>cases N5 (b.sp.map Da.name) x<;>rfl
theorem Akr{b:CM}(h:BI b)(n:NI b)(d:Dc)(h1:1<=d.names.length)(h2:2<=d.Cb.length):
   ∃s',KQ b.bl (b.nx.map Dn) b.sp (b.pl.map Hv) b.cq b.ca b.cd b.cp b.cf d=some ((b.E5 d).1,s')/\((b.E5 d).1=0->s'=rS (b.E5 d).2/\NI (b.E5 d).2):=by
 have hnb:=h.nb;have hns:=h.ns;unfold KQ;rw[show CK d.names 0=some (d.names.getD 0 []) from Cr d.names 0 [] (by omega),Aa,Jj _ _ (by simp;omega),Aa,LS];unfold CM.E5;rw[T9 n];cases c1:N5 (b.bl.map Et.name) (d.names.getD 0 []) with
 | some i=>exact ⟨rS b,by simp[rS],by simp⟩
 | none=>
   rw[Bd,Aj,TP _ _ (by simp;omega),Aa,LS];cases c2:N5 (b.sp.map Da.name) (d.names.getD 0 []) with
   | some i=>exact ⟨rS b,by simp[rS],by simp⟩
   | none=>
     rw[Bd,Aj,Bool.or_self,if_neg AJ];by_cases c3:b.bl.length=24
     . rw[Ag (by omega),Ak,if_pos c3];exact ⟨rS b,rfl,by simp⟩
     . rw[Ah (by omega),Aj,if_neg c3,show CK d.Cb 0=some (d.Cb.getD 0 0) from Cr d.Cb 0 0 (by omega),Aa,
         show CK d.Cb 1=some (d.Cb.getD 1 0) from Cr d.Cb 1 0 (by omega),Aa,Ag (by omega),Ak,Ag (by rw[Ba,h.nn];omega),Ak]
       refine ⟨_,rfl,λ _=>⟨by simp[rS,Dn],⟨λ x=>?_,n.ms,n.ba,n.sl⟩⟩⟩;simp only[Ob,Bg,AH,BE];rw[Z1 _ _ _ (K4.1 c1)];split
       . simp[Sv]
       . exact n.mb x
theorem Aqy{b:CM}(h:BI b)(n:NI b)(d:Dc)(h1:3<=d.names.length)(h2:1<=d.Cb.length):
   ∃s',KO b.bl (b.nx.map Dn) b.sp (b.pl.map Hv) b.cq b.ca b.cd b.cp b.cf d=some ((b.EO d).1,s')/\((b.EO d).1=0->s'=rS (b.EO d).2/\NI (b.EO d).2):=by
 have hnb:=h.nb;have hns:=h.ns;unfold KO;rw[show CK d.names 1=some (d.names.getD 1 []) from Cr d.names 1 [] (by omega),Aa,show CK d.names 2=some (d.names.getD 2 []) from Cr d.names 2 [] (by omega),Aa,
   Jj _ _ (by simp;omega),Aa,Jj _ _ (by simp;omega),Aa,show CK d.names 0=some (d.names.getD 0 []) from Cr d.names 0 [] (by omega),Aa,
   Jj _ _ (by simp;omega),Aa,LS]
 unfold CM.EO;rw[T9 n,n.mb,n.mb];cases c1:N5 (b.bl.map Et.name) (d.names.getD 0 []) with
 | some i=>exact ⟨rS b,by simp[rS,Sv],by simp[Sv]⟩
 | none=>
   rw[Bd,Aj,TP _ _ (by simp;omega),Aa,LS];cases c2:N5 (b.sp.map Da.name) (d.names.getD 0 []) with
   | some i=>exact ⟨rS b,by simp[rS,Sv],by simp[Sv]⟩
   | none=>
     rw[Bd,Aj,Bool.or_self,if_neg AJ,Qs,Qs];cases c3:N5 (b.bl.map Et.name) (d.names.getD 1 []) with
     | none=>exact ⟨rS b,by simp[rS,Sv],by simp[Sv]⟩
     | some i=>
       rw[Option.isNone_some,Aj];cases c4:N5 (b.bl.map Et.name) (d.names.getD 2 []) with
       | none=>exact ⟨rS b,by simp[rS,Sv],by simp[Sv]⟩
       | some j=>
         rw[Option.isNone_some,Aj,show CK d.Cb 0=some (d.Cb.getD 0 0) from Cr d.Cb 0 0 (by omega),Aa];simp only[Sv];cases c5:decide (d.Cb.getD 0 0<1);rotate_left
         . exact ⟨rS b,by simp[rS,Sv],by simp[Sv]⟩
         rw[Aj,if_neg AJ];cases c6:decide (4<d.Cb.getD 0 0);rotate_left
         . exact ⟨rS b,by simp[rS,Sv],by simp[Sv]⟩
         rw[Aj,if_neg AJ];by_cases c7:b.sp.length=6
         . rw[Ag (by omega),Ak,if_pos c7];exact ⟨rS b,rfl,by simp⟩
         . rw[Ah (by omega),Aj,if_neg c7,Ag (by omega),Ak];refine ⟨_,rfl,λ _=>⟨rfl,⟨n.mb,λ x=>?_,λ i hi=>?_,?_⟩⟩⟩
           . simp only[Ob,Bg,AH,BE];rw[Z1 _ _ _ (K4.1 c2)];split
             . simp[Sv]
             . exact n.ms x
           . have VE:=h.nba;simp only[Aq,An,Ax] at hi;by_cases e:i<b.sp.length
             . rw[List.take_append_of_le_length (by omega)];have:=n.ba i e;rw[<-this];simp[List.getD,AL,show i<b.ba.length by omega]
             . have e2:i=b.sp.length:=by omega
               subst e2;rw[List.take_left' rfl,<-n.sl];simp[List.getD,AL,VE]
           . simp only[D9,n.sl]
theorem Aoy{p q:Int×Int}(hp:1<=p.2/\p.2<=4)(hq:1<=q.2/\q.2<=4)(h:Hv p=Hv q):p=q:=by
 unfold Hv at h;have h1:p.1=q.1:=by omega
 have h2:p.2=q.2:=by omega
 exact Prod.ext h1 h2
theorem Akq{b:CM}(h:BI b)(n:NI b)(d:Dc)(h1:1<=d.names.length)(h2:1<=d.Cb.length):
   ∃s',KP b.bl (b.nx.map Dn) b.sp (b.pl.map Hv) b.cq b.ca b.cd b.cp b.cf d=some ((b.DM d).1,s')/\((b.DM d).1=0->s'=rS (b.DM d).2/\NI (b.DM d).2):=by
 have hnb:=h.nb;have hns:=h.ns;have Mw:=h.np;unfold KP;rw[show CK d.names 0=some (d.names.getD 0 []) from Cr d.names 0 [] (by omega),Aa,TP _ _ (by simp;omega),Aa,Qs];unfold CM.DM;rw[n.ms];cases c1:N5 (b.sp.map Da.name) (d.names.getD 0 []) with
 | none=>exact ⟨rS b,by simp[rS,Sv],by simp[Sv]⟩
 | some i=>
   have hi:i<b.sp.length:=by simpa using (Uj c1).1
   rw[Option.isNone_some,Aj,show CK b.sp (ixI (some i))=some (b.sp.getD i Cu) from Cr b.sp i Cu hi,Aa];simp only[Sv,Ab];have hs:=h.sps (b.sp.getD i Cu) (CF b.sp i Cu hi);cases c2:(b.sp.getD i Cu).CE
   . exact ⟨rS b,by simp[rS,Sv],by simp[Sv]⟩
   rw[Ak,if_neg (by simp),show CK d.Cb 0=some (d.Cb.getD 0 0) from Cr d.Cb 0 0 (by omega),Aa];cases c3:decide (d.Cb.getD 0 0<1);rotate_left
   . exact ⟨rS b,by simp[rS,Sv],by simp[Sv]⟩
   rw[Aj,if_neg AJ];have c3':=Ae c3;by_cases c4':(b.sp.getD i Cu).Cs<d.Cb.getD 0 0
   . have c4:=Ag c4';simp only[c4,Ak,AP];exact ⟨rS b,rfl,by simp⟩
   have c4:=Ah c4';have hw:IntKind.i64.wrap (IntKind.i64.wrap (ixI (some i)*8)+d.Cb.getD 0 0)=Hv ((i:Int),d.Cb.getD 0 0):=by
     unfold Hv ixI;rw[IntKind.wrap_i64,IntKind.wrap_i64];simp only;omega
   simp only[c4,Aj,AM,Bb];rw[hw,Amn _ _ (by simp;omega),Aa];have hm:decide (Hv ((i:Int),d.Cb.getD 0 0)∈b.pl.map Hv)=decide (((i:Int),d.Cb.getD 0 0)∈b.pl):=by
     rw[Bm,Au,Au,AU];constructor
     . rintro ⟨q,hq,e⟩;rw[<-Aoy (h.pls q hq).2 (by simp only;omega) e];exact hq
     . intro hq;exact ⟨_,hq,rfl⟩
   rw[hm];by_cases c5:((i:Int),d.Cb.getD 0 0)∈b.pl
   . rw[Ag c5,Ak,if_pos c5];exact ⟨rS b,rfl,by simp⟩
   rw[Ah c5,Aj,if_neg c5];by_cases c6:b.pl.length=8
   . rw[Ag (by rw[Ba];omega),Ak,if_pos c6];exact ⟨rS b,rfl,by simp⟩
   . rw[Ah (by rw[Ba];omega),Aj,if_neg c6,Ag (by rw[Ba];omega),Ak];exact ⟨_,rfl,λ _=>⟨by simp[rS],⟨n.mb,n.ms,n.ba,n.sl⟩⟩⟩
theorem Akp(q a d p:Int):GU ⟨q,a,d,p⟩=some (decide (IV q a d p)):=by
 unfold GU;have hc:∀b1 b2 b3 b4 b5 b6 b7 b8:Bool,cond b1 (cond b2 (cond b3 (cond b4 (cond b5 (cond b6 (cond b7 (some b8) (some false)) (some false)) (some false)) (some false)) (some false)) (some false)) (some false)=some (b1&&(b2&&(b3&&(b4&&(b5&&(b6&&(b7&&b8))))))):=by decide
 rw[hc]
 congr 1
 rw[Bm];simp only[As,Au];exact Iff.rfl
theorem Apb(q a d p:Int):YE q a d p=decide (IV q a d p):=by
 unfold YE inV;rw[Bm];simp only[As,Au];exact ⟨λ ⟨⟨a1,a2⟩,⟨b1,b2⟩,⟨c1,c2⟩,d1,d2⟩=>⟨a1,a2,b1,b2,c1,c2,d1,d2⟩,λ ⟨a1,a2,b1,b2,c1,c2,d1,d2⟩=>⟨⟨a1,a2⟩,⟨b1,b2⟩,⟨c1,c2⟩,d1,d2⟩⟩
theorem Af6{b:CM}(n:NI b)(d:Dc)(h2:4<=d.Cb.length):
   ∃s',JG b.bl (b.nx.map Dn) b.sp (b.pl.map Hv) b.cq b.ca b.cd b.cp b.cf d=some ((b.D3 d).1,s')/\((b.D3 d).1=0->s'=rS (b.D3 d).2/\NI (b.D3 d).2):=by
 unfold JG CM.D3;cases c1:b.cf;rotate_left
 . exact ⟨_,rfl,by simp⟩
 rw[Aj,if_neg AJ,show CK d.Cb 0=some (d.Cb.getD 0 0) from Cr d.Cb 0 0 (by omega),Aa,show CK d.Cb 1=some (d.Cb.getD 1 0) from Cr d.Cb 1 0 (by omega),Aa,
   show CK d.Cb 2=some (d.Cb.getD 2 0) from Cr d.Cb 2 0 (by omega),Aa,show CK d.Cb 3=some (d.Cb.getD 3 0) from Cr d.Cb 3 0 (by omega),Aa,Akp,Aa,Apb]
 cases decide (IV (d.Cb.getD 0 0) (d.Cb.getD 1 0) (d.Cb.getD 2 0) (d.Cb.getD 3 0))
 . exact ⟨_,rfl,by simp⟩
 . exact ⟨_,rfl,λ _=>⟨rfl,⟨n.mb,n.ms,n.ba,n.sl⟩⟩⟩
theorem ZA(d:Dc)(hd:d.names.length<=10000000):∀(r:List (List UInt8)) (i:Nat) (b:CM),BI b->NI b->d.names.drop i=r->i<=d.names.length->
   ∃e s',CC (Jk b.bl b.sp (b.pl.map Hv) b.cq b.ca b.cd b.cp b.cf d) (b.nx.map Dn,(i:Int))=some e/\
     (match e with | .inl x=>(0,b.bl,x.1,b.sp,b.pl.map Hv,b.cq,b.ca,b.cd,b.cp,b.cf) | .inr y=>y)=((b.Eh r).1,s')/\((b.Eh r).1=0->s'=rS (b.Eh r).2/\NI (b.Eh r).2)
 | [],i,b,h,n,hr,hi=>by
   have J7:i=d.names.length:=by have:=congrArg List.length hr;simp at this;omega
   refine ⟨_,rS b,by rw[C0,Jk.eq_1,Ah (by rw[IntKind.wrap_i64];omega),Aj,Aa,B0],rfl,λ _=>⟨rfl,n⟩⟩
 | [x],i,b,h,n,hr,hi=>by
   have J7:i+1=d.names.length:=by have:=congrArg List.length hr;simp at this;omega
   refine ⟨_,rS b,by rw[C0,Jk.eq_1,Ah (by rw[IntKind.wrap_i64];omega),Aj,Aa,B0],rfl,λ _=>⟨rfl,n⟩⟩
 | x::y::r,i,b,h,n,hr,hi=>by
   have hnb:=h.nb;have hnn:=h.nn;have J7:i+1<d.names.length:=by have:=congrArg List.length hr;simp at this;omega
   have hx:CK d.names (i:Int)=some x:=by
     rw[GX];have:=congrArg (·[0]?) hr
     simpa [List.getElem?_drop] using this
   have hy:CK d.names ((i+1:Nat):Int)=some y:=by
     rw[GX];have:=congrArg (·[1]?) hr
     simpa [List.getElem?_drop] using this
   have Oa:d.names.drop (i+1)=y::r:=by
     rw[<-List.drop_drop,hr];rfl
   have hw:IntKind.i64.wrap ((i:Int)+1)=((i+1:Nat):Int):=by rw[IntKind.wrap_i64];omega
   rw[C0,Jk.eq_1,hw,Ag (by omega),Ak,hx,Aa,hy,Aa,Jj _ _ (by simp;omega),Aa,Jj _ _ (by simp;omega),Aa,Qs,Qs];have Oz:∀c:Int,c≠0->b.Fw x y=(c,b)->b.Eh (x::y::r)=(c,b):=λ c hc h=>by simp[CM.Eh,h,hc]
   have hL:b.Fw x y=(match Sv (N5 (b.bl.map Et.name) x),Sv (N5 (b.bl.map Et.name) y) with
     | some i,some j=>if i=j then (10,b) else if j∈b.nx.getD i.toNat [] then (11,b) else if (b.nx.getD i.toNat []).length=4 then (14,b) else (0,{b with nx:=b.nx.set i.toNat (b.nx.getD i.toNat []++[j])})
     | _,_=>(9,b)):=by
     unfold CM.Fw;rw[n.mb,n.mb];cases N5 (b.bl.map Et.name) x<;>cases N5 (b.bl.map Et.name) y<;>rfl
   cases c1:N5 (b.bl.map Et.name) x with
   | none=>
     rw[Oz 9 (by decide) (by rw[hL,c1];rfl)];exact ⟨_,rS b,rfl,rfl,by simp⟩
   | some u=>
     rw[Option.isNone_some,Aj];cases c2:N5 (b.bl.map Et.name) y with
     | none=>
       rw[Oz 9 (by decide) (by rw[hL,c1,c2];rfl)];exact ⟨_,rS b,rfl,rfl,by simp⟩
     | some v=>
       have hu:u<b.nx.length:=by have:=(Uj c1).1;simp at this;omega
       rw[Option.isNone_some,Aj,show (decide (ixI (some u)=ixI (some v)))=decide ((u:Int)=(v:Int)) from rfl];rw[show ixI (some u)=(u:Int) from rfl,show ixI (some v)=(v:Int) from rfl];have hL2:b.Fw x y=(if (u:Int)=(v:Int) then (10,b) else if (v:Int)∈b.nx.getD u [] then (11,b) else if (b.nx.getD u []).length=4 then (14,b) else (0,{b with nx:=b.nx.set u (b.nx.getD u []++[(v:Int)])})):=by rw[hL,c1,c2];rfl
       by_cases c3:(u:Int)=(v:Int)
       . rw[Ag c3,Ak,Oz 10 (by decide) (by rw[hL2,if_pos c3])];exact ⟨_,rS b,rfl,rfl,by simp⟩
       rw[Ah c3,Aj];rw[if_neg c3] at hL2;have Dq:CK (b.nx.map Dn) (u:Int)=some (Dn (b.nx.getD u [])):=by rw[GX];simp[List.getD,hu]
       have h4:=h.row u;rw[Dq,Aa,Amn _ _ (by rw[KI];omega),Aa];have hm:decide ((v:Int)∈Dn (b.nx.getD u []))=decide ((v:Int)∈b.nx.getD u []):=by
         rw[Bm,Au,Au];unfold Dn;rw[Ws];simp
       rw[hm];by_cases c4:(v:Int)∈b.nx.getD u []
       . rw[Ag c4,Ak,Oz 11 (by decide) (by rw[hL2,if_pos c4])];exact ⟨_,rS b,rfl,rfl,by simp⟩
       rw[if_neg c4] at hL2;rw[Ah c4,Aj,KI];by_cases c5:(b.nx.getD u []).length=4
       . rw[Ag (by omega),Ak,Oz 14 (by decide) (by rw[hL2,if_pos c5])];exact ⟨_,rS b,rfl,rfl,by simp⟩
       rw[if_neg c5] at hL2;rw[Ah (by omega),Aj,Ag4 _ _ (by rw[KI];omega),Aa,Aa,B4];have hB2:BI {b with nx:=b.nx.set u (b.nx.getD u []++[(v:Int)])}:=by
         have:=h.lane x y;rw[hL2] at this;exact this
       have E2:(b.nx.map Dn).set u (Fs (Dn (b.nx.getD u [])) (v:Int))=(b.nx.set u (b.nx.getD u []++[(v:Int)])).map Dn:=by
         rw[Br]
         congr 1
         unfold Dn;rw[List.foldl_append];rfl
       rw[Ab,E2];have hlv:b.Eh (x::y::r)=CM.Eh {b with nx:=b.nx.set u (b.nx.getD u []++[(v:Int)])} (y::r):=by
         simp[CM.Eh,hL2]
       rw[hlv];exact ZA d hd (y::r) (i+1) {b with nx:=b.nx.set u (b.nx.getD u []++[(v:Int)])} hB2 ⟨n.mb,n.ms,n.ba,n.sl⟩ Oa (by omega)
theorem Aqz{b:CM}(h:BI b)(n:NI b)(d:Dc)(hd:d.names.length<=10000000):
   ∃s',MQ b.bl (b.nx.map Dn) b.sp (b.pl.map Hv) b.cq b.ca b.cd b.cp b.cf d=some ((b.Eh d.names).1,s')/\((b.Eh d.names).1=0->s'=rS (b.Eh d.names).2/\NI (b.Eh d.names).2):=by
 obtain ⟨e,s',g1,g2,g3⟩:=ZA d hd d.names 0 b h n (by simp) (AE _);refine ⟨s',?_,g3⟩;unfold MQ;rw[show ((0:Nat):Int)=0 from rfl] at g1;rw[g1,Aa,<-g2];cases e<;>rfl
theorem Aqu(l:List (List UInt8))(hl:l.length<=10000000)(d:Dc)(hd:d.names=l):CC (ET d) 0=some (if (∀j,j<l.length->C3 (l.getD j [])=true) then .inl (l.length:Int) else .inr false):=by
 subst hd;have h:=EM (step:=ET d) d.names.length (λ i=>(i:Int)) (Sum.inl (d.names.length:Int)) (Sum.inr false) (λ i=>C3 (d.names.getD i []))
   (λ i hi _=>by
     rw[ET.eq_1,E1 hi,Ak,Cr d.names i [] hi,Aa,CA (by omega)];simp only[XW,Aa];cases C3 (d.names.getD i [])<;>rfl)
   (λ _=>by rw[ET.eq_1,FA,Aj])
 exact h
theorem Akj(d:Dc)(hl:d.Cb.length<=10000000):CC (EU d) 0=some (if (∀j,j<d.Cb.length->(!(decide (d.Cb.getD j 0< -9999)||decide (9999<d.Cb.getD j 0)))=true) then .inl (d.Cb.length:Int) else .inr false):=by
 have h:=EM (step:=EU d) d.Cb.length (λ i=>(i:Int)) (Sum.inl (d.Cb.length:Int)) (Sum.inr false) (λ i=>!(decide (d.Cb.getD i 0< -9999)||decide (9999<d.Cb.getD i 0)))
   (λ i hi _=>by
     rw[EU.eq_1,E1 hi,Ak,Cr d.Cb i 0 hi,Aa,CA (by omega)];cases decide (d.Cb.getD i 0< -9999)<;>cases decide (9999<d.Cb.getD i 0)<;>rfl)
   (λ _=>by rw[EU.eq_1,FA,Aj])
 exact h
theorem Q0{α:Type}(l:List α)(p:α->Bool)(x:α):l.all p=true↔∀j,j<l.length->p (l.getD j x)=true:=by
 rw[AB];constructor
 . intro h j hj;exact h _ (CF l j x hj)
 . intro h y hy;obtain ⟨i,hi,rfl⟩:=List.getElem_of_mem hy;have:=h i hi;rwa[getD_eq hi] at this
theorem Aka(w:Int):Ir w=some (CD w):=by
 unfold Ir CD;by_cases h1:w=1
 . simp[h1]
 by_cases h2:w=2
 . simp[h2]
 by_cases h3:w=3
 . simp[h3]
 by_cases h4:w=4
 . simp[h4]
 by_cases h5:w=5
 . simp[h5]
 . simp[h1,h2,h3,h4,h5]
theorem XZ(w:Int)(nl ml:Nat)(x3 x4:Int)(t:Bool):
   cond (decide (w<1)) (some false) (cond (decide (6<w)) (some false) (cond (decide ((ml:Int)=x4)) (cond (decide ((nl:Int)<x3)) (some false) (cond (decide (x3<(nl:Int))) (cond (decide (w=2)) (some t) (some false)) (some t))) (some false)))=
     some (decide (1<=w/\w<=6)&&(decide ((ml:Int)=x4)&&((decide ((nl:Int)=x3)||(decide (x3<(nl:Int))&&decide (w=2)))&&t))):=by
 by_cases h1:w<1
 . rw[Ag h1,Ak,Ah (by omega:¬(1<=w/\w<=6)),Bool.false_and]
 rw[Ah h1,Aj];by_cases h2:6<w
 . rw[Ag h2,Ak,Ah (by omega:¬(1<=w/\w<=6)),Bool.false_and]
 rw[Ah h2,Aj,Ag (by omega:1<=w/\w<=6),A7];by_cases h3:(ml:Int)=x4;rotate_left
 . rw[Ah h3,Aj,Bool.false_and]
 rw[Ag h3,Ak,A7];by_cases h4:(nl:Int)<x3
 . rw[Ag h4,Ak,Ah (by omega:¬(nl:Int)=x3),Ah (by omega:¬x3<(nl:Int))];rfl
 rw[Ah h4,Aj];by_cases h5:x3<(nl:Int)
 . rw[Ag h5,Ak,Ah (by omega:¬(nl:Int)=x3),A7,Bool.false_or];cases decide (w=2)<;>rfl
 . rw[Ah h5,Aj,Ag (by omega:(nl:Int)=x3),Bool.true_or,A7]
theorem ZG(d:Dc)(hd:d.names.length<=10000000/\d.Cb.length<=10000000):Is d=some (Dh d):=by
 have hA:=Aqu d.names hd.1 d rfl;have hB:=Akj d hd.2;unfold Is Dh;rw[Aka,Aa];generalize CD d.word=sh;obtain ⟨x3,x4⟩:=sh;dsimp only;by_cases g1:∀j,j<d.names.length->C3 (d.names.getD j [])=true
 . rw[(Q0 d.names C3 []).2 g1,A7];by_cases g2:∀j,j<d.Cb.length->(!(decide (d.Cb.getD j 0< -9999)||decide (9999<d.Cb.getD j 0)))=true
   . rw[(Q0 d.Cb (λ n=>!(decide (n< -9999)||decide (9999<n))) 0).2 g2];simp only[hA,hB,if_pos g1,if_pos g2,Aa];exact XZ _ _ _ _ _ _
   . have e2:(d.Cb.all λ n=>!(decide (n< -9999)||decide (9999<n)))=false:=by
       rw[Bool.eq_false_iff];intro h;exact g2 ((Q0 d.Cb (λ n=>!(decide (n< -9999)||decide (9999<n))) 0).1 h)
     rw[e2];simp only[hA,hB,if_pos g1,if_neg g2,Aa];exact XZ _ _ _ _ _ _
 . have e1:d.names.all C3=false:=by
     rw[Bool.eq_false_iff];intro h;exact g1 ((Q0 d.names C3 []).1 h)
   rw[e1,Bool.false_and];simp only[hA,if_neg g1,Aa];exact XZ _ _ _ _ _ _
theorem Al7{b:CM}(h:BI b)(n:NI b)(d:Dc)(hd:d.names.length<=10000000/\d.Cb.length<=10000000):
   ∃s',ES b.bl (b.nx.map Dn) b.sp (b.pl.map Hv) b.cq b.ca b.cd b.cp b.cf d=some ((b.ED d).1,s')/\((b.ED d).1=0->s'=rS (b.ED d).2/\NI (b.ED d).2):=by
 unfold ES;have he:(⟨d.word,d.line,d.names,d.Cb⟩:Dc)=d:=rfl;rw[he,ZG d hd,Aa];cases c0:Dh d
 . have hv:b.ED d=(20,b):=by unfold CM.ED;rw[if_pos c0]
   rw[hv];exact ⟨rS b,rfl,by simp⟩
 rw[Ak];have hs:=MH c0;by_cases c1:d.word=1
 . rw[c1] at hs;simp[CD] at hs;have hv:b.ED d=b.E5 d:=by unfold CM.ED;rw[if_neg (by rw[c0];simp),if_pos (Ag c1)]
   rw[hv,Ag c1,Ak];obtain ⟨s',g1,g2⟩:=Akr h n d (by omega) (by omega);rw[g1];exact ⟨s',rfl,g2⟩
 rw[Ah c1,Aj];by_cases c2:d.word=2
 . have hv:b.ED d=b.Eh d.names:=by unfold CM.ED;rw[if_neg (by rw[c0];simp),if_neg (by rw[Ah c1];simp),if_pos (Ag c2)]
   rw[hv,Ag c2,Ak];obtain ⟨s',g1,g2⟩:=Aqz h n d hd.1;rw[g1];exact ⟨s',rfl,g2⟩
 rw[Ah c2,Aj];by_cases c3:d.word=3∨d.word=4
 . simp only[CD,c1,c2,c3,Bb,AP] at hs;have hv:b.ED d=b.EO d:=by
     unfold CM.ED;rw[if_neg (by rw[c0];simp),if_neg (by rw[Ah c1];simp),if_neg (by rw[Ah c2];simp),if_neg (by rw[Ah (by omega)];simp),if_neg (by rw[Ah (by omega)];simp)]
   rw[hv];obtain ⟨s',g1,g2⟩:=Aqy h n d (by omega) (by omega);rw[g1];rcases c3 with c3 | c3
   . rw[Ag c3,Ak];exact ⟨s',rfl,g2⟩
   . rw[Ah (by omega:¬d.word=3),Aj,Ag c3,Ak];exact ⟨s',rfl,g2⟩
 rw[Ah (by omega:¬d.word=3),Aj,Ah (by omega:¬d.word=4),Aj];by_cases c5:d.word=5
 . rw[c5] at hs;simp[CD] at hs;have hv:b.ED d=b.DM d:=by
     unfold CM.ED;rw[if_neg (by rw[c0];simp),if_neg (by rw[Ah c1];simp),if_neg (by rw[Ah c2];simp),if_pos (Ag c5)]
   rw[hv,Ag c5,Ak];obtain ⟨s',g1,g2⟩:=Akq h n d (by omega) (by omega);rw[g1];exact ⟨s',rfl,g2⟩
 rw[Ah c5,Aj];have c6:d.word=6:=by omega
 rw[c6] at hs;simp[CD] at hs;have hv:b.ED d=b.D3 d:=by
   unfold CM.ED;rw[if_neg (by rw[c0];simp),if_neg (by rw[Ah c1];simp),if_neg (by rw[Ah c2];simp),if_neg (by rw[Ah c5];simp),if_pos (Ag c6)]
 rw[hv];obtain ⟨s',g1,g2⟩:=Af6 n d (by omega);rw[g1];exact ⟨s',rfl,g2⟩
theorem NI.init:NI CM.init:=⟨λ x=>rfl,λ x=>rfl,λ i hi=>by simp[CM.init] at hi,rfl⟩
theorem YK(l:List Dc)(hl:smallD l):∀(r:List Dc) (i:Nat) (b:CM),BI b->NI b->l.drop i=r->i<=l.length->
   CC (KR l) (b.bl,b.nx.map Dn,b.sp,b.pl.map Hv,b.cq,b.ca,b.cd,b.cp,b.cf,(i:Int))=some (match Gb b r with
     | (some (x,e),_)=> .inr (nt0,x,e)
     | (none,b')=> .inl (b'.bl,b'.nx.map Dn,b'.sp,b'.pl.map Hv,b'.cq,b'.ca,b'.cd,b'.cp,b'.cf,(l.length:Int)))/\((Gb b r).1=none->NI (Gb b r).2)
 | [],i,b,h,n,hr,hi=>by
   have J7:i=l.length:=by have:=congrArg List.length hr;simp at this;omega
   subst J7;exact ⟨by rw[C0,KR.eq_1,FA,Aj,Aa,B0];rfl,λ _=>n⟩
 | x::r,i,b,h,n,hr,hi=>by
   have J7:i<l.length:=by have:=congrArg List.length hr;simp at this;omega
   have hx:CK l (i:Int)=some x:=by
     rw[GX];have:=congrArg (·[0]?) hr
     simpa [List.getElem?_drop] using this
   have Oa:l.drop (i+1)=r:=by rw[<-List.drop_drop,hr];rfl
   have hxm:x∈l:=by
     have:x∈l.drop i:=by rw[hr];simp
     exact List.mem_of_mem_drop this
   obtain ⟨s',g1,g2⟩:=Al7 h n x (hl.2 x hxm);obtain ⟨t1,t2,t3,t4,t5,t6,t7,t8,t9⟩:=s';have he:(⟨x.word,x.line,x.names,x.Cb⟩:Dc)=x:=rfl;rw[C0,KR.eq_1,E1 J7,Ak,hx,Aa,he,g1,Aa];simp only[Gb];by_cases c:(b.ED x).1=0
   . obtain ⟨g3,g4⟩:=g2 c;unfold rS at g3;simp only[BV] at g3;obtain ⟨rfl,rfl,rfl,rfl,rfl,rfl,rfl,rfl,rfl⟩:=g3;rw[if_pos c];simp only[c,BS,Ak,Aa,B4,CA (show i<10000000 by have:=hl.1;omega)];exact YK l hl r (i+1) (b.ED x).2 (h.add x) g4 Oa (by omega)
   . rw[if_neg c];simp only[c,decide_false,Aj,Aa,B0];exact ⟨rfl,λ h=>by cases h⟩
def QY(l:List Da):Nat:=(l.filter Da.CE).length
theorem Apq{b:CM}(h:BI b)(n:NI b):CC Jl (b.sp,0,0,(b.bl.length:Int))=some (GK b.bl.length b.sp b.ba,(b.sp.length:Int),(QY b.sp:Int),(b.bl.length:Int)+Di b.sp):=by
 have hns:=h.ns;have hnb:=h.nb;have VE:=h.nba;have Yi:∀i,i<=b.sp.length->0<=Di (b.sp.take i)/\Di (b.sp.take i)<=4*i:=by
   intro i
   induction i with
   | zero=>intro _;simp[Di]
   | succ i ih=>
     intro hi;have h1:=ih (by omega);have h2:=h.sps (b.sp.getD i Cu) (CF b.sp i Cu (by omega));rw[Rg b.sp i (by omega)];omega
 have e:=Dk (step:=Jl) b.sp.length (λ i=>(sB b.bl.length b.sp b.ba i,(i:Int),(QY (b.sp.take i):Int),(b.bl.length:Int)+Di (b.sp.take i)))
   (GK b.bl.length b.sp b.ba,(b.sp.length:Int),(QY b.sp:Int),(b.bl.length:Int)+Di b.sp)
   (λ i hi=>by
     have hl:=XV b.bl.length b.sp b.ba i VE (by omega);have hs:=Yi i (by omega);have h2:=h.sps (b.sp.getD i Cu) (CF b.sp i Cu (by omega));have hd:QY (b.sp.take i)<=i:=by
       unfold QY;have:=List.length_filter_le Da.CE (b.sp.take i);simp at this;omega
     rw[Jl.eq_1,hl,E1 hi,Ak,Cr (sB b.bl.length b.sp b.ba i) i Cu (by omega),Aa,Atb _ _ _ _ VE hi];have E2:(sB b.bl.length b.sp b.ba i).set (Int.toNat (i:Int)) (⟨(b.sp.getD i Cu).name,(b.sp.getD i Cu).CE,(b.sp.getD i Cu).HL,(b.sp.getD i Cu).out,(b.sp.getD i Cu).Cs,(b.bl.length:Int)+Di (b.sp.take i)⟩:Da)=sB b.bl.length b.sp b.ba (i+1):=by
       rw[Ab,<-Akd b.bl.length b.sp b.ba i VE hi,n.ba i hi]
     rw[E2];have hl1:=XV b.bl.length b.sp b.ba (i+1) VE (by omega);have hg:(sB b.bl.length b.sp b.ba (i+1)).getD i Cu={b.sp.getD i Cu with base:=(b.bl.length:Int)+Di (b.sp.take i)}:=by
       rw[<-E2];simp[List.getD,hl,hi]
     rw[Cr (sB b.bl.length b.sp b.ba (i+1)) i Cu (by omega),Aa,hg,CA (show i<10000000 by omega)];have w2:IntKind.i64.wrap ((b.bl.length:Int)+Di (b.sp.take i)+(b.sp.getD i Cu).Cs)=(b.bl.length:Int)+Di (b.sp.take (i+1)):=by rw[Rg b.sp i hi,IntKind.wrap_i64];omega
     have hdp:QY (b.sp.take (i+1))=QY (b.sp.take i)+(if (b.sp.getD i Cu).CE=true then 1 else 0):=by
       unfold QY;rw[CI b.sp i Cu hi,List.filter_append];generalize b.sp.getD i Cu=s;cases c:s.CE<;>simp[c]
     dsimp only;rw[w2,hdp];cases c:(b.sp.getD i Cu).CE
     . rw[Aj];simp
     . rw[Ak,CA (show QY (b.sp.take i)<10000000 by omega)];simp)
   (by
     have hl:=XV b.bl.length b.sp b.ba b.sp.length VE (Ai _);have hsB:sB b.bl.length b.sp b.ba b.sp.length=GK b.bl.length b.sp b.ba:=by
       unfold sB;rw[AZ,List.append_nil,Ar,<-VE,Ar]
     rw[Jl.eq_1,hl,FA,Aj,hsB,Ar])
 have e0:(b.sp,(0:Int),(0:Int),(b.bl.length:Int))=(sB b.bl.length b.sp b.ba 0,((0:Nat):Int),(QY (b.sp.take 0):Int),(b.bl.length:Int)+Di (b.sp.take 0)):=by
   simp[sB,GK,QY,Di]
 rw[e0];exact e
theorem Aey{b:CM}(h:BI b)(sp:List Da)(H8:sp.length=b.sp.length)(hb:∀i,i<sp.length->0<=(sp.getD i Cu).base/\(sp.getD i Cu).base<=100):
   CC (Jn sp) (b.pl.map Hv,0)=some (b.pl.map (PU sp),(b.pl.length:Int)):=by
 have Mw:=h.np;have hns:=h.ns;have e:=Dk (step:=Jn sp) b.pl.length (λ i=>((b.pl.take i).map (PU sp)++(b.pl.drop i).map Hv,(i:Int))) (b.pl.map (PU sp),(b.pl.length:Int))
   (λ i hi=>by
     have hl:((b.pl.take i).map (PU sp)++(b.pl.drop i).map Hv).length=b.pl.length:=by simp;omega
     obtain ⟨⟨j,hj,hjl⟩,hp⟩:=h.pls (b.pl.getD i (0,0)) (CF b.pl i (0,0) hi);have Oa:b.pl.drop i=b.pl.getD i (0,0)::b.pl.drop (i+1):=Df b.pl i (0,0) hi;have htl:((b.pl.take i).map (PU sp)).length=i:=by simp;omega
     have hg:((b.pl.take i).map (PU sp)++(b.pl.drop i).map Hv).getD i 0=Hv (b.pl.getD i (0,0)):=by
       rw[Oa];simp only[List.getD];rw[A1 (by omega),htl];simp
     have hbj:=hb j (by omega);have hq:Int.tdiv (Hv (b.pl.getD i (0,0))) 8=(j:Int):=by
       unfold Hv;rw[hj];rw[Int.tdiv_eq_ediv_of_nonneg (by omega)];omega
     have hm:Int.tmod (Hv (b.pl.getD i (0,0))) 8=(b.pl.getD i (0,0)).2:=by
       unfold Hv;rw[hj];rw[Int.tmod_eq_emod_of_nonneg (by omega)];omega
     rw[Jn.eq_1,hl,E1 hi,Ak,Cr _ i 0 (by omega),Aa,hg,hq,hm,show IntKind.i64.wrap (j:Int)=(j:Int) by rw[IntKind.wrap_i64];omega,Cr sp j Cu (by omega),Aa,CA (by omega)];have w:IntKind.i64.wrap (IntKind.i64.wrap ((sp.getD j Cu).base+(b.pl.getD i (0,0)).2) - 1)=PU sp (b.pl.getD i (0,0)):=by
       unfold PU;rw[hj,Ab,IntKind.wrap_i64,IntKind.wrap_i64];omega
     rw[w,Ab]
     congr 3
     rw[List.set_append_right _ _ (by omega),htl,Nat.sub_self,Oa,CI b.pl i (0,0) hi];simp)
   (by rw[Jn.eq_1];simp[BB,AA])
 have e0:(b.pl.map Hv,(0:Int))=((b.pl.take 0).map (PU sp)++(b.pl.drop 0).map Hv,((0:Nat):Int)):=by simp
 rw[e0];exact e
theorem Af5(d:List Dc)(hd:smallD d):MS d=some (nbuildV d):=by
 obtain ⟨h1,h2⟩:=YK d hd d 0 CM.init BI.init NI.init (by simp) (AE _);have hB:=BI.Aab d BI.init;unfold MS nbuildV;have e0:(([]:List Et),([]:List (List Int)),([]:List Da),([]:List Int),(4:Int),(2:Int),(1:Int),(8:Int),false,(0:Int))=(CM.init.bl,CM.init.nx.map Dn,CM.init.sp,CM.init.pl.map Hv,CM.init.cq,CM.init.ca,CM.init.cd,CM.init.cp,CM.init.cf,((0:Nat):Int)):=rfl;rw[e0,h1,Aa];generalize Gb CM.init d=p at*;obtain ⟨o,b⟩:=p;cases o with
 | some q=>obtain ⟨x,e⟩:=q;rfl
 | none=>
   have hN:=h2 rfl;dsimp only at hB hN ⊢;by_cases c1:b.bl.length=0
   . rw[Ag (by omega),Ak,if_pos (Ag c1)];rfl
   rw[Ah (by omega),Aj,if_neg (by rw[Ah c1];simp),Apq hB hN,Aa];dsimp only;have Amj:QY b.sp=0↔b.sp.any (·.CE)=false:=by
     unfold QY;rw[List.length_eq_zero_iff,List.filter_eq_nil_iff,List.any_eq_false]
   by_cases c2:QY b.sp=0
   . rw[Ag (by omega),Ak,if_pos (Amj.1 c2)];rfl
   rw[Ah (by omega),Aj,if_neg (λ h=>c2 (Amj.2 h))];have hl:=NV b.bl.length b.sp b.ba hB.nba;rw[Aey hB (GK b.bl.length b.sp b.ba) hl (λ i hi=>by
     have hnba:=hB.nba;have hnb:=hB.nb;have:=hB.bas (b.ba.getD i 0) (CF b.ba i 0 (by omega));have e:((GK b.bl.length b.sp b.ba).getD i Cu).base=b.bl.length+b.ba.getD i 0:=by
       simp[GK,List.getD,List.getElem?_zipWith,show i<b.sp.length by omega,show i<b.ba.length by omega]
     omega),Aa]
   rfl
def dT(l:List Bool):List D:=l.map λ b=> .p (.bool b)
def dI(l:List Int):List D:=l.map λ n=> .p (.int .i64 n)
theorem PH(l:List Bool):(dT l).length=l.length:=by simp[dT]
theorem PJ(l:List Int):(dI l).length=l.length:=by simp[dI]
theorem PI(l:List Bool):DB (dT l)=[]:=by
 induction l with
 | nil=>rfl
 | cons b r ih=>simpa [dT,DB,D.ids] using ih
theorem PK(l:List Int):DB (dI l)=[]:=by
 induction l with
 | nil=>rfl
 | cons b r ih=>simpa [dI,DB,D.ids] using ih
theorem Azp:[D.p (.bool false),.p (.bool false),.p (.bool false),.p (.bool false),.p (.bool false),.p (.bool false),.p (.bool false),.p (.bool false),.p (.bool false),.p (.bool false),.p (.bool false),.p (.bool false),
   .p (.bool false),.p (.bool false),.p (.bool false),.p (.bool false),.p (.bool false),.p (.bool false),.p (.bool false),.p (.bool false),.p (.bool false),.p (.bool false),.p (.bool false),.p (.bool false)]=dT (List.replicate 24 false):=rfl
def Az6(l:List (List Int)):List (List (List Pd)):=l.map BZ
theorem JT(l:List (List Int)):(Az6 l).length=l.length:=by simp[Az6]
theorem Aza(l:List Int)(a:Int):((BZ l).take (((l.length:Nat):Int)).toNat).drop a.toNat=BZ (l.drop a.toNat):=by
 rw[Ab,L1];simp[BZ]
theorem Ha(l:List Int)(n:Nat):(BZ l).take n=BZ (l.take n):=by simp[BZ]
section
variable {P:Program} {st:St} {x:Code} {k:Kt}
theorem Aad{n l:Nat}{rest:Code}(hf:findLabel x l=some rest)(h:X P rest (.user (scQ P x k n)) st):Jm P x k (n+1) l st:=⟨st,rest,Wk.refl _,hf,h⟩
theorem Tu{σ ε γ:Type}{step:σ->Option (σ⊕ε)}{s0:σ}{e:ε}(hr:CC step s0=some e)(S:σ->γ->St)(c0:γ)(hw:Wk st (S s0 c0))
   (hs:∀s c n,(step s).bind (HS (Hj step n))=some e->(∀s' c' st',Hj step n s'=some e->Wk st' (S s' c')->L P x k n st')->X P x (.lp x n k) (S s c)):X P (.loop x) k st:=by
 obtain ⟨n,hn⟩:=K0.1 hr;have key:∀n s c,Hj step n s=some e->L P x k n (S s c):=by
   intro n
   induction n with
   | zero=>intro s c h;simp[Hj] at h
   | succ n ih=>intro s c h;exact ⟨S s c,Wk.refl _,hs s c n h λ s' c' st' h' hw'=>Aj7 hw' (ih s' c' h')⟩
 exact YL _ (Aj7 hw (key n s0 c0 hn))
end
attribute [go_sem] PH PJ PI PK Nat.mul_one List.length_replicate
attribute [go_sem] JT Azp
def Li(a0:List (List Int))(v3:Int)(Du:List Int):Int×Int->Option ((Int×Int)⊕((Int×Int)⊕Int))
 | (v17,Vx)=>cond (decide (v17<((Du.length:Nat):Int))) (Option.bind (CK Du v17) λ Mt=>cond (decide (Mt<=Vx)) (some (Sum.inr (.inr ((20:Int))))) (cond (decide (((a0.length:Nat):Int)<=Mt)) (some (Sum.inr (.inr ((20:Int))))) (cond (decide (Mt=v3)) (some (Sum.inr (.inr ((20:Int))))) (some (Sum.inl ((IntKind.i64.wrap (v17+1)),Mt)))))) (some (Sum.inr (.inl (v17,Vx))))
def Lh(a0:List (List Int)):Int->Option ((Int)⊕(Int⊕Int))
 | v3=>cond (decide (v3<((a0.length:Nat):Int))) (Option.bind (CK a0 v3) λ Du=>Option.bind (CC (Li a0 v3 Du) (0,(-1))) (λ | .inl (v32,v33)=>some (Sum.inl (IntKind.i64.wrap (v3+1))) | .inr (r34)=>some (Sum.inr (.inr (r34))))) (some (Sum.inr (.inl v3)))
def Nv(a0:List (List Int))(a1:List Bool):Option (Int):=
 cond (decide (24<((a0.length:Nat):Int))) (some 20) (Option.bind (CC (Lh a0) 0) (λ | .inl v35=>cond (decide (((a1.length:Nat):Int)=((a0.length:Nat):Int))) (some 0) (some 19) | .inr (r37)=>some r37))
theorem Acd(a0:List (List Int))(a1:List Bool)(r:Int)(hr:Nv a0 a1=some r):
   B2 prog 58 [.p (.sl (Cj a0)),.p (.sl (CO a1))] [] λ h d=>h=[]/\d= .p (.int .i64 r):=by
 refine B1 func58 rfl Anr (by simp[Tryz.f58]) ?_;unfold Nv at hr;cases c1:decide (24<((a0.length:Nat):Int))
 . simp only[c1,Aj] at hr;obtain ⟨e7,g8,hr⟩:=bE hr;(try simp only[go_sem,c1]);refine CP g8 (λ q:Int=>⟨[(0,.p (.sl (Cj a0))),(1,.p (.sl (CO a1))),(13,.p (.sl (Cj a0))),(14,.p (.int .i64 ((a0.length:Nat):Int))),(15,.p (.int .i64 q))],[],48⟩) ((BW (by simp[ZF,ZE]))) ?_;rintro v3 m6 Ec VV;rw[Lh.eq_1] at Ec;cases c9:decide (v3<((a0.length:Nat):Int))
   . simp only[c9,Aj] at Ec;simp only[Aa,B0] at Ec;cases Ec;(try dsimp only at hr);cases HY:decide (((a1.length:Nat):Int)=((a0.length:Nat):Int))
     . simp only[HY,Aj] at hr;cases hr;(try simp only[go_sem,c9,HY]);all_goals ((try refine BX ?_);(try simp only[go_sem,c9,HY]);try first | rfl | exact ⟨rfl,rfl⟩ | (simp;done))
     simp only[HY,Ak] at hr;cases hr;(try simp only[go_sem,c9,HY]);all_goals ((try refine BX ?_);(try simp only[go_sem,c9,HY]);try first | rfl | exact ⟨rfl,rfl⟩ | (simp;done))
   simp only[c9,Ak] at Ec;obtain ⟨Du,g12,Ec⟩:=bK Ec;have f13:=B8 g12;have f14:(Cj a0).getD (Int.toNat v3) []=[(.sl (BZ Du))]:=B9 _ g12;obtain ⟨e22,g23,Ec⟩:=bK Ec;(try simp only[go_sem,c9,f13,f14]);refine CP g23 (λ q:Int×Int=>⟨[(0,.p (.sl (Cj a0))),(1,.p (.sl (CO a1))),(5,.p (.int .i64 v3)),(7,.p (.int .i64 q.2)),(13,.p (.sl (Cj a0))),(14,.p (.int .i64 ((a0.length:Nat):Int))),(15,.p (.int .i64 v3)),(20,.p (.sl (BZ Du))),(21,.p (.int .i64 ((Du.length:Nat):Int))),(22,.p (.int .i64 q.1))],[],48⟩) ((BW (by simp[ZF,ZE]))) ?_;rintro ⟨v17,Vx⟩ m21 FD Auz;rw[Li.eq_1] at FD;cases HN:decide (v17<((Du.length:Nat):Int))
   . simp only[HN,Aj] at FD;simp only[Aa,B0] at FD;cases FD;(try dsimp only at Ec);simp only[Aa,B4] at Ec;(try simp only[go_sem,HN]);exact VV (IntKind.i64.wrap (v3+1)) _ Ec ((BW (by simp[ZF,ZE])))
   simp only[HN,Ak] at FD;obtain ⟨Mt,g26,FD⟩:=bK FD;have f27:=B8 g26;have f28:(BZ Du).getD (Int.toNat v17) []=[(.int .i64 Mt)]:=B9 _ g26;cases Kz:decide (Mt<=Vx)
   . simp only[Kz,Aj] at FD;cases L7:decide (((a0.length:Nat):Int)<=Mt)
     . simp only[L7,Aj] at FD;cases Oj:decide (Mt=v3)
       . simp only[Oj,Aj] at FD;simp only[Aa,B4] at FD;(try simp only[go_sem,HN,f27,f28,Kz,L7,Oj]);exact Auz ((IntKind.i64.wrap (v17+1)),Mt) _ FD ((BW (by simp[ZF,ZE])))
       simp only[Oj,Ak] at FD;simp only[Aa,B0] at FD;cases FD;(try dsimp only at Ec);simp only[Aa,B0] at Ec;cases Ec;(try dsimp only at hr);cases hr;(try simp only[go_sem,HN,f27,f28,Kz,L7,Oj]);all_goals ((try refine BX ?_);(try simp only[go_sem,HN,f27,f28,Kz,L7,Oj]);try first | rfl | exact ⟨rfl,rfl⟩ | (simp;done))
     simp only[L7,Ak] at FD;simp only[Aa,B0] at FD;cases FD;(try dsimp only at Ec);simp only[Aa,B0] at Ec;cases Ec;(try dsimp only at hr);cases hr;(try simp only[go_sem,HN,f27,f28,Kz,L7]);all_goals ((try refine BX ?_);(try simp only[go_sem,HN,f27,f28,Kz,L7]);try first | rfl | exact ⟨rfl,rfl⟩ | (simp;done))
   simp only[Kz,Ak] at FD;simp only[Aa,B0] at FD;cases FD;(try dsimp only at Ec);simp only[Aa,B0] at Ec;cases Ec;(try dsimp only at hr);cases hr;(try simp only[go_sem,HN,f27,f28,Kz]);all_goals ((try refine BX ?_);(try simp only[go_sem,HN,f27,f28,Kz]);try first | rfl | exact ⟨rfl,rfl⟩ | (simp;done))
 simp only[c1,Ak] at hr;cases hr;try simp only[go_sem,c1]
 all_goals ((try refine BX ?_);(try simp only[go_sem,c1]);try first | rfl | exact ⟨rfl,rfl⟩ | (simp;done))
def GY(Wi:Int)(Kb:Int)(x52:List Int):(List Int)×Int×(List Int)->Option (((List Int)×Int×(List Int))⊕(((List Int)×Int×(List Int))))
 | (v73,v75,v76)=>cond (decide (v75<((x52.length:Nat):Int))) (Option.bind (CK x52 v75) λ x84=>cond (decide (x84=Wi)) (Option.bind (CK v73 Wi) λ x89=>Option.bind (CK v73 Kb) λ x93=>cond (decide (v76.length+1<10000000)) (some (Sum.inl ((v73.set (Int.toNat Kb) (IntKind.i64.wrap (x89+1))),(IntKind.i64.wrap (v75+1)),(v76++[Kb])))) none) (some (Sum.inl (v73,(IntKind.i64.wrap (v75+1)),v76)))) (some (Sum.inr (v73,v75,v76)))
def Lg(a0:List (List Int))(a1:List Bool)(Wi:Int):(List Int)×Int×(List Int)->Option (((List Int)×Int×(List Int))⊕(((List Int)×Int×(List Int))))
 | (v41,Kb,v44)=>cond (decide (Kb<((a0.length:Nat):Int))) (Option.bind (CK a0 Kb) λ x52=>Option.bind (CK v41 Kb) λ x56=>cond (decide (0<=x56)) (some (Sum.inl (v41,(IntKind.i64.wrap (Kb+1)),v44))) (Option.bind (CK a1 Kb) λ x61=>cond x61 (some (Sum.inl (v41,(IntKind.i64.wrap (Kb+1)),v44))) (Option.bind (CC (GY Wi Kb x52) (v41,0,v44)) (λ (Ajs,Awx,Aue)=>some (Sum.inl (Ajs,(IntKind.i64.wrap (Kb+1)),Aue)))))) (some (Sum.inr (v41,Kb,v44)))
def Nu(a0:List (List Int))(a1:List Bool):(List Int)×(List Int)->Option (((List Int)×(List Int))⊕(((List Int)×(List Int))))
 | (Sa,v20)=>cond (decide (0<((v20.length:Nat):Int))) (Option.bind (CK v20 0) λ Wi=>cond (decide (0<=1/\1<=((v20.length:Nat):Int)/\((v20.length:Nat):Int)<=((v20.length:Nat):Int))) (Option.bind (CC (Lg a0 a1 Wi) (Sa,0,(v20.drop 1))) (λ (Azx,v163,v164)=>some (Sum.inl (Azx,v164)))) none) (some (Sum.inr (Sa,v20)))
def Lf(a0:List (List Int)):(List Int)×Int->Option (((List Int)×Int)⊕(((List Int)×Int)))
 | (v4,v5)=>cond (decide (v5<((a0.length:Nat):Int))) (Option.bind (CK v4 v5) λ Awq=>some (Sum.inl ((v4.set (Int.toNat v5) (-1)),(IntKind.i64.wrap (v5+1))))) (some (Sum.inr (v4,v5)))
def QH(a0:List (List Int))(a1:List Bool)(a2:Int):Option ((List Int)):=
 cond (decide (a0.length<10000000)) (Option.bind (CC (Lf a0) ((List.replicate a0.length 0),0)) (λ (v171,v172)=>Option.bind (CK v171 a2) λ x173=>Option.bind (CC (Nu a0 a1) ((v171.set (Int.toNat a2) 0),[a2])) (λ (Azr,v327)=>some Azr))) none
theorem Agn(a0:List (List Int))(a1:List Bool)(a2:Int)(r:(List Int))(hr:QH a0 a1 a2=some r):
   B2 prog 103 [.p (.sl (Cj a0)),.p (.sl (CO a1)),.p (.int .i64 a2)] [] λ h d=>h=[]/\d= .p (.sl (BZ r)):=by
 refine B1 func103 rfl Ai4 (by simp[Tryz.f103]) ?_;unfold QH at hr;obtain ⟨c1,hr⟩:=gE hr;try simp only[go_sem]
 refine ⟨by have:=Ad c1;omega,?_⟩;obtain ⟨e9,g10,hr⟩:=bE hr;try simp only[go_sem]
 refine CP g10 (λ q:(List Int)×Int=>⟨[(0,.p (.sl (Cj a0))),(1,.p (.sl (CO a1))),(2,.p (.int .i64 a2)),(7,.ref 17 0 q.1.length q.1.length),(19,.p (.int .i64 ((a0.length:Nat):Int))),(20,.p (.int .i64 q.2))],[(17,.arr 3 1 (BZ q.1))],86⟩) ((BW (by simp[ZF,ZE]))) ?_;rintro ⟨v4,v5⟩ m8 hh6 ih7;rw[Lf.eq_1] at hh6;cases c11:decide (v5<((a0.length:Nat):Int))
 . simp only[c11,Aj] at hh6;simp only[Aa,B0] at hh6;cases hh6;(try dsimp only at hr);obtain ⟨SV,g13,hr⟩:=bE hr;have f14:=B8 g13;have f15:(BZ v4).getD (Int.toNat a2) []=[(.int .i64 SV)]:=B9 _ g13;obtain ⟨e24,g25,hr⟩:=bE hr;(try simp only[go_sem,c11,f14,f15]);refine CP g25 (λ q:(List Int)×(List Int)=>⟨[(0,.p (.sl (Cj a0))),(1,.p (.sl (CO a1))),(7,.ref 17 0 q.1.length q.1.length),(9,.p (.sl (BZ q.2)))],[(17,.arr 3 1 (BZ q.1))],86⟩) ((Wk.pure (t:=9) (id:=31) (sz:=1) (e:=3) (es:=BZ [a2]) (by simp[get,ZE]) (by simp[get,ZE])).trans ((BW (by simp[ZF,ZE])))) ?_;rintro ⟨Sa,v20⟩ m23 GL Arn;rw[Nu.eq_1] at GL;cases Td:decide (0<((v20.length:Nat):Int))
   . simp only[Td,Aj] at GL;simp only[Aa,B0] at GL;cases GL;(try dsimp only at hr);cases hr;(try simp only[go_sem,Td]);all_goals ((try refine BX ?_);(try simp only[go_sem,Td]);try first | rfl | exact ⟨rfl,rfl⟩ | (simp;done))
   simp only[Td,Ak] at GL;obtain ⟨Wi,g28,GL⟩:=bK GL;have f29:=B8 g28;have f30:(BZ v20).getD 0 []=[(.int .i64 Wi)]:=B9 _ g28;obtain ⟨Oj,GL⟩:=gK GL;have f32:=Ad Oj;have f33:=Aza v20 1;obtain ⟨e48,g49,GL⟩:=bK GL;(try simp only[go_sem,Td,f29,f30,f32,f33,eq_self,EX v20]);refine Tu g49 (λ (q:(List Int)×Int×(List Int)) (c:Bool)=>⟨[(0,.p (.sl (Cj a0))),(1,.p (.sl (CO a1))),(7,.ref 17 0 q.1.length q.1.length),(9,match c with | true=> .cz (BZ q.2.2) | false=> .ref 82 0 q.2.2.length q.2.2.length),(10,.p (.int .i64 Wi)),(44,.p (.sl (Cj a0))),(45,.p (.int .i64 ((a0.length:Nat):Int))),(46,.p (.int .i64 q.2.1))],(match c with | true=>[] | false=>[(82,.arr 3 1 (BZ q.2.2))])++[(17,.arr 3 1 (BZ q.1))],86⟩) true ((BW (by simp[ZF,ZE]))) ?_;rintro ⟨v41,Kb,v44⟩ Bd2 m47 Eg Ac2;rw[Lg.eq_1] at Eg;rcases Bd2 with _ | _
   . cases Aiy:decide (Kb<((a0.length:Nat):Int))
     . simp only[Aiy,Aj] at Eg;simp only[Aa,B0] at Eg;cases Eg;(try dsimp only at GL);simp only[Aa,B4] at GL;(try simp only[go_sem,Aiy]);exact Arn (v41,v44) _ GL ((Wk.pure (t:=9) (id:=82) (sz:=1) (e:=3) (es:=BZ v44) (by simp[get,ZE]) (by simp[get,ZE])).trans ((BW (by simp[ZF,ZE]))))
     simp only[Aiy,Ak] at Eg;obtain ⟨Ajj,Ayw,Eg⟩:=bK Eg;have f120:=B8 Ayw;have f121:(Cj a0).getD (Int.toNat Kb) []=[(.sl (BZ Ajj))]:=B9 _ Ayw;obtain ⟨Awu,Ayv,Eg⟩:=bK Eg;have f124:=B8 Ayv;have f125:(BZ v41).getD (Int.toNat Kb) []=[(.int .i64 Awu)]:=B9 _ Ayv;cases Api:decide (0<=Awu)
     . simp only[Api,Aj] at Eg;obtain ⟨Awt,Ayu,Eg⟩:=bK Eg;have f129:=B8 Ayu;have f130:(CO a1).getD (Int.toNat Kb) []=[(.bool Awt)]:=B9 _ Ayu;cases YI:Awt
       . simp only[YI,Aj] at Eg;obtain ⟨e141,Bck,Eg⟩:=bK Eg;(try simp only[go_sem,Aiy,f120,f121,f124,f125,Api,f129,f130,YI]);refine CP Bck (λ q:(List Int)×Int×(List Int)=>⟨[(0,.p (.sl (Cj a0))),(1,.p (.sl (CO a1))),(7,.ref 17 0 q.1.length q.1.length),(9,.ref 82 0 q.2.2.length q.2.2.length),(10,.p (.int .i64 Wi)),(11,.p (.int .i64 Kb)),(44,.p (.sl (Cj a0))),(45,.p (.int .i64 ((a0.length:Nat):Int))),(46,.p (.int .i64 Kb)),(62,.p (.sl (BZ Ajj))),(63,.p (.int .i64 ((Ajj.length:Nat):Int))),(64,.p (.int .i64 q.2.1))],[(17,.arr 3 1 (BZ q.1)),(82,.arr 3 1 (BZ q.2.2))],86⟩) ((BW (by simp[ZF,ZE,YI]))) ?_;rintro ⟨Ajr,Aqk,Aud⟩ m140 HE Ath;rw[GY.eq_1] at HE;cases Aph:decide (Aqk<((Ajj.length:Nat):Int))
         . simp only[Aph,Aj] at HE;simp only[Aa,B0] at HE;cases HE;(try dsimp only at Eg);simp only[Aa,B4] at Eg;(try simp only[go_sem,Aph]);exact Ac2 (Ajr,(IntKind.i64.wrap (Kb+1)),Aud) false _ Eg ((BW (by simp[ZF,ZE,YI])))
         simp only[Aph,Ak] at HE;obtain ⟨Aws,Ayt,HE⟩:=bK HE;have f146:=B8 Ayt;have f147:(BZ Ajj).getD (Int.toNat Aqk) []=[(.int .i64 Aws)]:=B9 _ Ayt;cases Asf:decide (Aws=Wi)
         . simp only[Asf,Aj] at HE;simp only[Aa,B4] at HE;(try simp only[go_sem,Aph,f146,f147,Asf]);exact Ath (Ajr,(IntKind.i64.wrap (Aqk+1)),Aud) _ HE ((BW (by simp[ZF,ZE,YI])))
         simp only[Asf,Ak] at HE;obtain ⟨Awr,Ayr,HE⟩:=bK HE;have f151:=B8 Ayr;have f152:(BZ Ajr).getD (Int.toNat Wi) []=[(.int .i64 Awr)]:=B9 _ Ayr;obtain ⟨Aji,As1,HE⟩:=bK HE;have f155:=B8 As1;have f156:(BZ Ajr).getD (Int.toNat Kb) []=[(.int .i64 Aji)]:=B9 _ As1;obtain ⟨Bd3,HE⟩:=gK HE;(try simp only[go_sem,Aph,f146,f147,Asf,f151,f152,f155,f156]);refine ⟨by have:=Ad Bd3;(try simp only[An,Ax,Aq] at*);(repeat' refine And.intro ?_ ?_)<;>first | exact Dy _ _ rfl | exact EX _ | omega | (simp[Ka];done),?_⟩;simp only[Aa,B4] at HE;(try simp only[go_sem]);exact Ath ((Ajr.set (Int.toNat Kb) (IntKind.i64.wrap (Awr+1))),(IntKind.i64.wrap (Aqk+1)),(Aud++[Kb])) _ HE ((BW (by simp[ZF,ZE,YI])))
       simp only[YI,Ak] at Eg;simp only[Aa,B4] at Eg;(try simp only[go_sem,Aiy,f120,f121,f124,f125,Api,f129,f130,YI]);exact Ac2 (v41,(IntKind.i64.wrap (Kb+1)),v44) false _ Eg ((BW (by simp[ZF,ZE,YI])))
     simp only[Api,Ak] at Eg;simp only[Aa,B4] at Eg;(try simp only[go_sem,Aiy,f120,f121,f124,f125,Api]);exact Ac2 (v41,(IntKind.i64.wrap (Kb+1)),v44) false _ Eg ((BW (by simp[ZF,ZE])))
   . cases c51:decide (Kb<((a0.length:Nat):Int))
     . simp only[c51,Aj] at Eg;simp only[Aa,B0] at Eg;cases Eg;(try dsimp only at GL);simp only[Aa,B4] at GL;(try simp only[go_sem,c51]);exact Arn (v41,v44) _ GL ((Wk.Avu (t:=9) rfl).trans ((BW (by simp[ZF,ZE]))))
     simp only[c51,Ak] at Eg;obtain ⟨x52,g53,Eg⟩:=bK Eg;have f54:=B8 g53;have f55:(Cj a0).getD (Int.toNat Kb) []=[(.sl (BZ x52))]:=B9 _ g53;obtain ⟨x56,g57,Eg⟩:=bK Eg;have f58:=B8 g57;have f59:(BZ v41).getD (Int.toNat Kb) []=[(.int .i64 x56)]:=B9 _ g57;cases c60:decide (0<=x56)
     . simp only[c60,Aj] at Eg;obtain ⟨x61,g62,Eg⟩:=bK Eg;have f63:=B8 g62;have f64:(CO a1).getD (Int.toNat Kb) []=[(.bool x61)]:=B9 _ g62;cases c65:x61
       . simp only[c65,Aj] at Eg;obtain ⟨e80,g81,Eg⟩:=bK Eg;(try simp only[go_sem,c51,f54,f55,f58,f59,c60,f63,f64,c65]);refine Tu g81 (λ (q:(List Int)×Int×(List Int)) (c:Bool)=>⟨[(0,.p (.sl (Cj a0))),(1,.p (.sl (CO a1))),(7,.ref 17 0 q.1.length q.1.length),(9,match c with | true=> .cz (BZ q.2.2) | false=> .ref 82 0 q.2.2.length q.2.2.length),(10,.p (.int .i64 Wi)),(11,.p (.int .i64 Kb)),(44,.p (.sl (Cj a0))),(45,.p (.int .i64 ((a0.length:Nat):Int))),(46,.p (.int .i64 Kb)),(62,.p (.sl (BZ x52))),(63,.p (.int .i64 ((x52.length:Nat):Int))),(64,.p (.int .i64 q.2.1))],(match c with | true=>[] | false=>[(82,.arr 3 1 (BZ q.2.2))])++[(17,.arr 3 1 (BZ q.1))],86⟩) true ((BW (by simp[ZF,ZE,c65]))) ?_;rintro ⟨v73,v75,v76⟩ Bd1 m79 F5 Arl;rw[GY.eq_1] at F5;rcases Bd1 with _ | _
         . cases c98:decide (v75<((x52.length:Nat):Int))
           . simp only[c98,Aj] at F5;simp only[Aa,B0] at F5;cases F5;(try dsimp only at Eg);simp only[Aa,B4] at Eg;(try simp only[go_sem,c98]);exact Ac2 (v73,(IntKind.i64.wrap (Kb+1)),v76) false _ Eg ((BW (by simp[ZF,ZE,c65])))
           simp only[c98,Ak] at F5;obtain ⟨x99,Ayz,F5⟩:=bK F5;have f101:=B8 Ayz;have f102:(BZ x52).getD (Int.toNat v75) []=[(.int .i64 x99)]:=B9 _ Ayz;cases Asg:decide (x99=Wi)
           . simp only[Asg,Aj] at F5;simp only[Aa,B4] at F5;(try simp only[go_sem,c98,f101,f102,Asg]);exact Arl (v73,(IntKind.i64.wrap (v75+1)),v76) false _ F5 ((BW (by simp[ZF,ZE,c65])))
           simp only[Asg,Ak] at F5;obtain ⟨Aeb,Ayy,F5⟩:=bK F5;have f106:=B8 Ayy;have f107:(BZ v73).getD (Int.toNat Wi) []=[(.int .i64 Aeb)]:=B9 _ Ayy;obtain ⟨Ajk,Ayx,F5⟩:=bK F5;have f110:=B8 Ayx;have f111:(BZ v73).getD (Int.toNat Kb) []=[(.int .i64 Ajk)]:=B9 _ Ayx;obtain ⟨Aiz,F5⟩:=gK F5;(try simp only[go_sem,c98,f101,f102,Asg,f106,f107,f110,f111]);refine ⟨by have:=Ad Aiz;(try simp only[An,Ax,Aq] at*);(repeat' refine And.intro ?_ ?_)<;>first | exact Dy _ _ rfl | exact EX _ | omega | (simp[Ka];done),?_⟩;simp only[Aa,B4] at F5;(try simp only[go_sem]);exact Arl ((v73.set (Int.toNat Kb) (IntKind.i64.wrap (Aeb+1))),(IntKind.i64.wrap (v75+1)),(v76++[Kb])) false _ F5 ((BW (by simp[ZF,ZE,c65])))
         . cases XB:decide (v75<((x52.length:Nat):Int))
           . simp only[XB,Aj] at F5;simp only[Aa,B0] at F5;cases F5;(try dsimp only at Eg);simp only[Aa,B4] at Eg;(try simp only[go_sem,XB]);exact Ac2 (v73,(IntKind.i64.wrap (Kb+1)),v76) true _ Eg ((BW (by simp[ZF,ZE,c65])))
           simp only[XB,Ak] at F5;obtain ⟨x84,g85,F5⟩:=bK F5;have f86:=B8 g85;have f87:(BZ x52).getD (Int.toNat v75) []=[(.int .i64 x84)]:=B9 _ g85;cases c88:decide (x84=Wi)
           . simp only[c88,Aj] at F5;simp only[Aa,B4] at F5;(try simp only[go_sem,XB,f86,f87,c88]);exact Arl (v73,(IntKind.i64.wrap (v75+1)),v76) true _ F5 ((BW (by simp[ZF,ZE,c65])))
           simp only[c88,Ak] at F5;obtain ⟨x89,g90,F5⟩:=bK F5;have f91:=B8 g90;have f92:(BZ v73).getD (Int.toNat Wi) []=[(.int .i64 x89)]:=B9 _ g90;obtain ⟨x93,g94,F5⟩:=bK F5;have f95:=B8 g94;have f96:(BZ v73).getD (Int.toNat Kb) []=[(.int .i64 x93)]:=B9 _ g94;obtain ⟨c97,F5⟩:=gK F5;(try simp only[go_sem,XB,f86,f87,c88,f91,f92,f95,f96]);refine ⟨by have:=Ad c97;(try simp only[An,Ax,Aq] at*);(repeat' refine And.intro ?_ ?_)<;>first | exact Dy _ _ rfl | exact EX _ | omega | (simp[Ka];done),?_⟩;simp only[Aa,B4] at F5;(try simp only[go_sem]);exact Arl ((v73.set (Int.toNat Kb) (IntKind.i64.wrap (x89+1))),(IntKind.i64.wrap (v75+1)),(v76++[Kb])) false _ F5 ((BW (by simp[ZF,ZE,c65])))
       simp only[c65,Ak] at Eg;simp only[Aa,B4] at Eg;(try simp only[go_sem,c51,f54,f55,f58,f59,c60,f63,f64,c65]);exact Ac2 (v41,(IntKind.i64.wrap (Kb+1)),v44) true _ Eg ((BW (by simp[ZF,ZE,c65])))
     simp only[c60,Ak] at Eg;simp only[Aa,B4] at Eg;(try simp only[go_sem,c51,f54,f55,f58,f59,c60]);exact Ac2 (v41,(IntKind.i64.wrap (Kb+1)),v44) true _ Eg ((BW (by simp[ZF,ZE])))
 simp only[c11,Ak] at hh6;obtain ⟨Awq,Ayp,hh6⟩:=bK hh6;have f169:=B8 Ayp;have f170:(BZ v4).getD (Int.toNat v5) []=[(.int .i64 Awq)]:=B9 _ Ayp;simp only[Aa,B4] at hh6;try simp only[go_sem,c11,f169,f170]
 exact ih7 ((v4.set (Int.toNat v5) (-1)),(IntKind.i64.wrap (v5+1))) _ hh6 ((BW (by simp[ZF,ZE])))
def Ld(x6:List Int)(KB:List Int):Int×Int->Option ((Int×Int)⊕((Int×Int)))
 | (v23,v24)=>cond (decide (v24<((KB.length:Nat):Int))) (Option.bind (CK KB v24) λ Wh=>Option.bind (CK x6 Wh) λ x38=>cond (decide (0<=x38)) (cond (decide (v23<0)) (some (Sum.inl (Wh,(IntKind.i64.wrap (v24+1))))) (Option.bind (CK x6 v23) λ x44=>cond (decide (x38<x44)) (some (Sum.inl (Wh,(IntKind.i64.wrap (v24+1))))) (some (Sum.inl (v23,(IntKind.i64.wrap (v24+1))))))) (some (Sum.inl (v23,(IntKind.i64.wrap (v24+1)))))) (some (Sum.inr (v23,v24)))
def Nr(a0:List (List Int))(a2:Int)(x6:List Int):(List Int)×Int->Option (((List Int)×Int)⊕((List Int)))
 | (v10,v11)=>Option.bind (CK a0 v11) λ KB=>Option.bind (CC (Ld x6 KB) ((-1),0)) (λ (v49,v50)=>cond (decide (v49<0)) (some (Sum.inr ([]:(List Int)))) (cond (decide (v49=a2)) (some (Sum.inr (v10:(List Int)))) (cond (decide (v10.length+1<10000000)) (some (Sum.inl ((v10++[v49]),v49))) none)))
def QG(a0:List (List Int))(a1:List Bool)(a2:Int):Option ((List Int)):=
 Option.bind (CK a1 a2) λ x1=>cond x1 (some []) (Option.bind (QH a0 a1 a2) λ x6=>Option.bind (CC (Nr a0 a2 x6) ([a2],a2)) (λ r54=>some r54))
theorem W8(a0:List (List Int))(a1:List Bool)(a2:Int)(r:(List Int))(hr:QG a0 a1 a2=some r):
   B2 prog 59 [.p (.sl (Cj a0)),.p (.sl (CO a1)),.p (.int .i64 a2)] [] λ h d=>h=[]/\d= .p (.sl (BZ r)):=by
 refine B1 func59 rfl Anq (by simp[Tryz.f59]) ?_;unfold QG at hr;obtain ⟨x1,g2,hr⟩:=bE hr;have f3:=B8 g2;have f4:(CO a1).getD (Int.toNat a2) []=[(.bool x1)]:=B9 _ g2;cases c5:x1
 . simp only[c5,Aj] at hr;obtain ⟨x6,g7,hr⟩:=bE hr;(try simp only[go_sem,f3,f4,c5]);refine Cq (Agn a0 a1 a2 _ g7) ?_;obtain ⟨e15,g16,hr⟩:=bE hr;(try simp only[go_sem]);refine CP g16 (λ q:(List Int)×Int=>⟨[(0,.p (.sl (Cj a0))),(2,.p (.int .i64 a2)),(7,.p (.sl (BZ x6))),(8,.ref 22 0 q.1.length q.1.length),(9,.p (.int .i64 q.2))],[(22,.arr 3 1 (BZ q.1))],68⟩) ((BW (by simp[ZF,ZE,c5]))) ?_;rintro ⟨v10,v11⟩ m14 C7 Uo;rw[Nr.eq_1] at C7;obtain ⟨KB,g18,C7⟩:=bK C7;have f19:=B8 g18;have f20:(Cj a0).getD (Int.toNat v11) []=[(.sl (BZ KB))]:=B9 _ g18;obtain ⟨e28,g29,C7⟩:=bK C7;(try simp only[go_sem,f19,f20]);refine CP g29 (λ q:Int×Int=>⟨[(0,.p (.sl (Cj a0))),(2,.p (.int .i64 a2)),(7,.p (.sl (BZ x6))),(8,.ref 22 0 v10.length v10.length),(10,.p (.int .i64 q.1)),(27,.p (.sl (BZ KB))),(28,.p (.int .i64 ((KB.length:Nat):Int))),(29,.p (.int .i64 q.2))],[(22,.arr 3 1 (BZ v10))],68⟩) ((BW (by simp[ZF,ZE,c5]))) ?_;rintro ⟨v23,v24⟩ m27 IQ Arm;rw[Ld.eq_1] at IQ;cases L7:decide (v24<((KB.length:Nat):Int))
   . simp only[L7,Aj] at IQ;simp only[Aa,B0] at IQ;cases IQ;(try dsimp only at C7);cases Oj:decide (v23<0)
     . simp only[Oj,Aj] at C7;cases c32:decide (v23=a2)
       . simp only[c32,Aj] at C7;obtain ⟨Wf,C7⟩:=gK C7;(try simp only[go_sem,L7,Oj,c32]);refine ⟨by have:=Ad Wf;(try simp only[An,Ax,Aq] at*);(repeat' refine And.intro ?_ ?_)<;>first | exact Dy _ _ rfl | exact EX _ | omega | (simp[Ka];done),?_⟩;simp only[Aa,B4] at C7;(try simp only[go_sem]);exact Uo ((v10++[v23]),v23) _ C7 ((BW (by simp[ZF,ZE,c5])))
       simp only[c32,Ak] at C7;simp only[Aa,B0] at C7;cases C7;(try dsimp only at hr);cases hr;(try simp only[go_sem,L7,Oj,c32]);all_goals ((try refine BX ?_);(try simp only[go_sem,L7,Oj,c32]);try first | rfl | exact ⟨rfl,rfl⟩ | (simp;done))
     simp only[Oj,Ak] at C7;simp only[Aa,B0] at C7;cases C7;(try dsimp only at hr);cases hr;(try simp only[go_sem,L7,Oj]);all_goals ((try refine BX ?_);(try simp only[go_sem,L7,Oj]);try first | rfl | exact ⟨rfl,rfl⟩ | (simp;done))
   simp only[L7,Ak] at IQ;obtain ⟨Wh,g35,IQ⟩:=bK IQ;have f36:=B8 g35;have f37:(BZ KB).getD (Int.toNat v24) []=[(.int .i64 Wh)]:=B9 _ g35;(try simp only[go_sem,L7,f36,f37]);refine CG mixed (p:=[(0,0),(1,0),(2,0),(3,0),(4,0),(5,0),(6,0),(7,0),(8,0),(9,0),(10,0),(11,0),(12,0),(13,0),(14,0),(15,0),(16,0),(17,0),(18,0),(19,0)]) (by kernel_rfl) (by simp[C8,get]) ?_;obtain ⟨x38,g39,IQ⟩:=bK IQ;have f40:=B8 g39;have f41:(BZ x6).getD (Int.toNat Wh) []=[(.int .i64 x38)]:=B9 _ g39;cases c42:decide (0<=x38)
   . simp only[c42,Aj] at IQ;simp only[Aa,B4] at IQ;(try simp only[go_sem,f40,f41,c42]);exact Arm (v23,(IntKind.i64.wrap (v24+1))) _ IQ ((BW (by simp[ZF,ZE,c5])))
   simp only[c42,Ak] at IQ;cases c43:decide (v23<0)
   . simp only[c43,Aj] at IQ;obtain ⟨x44,g45,IQ⟩:=bK IQ;have f46:=B8 g45;have f47:(BZ x6).getD (Int.toNat v23) []=[(.int .i64 x44)]:=B9 _ g45;cases c48:decide (x38<x44)
     . simp only[c48,Aj] at IQ;simp only[Aa,B4] at IQ;(try simp only[go_sem,f40,f41,c42,c43,f46,f47,c48]);exact Arm (v23,(IntKind.i64.wrap (v24+1))) _ IQ ((BW (by simp[ZF,ZE,c5])))
     simp only[c48,Ak] at IQ;simp only[Aa,B4] at IQ;(try simp only[go_sem,f40,f41,c42,c43,f46,f47,c48]);exact Arm (Wh,(IntKind.i64.wrap (v24+1))) _ IQ ((BW (by simp[ZF,ZE,c5])))
   simp only[c43,Ak] at IQ;simp only[Aa,B4] at IQ;(try simp only[go_sem,f40,f41,c42,c43]);exact Arm (Wh,(IntKind.i64.wrap (v24+1))) _ IQ ((BW (by simp[ZF,ZE,c5])))
 simp only[c5,Ak] at hr;cases hr;try simp only[go_sem,f3,f4,c5]
 all_goals ((try refine BX ?_);(try simp only[go_sem,f3,f4,c5]);try first | rfl | exact ⟨rfl,rfl⟩ | (simp;done))
def nlD(l:List Int):D:=match l with
 | []=> .cl []
 | x::r=> .p (.sl (BZ (x::r)))
theorem Tn:nlD []= .cl []:=rfl
theorem KY(x:Int)(r:List Int):nlD (x::r)= .p (.sl (BZ (x::r))):=rfl
def Js(a0:List (List Int))(a1:List Bool):(List Int)×Int->Option (((List Int)×Int)⊕((List Int)×Int))
 | (b,v)=>cond (decide (v<((a0.length:Nat):Int))) (Option.bind (QG a0 a1 v) λ x=>cond (decide (0<((x.length:Nat):Int))) (cond b.isEmpty (some (.inl (x,IntKind.i64.wrap (v+1)))) (cond (decide (((x.length:Nat):Int)<((b.length:Nat):Int))) (some (.inl (x,IntKind.i64.wrap (v+1)))) (some (.inl (b,IntKind.i64.wrap (v+1)))))) (some (.inl (b,IntKind.i64.wrap (v+1))))) (some (.inr (b,v)))
def Ns(a0:List (List Int))(a1:List Bool):Option (Int×(List Int)×Int):=
 Option.bind (Nv a0 a1) λ x1=>cond (decide (x1=0)) (Option.bind (CC (Js a0 a1) ([],0)) (λ (b,v)=>some (((b.length:Nat):Int),b,0))) (some (0,[],x1))
theorem Acb(a0:List (List Int))(a1:List Bool)(r:Int×(List Int)×Int)(hr:Ns a0 a1=some r):
   B2 prog 25 [.p (.sl (Cj a0)),.p (.sl (CO a1))] [] λ h d=>h=[]/\d= .Dv [.p (.int .i64 r.1),.p (.sl (BZ r.2.1)),.p (.int .i64 r.2.2)]:=by
 refine B1 func25 rfl Aod (by simp[Tryz.f25]) ?_;unfold Ns at hr;obtain ⟨x1,g2,hr⟩:=bE hr;try simp only[go_sem]
 refine Cq (Acd a0 a1 _ g2) ?_;cases c3:decide (x1=0)
 . simp only[c3,Aj] at hr;cases hr;(try simp only[go_sem,c3]);all_goals ((try refine BX ?_);(try simp only[go_sem,c3]);try first | rfl | exact ⟨rfl,rfl⟩ | (simp;done))
 simp only[c3,Ak] at hr;obtain ⟨e11,g12,hr⟩:=bE hr;try simp only[go_sem,c3]
 refine CP g12 (λ q:(List Int)×Int=>⟨[(0,.p (.sl (Cj a0))),(1,.p (.sl (CO a1))),(8,nlD q.1),(18,.p (.int .i64 ((a0.length:Nat):Int))),(19,.p (.int .i64 q.2))],[],45⟩) ((BW (by simp[ZF,Tn,ZE]))) ?_;rintro ⟨v6,v7⟩ m10 Fb ih9;rw[Js.eq_1] at Fb;cases IZ:decide (v7<((a0.length:Nat):Int))
 . simp only[IZ,Aj] at Fb;simp only[Aa,B0] at Fb;cases Fb;(try dsimp only at hr);cases hr;rcases v6 with _ | ⟨b0,bs⟩
   . (try simp only[go_sem,IZ,Tn]);all_goals ((try refine BX ?_);(try simp only[go_sem,IZ]);try first | rfl | exact ⟨rfl,rfl⟩ | (simp;done))
   . (try simp only[go_sem,IZ,KY,BY]);all_goals ((try refine BX ?_);(try simp only[go_sem,IZ,BY]);try first | rfl | exact ⟨rfl,rfl⟩ | (simp;done))
 simp only[IZ,Ak] at Fb;obtain ⟨J4,g15,Fb⟩:=bK Fb;rcases v6 with _ | ⟨b0,bs⟩
 . (try simp only[go_sem,IZ,Tn]);refine Cq (W8 a0 a1 v7 _ g15) ?_;cases IY:decide (0<((J4.length:Nat):Int))
   . simp only[IY,Aj] at Fb;simp only[Aa,B4] at Fb;(try simp only[go_sem,IY,BY]);exact ih9 ([],(IntKind.i64.wrap (v7+1))) _ Fb ((BW (by simp[ZF,Tn,ZE])))
   simp only[IY,Ak,List.isEmpty_nil] at Fb;simp only[Aa,B4] at Fb;(try simp only[go_sem,IY,BY,List.isEmpty_nil]);have hx:0<J4.length:=by have:=Ad IY;omega
   rcases J4 with _ | ⟨y0,ys⟩
   . exact absurd hx (by simp)
   exact ih9 (y0::ys,(IntKind.i64.wrap (v7+1))) _ Fb ((BW (by simp[ZF,KY,ZE])))
 . have Dt:BZ (b0::bs)≠[]:=by simp[BZ]
   (try simp only[go_sem,IZ,KY]);refine Cq (W8 a0 a1 v7 _ g15) ?_;cases IY:decide (0<((J4.length:Nat):Int))
   . simp only[IY,Aj] at Fb;simp only[Aa,B4] at Fb;(try simp only[go_sem,IY,BY]);exact ih9 (b0::bs,(IntKind.i64.wrap (v7+1))) _ Fb ((BW (by simp[ZF,KY,ZE])))
   simp only[IY,Ak,List.isEmpty_cons,Aj] at Fb;cases IX:decide (((J4.length:Nat):Int)<(((b0::bs).length:Nat):Int))
   . have Jg:decide (((J4.length:Nat):Int)<((bs.length+1:Nat):Int))=false:=IX;simp only[IX,Aj] at Fb;simp only[Aa,B4] at Fb;(try simp only[go_sem,IY,Jg,BY,Dt,ne_eq]);exact ih9 (b0::bs,(IntKind.i64.wrap (v7+1))) _ Fb ((BW (by simp[ZF,KY,ZE])))
   have Jg:decide (((J4.length:Nat):Int)<((bs.length+1:Nat):Int))=true:=IX;simp only[IX,Ak] at Fb;simp only[Aa,B4] at Fb;(try simp only[go_sem,IY,Jg,BY,Dt,ne_eq]);have hx:0<J4.length:=by have:=Ad IY;omega
   rcases J4 with _ | ⟨y0,ys⟩
   . exact absurd hx (by simp)
   exact ih9 (y0::ys,(IntKind.i64.wrap (v7+1))) _ Fb ((BW (by simp[ZF,KY,ZE])))
theorem Kq{l:List Int}{k:Nat}(h:k<l.length)(w:Int):w∈l.take (k+1)↔w∈l.take k∨l.getD k 0=w:=by
 rw[CI l k 0 h];simp[eq_comm]
theorem Akf{g:List (List Int)}(hg:DV g){u:Nat}(hu:u<g.length){k:Nat}(hk:k<(g.getD u []).length):(g.getD u []).getD k 0∉(g.getD u []).take k:=by
 intro hm;obtain ⟨i,hi,he⟩:=AD.1 hm;have Ea:i<k:=by simp only[A8] at hi;omega
 have:=Aex hg hu Ea hk;rw[List.getElem_take] at he;have e1:(g.getD u []).getD i 0=(g.getD u [])[i]'(by omega):=getD_eq (by omega);rw[e1,he] at this;omega
theorem Agp{g:List (List Int)}(hg:DV g){sh:List Bool}(H9:sh.length=g.length):Nv g sh=some 0:=by
 have Dq:∀u,u<g.length->CC (Li g (u:Int) (g.getD u [])) (0,-1)=some (.inl (((g.getD u []).length:Nat),if (g.getD u []).length=0 then -1 else (g.getD u []).getD ((g.getD u []).length - 1) 0)):=λ u hu=>by
   refine Dk (g.getD u []).length (λ k=>(((k:Nat):Int),if k=0 then -1 else (g.getD u []).getD (k - 1) 0)) _ (λ k hk=>?_) ?_
   . have h1:=hg.2 u hu k hk;unfold JK at h1;have hl:=Ja hg hu;(try dsimp only);rw[Li.eq_1];simp only[E1 hk,Ak,Cr _ _ 0 hk,Aa];have c1:decide ((g.getD u []).getD k 0<=if k=0 then -1 else (g.getD u []).getD (k - 1) 0)=false:=Ah (by split<;>omega);have c2:decide (((g.length:Nat):Int)<=(g.getD u []).getD k 0)=false:=Ah (by omega);have c3:decide ((g.getD u []).getD k 0=(u:Int))=false:=Ah (by omega);simp only[c1,c2,c3,Aj];rw[CA (by omega)];simp
   . (try dsimp only);rw[Li.eq_1];simp only[FA,Aj]
 have DD:CC (Lh g) ((0:Nat):Int)=some (.inl ((g.length:Nat):Int)):=by
   refine Dk g.length (λ k=>((k:Nat):Int)) _ (λ u hu=>?_) ?_
   . rw[Lh.eq_1];simp only[E1 hu,Ak,Cr _ _ [] hu,Aa];rw[Dq u hu];simp only[Aa];rw[CA (by have:=hg.1;omega)]
   . rw[Lh.eq_1];simp only[FA,Aj]
 unfold Nv;have c1:decide (24<((g.length:Nat):Int))=false:=Ah (by have:=hg.1;omega);have c2:decide (((sh.length:Nat):Int)=((g.length:Nat):Int))=true:=Ag (by rw[H9]);simp only[c1,Aj];rw[show (0:Int)=((0:Nat):Int) from rfl,DD];simp only[Aa,c2,Ak]
theorem Amw{g:List (List Int)}(hg:DV g){sh:List Bool}{goal:Nat}{w:Int}{v:Nat}{d q:List Int}(h:BF g sh goal w v d q)(MD:0<=w)(hv:v<g.length)(hd:d.getD v 0<0):
   CC (GY w (v:Int) (g.getD v [])) (d,0,q)=some (if w∈g.getD v [] then (d.set v (d.getD w.toNat 0+1),(((g.getD v []).length:Nat):Int),q++[(v:Int)]) else (d,(((g.getD v []).length:Nat):Int),q)):=by
 have hl:=Ja hg hv;obtain ⟨hc1,VD,hc3,hc4⟩:=h.cur MD;have V4:=h.len;have hb:=h.bnd w.toNat (by omega);have hq:=h.Akv;have VC:=hg.1;have key:=Dk (step:=GY w (v:Int) (g.getD v [])) (g.getD v []).length
   (λ k=>if w∈(g.getD v []).take k then (d.set v (d.getD w.toNat 0+1),((k:Nat):Int),q++[(v:Int)]) else (d,((k:Nat):Int),q))
   (if w∈g.getD v [] then (d.set v (d.getD w.toNat 0+1),(((g.getD v []).length:Nat):Int),q++[(v:Int)]) else (d,(((g.getD v []).length:Nat):Int),q)) (λ k hk=>?_) ?_
 . simpa using key
 . (try dsimp only);by_cases c:w∈(g.getD v []).take k
   . have Dt:(g.getD v []).getD k 0≠w:=λ e=>by
       have:=Akf hg hv hk;rw[e] at this;exact this c
     rw[if_pos c,if_pos ((Kq hk w).2 (.inl c)),GY.eq_1];simp only[E1 hk,Ak,Cr _ _ 0 hk,Aa,Ah Dt,Aj];rw[CA (by omega)]
   . rw[if_neg c];by_cases e:(g.getD v []).getD k 0=w
     . rw[if_pos ((Kq hk w).2 (.inr e)),GY.eq_1];have i1:CK d w=some (d.getD w.toNat 0):=by
         have:=Cr d w.toNat 0 (by omega);rw[show ((w.toNat:Nat):Int)=w by omega] at this;exact this
       have i2:=Cr d v 0 (by omega);have c5:decide (q.length+1<10000000)=true:=Ag (by omega);simp only[E1 hk,Ak,Cr _ _ 0 hk,Aa,Ag e,i1,i2,c5];rw[CA (by omega)];have:IntKind.i64.wrap (d.getD w.toNat 0+1)=d.getD w.toNat 0+1:=by
         have:=CA (n:=(d.getD w.toNat 0).toNat) (by omega);rw[show (((d.getD w.toNat 0).toNat:Nat):Int)=d.getD w.toNat 0 by omega] at this;rw[this];omega
       rw[this];simp
     . rw[if_neg (λ hm=>by rcases (Kq hk w).1 hm with h1 | h1;exact c h1;exact e h1),GY.eq_1];simp only[E1 hk,Ak,Cr _ _ 0 hk,Aa,Ah e,Aj];rw[CA (by omega)]
 . (try dsimp only);rw[Ar];split
   . rw[GY.eq_1];simp only[FA,Aj]
   . rw[GY.eq_1];simp only[FA,Aj]
theorem Ago{g:List (List Int)}(hg:DV g){sh:List Bool}(H9:sh.length=g.length){goal:Nat}{w:Int}{d q:List Int}(h:BF g sh goal w 0 d q)(MD:0<=w):
   ∃d' q',CC (Lg g sh w) (d,0,q)=some (d',((g.length:Nat):Int),q')/\BF g sh goal w g.length d' q'/\q'.length+Ko d'=q.length+Ko d:=by
 have VC:=hg.1;obtain ⟨e,h1,h2⟩:∃e,CC (Lg g sh w) (d,0,q)=some e/\e.2.1=((g.length:Nat):Int)/\BF g sh goal w g.length e.1 e.2.2/\e.2.2.length+Ko e.1=q.length+Ko d:=by
   refine N3 (step:=Lg g sh w) (λ s=>∃v:Nat,s.2.1=(v:Int)/\v<=g.length/\BF g sh goal w v s.1 s.2.2/\s.2.2.length+Ko s.1=q.length+Ko d)
     (λ s=>g.length - s.2.1.toNat) (λ e=>e.2.1=((g.length:Nat):Int)/\BF g sh goal w g.length e.1 e.2.2/\e.2.2.length+Ko e.1=q.length+Ko d) (λ s hs=>?_) (d,0,q) ⟨0,rfl,by omega,h,rfl⟩
   obtain ⟨d1,i,q1⟩:=s;obtain ⟨v,h3,h4,h5,h6⟩:=hs;dsimp only at h3 h4 h5 h6;subst h3;rw[Lg.eq_1];by_cases hv:v<g.length
   . have V4:=h5.len;have i1:=Cr g v [] hv;have i2:=Cr d1 v 0 (by omega);have i3:=Cr sh v false (by omega);simp only[E1 hv,Ak,i1,i2,Aa];by_cases c1:0<=d1.getD v 0
     . simp only[Ag c1,Ak];rw[CA (by omega)];exact ⟨_,rfl,⟨v+1,rfl,hv,h5.skip MD (.inl c1),h6⟩,by dsimp only;omega⟩
     . simp only[Ah c1,Aj,i3,Aa];cases c2:sh.getD v false
       . simp only[Aj];rw[Amw hg h5 MD hv (by omega)];simp only[Aa];rw[CA (by omega)];by_cases c3:w∈g.getD v []
         . rw[if_pos c3];have hn:=T8 (d:=d1) (v:=v) (x:=d1.getD w.toNat 0+1) (by omega) (by omega) (by have:=(h5.cur MD).2.1;omega);exact ⟨_,rfl,⟨v+1,rfl,hv,h5.push MD hv (by omega) c2 c3,by simp only[List.length_append,List.length_singleton];omega⟩,by dsimp only;omega⟩
         . rw[if_neg c3];exact ⟨_,rfl,⟨v+1,rfl,hv,h5.skip MD (.inr (.inr c3)),h6⟩,by dsimp only;omega⟩
       . simp only[Ak];rw[CA (by omega)];exact ⟨_,rfl,⟨v+1,rfl,hv,h5.skip MD (.inr (.inl c2)),h6⟩,by dsimp only;omega⟩
   . have e1:v=g.length:=by omega
     subst e1;simp only[FA,Aj];exact ⟨_,rfl,rfl,h5,h6⟩
 obtain ⟨d',i,q'⟩:=e;obtain ⟨h3,h4,h5⟩:=h2;dsimp only at h3 h4 h5;subst h3;exact ⟨d',q',h1,h4,h5⟩
theorem BF.fin{g:List (List Int)}{sh:List Bool}{goal:Nat}{d q:List Int}{w:Int}(h:BF g sh goal w g.length d q):BF g sh goal (-1) 0 d q:=
 ⟨h.len,h.lo,h.zero,h.prev,h.shut,h.qin,h.sorted,h.top,λ y hy YW hy3 hy4 u hu _ hs hm=>h.done y hy YW hy3 hy4 u hu (λ _=>hu) hs hm,h.bnd,h.Akv,λ h=>by omega⟩
theorem Amv{g:List (List Int)}(hg:DV g){sh:List Bool}(H9:sh.length=g.length){goal:Nat}(El:goal<g.length)(ho:sh.getD goal false=false):QH g sh (goal:Int)=some (Dz g sh goal):=by
 have VC:=hg.1;have h4:CC (Lf g) (List.replicate g.length 0,((0:Nat):Int))=some (List.replicate g.length (-1),((g.length:Nat):Int)):=by
   have:=Dk (step:=Lf g) g.length (λ k=>(List.replicate k (-1)++List.replicate (g.length - k) 0,((k:Nat):Int))) (List.replicate g.length (-1),((g.length:Nat):Int)) (λ k hk=>?_) ?_
   . simpa using this
   . (try dsimp only);rw[Lf.eq_1];have i1:=Cr (List.replicate k (-1)++List.replicate (g.length - k) (0:Int)) k 0 (by simp;omega);simp only[E1 hk,Ak,i1,Aa];rw[CA (by omega),show ((k:Nat):Int).toNat=k by omega];have:(List.replicate k (-1)++List.replicate (g.length - k) (0:Int)).set k (-1)=List.replicate (k+1) (-1)++List.replicate (g.length - (k+1)) 0:=by
       rw[List.set_append_right _ _ (by simp),show g.length - k=(g.length - (k+1))+1 by omega,List.replicate_succ];simp[List.replicate_succ']
     rw[this]
   . (try dsimp only);rw[Lf.eq_1];simp only[FA,Aj];simp
 obtain ⟨e,h1,h2⟩:∃e,CC (Nu g sh) ((List.replicate g.length (-1)).set goal 0,[(goal:Int)])=some e/\DS g sh goal e.1:=by
   refine N3 (step:=Nu g sh) (λ s=>BF g sh goal (-1) 0 s.1 s.2) (λ s=>s.2.length+Ko s.1) (λ e=>DS g sh goal e.1) (λ s hs=>?_) ((List.replicate g.length (-1)).set goal 0,[(goal:Int)]) (BF.init El ho);obtain ⟨d,q⟩:=s;dsimp only at hs;rw[Nu.eq_1];cases q with
   | nil=>
     have c0:decide ((0:Int)<((([]:List Int).length:Nat):Int))=false:=rfl;simp only[c0,Aj];exact ⟨_,rfl,hs.end hg (.inl (by omega))⟩
   | cons w q=>
     have c0:decide ((0:Int)<(((w::q).length:Nat):Int))=true:=Ag (by simp only[An];omega);have c1:decide ((0:Nat)<=1/\(1:Int)<=(((w::q).length:Nat):Int)/\(((w::q).length:Nat):Int)<=(((w::q).length:Nat):Int))=true:=Ag (by simp only[An];omega);have i0:CK (w::q) 0=some w:=rfl;have hp:=hs.pop (.inl (by omega));have hw:=hs.qin w (by simp);obtain ⟨d',q',h5,h6,h7⟩:=Ago hg H9 hp hw.1;simp only[c0,c1,Ak,i0,Aa,List.drop_succ_cons,List.drop_zero];rw[h5];simp only[Aa];exact ⟨_,rfl,h6.fin,by dsimp only;simp only[List.length_cons];omega⟩
 unfold QH;have c1:decide (g.length<10000000)=true:=Ag (by omega);have i1:=Cr (List.replicate g.length (-1:Int)) goal 0 (by simpa using El);simp only[c1,Ak];rw[show ((List.replicate g.length 0,(0:Int)):List Int×Int)=(List.replicate g.length 0,((0:Nat):Int)) from rfl,h4];simp only[Aa,i1];rw[show ((goal:Nat):Int).toNat=goal by omega,h1];simp only[Aa];rw[DS.uniq hg h2 (U9 hg El ho)]
theorem K8{l:List Int}{w:Int}(h0:0<=w)(h1:w<(l.length:Int)):CK l w=some (l.getD w.toNat 0):=by
 have:=Cr l w.toNat 0 (by omega);rw[show ((w.toNat:Nat):Int)=w by omega] at this;exact this
theorem l0{g:List (List Int)}(hg:DV g){o:List Int}(ho:o.length=g.length){u:Nat}(hu:u<g.length):
   CC (Ld o (g.getD u [])) (-1,0)=some (IB o (g.getD u []),(((g.getD u []).length:Nat):Int)):=by
 have hl:=Ja hg hu;have key:=Dk (step:=Ld o (g.getD u [])) (g.getD u []).length (λ k=>(((g.getD u []).take k).foldl (GI o) (-1),((k:Nat):Int))) (IB o (g.getD u []),(((g.getD u []).length:Nat):Int)) (λ k hk=>?_) ?_
 . simpa using key
 . (try dsimp only);have hm:(g.getD u []).getD k 0∈g.getD u []:=by
     have e1:(g.getD u []).getD k 0=(g.getD u [])[k]:=getD_eq hk;rw[e1];exact AN hk
   have hr:=G5 hg hu hm;rw[Ld.eq_1];have i2:=K8 (l:=o) hr.1 (by omega);simp only[E1 hk,Ak,Cr _ _ 0 hk,Aa,i2];rw[CI _ k 0 hk,List.foldl_append,Bs,List.foldl_nil];have hb:=Jw o ((g.getD u []).take k) (-1);generalize ((g.getD u []).take k).foldl (GI o) (-1)=b at hb;generalize hx:(g.getD u []).getD k 0=x at*;unfold GI;by_cases c1:0<=o.getD x.toNat 0
   . simp only[Ag c1,Ak];by_cases c2:b<0
     . simp only[Ag c2,Ak];rw[CA (by omega),if_pos ⟨c1,.inl c2⟩]
     . have W1:b∈g.getD u []:=by
         rcases hb with h | h
         . omega
         . exact Bv h.1
       have hbr:=G5 hg hu W1;have i3:=K8 (l:=o) hbr.1 (by omega);simp only[Ah c2,Aj,i3,Aa];by_cases c3:o.getD x.toNat 0<o.getD b.toNat 0
       . simp only[Ag c3,Ak];rw[CA (by omega),if_pos ⟨c1,.inr c3⟩]
       . simp only[Ah c3,Aj];rw[CA (by omega),if_neg (by rintro ⟨_,h | h⟩;exact c2 h;exact c3 h)]
   . simp only[Ah c1,Aj];rw[CA (by omega),if_neg (λ h=>c1 h.1)]
 . (try dsimp only);rw[Ld.eq_1,Ar];simp only[FA,Aj];rfl
theorem DS.La{g:List (List Int)}(hg:DV g){sh:List Bool}{goal:Nat}{o:List Int}(ho:DS g sh goal o){v:Nat}(hv:v<g.length)(h1:1<=o.getD v 0):
   0<=Ke o (g.getD v []) (o.getD v 0 - 1)/\Ke o (g.getD v []) (o.getD v 0 - 1)<(g.length:Int)/\o.getD (Ke o (g.getD v []) (o.getD v 0 - 1)).toNat 0=o.getD v 0 - 1:=by
 obtain ⟨h2,h3⟩:=Amc (ho.prev v hv h1);have:=G5 hg hv h2;exact ⟨this.1,this.2.1,h3⟩
theorem l5{g:List (List Int)}(hg:DV g){sh:List Bool}{goal:Nat}{o:List Int}(ho:DS g sh goal o)(El:goal<g.length):∀(f b:Nat) (W:List Int),b<g.length->o.getD b 0=((f+1:Nat):Int)->W.length+f+1<=1000->
   CC (Nr g (goal:Int) o) (W++[(b:Int)],(b:Int))=some (W++Oo g o (f+1) (b:Int))
 | f,b,W,hb,hd,hW=>by
   have Aym:=DS.Apo hg ho hb (by omega);obtain ⟨h1,h2,h3⟩:=ho.La hg hb (by omega);have hz:=ho.zero (Ke o (g.getD b []) (o.getD b 0 - 1)).toNat (by omega);rw[C0,Nr.eq_1];simp only[Cr _ _ [] hb,Aa];rw[l0 hg ho.len hb];simp only[Aa];rw[Aym];have Bb9:Oo g o (f+1) (b:Int)=(b:Int)::Oo g o f (Ke o (g.getD b []) (o.getD b 0 - 1)):=by
     rw[Oo,show ((b:Nat):Int).toNat=b by omega]
   rw[Bb9];generalize Ke o (g.getD b []) (o.getD b 0 - 1)=x at*;have c1:decide (x<0)=false:=Ah (by omega);simp only[c1,Aj];cases f with
   | zero=>
     have c2:decide (x=(goal:Int))=true:=Ag (by have:=hz.1 (by omega);omega);simp only[c2,Ak,Aa,B0];rfl
   | succ f=>
     have c2:decide (x=(goal:Int))=false:=Ah (λ e=>by have:=hz.2 (by omega);omega);have c3:decide ((W++[(b:Int)]).length+1<10000000)=true:=Ag (by simp only[Aq,BC];omega);simp only[c2,c3,Aj,Ak,Aa,B4];have ih:=l5 hg ho El f x.toNat (W++[(b:Int)]) (by omega) (by rw[h3];omega) (by simp only[Aq,BC];omega);rw[show ((x.toNat:Nat):Int)=x by omega] at ih;rw[ih];simp
theorem Amu{g:List (List Int)}(hg:DV g){sh:List Bool}(H9:sh.length=g.length){v:Nat}(hv:v<g.length):QG g sh (v:Int)=some (GP g sh v):=by
 unfold QG GP;have i1:=Cr sh v false (by omega);simp only[i1,Aa];cases hs:sh.getD v false
 . simp only[Aj];rw[Amv hg H9 hv hs];have ho:=U9 hg hv hs;have j3:=λ {u:Nat} (hu:u<g.length)=>Ju hg sh hv hu;generalize Dz g sh v=o at ho j3;simp only[Aa];rw[C0,Nr.eq_1];simp only[Cr _ _ [] hv,Aa];rw[l0 hg ho.len hv];simp only[Aa];rw[if_neg (by simp)];have hb:=Jw o (g.getD v []) (-1)
   change IB o (g.getD v [])=-1∨(IB o (g.getD v [])∈g.getD v []/\0<=o.getD (IB o (g.getD v [])).toNat 0) at hb
   generalize IB o (g.getD v [])=b at*;by_cases c1:b<0
   . simp only[Ag c1,Ak,Aa,B0];rw[if_pos c1]
   . have W1:b∈g.getD v []/\0<=o.getD b.toNat 0:=by
       rcases hb with h | h
       . omega
       . exact h
     have hr:=G5 hg hv W1.1;have hz:=ho.zero b.toNat (by omega);have c2:decide (b=(v:Int))=false:=Ah hr.2.2;have c3:decide ([(v:Int)].length+1<10000000)=true:=rfl;have Dt:o.getD b.toNat 0≠0:=λ e=>by have:=hz.1 e;omega
     have hle:=j3 (u:=b.toNat) (by omega);simp only[Ah c1,c2,c3,Aj,Ak,Aa,B4];rw[if_neg c1];have:=l5 hg ho hv (o.getD b.toNat 0 - 1).toNat b.toNat [(v:Int)] (by omega) (by omega) (by simp only[BC];omega);rw[show ((b.toNat:Nat):Int)=b by omega,show (o.getD b.toNat 0 - 1).toNat+1=(o.getD b.toNat 0).toNat by omega] at this;rw[this];rfl
 . simp only[Ak,AP]
theorem Aeq{g:List (List Int)}(hg:DV g)(sh:List Bool){v:Nat}(hv:v<g.length):(GP g sh v).length<=25:=by
 unfold GP;split
 . simp
 . (try dsimp only);split
   . simp
   . rename_i h1 h2;have hb:=Jw (Dz g sh v) (g.getD v []) (-1)
     change IB (Dz g sh v) (g.getD v [])=-1∨(IB (Dz g sh v) (g.getD v [])∈g.getD v []/\_) at hb
     rw[An,KG];rcases hb with h | h
     . omega
     . have hr:=G5 hg hv h.1;have:=Ju hg sh hv (v:=(IB (Dz g sh v) (g.getD v [])).toNat) (by omega);omega
theorem Mq{g:List (List Int)}(hg:DV g)(sh:List Bool):∀k,k<=g.length->((((List.range g.length).map (GP g sh)).take k).foldl LY []).length<=25
 | 0,_=>by simp
 | k+1,hk=>by
   have h1:=Mq hg sh k (by omega);rw[CI _ k [] (by simp;omega),List.foldl_append,Bs,List.foldl_nil];unfold LY;split
   . rw[getD_map' (GP g sh) _ k 0 [] (by simp;omega)];have:=Aeq hg sh (v:=k) (by omega)
     simpa [List.getD,List.getElem?_range (show k<g.length by omega)] using this
   . exact h1
theorem Agm{g:List (List Int)}(hg:DV g){sh:List Bool}(H9:sh.length=g.length):Ns g sh=some ((((FE g sh).length:Nat):Int),FE g sh,0):=by
 have hl:CC (Js g sh) ([],((0:Nat):Int))=some (FE g sh,((g.length:Nat):Int)):=by
   refine Dk (step:=Js g sh) g.length (λ k=>((((List.range g.length).map (GP g sh)).take k).foldl LY [],((k:Nat):Int))) _ (λ k hk=>?_) ?_
   . (try dsimp only);rw[Js.eq_1];simp only[E1 hk,Ak];rw[Amu hg H9 hk];simp only[Aa];have e1:((List.range g.length).map (GP g sh)).getD k []=GP g sh k:=by
       rw[getD_map' (GP g sh) _ k 0 [] (by simpa using hk)];simp[List.getD,List.getElem?_range hk]
     rw[CI _ k [] (by simpa using hk),List.foldl_append,List.foldl_cons,List.foldl_nil,e1];generalize (((List.range g.length).map (GP g sh)).take k).foldl LY []=b;generalize GP g sh k=x;have hw:=CA (n:=k) (by have:=hg.1;omega);rw[hw];unfold LY;by_cases c1:0<x.length
     . simp only[Ag (show (0:Int)<((x.length:Nat):Int) by omega),Ak];cases b with
       | nil=>simp only[List.isEmpty_nil,Ak];rw[if_pos ⟨c1,.inl rfl⟩]
       | cons b0 bs=>
         simp only[List.isEmpty_cons,Aj];by_cases c2:x.length<(b0::bs).length
         . simp only[Ag (show ((x.length:Nat):Int)<(((b0::bs).length:Nat):Int) by omega),Ak];rw[if_pos ⟨c1,.inr c2⟩]
         . simp only[Ah (show ¬((x.length:Nat):Int)<(((b0::bs).length:Nat):Int) by omega),Aj];rw[if_neg (by rintro ⟨_,h | h⟩;simp at h;exact c2 h)]
     . simp only[Ah (show ¬(0:Int)<((x.length:Nat):Int) by omega),Aj];rw[if_neg (λ h=>c1 h.1)]
   . (try dsimp only);rw[Js.eq_1];simp only[FA,Aj];rw[AA (by simp)];rfl
 unfold Ns;rw[Agp hg H9];simp only[Aa];rw[show (([]:List Int),(0:Int))=([],((0:Nat):Int)) from rfl,hl];rfl
def Hg(a0:List (List Int))(a1:List Bool)(x:Int):(List Int)×(List Bool)×Int->Option (((List Int)×(List Bool)×Int)⊕((List Int)×(List Bool)×Int))
 | (t,o,i)=>Option.bind (CK a0 x) λ row=>cond (decide (i<((row.length:Nat):Int))) (Option.bind (CK row i) λ y=>Option.bind (CK a1 y) λ s=>cond s (some (Sum.inl (t,o,IntKind.i64.wrap (i+1))))
     (Option.bind (CK o y) λ m=>cond m (some (Sum.inl (t,o,IntKind.i64.wrap (i+1)))) (cond (decide (t.length<1000)) (some (Sum.inl (t++[y],o.set y.toNat true,IntKind.i64.wrap (i+1)))) none))) (some (Sum.inr (t,o,i)))
def KV(a0:List (List Int))(a1:List Bool):(List Int)×(List Bool)->Option (((List Int)×(List Bool))⊕(List Bool))
 | ([],o)=>some (Sum.inr o)
 | (x::t,o)=>Option.bind (CC (Hg a0 a1 x) (t,o,0)) λ (t',o',i')=>some (Sum.inl (t',o'))
theorem OJ(a0:List (List Int))(a1:List Bool)(o:List Bool):KV a0 a1 ([],o)=some (Sum.inr o):=rfl
theorem MX(a0:List (List Int))(a1:List Bool)(x:Int)(t:List Int)(o:List Bool):KV a0 a1 (x::t,o)=Option.bind (CC (Hg a0 a1 x) (t,o,0)) λ (t',o',i')=>some (Sum.inl (t',o')):=rfl
def KU(a0:List (List Int))(a1:List Bool)(a2:Int):Option (List Bool):=
 cond (decide (a0.length<1000)) (Option.bind (CK a1 a2) λ s=>cond s (some (List.replicate a0.length false)) (Option.bind (CK (List.replicate a0.length false) a2) λ m=>CC (KV a0 a1) ([a2],(List.replicate a0.length false).set a2.toNat true))) none
def qSo(a0:List (List Int))(a1:List Bool)(q:(List Int)×(List Bool))(p:List Int):St:=
 ⟨[(0,.p (.sl (Cj a0))),(1,.p (.sl (CO a1))),(7,.ref 14 0 q.2.length q.2.length),(8,.ref 24 p.length q.1.length (p++q.1).length)],[(14,.arr 4 1 (CO q.2)),(24,.arr 3 1 (BZ (p++q.1)))],69⟩
def qSi(a0:List (List Int))(a1:List Bool)(x:Int)(q:(List Int)×(List Bool)×Int)(p:List Int):St:=
 ⟨[(0,.p (.sl (Cj a0))),(1,.p (.sl (CO a1))),(7,.ref 14 0 q.2.1.length q.2.1.length),(8,.ref 24 p.length q.1.length (p++q.1).length),(9,.p (.int .i64 x)),(10,.p (.int .i64 q.2.2))],[(14,.arr 4 1 (CO q.2.1)),(24,.arr 3 1 (BZ (p++q.1)))],69⟩
theorem Abb(a0:List (List Int))(a1:List Bool)(a2:Int)(r:List Bool)(hr:KU a0 a1 a2=some r):
   B2 prog 69 [.p (.sl (Cj a0)),.p (.sl (CO a1)),.p (.int .i64 a2)] [] λ h d=>h=[]/\d= .p (.sl (CO r)):=by
 unfold KU at hr;cases c0:decide (a0.length<1000)
 . simp only[c0,Aj,reduceCtorEq] at hr
 simp only[c0,Ak] at hr;have c0':=Ad c0;have b0:0<=((a0.length:Nat):Int):=by omega
 have b1:((a0.length:Nat):Int)<=140737488355328:=by omega
 have b2:((a0.length:Nat):Int)*1<=140737488355328:=by omega
 have b3:((a0.length:Nat):Int)<=((a0.length:Nat):Int):=Bx _;rcases g1:CK a1 a2 with _ | s
 . simp only[g1,Option.bind_none,reduceCtorEq] at hr
 simp only[g1,Aa] at hr;have f1:=B8 g1;have f2:(CO a1).getD a2.toNat []=[.bool s]:=B9 _ g1;refine B1 func69 rfl Ani (by simp[Tryz.f69]) ?_;cases s;rotate_left
 . simp only[Ak] at hr;cases hr;have tk:List.take a0.length (CO (List.replicate a0.length false))=CO (List.replicate a0.length false):=by rw[AA];simp[CO]
   simp only[go_sem,b0,b1,b2,b3,f1,f2];refine BX ?_;simp only[go_sem,tk]
 simp only[Aj] at hr;rcases g2:CK (List.replicate a0.length false) a2 with _ | m
 . simp only[g2,Option.bind_none,reduceCtorEq] at hr
 simp only[g2,Aa] at hr;have f3:=B8 g2;rw[Bi] at f3;have f4:(CO (List.replicate a0.length false)).getD a2.toNat []=[.bool m]:=B9 _ g2;simp only[go_sem,b0,b1,b2,b3,f1,f2,f3,f4];refine Tu hr (qSo a0 a1) [] (BW (by simp[ZF,qSo,U5,ND])) ?_;rintro ⟨t,o⟩ p m1 hh ih;unfold qSo;rcases t with _ | ⟨x,t⟩
 . rw[OJ] at hh;simp only[Aa,B0] at hh;cases hh;simp only[go_sem];refine BX ?_;simp only[go_sem]
 . rw[MX] at hh;rcases g3:CC (Hg a0 a1 x) (t,o,0) with _ | ⟨t',o',i'⟩
   . simp only[g3,Option.bind_none,reduceCtorEq] at hh
   simp only[g3,Aa,B4] at hh;have l1:(0:Int)<((t.length+1:Nat):Int):=by omega
   have l2:(1:Int)<=((t.length+1:Nat):Int):=by omega
   have l3:(BZ (p++x::t)).getD p.length []=[.int .i64 x]:=by simp[BZ,List.getD]
   have l4:(((t.length+1:Nat):Int) - 1).toNat=t.length:=by omega
   simp only[go_sem,l1,l2,l3,l4,Bu,Bx];refine Tu g3 (qSi a0 a1 x) (p++[x]) (BW (by simp[ZF,qSi,A9,Aq])) ?_;rintro ⟨t1,o1,i1⟩ p1 m2 OB Hw;unfold qSi;rw[Hg.eq_1] at OB;rcases g4:CK a0 x with _ | row
   . simp only[g4,Option.bind_none,reduceCtorEq] at OB
   simp only[g4,Aa] at OB;have f5:=B8 g4;have f6:(Cj a0).getD x.toNat []=[.sl (BZ row)]:=B9 _ g4;cases c2:decide (i1<((row.length:Nat):Int))
   . simp only[c2,Aj] at OB;simp only[Aa,B0] at OB;obtain ⟨rfl,rfl,rfl⟩:t1=t'/\o1=o'/\i1=i':=by simpa using OB
     simp only[go_sem,f5,f6,c2];exact ih (t1,o1) p1 _ hh (BW (by simp[ZF,qSo]))
   simp only[c2,Ak] at OB;rcases g5:CK row i1 with _ | y
   . simp only[g5,Option.bind_none,reduceCtorEq] at OB
   simp only[g5,Aa] at OB;have f7:=B8 g5;have f8:(BZ row).getD i1.toNat []=[.int .i64 y]:=B9 _ g5;rcases g6:CK a1 y with _ | sy
   . simp only[g6,Option.bind_none,reduceCtorEq] at OB
   simp only[g6,Aa] at OB;have f9:=B8 g6;have f10:(CO a1).getD y.toNat []=[.bool sy]:=B9 _ g6;cases sy;rotate_left
   . simp only[Ak] at OB;simp only[Aa,B4] at OB;simp only[go_sem,f5,f6,c2,f7,f8,f9,f10];exact Hw (t1,o1,IntKind.i64.wrap (i1+1)) p1 _ OB (BW (by simp[ZF,qSi]))
   simp only[Aj] at OB;rcases g7:CK o1 y with _ | my
   . simp only[g7,Option.bind_none,reduceCtorEq] at OB
   simp only[g7,Aa] at OB;have f11:=B8 g7;have f12:(CO o1).getD y.toNat []=[.bool my]:=B9 _ g7;cases my;rotate_left
   . simp only[Ak] at OB;simp only[Aa,B4] at OB;simp only[go_sem,f5,f6,c2,f7,f8,f9,f10,f11,f12];exact Hw (t1,o1,IntKind.i64.wrap (i1+1)) p1 _ OB (BW (by simp[ZF,qSi]))
   simp only[Aj] at OB;cases c3:decide (t1.length<1000)
   . simp only[c3,Aj,Option.bind_none,reduceCtorEq] at OB
   simp only[c3,Ak] at OB;simp only[Aa,B4] at OB;have c3':=Ad c3;have f13:(CO o1)[y.toNat]?.getD []=[.bool false]:=f12;rcases p1 with _ | ⟨p0,p1⟩
   . simp only[go_sem,f5,f6,c2,f7,f8,f9,f10,f11,f12];exact ⟨⟨Dy _ _ rfl,by omega,by omega⟩,Hw (t1++[y],o1.set y.toNat true,IntKind.i64.wrap (i1+1)) [] _ OB (BW (by simp[ZF,qSi]))⟩
   . simp only[go_sem,f5,f6,c2,f7,f8,f9,f10,f11,f12];refine At4 rfl rfl rfl rfl rfl ?_;have e1:(p1.length+1)+t1.length=(p1++t1).length+1:=by simp;omega
     have e2:(BZ (p0::(p1++t1))).drop (p1.length+1)=BZ t1:=by simp[BZ]
     have e3:(p1++t1).length+1=(BZ (p0::(p1++t1))).length:=by simp[BZ]
     simp only[Ae8,Aep,ti3,ev,get,LA,Cz];simp;refine ⟨rfl,by rw[<-e3];simp;omega,by rw[<-e3];simp;try omega,by omega,by omega,?_,?_⟩
     . have e4:BZ (p0::(p1++t1))++[[.int .i64 y]]=BZ ((p0::p1)++(t1++[y])):=by simp[BZ]
       have e5:(BZ (p0::(p1++t1))).length+1=((p0::p1)++(t1++[y])).length:=by simp only[BY,An,Aq,Ax];omega
       simp only[go_sem,e4,e5];exact Hw (t1++[y],o1.set y.toNat true,IntKind.i64.wrap (i1+1)) (p0::p1) _ OB (BW (by simp[ZF,qSi,Nat.add_assoc]))
     . have e4:BZ t1++[[.int .i64 y]]=BZ (t1++[y]):=by simp[BZ]
       have e5:(BZ t1).length+1=(t1++[y]).length:=by simp[BZ]
       simp only[go_sem,e2,e4,e5];refine Hw (t1++[y],o1.set y.toNat true,IntKind.i64.wrap (i1+1)) [] _ OB ?_;refine Wk.trans (b:=⟨[(0,.p (.sl (Cj a0))),(1,.p (.sl (CO a1))),(7,.ref 14 0 o1.length o1.length),(8,.ref 67 0 (t1++[y]).length (BZ (t1++[y])).length),(9,.p (.int .i64 x)),(10,.p (.int .i64 (IntKind.i64.wrap (i1+1))))],[(14,.arr 4 1 (CO (o1.set y.toNat true))),(67,.arr 3 1 (BZ (t1++[y])))],69⟩) (BW (by simp[ZF,BY])) ?_;refine (Wk.Alh (t:=8) (q:=67) (k:=(t1++[y]).length) (sz:=1) (e:=3) (es:=BZ (t1++[y])) 24 rfl rfl (by simp[BZ]) rfl).trans ?_;have e6:List.take (t1.length+1) (t1++[y])=t1++[y]:=by rw[AA];simp
       exact (BW (by simp[ZF,qSi,Ha,Ar,e6]))
def N0(a0:List (List Int))(a1:List Bool)(R9:List Bool):Int->Option ((Int)⊕(Int⊕(Bool×Int)))
 | v22=>cond (decide (v22<((a0.length:Nat):Int))) (Option.bind (CK a1 v22) λ x29=>cond x29 (some (Sum.inl (IntKind.i64.wrap (v22+1)))) (Option.bind (CK R9 v22) λ Wh=>cond Wh (some (Sum.inl (IntKind.i64.wrap (v22+1)))) (some (Sum.inr (.inr (((false,0):Bool×Int))))))) (some (Sum.inr (.inl v22)))
def Qe(a0:List (List Int))(a1:List Bool):Int×Int->Option ((Int×Int)⊕((Int×Int)⊕(Bool×Int)))
 | (v6,v7)=>cond (decide (v7<((a0.length:Nat):Int))) (Option.bind (CK a1 v7) λ J4=>cond J4 (some (Sum.inl (v6,(IntKind.i64.wrap (v7+1))))) (Option.bind (KU a0 a1 v7) λ R9=>Option.bind (CC (N0 a0 a1 R9) 0) (λ | .inl v39=>some (Sum.inl ((IntKind.i64.wrap (v6+1)),(IntKind.i64.wrap (v7+1)))) | .inr (r40)=>some (Sum.inr (.inr (r40)))))) (some (Sum.inr (.inl (v6,v7))))
def Rp(a0:List (List Int))(a1:List Bool):Option (Bool×Int):=
 Option.bind (TX a0 a1) λ x1=>cond (decide (x1=0)) (Option.bind (CC (Qe a0 a1) (0,0)) (λ | .inl (v41,v42)=>some (decide (0<v41),0) | .inr (r43)=>some r43)) (some (false,x1))
theorem Al0(a0:List (List Int))(a1:List Bool)(r:Bool×Int)(hr:Rp a0 a1=some r):
   B2 prog 33 [.p (.sl (Cj a0)),.p (.sl (CO a1))] [] λ h d=>h=[]/\d= .Dv [.p (.bool r.1),.p (.int .i64 r.2)]:=by
 refine B1 func33 rfl Ao6 (by simp[Tryz.f33]) ?_;unfold Rp at hr;obtain ⟨x1,g2,hr⟩:=bE hr;try simp only[go_sem]
 refine Cq (Al1 a0 a1 _ g2) ?_;cases c3:decide (x1=0)
 . simp only[c3,Aj] at hr;cases hr;(try simp only[go_sem,c3]);all_goals ((try refine BX ?_);(try simp only[go_sem,c3]);try first | rfl | exact ⟨rfl,rfl⟩ | (simp;done))
 simp only[c3,Ak] at hr;obtain ⟨e11,g12,hr⟩:=bE hr;try simp only[go_sem,c3]
 refine CP g12 (λ q:Int×Int=>⟨[(0,.p (.sl (Cj a0))),(1,.p (.sl (CO a1))),(7,.p (.int .i64 q.1)),(8,.p (.int .i64 q.2))],[],53⟩) ((BW (by simp[ZF,ZE,JT,PI,PK,PH,PJ,Bz,Ha,Ar]))) ?_;rintro ⟨v6,v7⟩ m10 Fb ih9;rw[Qe.eq_1] at Fb;cases IZ:decide (v7<((a0.length:Nat):Int))
 . simp only[IZ,Aj] at Fb;simp only[Aa,B0] at Fb;cases Fb;(try dsimp only at hr);cases hr;(try simp only[go_sem,IZ]);all_goals ((try refine BX ?_);(try simp only[go_sem,IZ]);try first | rfl | exact ⟨rfl,rfl⟩ | (simp;done))
 simp only[IZ,Ak] at Fb;obtain ⟨J4,g15,Fb⟩:=bK Fb;have f16:=B8 g15;have f17:(CO a1).getD (Int.toNat v7) []=[(.bool J4)]:=B9 _ g15;cases IX:J4
 . simp only[IX,Aj] at Fb;obtain ⟨R9,g20,Fb⟩:=bK Fb;(try simp only[go_sem,IZ,f16,f17,IX]);refine Cq (Abb a0 a1 v7 _ g20) ?_;obtain ⟨e26,g27,Fb⟩:=bK Fb;(try simp only[go_sem]);refine CP g27 (λ q:Int=>⟨[(0,.p (.sl (Cj a0))),(1,.p (.sl (CO a1))),(7,.p (.int .i64 (IntKind.i64.wrap (v6+1)))),(8,.p (.int .i64 v7)),(9,.p (.sl (CO R9))),(10,.p (.int .i64 q))],[],53⟩) ((BW (by simp[ZF,ZE,JT,PI,PK,PH,PJ,Bz,Ha,Ar,IX]))) ?_;rintro v22 m25 LU Axf;rw[N0.eq_1] at LU;cases R1:decide (v22<((a0.length:Nat):Int))
   . simp only[R1,Aj] at LU;simp only[Aa,B0] at LU;cases LU;(try dsimp only at Fb);simp only[Aa,B4] at Fb;(try simp only[go_sem,R1]);exact ih9 ((IntKind.i64.wrap (v6+1)),(IntKind.i64.wrap (v7+1))) _ Fb ((BW (by simp[ZF,ZE,JT,PI,PK,PH,PJ,Bz,Ha,Ar,IX])))
   simp only[R1,Ak] at LU;obtain ⟨x29,g30,LU⟩:=bK LU;have f31:=B8 g30;have f32:(CO a1).getD (Int.toNat v22) []=[(.bool x29)]:=B9 _ g30;cases Wf:x29
   . simp only[Wf,Aj] at LU;obtain ⟨Wh,g35,LU⟩:=bK LU;have f36:=B8 g35;have f37:(CO R9).getD (Int.toNat v22) []=[(.bool Wh)]:=B9 _ g35;cases c38:Wh
     . simp only[c38,Aj] at LU;simp only[Aa,B0] at LU;cases LU;(try dsimp only at Fb);simp only[Aa,B0] at Fb;cases Fb;(try dsimp only at hr);cases hr;(try simp only[go_sem,R1,f31,f32,Wf,f36,f37,c38]);all_goals ((try refine BX ?_);(try simp only[go_sem,R1,f31,f32,Wf,f36,f37,c38]);try first | rfl | exact ⟨rfl,rfl⟩ | (simp;done))
     simp only[c38,Ak] at LU;simp only[Aa,B4] at LU;(try simp only[go_sem,R1,f31,f32,Wf,f36,f37,c38]);exact Axf (IntKind.i64.wrap (v22+1)) _ LU ((BW (by simp[ZF,ZE,JT,PI,PK,PH,PJ,Bz,Ha,Ar,IX,Wf,c38])))
   simp only[Wf,Ak] at LU;simp only[Aa,B4] at LU;(try simp only[go_sem,R1,f31,f32,Wf]);exact Axf (IntKind.i64.wrap (v22+1)) _ LU ((BW (by simp[ZF,ZE,JT,PI,PK,PH,PJ,Bz,Ha,Ar,IX,Wf])))
 simp only[IX,Ak] at Fb;simp only[Aa,B4] at Fb;try simp only[go_sem,IZ,f16,f17,IX]
 exact ih9 (v6,(IntKind.i64.wrap (v7+1))) _ Fb ((BW (by simp[ZF,ZE,JT,PI,PK,PH,PJ,Bz,Ha,Ar,IX])))
def MW(g:List (List Int))(sh:List Bool):Option Int:=if g.length<=10000000/\∀r∈g,r.length<=10000000 then some (if DV g then (if sh.length=g.length then 0 else 19) else 20) else none
theorem Aba(g:List (List Int))(sh:List Bool)(r:Int)(h:MW g sh=some r):B2 prog 68 [.p (.sl (Cj g)),.p (.sl (CO sh))] [] λ h d=>h=[]/\d= .p (.int .i64 r):=by unfold MW at h;split at h<;>cases h;rename_i hs;exact Xz g sh hs
def LF(g:List (List Int))(sh:List Bool)(goal:Int):Option (List Int):=if DV g/\sh.length=g.length/\0<=goal/\goal<(g.length:Int) then some (Dz g sh goal.toNat) else none
theorem Ro(g:List (List Int))(sh:List Bool)(goal:Int)(r:List Int)(h:LF g sh goal=some r):B2 prog 123 [.p (.sl (Cj g)),.p (.sl (CO sh)),.p (.int .i64 goal)] [] λ h d=>h=[]/\d= .p (.sl (BZ r)):=by unfold LF at h;split at h<;>cases h;rename_i hs;have:=Ts g sh goal.toNat hs.1 hs.2.1 (by omega);rw[show ((goal.toNat:Nat):Int)=goal by omega] at this;exact this
def JH(x1:List Int)(v7:Int)(PZ:List Int):(List Int)×Int->Option (((List Int)×Int)⊕(((List Int)×Int)))
 | (v24,Th)=>cond (decide (0<=Th)) (Option.bind (CK x1 v7) λ XG=>cond (decide (0<XG)) (Option.bind (CK PZ Th) λ Tg=>Option.bind (CK x1 Tg) λ x41=>cond (decide (x41=(IntKind.i64.wrap (XG - 1)))) (Option.bind (CK v24 v7) λ x46=>some (Sum.inl ((v24.set (Int.toNat v7) Tg),(IntKind.i64.wrap (Th - 1))))) (some (Sum.inl (v24,(IntKind.i64.wrap (Th - 1)))))) (some (Sum.inr (v24,Th)))) (some (Sum.inr (v24,Th)))
def MT(a0:List (List Int))(x1:List Int):(List Int)×Int->Option (((List Int)×Int)⊕(((List Int)×Int)))
 | (v6,v7)=>cond (decide (v7<((a0.length:Nat):Int))) (Option.bind (CK v6 v7) λ J4=>Option.bind (CK a0 v7) λ PZ=>Option.bind (CC (JH x1 v7 PZ) ((v6.set (Int.toNat v7) (-1)),(IntKind.i64.wrap (((PZ.length:Nat):Int) - 1)))) (λ (v50,v51)=>some (Sum.inl (v50,(IntKind.i64.wrap (v7+1)))))) (some (Sum.inr (v6,v7)))
def Qc(a0:List (List Int))(a1:List Bool)(a2:Int):Option ((List Int)):=
 Option.bind (LF a0 a1 a2) λ x1=>cond (decide (a0.length<10000000)) (Option.bind (CC (MT a0 x1) ((List.replicate a0.length 0),0)) (λ (v52,v53)=>some v52)) none
theorem Afb(a0:List (List Int))(a1:List Bool)(a2:Int)(r:(List Int))(hr:Qc a0 a1 a2=some r):
   B2 prog 156 [.p (.sl (Cj a0)),.p (.sl (CO a1)),.p (.int .i64 a2)] [] λ h d=>h=[]/\d= .p (.sl (BZ r)):=by
 refine B1 func156 rfl Xg (by simp[Tryz.f156]) ?_;unfold Qc at hr;obtain ⟨x1,g2,hr⟩:=bE hr;try simp only[go_sem]
 refine Cq (Ro a0 a1 a2 _ g2) ?_;obtain ⟨c3,hr⟩:=gE hr;try simp only[go_sem]
 refine ⟨by have:=Ad c3;omega,?_⟩;obtain ⟨e11,g12,hr⟩:=bE hr;try simp only[go_sem]
 refine CP g12 (λ q:(List Int)×Int=>⟨[(0,.p (.sl (Cj a0))),(7,.p (.sl (BZ x1))),(8,.ref 18 0 q.1.length q.1.length),(9,.p (.int .i64 q.2))],[(18,.arr 3 1 (BZ q.1))],67⟩) ((BW (by simp[ZF,ZE]))) ?_;rintro ⟨v6,v7⟩ m10 Fb ih9;rw[MT.eq_1] at Fb;cases IZ:decide (v7<((a0.length:Nat):Int))
 . simp only[IZ,Aj] at Fb;simp only[Aa,B0] at Fb;cases Fb;(try dsimp only at hr);cases hr;(try simp only[go_sem,IZ]);all_goals ((try refine BX ?_);(try simp only[go_sem,IZ]);try first | rfl | exact ⟨rfl,rfl⟩ | (simp;done))
 simp only[IZ,Ak] at Fb;obtain ⟨J4,g15,Fb⟩:=bK Fb;have f16:=B8 g15;have f17:(BZ v6).getD (Int.toNat v7) []=[(.int .i64 J4)]:=B9 _ g15;obtain ⟨PZ,g19,Fb⟩:=bK Fb;have f20:=B8 g19;have f21:(Cj a0).getD (Int.toNat v7) []=[(.sl (BZ PZ))]:=B9 _ g19;obtain ⟨e29,g30,Fb⟩:=bK Fb;try simp only[go_sem,IZ,f16,f17,f20,f21]
 refine CP g30 (λ q:(List Int)×Int=>⟨[(0,.p (.sl (Cj a0))),(7,.p (.sl (BZ x1))),(8,.ref 18 0 q.1.length q.1.length),(9,.p (.int .i64 v7)),(10,.p (.int .i64 q.2))],[(18,.arr 3 1 (BZ q.1))],67⟩) ((BW (by simp[ZF,ZE]))) ?_;rintro ⟨v24,Th⟩ m28 JQ Axe;rw[JH.eq_1] at JQ;cases Oj:decide (0<=Th)
 . simp only[Oj,Aj] at JQ;simp only[Aa,B0] at JQ;cases JQ;(try dsimp only at Fb);simp only[Aa,B4] at Fb;(try simp only[go_sem,Oj]);exact ih9 (v24,(IntKind.i64.wrap (v7+1))) _ Fb ((BW (by simp[ZF,ZE])))
 simp only[Oj,Ak] at JQ;obtain ⟨XG,g33,JQ⟩:=bK JQ;have f34:=B8 g33;have f35:(BZ x1).getD (Int.toNat v7) []=[(.int .i64 XG)]:=B9 _ g33;cases c36:decide (0<XG)
 . simp only[c36,Aj] at JQ;simp only[Aa,B0] at JQ;cases JQ;(try dsimp only at Fb);simp only[Aa,B4] at Fb;(try simp only[go_sem,Oj,f34,f35,c36]);exact ih9 (v24,(IntKind.i64.wrap (v7+1))) _ Fb ((BW (by simp[ZF,ZE])))
 simp only[c36,Ak] at JQ;obtain ⟨Tg,g38,JQ⟩:=bK JQ;have f39:=B8 g38;have f40:(BZ PZ).getD (Int.toNat Th) []=[(.int .i64 Tg)]:=B9 _ g38;try simp only[go_sem,Oj,f34,f35,c36,f20,f21,f39,f40]
 refine CG mixed (p:=[(0,0),(1,0),(2,0),(3,0),(4,0),(5,0),(6,0),(7,0),(8,0),(9,0)]) (by kernel_rfl) (by simp[C8,get]) ?_;obtain ⟨x41,g42,JQ⟩:=bK JQ;have f43:=B8 g42;have f44:(BZ x1).getD (Int.toNat Tg) []=[(.int .i64 x41)]:=B9 _ g42;cases c45:decide (x41=(IntKind.i64.wrap (XG - 1)))
 . simp only[c45,Aj] at JQ;simp only[Aa,B4] at JQ;(try simp only[go_sem,f43,f44,f34,f35,c45]);exact Axe (v24,(IntKind.i64.wrap (Th - 1))) _ JQ ((BW (by simp[ZF,ZE])))
 simp only[c45,Ak] at JQ;obtain ⟨x46,g47,JQ⟩:=bK JQ;have f48:=B8 g47;have f49:(BZ v24).getD (Int.toNat v7) []=[(.int .i64 x46)]:=B9 _ g47;simp only[Aa,B4] at JQ;try simp only[go_sem,f43,f44,f34,f35,c45,f48,f49]
 exact Axe ((v24.set (Int.toNat v7) Tg),(IntKind.i64.wrap (Th - 1))) _ JQ ((BW (by simp[ZF,ZE])))
def KT(a3:Int)(x8:List Int):(List Int)×Int->Option (((List Int)×Int)⊕(((List Int)×Int)))
 | (v12,Mf)=>cond (decide (Mf=a3)) (some (Sum.inr (v12,Mf))) (Option.bind (CK x8 Mf) λ SU=>cond (decide (v12.length+1<10000000)) (some (Sum.inl ((v12++[SU]),SU))) none)
def MV(a0:List (List Int))(a1:List Bool)(a2:Int)(a3:Int):Option ((List Int)):=
 Option.bind (LF a0 a1 a3) λ x1=>Option.bind (CK x1 a2) λ x3=>cond (decide (x3<0)) (some []) (Option.bind (Qc a0 a1 a3) λ x8=>Option.bind (CC (KT a3 x8) ([a2],a2)) (λ (Th,v26)=>some Th))
theorem Ab9(a0:List (List Int))(a1:List Bool)(a2:Int)(a3:Int)(r:(List Int))(hr:MV a0 a1 a2 a3=some r):
   B2 prog 124 [.p (.sl (Cj a0)),.p (.sl (CO a1)),.p (.int .i64 a2),.p (.int .i64 a3)] [] λ h d=>h=[]/\d= .p (.sl (BZ r)):=by
 refine B1 func124 rfl Xh (by simp[Tryz.f124]) ?_;unfold MV at hr;obtain ⟨x1,g2,hr⟩:=bE hr;try simp only[go_sem]
 refine Cq (Ro a0 a1 a3 _ g2) ?_;obtain ⟨x3,g4,hr⟩:=bE hr;have f5:=B8 g4;have f6:(BZ x1).getD (Int.toNat a2) []=[(.int .i64 x3)]:=B9 _ g4;cases c7:decide (x3<0)
 . simp only[c7,Aj] at hr;obtain ⟨x8,g9,hr⟩:=bE hr;(try simp only[go_sem,f5,f6,c7]);refine Cq (Afb a0 a1 a3 _ g9) ?_;obtain ⟨e17,g18,hr⟩:=bE hr;(try simp only[go_sem]);refine CP g18 (λ q:(List Int)×Int=>⟨[(2,.p (.int .i64 q.2)),(3,.p (.int .i64 a3)),(9,.p (.sl (BZ x8))),(10,.ref 24 0 q.1.length q.1.length)],[(24,.arr 3 1 (BZ q.1))],37⟩) ((BW (by simp[ZF,ZE]))) ?_;rintro ⟨v12,Mf⟩ m16 EA Av0;rw[KT.eq_1] at EA;cases Jg:decide (Mf=a3)
   . simp only[Jg,Aj] at EA;obtain ⟨SU,g21,EA⟩:=bK EA;have f22:=B8 g21;have f23:(BZ x8).getD (Int.toNat Mf) []=[(.int .i64 SU)]:=B9 _ g21;obtain ⟨HN,EA⟩:=gK EA;(try simp only[go_sem,Jg,f22,f23]);refine ⟨by have:=Ad HN;(try simp only[An,Ax,Aq] at*);(repeat' refine And.intro ?_ ?_)<;>first | exact Dy _ _ rfl | exact EX _ | omega | (simp[Ka];done),?_⟩;simp only[Aa,B4] at EA;(try simp only[go_sem]);exact Av0 ((v12++[SU]),SU) _ EA ((BW (by simp[ZF,ZE])))
   simp only[Jg,Ak] at EA;simp only[Aa,B0] at EA;cases EA;(try dsimp only at hr);cases hr;(try simp only[go_sem,Jg]);all_goals ((try refine BX ?_);(try simp only[go_sem,Jg]);try first | rfl | exact ⟨rfl,rfl⟩ | (simp;done))
 simp only[c7,Ak] at hr;cases hr;try simp only[go_sem,f5,f6,c7]
 all_goals ((try refine BX ?_);(try simp only[go_sem,f5,f6,c7]);try first | rfl | exact ⟨rfl,rfl⟩ | (simp;done))
def KS(a0:List (List Int))(a2:Int)(x6:List Int):Int×Int->Option ((Int×Int)⊕((Int×Int)))
 | (v10,v11)=>Option.bind (CK a0 a2) λ KB=>cond (decide (v11<((KB.length:Nat):Int))) (Option.bind (CK KB v11) λ x28=>Option.bind (CK x6 x28) λ XG=>cond (decide (0<=XG)) (cond (decide (v10<0)) (some (Sum.inl (x28,(IntKind.i64.wrap (v11+1))))) (Option.bind (CK x6 v10) λ x38=>cond (decide (XG<x38)) (some (Sum.inl (x28,(IntKind.i64.wrap (v11+1))))) (some (Sum.inl (v10,(IntKind.i64.wrap (v11+1))))))) (some (Sum.inl (v10,(IntKind.i64.wrap (v11+1)))))) (some (Sum.inr (v10,v11)))
def Qb(a0:List (List Int))(a1:List Bool)(a2:Int):Option ((List Int)):=
 Option.bind (CK a1 a2) λ x1=>cond x1 (some []) (Option.bind (LF a0 a1 a2) λ x6=>Option.bind (CC (KS a0 a2 x6) ((-1),0)) (λ (Kb,v44)=>cond (decide (Kb<0)) (some []) (Option.bind (MV a0 a1 Kb a2) λ x46=>cond (decide (0<=0/\0<=(IntKind.i64.wrap (((x46.length:Nat):Int) - 1))/\(IntKind.i64.wrap (((x46.length:Nat):Int) - 1))<=((x46.length:Nat):Int))) (cond (decide ([a2].length+(x46.take (Int.toNat (IntKind.i64.wrap (((x46.length:Nat):Int) - 1)))).length<10000000)) (some ([a2]++(x46.take (Int.toNat (IntKind.i64.wrap (((x46.length:Nat):Int) - 1)))))) none) none)))
theorem Afa(a0:List (List Int))(a1:List Bool)(a2:Int)(r:(List Int))(hr:Qb a0 a1 a2=some r):
   B2 prog 86 [.p (.sl (Cj a0)),.p (.sl (CO a1)),.p (.int .i64 a2)] [] λ h d=>h=[]/\d= .p (.sl (BZ r)):=by
 refine B1 func86 rfl n9 (by simp[Tryz.f86]) ?_;unfold Qb at hr;obtain ⟨x1,g2,hr⟩:=bE hr;have f3:=B8 g2;have f4:(CO a1).getD (Int.toNat a2) []=[(.bool x1)]:=B9 _ g2;cases c5:x1
 . simp only[c5,Aj] at hr;obtain ⟨x6,g7,hr⟩:=bE hr;(try simp only[go_sem,f3,f4,c5]);refine Cq (Ro a0 a1 a2 _ g7) ?_;obtain ⟨e15,g16,hr⟩:=bE hr;(try simp only[go_sem]);refine CP g16 (λ q:Int×Int=>⟨[(0,.p (.sl (Cj a0))),(1,.p (.sl (CO a1))),(2,.p (.int .i64 a2)),(7,.p (.sl (BZ x6))),(8,.p (.int .i64 q.1)),(9,.p (.int .i64 q.2))],[],72⟩) ((BW (by simp[ZF,ZE,c5]))) ?_;rintro ⟨v10,v11⟩ m14 C7 Uo;rw[KS.eq_1] at C7;obtain ⟨KB,g18,C7⟩:=bK C7;have f19:=B8 g18;have f20:(Cj a0).getD (Int.toNat a2) []=[(.sl (BZ KB))]:=B9 _ g18;cases MF:decide (v11<((KB.length:Nat):Int))
   . simp only[MF,Aj] at C7;simp only[Aa,B0] at C7;cases C7;(try dsimp only at hr);cases IW:decide (v10<0)
     . simp only[IW,Aj] at hr;obtain ⟨x23,g24,hr⟩:=bE hr;(try simp only[go_sem,f19,f20,MF,IW]);refine Cq (Ab9 a0 a1 v10 a2 _ g24) ?_;obtain ⟨c25,hr⟩:=gE hr;have f26:=Ad c25;obtain ⟨PM,hr⟩:=gE hr;(try simp only[go_sem,f26,EX x23]);refine ⟨by have:=Ad PM;(try simp only[An,Ax,Aq] at*);(repeat' refine And.intro ?_ ?_)<;>first | exact Dy _ _ rfl | exact EX _ | omega | (simp[Ka];done),?_⟩;cases hr;(try simp only[go_sem]);all_goals ((try refine BX ?_);(try simp only[go_sem]);try first | rfl | exact ⟨rfl,rfl⟩ | (simp;done))
     simp only[IW,Ak] at hr;cases hr;(try simp only[go_sem,f19,f20,MF,IW]);all_goals ((try refine BX ?_);(try simp only[go_sem,f19,f20,MF,IW]);try first | rfl | exact ⟨rfl,rfl⟩ | (simp;done))
   simp only[MF,Ak] at C7;obtain ⟨x28,g29,C7⟩:=bK C7;have f30:=B8 g29;have f31:(BZ KB).getD (Int.toNat v11) []=[(.int .i64 x28)]:=B9 _ g29;(try simp only[go_sem,f19,f20,MF,f30,f31]);refine CG mixed (p:=[(0,0),(1,0),(2,0),(3,0),(4,0),(5,0),(6,0),(7,0),(8,0),(9,0),(10,0),(11,0),(12,0),(13,0),(14,0),(15,0),(16,0),(17,0),(18,0),(19,0)]) (by kernel_rfl) (by simp[C8,get]) ?_;obtain ⟨XG,g33,C7⟩:=bK C7;have f34:=B8 g33;have f35:(BZ x6).getD (Int.toNat x28) []=[(.int .i64 XG)]:=B9 _ g33;cases c36:decide (0<=XG)
   . simp only[c36,Aj] at C7;simp only[Aa,B4] at C7;(try simp only[go_sem,f34,f35,c36]);exact Uo (v10,(IntKind.i64.wrap (v11+1))) _ C7 ((BW (by simp[ZF,ZE,c5])))
   simp only[c36,Ak] at C7;cases c37:decide (v10<0)
   . simp only[c37,Aj] at C7;obtain ⟨x38,g39,C7⟩:=bK C7;have f40:=B8 g39;have f41:(BZ x6).getD (Int.toNat v10) []=[(.int .i64 x38)]:=B9 _ g39;cases c42:decide (XG<x38)
     . simp only[c42,Aj] at C7;simp only[Aa,B4] at C7;(try simp only[go_sem,f34,f35,c36,c37,f40,f41,c42]);exact Uo (v10,(IntKind.i64.wrap (v11+1))) _ C7 ((BW (by simp[ZF,ZE,c5])))
     simp only[c42,Ak] at C7;simp only[Aa,B4] at C7;(try simp only[go_sem,f34,f35,c36,c37,f40,f41,c42]);exact Uo (x28,(IntKind.i64.wrap (v11+1))) _ C7 ((BW (by simp[ZF,ZE,c5])))
   simp only[c37,Ak] at C7;simp only[Aa,B4] at C7;(try simp only[go_sem,f34,f35,c36,c37]);exact Uo (x28,(IntKind.i64.wrap (v11+1))) _ C7 ((BW (by simp[ZF,ZE,c5])))
 simp only[c5,Ak] at hr;cases hr;try simp only[go_sem,f3,f4,c5]
 all_goals ((try refine BX ?_);(try simp only[go_sem,f3,f4,c5]);try first | rfl | exact ⟨rfl,rfl⟩ | (simp;done))
def Jo(a0:List (List Int))(a1:List Bool):(List Int)×Int->Option (((List Int)×Int)⊕(((List Int)×Int)))
 | (v6,v7)=>cond (decide (v7<((a0.length:Nat):Int))) (Option.bind (Qb a0 a1 v7) λ J4=>cond (decide (0<((J4.length:Nat):Int))) (cond (decide (((v6.length:Nat):Int)=0)) (some (Sum.inl (J4,(IntKind.i64.wrap (v7+1))))) (cond (decide (((J4.length:Nat):Int)<((v6.length:Nat):Int))) (some (Sum.inl (J4,(IntKind.i64.wrap (v7+1))))) (some (Sum.inl (v6,(IntKind.i64.wrap (v7+1))))))) (some (Sum.inl (v6,(IntKind.i64.wrap (v7+1)))))) (some (Sum.inr (v6,v7)))
def MU(a0:List (List Int))(a1:List Bool):Option (Int×(List Int)×Int):=
 Option.bind (MW a0 a1) λ x1=>cond (decide (x1=0)) (Option.bind (CC (Jo a0 a1) ([],0)) (λ (Sa,v20)=>some (((Sa.length:Nat):Int),Sa,0))) (some (0,[],x1))
theorem Ab8(a0:List (List Int))(a1:List Bool)(r:Int×(List Int)×Int)(hr:MU a0 a1=some r):
   B2 prog 47 [.p (.sl (Cj a0)),.p (.sl (CO a1))] [] λ h d=>h=[]/\d= .Dv [.p (.int .i64 r.1),.p (.sl (BZ r.2.1)),.p (.int .i64 r.2.2)]:=by
 refine B1 func47 rfl p4 (by simp[Tryz.f47]) ?_;unfold MU at hr;obtain ⟨x1,g2,hr⟩:=bE hr;try simp only[go_sem]
 refine Cq (Aba a0 a1 _ g2) ?_;cases c3:decide (x1=0)
 . simp only[c3,Aj] at hr;cases hr;(try simp only[go_sem,c3]);all_goals ((try refine BX ?_);(try simp only[go_sem,c3]);try first | rfl | exact ⟨rfl,rfl⟩ | (simp;done))
 simp only[c3,Ak] at hr;obtain ⟨e11,g12,hr⟩:=bE hr;try simp only[go_sem,c3]
 refine CP g12 (λ q:(List Int)×Int=>⟨[(0,.p (.sl (Cj a0))),(1,.p (.sl (CO a1))),(8,.p (.sl (BZ q.1))),(9,.p (.int .i64 q.2))],[],46⟩) ((Wk.nil (t:=8) (q:=900008) (sz:=1) 3 rfl rfl (by decide)).trans ((Wk.pure (t:=8) (id:=900008) (sz:=1) (e:=3) (es:=[]) rfl rfl).trans ((BW (by simp[ZF,ZE]))))) ?_;rintro ⟨v6,v7⟩ m10 Fb ih9;rw[Jo.eq_1] at Fb;cases IZ:decide (v7<((a0.length:Nat):Int))
 . simp only[IZ,Aj] at Fb;simp only[Aa,B0] at Fb;cases Fb;(try dsimp only at hr);cases hr;(try simp only[go_sem,IZ]);all_goals ((try refine BX ?_);(try simp only[go_sem,IZ]);try first | rfl | exact ⟨rfl,rfl⟩ | (simp;done))
 simp only[IZ,Ak] at Fb;obtain ⟨J4,g15,Fb⟩:=bK Fb;try simp only[go_sem,IZ]
 refine Cq (Afa a0 a1 v7 _ g15) ?_;cases IY:decide (0<((J4.length:Nat):Int))
 . simp only[IY,Aj] at Fb;simp only[Aa,B4] at Fb;(try simp only[go_sem,IY]);exact ih9 (v6,(IntKind.i64.wrap (v7+1))) _ Fb ((BW (by simp[ZF,ZE])))
 simp only[IY,Ak] at Fb;cases Ik:decide (((v6.length:Nat):Int)=0)
 . simp only[Ik,Aj] at Fb;cases IX:decide (((J4.length:Nat):Int)<((v6.length:Nat):Int))
   . simp only[IX,Aj] at Fb;simp only[Aa,B4] at Fb;(try simp only[go_sem,IY,Ik,IX]);exact ih9 (v6,(IntKind.i64.wrap (v7+1))) _ Fb ((BW (by simp[ZF,ZE])))
   simp only[IX,Ak] at Fb;simp only[Aa,B4] at Fb;(try simp only[go_sem,IY,Ik,IX]);exact ih9 (J4,(IntKind.i64.wrap (v7+1))) _ Fb ((BW (by simp[ZF,ZE])))
 simp only[Ik,Ak] at Fb;simp only[Aa,B4] at Fb;try simp only[go_sem,IY,Ik]
 exact ih9 (J4,(IntKind.i64.wrap (v7+1))) _ Fb ((BW (by simp[ZF,ZE])))
theorem TV{g:List (List Int)}(hg:DV g){sh:List Bool}(H9:sh.length=g.length){goal:Nat}(El:goal<g.length):LF g sh (goal:Int)=some (Dz g sh goal):=by
 unfold LF;rw[if_pos ⟨hg,H9,by omega,by omega⟩,show ((goal:Nat):Int).toNat=goal by omega]
theorem Agg{o row:List Int}{m:Int}{k:Nat}(hk:k<row.length):Ke o (row.drop k) m=if o.getD (row.getD k 0).toNat 0=m then row.getD k 0 else Ke o (row.drop (k+1)) m:=by
 have e1:row.getD k 0=row[k]:=getD_eq hk;rw[AT hk,<-e1];unfold Ke;rw[List.find?_cons];by_cases c:o.getD (row.getD k 0).toNat 0=m
 . rw[Ag c,if_pos c];rfl
 . rw[Ah c,if_neg c]
def j5(g:List (List Int))(o:List Int)(u:Nat):Int:=if 0<o.getD u 0 then Ke o (g.getD u []) (o.getD u 0 - 1) else -1
theorem Akx{g:List (List Int)}(hg:DV g){o:List Int}(ho:o.length=g.length)(hr:∀u,u<g.length->-1<=o.getD u 0/\o.getD u 0<=24){u:Nat}(hu:u<g.length){out:List Int}(V0:out.length=g.length):
   ∃k,CC (JH o (u:Int) (g.getD u [])) (out.set u (-1),IntKind.i64.wrap ((((g.getD u []).length:Nat):Int) - 1))=some (out.set u (j5 g o u),k):=by
 have hl:=Ja hg hu;have hru:=hr u hu;have VW:IntKind.i64.wrap (o.getD u 0 - 1)=o.getD u 0 - 1:=by
   rw[IntKind.wrap_i64];omega
 have GO:∀i:Nat,i<=25->IntKind.i64.wrap ((i:Int) - 1)=(i:Int) - 1:=λ i hi=>by
   rw[IntKind.wrap_i64];omega
 unfold j5;by_cases c:0<o.getD u 0
 . rw[if_pos c];have key:=Dk (step:=JH o (u:Int) (g.getD u [])) (g.getD u []).length
     (λ i=>(out.set u (Ke o ((g.getD u []).drop ((g.getD u []).length - i)) (o.getD u 0 - 1)),(((g.getD u []).length - i:Nat):Int) - 1))
     (out.set u (Ke o (g.getD u []) (o.getD u 0 - 1)),-1) (λ i hi=>?_) ?_
   . refine ⟨-1,?_⟩;rw[GO _ (by omega)];simp only[Nat.sub_zero,AZ] at key;exact key
   . (try dsimp only);rw[JH.eq_1];have hk:(g.getD u []).length - (i+1)<(g.getD u []).length:=by omega
     have e2:(((g.getD u []).length - i:Nat):Int) - 1=(((g.getD u []).length - (i+1):Nat):Int):=by omega
     have hm:(g.getD u []).getD ((g.getD u []).length - (i+1)) 0∈g.getD u []:=by
       have e1:(g.getD u []).getD ((g.getD u []).length - (i+1)) 0=(g.getD u [])[(g.getD u []).length - (i+1)]:=getD_eq hk;rw[e1];exact AN hk
     have hrr:=G5 hg hu hm;have i1:=Cr o u 0 (by omega);have i2:=Cr (g.getD u []) ((g.getD u []).length - (i+1)) 0 hk;have i3:=K8 (l:=o) hrr.1 (by omega);have i4:=Cr (out.set u (Ke o ((g.getD u []).drop ((g.getD u []).length - i)) (o.getD u 0 - 1))) u 0 (by simp;omega);rw[e2];have c0:decide ((0:Int)<=(((g.getD u []).length - (i+1):Nat):Int))=true:=Ag (by omega);simp only[c0,Ak,i1,Aa,Ag c,i2,i3,VW];have hd:=Agg (o:=o) (row:=g.getD u []) (m:=o.getD u 0 - 1) hk;rw[show (g.getD u []).length - (i+1)+1=(g.getD u []).length - i by omega] at hd;rw[hd];by_cases c2:o.getD ((g.getD u []).getD ((g.getD u []).length - (i+1)) 0).toNat 0=o.getD u 0 - 1
     . simp only[Ag c2,Ak,i4,Aa];rw[GO _ (by omega),if_pos c2,show ((u:Nat):Int).toNat=u by omega,List.set_set]
     . simp only[Ah c2,Aj];rw[GO _ (by omega),if_neg c2]
   . (try dsimp only);rw[JH.eq_1];have c0:decide ((0:Int)<=(((g.getD u []).length - (g.getD u []).length:Nat):Int) - 1)=false:=Ah (by omega);simp only[c0,Aj];simp
 . rw[if_neg c,GO _ (by omega)];rw[C0,JH.eq_1];have i1:=Cr o u 0 (by omega);by_cases c1:(0:Int)<=((((g.getD u []).length:Nat):Int)) - 1
   . simp only[Ag c1,Ak,i1,Aa,Ah c,Aj,B0];exact ⟨_,rfl⟩
   . simp only[Ah c1,Aj,Aa,B0];exact ⟨_,rfl⟩
theorem Akw{g:List (List Int)}(hg:DV g){sh:List Bool}(H9:sh.length=g.length){goal:Nat}(El:goal<g.length):
   ∃h,Qc g sh (goal:Int)=some h/\h.length=g.length/\∀u,u<g.length->h.getD u 0=j5 g (Dz g sh goal) u:=by
 have VC:=hg.1;have ho:=Lq g sh goal;have hr:∀u,u<g.length->-1<=(Dz g sh goal).getD u 0/\(Dz g sh goal).getD u 0<=24:=λ u hu=>Ju hg sh El hu;unfold Qc;rw[TV hg H9 El];generalize Dz g sh goal=o at*;have c1:decide (g.length<10000000)=true:=Ag (by omega);simp only[Aa,c1,Ak];obtain ⟨e,h1,h2⟩:∃e,CC (MT g o) (List.replicate g.length 0,0)=some e/\(e.1.length=g.length/\∀u,u<g.length->e.1.getD u 0=j5 g o u):=by
   refine N3 (step:=MT g o) (λ s=>∃v:Nat,s.2=(v:Int)/\v<=g.length/\s.1.length=g.length/\∀u,u<v->s.1.getD u 0=j5 g o u) (λ s=>g.length - s.2.toNat)
     (λ e=>e.1.length=g.length/\∀u,u<g.length->e.1.getD u 0=j5 g o u) (λ s hs=>?_) (List.replicate g.length 0,0) ⟨0,rfl,by omega,by simp,λ u hu=>by omega⟩
   obtain ⟨out,i⟩:=s;obtain ⟨v,h3,h4,h5,h6⟩:=hs;dsimp only at h3 h4 h5 h6;subst h3;rw[MT.eq_1];by_cases hv:v<g.length
   . have i1:=Cr out v 0 (by omega);have i2:=Cr g v [] hv;simp only[E1 hv,Ak,i1,i2,Aa];rw[show ((v:Nat):Int).toNat=v by omega];obtain ⟨k,hk⟩:=Akx hg ho hr hv h5;rw[hk];simp only[Aa];rw[CA (by omega)];refine ⟨_,rfl,⟨v+1,rfl,hv,by simpa using h5,λ u hu=>?_⟩,by dsimp only;omega⟩;dsimp only;rw[Fg _ _ _ _ _ (by omega)];by_cases e:u=v
     . rw[if_pos e,e]
     . rw[if_neg e];exact h6 u (by omega)
   . have e1:v=g.length:=by omega
     subst e1;simp only[FA,Aj];exact ⟨_,rfl,h5,h6⟩
 rw[h1];exact ⟨_,rfl,h2⟩
theorem Wz{g:List (List Int)}(hg:DV g){sh:List Bool}{goal:Nat}{o:List Int}(ho:DS g sh goal o){h:List Int}(hh:h.length=g.length)(hf:∀u,u<g.length->h.getD u 0=j5 g o u):∀(f b:Nat) (W:List Int),b<g.length->o.getD b 0=(f:Int)->W.length+f+1<=1000->
   CC (KT (goal:Int) h) (W++[(b:Int)],(b:Int))=some (W++Oo g o f (b:Int)++[(goal:Int)],(goal:Int))
 | 0,b,W,hb,hd,hW=>by
   have e:b=goal:=(ho.zero b hb).1 hd;subst e;rw[C0,KT.eq_1];simp only[BS,Ak,Aa,B0,Oo,List.append_nil]
 | f+1,b,W,hb,hd,hW=>by
   have Dt:b≠goal:=λ e=>by have:=(ho.zero b hb).2 e;omega
   obtain ⟨h1,h2,h3⟩:=ho.La hg hb (by omega);have hx:=hf b hb;unfold j5 at hx;rw[if_pos (by omega)] at hx;rw[C0,KT.eq_1];have c1:decide ((b:Int)=(goal:Int))=false:=Ah (by omega);have c2:decide ((W++[(b:Int)]).length+1<10000000)=true:=Ag (by simp only[Aq,BC];omega);have i1:=Cr h b 0 (by omega);simp only[c1,c2,Aj,Ak,i1,Aa,B4];rw[hx,Oo,show ((b:Nat):Int).toNat=b by omega];generalize Ke o (g.getD b []) (o.getD b 0 - 1)=x at*;have ih:=Wz hg ho hh hf f x.toNat (W++[(b:Int)]) (by omega) (by omega) (by simp only[Aq,BC];omega);rw[show ((x.toNat:Nat):Int)=x by omega] at ih;rw[ih];simp
theorem Aku{g:List (List Int)}(hg:DV g){o:List Int}(ho:o.length=g.length){u:Nat}(hu:u<g.length):
   CC (KS g (u:Int) o) (-1,0)=some (IB o (g.getD u []),(((g.getD u []).length:Nat):Int)):=by
 have hl:=Ja hg hu;have i0:=Cr g u [] hu;have key:=Dk (step:=KS g (u:Int) o) (g.getD u []).length (λ k=>(((g.getD u []).take k).foldl (GI o) (-1),((k:Nat):Int))) (IB o (g.getD u []),(((g.getD u []).length:Nat):Int)) (λ k hk=>?_) ?_
 . simpa using key
 . (try dsimp only);have hm:(g.getD u []).getD k 0∈g.getD u []:=by
     have e1:(g.getD u []).getD k 0=(g.getD u [])[k]:=getD_eq hk;rw[e1];exact AN hk
   have hr:=G5 hg hu hm;rw[KS.eq_1];have i2:=K8 (l:=o) hr.1 (by omega);simp only[i0,E1 hk,Ak,Cr _ _ 0 hk,Aa,i2];rw[CI _ k 0 hk,List.foldl_append,Bs,List.foldl_nil];have hb:=Jw o ((g.getD u []).take k) (-1);generalize ((g.getD u []).take k).foldl (GI o) (-1)=b at hb;generalize hx:(g.getD u []).getD k 0=x at*;unfold GI;by_cases c1:0<=o.getD x.toNat 0
   . simp only[Ag c1,Ak];by_cases c2:b<0
     . simp only[Ag c2,Ak];rw[CA (by omega),if_pos ⟨c1,.inl c2⟩]
     . have W1:b∈g.getD u []:=by
         rcases hb with h | h
         . omega
         . exact Bv h.1
       have hbr:=G5 hg hu W1;have i3:=K8 (l:=o) hbr.1 (by omega);simp only[Ah c2,Aj,i3,Aa];by_cases c3:o.getD x.toNat 0<o.getD b.toNat 0
       . simp only[Ag c3,Ak];rw[CA (by omega),if_pos ⟨c1,.inr c3⟩]
       . simp only[Ah c3,Aj];rw[CA (by omega),if_neg (by rintro ⟨_,h | h⟩;exact c2 h;exact c3 h)]
   . simp only[Ah c1,Aj];rw[CA (by omega),if_neg (λ h=>c1 h.1)]
 . (try dsimp only);rw[KS.eq_1,Ar];simp only[i0,Aa,FA,Aj];rfl
theorem Akt{g:List (List Int)}(hg:DV g){sh:List Bool}(H9:sh.length=g.length){v:Nat}(hv:v<g.length):Qb g sh (v:Int)=some (GP g sh v):=by
 unfold Qb GP;have i1:=Cr sh v false (by omega);simp only[i1,Aa];cases hs:sh.getD v false
 . simp only[Aj];rw[TV hg H9 hv];obtain ⟨h,hh1,OB,F9⟩:=Akw hg H9 hv;have hq:=TV hg H9 hv;have ho:=U9 hg hv hs;have j3:=λ {u:Nat} (hu:u<g.length)=>Ju hg sh hv hu;generalize Dz g sh v=o at ho j3 F9 hq;simp only[Aa];rw[Aku hg ho.len hv];simp only[Aa];rw[if_neg (by simp)];have hb:=Jw o (g.getD v []) (-1)
   change IB o (g.getD v [])=-1∨(IB o (g.getD v [])∈g.getD v []/\0<=o.getD (IB o (g.getD v [])).toNat 0) at hb
   generalize IB o (g.getD v [])=b at*;by_cases c1:b<0
   . simp only[Ag c1,Ak];rw[if_pos c1]
   . have W1:b∈g.getD v []/\0<=o.getD b.toNat 0:=by
       rcases hb with h | h
       . omega
       . exact h
     have hr:=G5 hg hv W1.1;have hle:=j3 (u:=b.toNat) (by omega);have Avg:MV g sh b (v:Int)=some (Oo g o (o.getD b.toNat 0).toNat b++[(v:Int)]):=by
       unfold MV;have i2:=K8 (l:=o) hr.1 (by rw[ho.len];omega);have c2:decide (o.getD b.toNat 0<0)=false:=Ah (by omega);rw[hq];simp only[Aa,i2,c2,Aj,hh1];have:=Wz hg ho OB F9 (o.getD b.toNat 0).toNat b.toNat [] (by omega) (by omega) (by simp only[Ax];omega);rw[show ((b.toNat:Nat):Int)=b by omega] at this;simp only[Bl] at this;rw[this];rfl
     rw[if_neg c1];simp only[Ah c1,Aj];rw[Avg];simp only[Aa];have hlen:(Oo g o (o.getD b.toNat 0).toNat b++[(v:Int)]).length=(o.getD b.toNat 0).toNat+1:=by
       rw[Aq,KG];rfl
     have hw:IntKind.i64.wrap ((((o.getD b.toNat 0).toNat+1:Nat):Int) - 1)=(((o.getD b.toNat 0).toNat:Nat):Int):=by
       rw[IntKind.wrap_i64];omega
     rw[hlen,hw];rw[show (((o.getD b.toNat 0).toNat:Nat):Int).toNat=(o.getD b.toNat 0).toNat by omega];have ht:(Oo g o (o.getD b.toNat 0).toNat b++[(v:Int)]).take (o.getD b.toNat 0).toNat=Oo g o (o.getD b.toNat 0).toNat b:=by
       rw[List.take_append_of_le_length (by rw[KG];omega),AA (by rw[KG];omega)]
     rw[ht];have hwl:=KG g o (o.getD b.toNat 0).toNat b;have c4:decide ((0:Nat)<=0/\(0:Int)<=(((o.getD b.toNat 0).toNat:Nat):Int)/\(((o.getD b.toNat 0).toNat:Nat):Int)<=(((o.getD b.toNat 0).toNat+1:Nat):Int))=true:=Ag (by omega);have c5:decide ([(v:Int)].length+(Oo g o (o.getD b.toNat 0).toNat b).length<10000000)=true:=Ag (by rw[hwl];simp only[BC];omega);simp only[c4,c5,Ak];rfl
 . simp only[Ak,AP]
theorem Afc{g:List (List Int)}(hg:DV g){sh:List Bool}(H9:sh.length=g.length):MU g sh=some ((((FE g sh).length:Nat):Int),FE g sh,0):=by
 have hl:CC (Jo g sh) ([],((0:Nat):Int))=some (FE g sh,((g.length:Nat):Int)):=by
   refine Dk (step:=Jo g sh) g.length (λ k=>((((List.range g.length).map (GP g sh)).take k).foldl LY [],((k:Nat):Int))) _ (λ k hk=>?_) ?_
   . (try dsimp only);rw[Jo.eq_1];simp only[E1 hk,Ak];rw[Akt hg H9 hk];simp only[Aa];have e1:((List.range g.length).map (GP g sh)).getD k []=GP g sh k:=by
       rw[getD_map' (GP g sh) _ k 0 [] (by simpa using hk)];simp[List.getD,List.getElem?_range hk]
     rw[CI _ k [] (by simpa using hk),List.foldl_append,List.foldl_cons,List.foldl_nil,e1];generalize (((List.range g.length).map (GP g sh)).take k).foldl LY []=b;generalize GP g sh k=x;have hw:=CA (n:=k) (by have:=hg.1;omega);rw[hw];unfold LY;by_cases c1:0<x.length
     . simp only[Ag (show (0:Int)<((x.length:Nat):Int) by omega),Ak];by_cases c0:b.length=0
       . simp only[Ag (show ((b.length:Nat):Int)=0 by omega),Ak];rw[if_pos ⟨c1,.inl c0⟩]
       . simp only[Ah (show ¬((b.length:Nat):Int)=0 by omega),Aj];by_cases c2:x.length<b.length
         . simp only[Ag (show ((x.length:Nat):Int)<((b.length:Nat):Int) by omega),Ak];rw[if_pos ⟨c1,.inr c2⟩]
         . simp only[Ah (show ¬((x.length:Nat):Int)<((b.length:Nat):Int) by omega),Aj];rw[if_neg (by rintro ⟨_,h | h⟩;exact c0 h;exact c2 h)]
     . simp only[Ah (show ¬(0:Int)<((x.length:Nat):Int) by omega),Aj];rw[if_neg (λ h=>c1 h.1)]
   . (try dsimp only);rw[Jo.eq_1];simp only[FA,Aj];rw[AA (by simp)];rfl
 have Yi:g.length<=10000000/\∀r∈g,r.length<=10000000:=⟨by have:=hg.1;omega,λ r hr=>by
   obtain ⟨u,hu,rfl⟩:=AD.1 hr;have e1:g.getD u []=g[u]:=getD_eq hu;have:=Ja hg hu;rw[e1] at this;omega⟩
 have hc:MW g sh=some 0:=by
   unfold MW;rw[if_pos Yi,if_pos hg,if_pos H9]
 unfold MU;rw[hc];simp only[Aa];rw[show (([]:List Int),(0:Int))=([],((0:Nat):Int)) from rfl,hl];rfl
def nI(l:List Nat):List Int:=List.map (λ n:Nat=>(n:Int)) l
theorem CH(l:List Nat):(nI l).length=l.length:=by simp[nI]
theorem DL(l:List Nat)(i:Nat):(nI l).getD i 0=((l.getD i 0:Nat):Int):=by
 by_cases h:i<l.length<;>simp[nI,List.getD,h]
theorem Aus(l:List Nat)(i x:Nat):(nI l).set i (x:Int)=nI (l.set i x):=by simp[nI,Br]
theorem Arf(l:List Nat)(x:Nat):nI l++[(x:Int)]=nI (l++[x]):=by simp[nI]
theorem Are(l:List Nat)(k:Nat):(nI l).take k=nI (l.take k):=by simp[nI,BN]
theorem Arh(l:List Nat)(k:Nat):(nI l).drop k=nI (l.drop k):=by simp[nI,List.map_drop]
theorem Auu(l:List Nat)(x:Nat):(x:Int)∈nI l↔x∈l:=by
 simp only[nI,AU];constructor
 . rintro ⟨y,hy,e⟩;have:y=x:=by omega
   rwa[this] at hy
 . exact λ h=>⟨x,h,rfl⟩
attribute [go_sem] CH Aus Arf
theorem Aew(l:List Int)(i:Nat)(hi:i<l.length)(hl:l.length<=10000000)(hn:∀j,j<i->l.getD j 0≠l.getD i 0):P8 l (l.getD i 0)=some (i:Int):=by
 have Uz:=Dk (step:=KL l (l.getD i 0)) i (λ k=>(k:Int)) (Sum.inr (i:Int))
   (λ k hk=>by
     have hkl:k<l.length:=by omega
     rw[KL.eq_1,E1 hkl,Ak,Cr l k 0 hkl,Aa,Ah (λ e=>hn k hk e.symm),Aj,CA (by omega)])
   (by rw[KL.eq_1,E1 hi,Ak,Cr l i 0 hi,Aa,Ag rfl,Ak])
 unfold P8;rw[show (0:Int)=((0:Nat):Int) from rfl] at*;rw[Uz];rfl
theorem Aqs(l:List Int)(h1:1<=l.length)(hl:l.length<=10000000):∃m,XU l=some m/\m∈l/\∀x∈l,m<=x:=by
 have key:∀d k,k+d=l.length->1<=k->∀m,m∈l.take k->(∀x∈l.take k,m<=x)->∃m' j,CC (P7 l) (m,(k:Int))=some (m',j)/\m'∈l/\∀x∈l,m'<=x:=by
   intro d
   induction d with
   | zero=>
     intro k hk _ m hm hx;obtain rfl:k=l.length:=by omega
     rw[Ar] at hm hx;exact ⟨m,_,by rw[C0,P7.eq_1,FA,Aj];rfl,hm,hx⟩
   | succ d ih=>
     intro k hk Pn m hm hx;have hkl:k<l.length:=by omega
     rw[C0,P7.eq_1,E1 hkl,Ak,Cr l k 0 hkl,Aa,Aa,B4,CA (by omega)];refine ih (k+1) (by omega) (by omega) _ ?_ ?_
     . rw[CI l k 0 hkl,Aw];split
       . exact .inr (by simp)
       . exact .inl hm
     . intro x HT;rw[CI l k 0 hkl,Aw] at HT;rcases HT with h2 | h2
       . have:=hx x h2;split<;>omega
       . rw[Ay.1 h2];split<;>omega
 unfold XU;rw[Ah (by omega),Aj,show CK l 0=some (l.getD 0 0) from Cr l 0 0 (by omega),Aa];obtain ⟨m',j,h2,h3,h4⟩:=key (l.length - 1) 1 (by omega) (by omega) (l.getD 0 0) (by
     rw[CI l 0 0 (by omega)];simp) (by rw[CI l 0 0 (by omega)];simp)
 exact ⟨m',by rw[show ((1:Int))=((1:Nat):Int) from rfl,h2,Aa],h3,h4⟩
def Sr.bx(g:List (List Int))(sh:List Bool)(s:Sr)(P:List Nat)(pk:Nat):List D:=[.p (.sl (Cj g)),.p (.sl (CO sh)),.ref 1000001 0 s.seen.length s.seen.length,.ref 1000002 0 s.low.length s.low.length,.ref 1000003 0 s.at_.length s.at_.length,
 .ref 1000004 0 pk P.length,.ref 1000005 0 s.held.length s.held.length,.p (.int .i64 (s.count:Nat)),.ref 1000006 0 s.names.length s.names.length]
def Fc(l:List Int)(ws:List Nat)(x:Int):List Int:=ws.foldl (λ l w=>l.set w x) l
theorem H3(ws:List Nat)(l:List Int)(x:Int):(Fc l ws x).length=l.length:=by
 induction ws generalizing l with
 | nil=>rfl
 | cons w r ih=>simp only[Fc,Bs] at ih ⊢;rw[ih];simp
attribute [go_sem] H3
theorem Zs(l:List Int)(ws:List Nat)(w:Nat)(x:Int):Fc l (ws++[w]) x=(Fc l ws x).set w x:=by simp[Fc,List.foldl_append]
theorem Hr(g:List (List Int))(sh:List Bool)(s:Sr)(P:List Nat)(pk i:Nat)(hi:i<s.held.length)(hl:s.held.length<=1000)(hn:∀j,j<i->s.held.getD j 0≠s.held.getD i 0)(hr:∀w∈s.held,w<s.names.length):
   B2 prog 155 [.ptr 1000000 0,.p (.int .i64 (s.held.getD i 0:Nat))]
     [(1000000,.box (s.bx g sh P pk)),(1000001,.arr 3 1 (BZ (nI s.seen))),(1000002,.arr 3 1 (BZ (nI s.low))),(1000003,.arr 3 1 (BZ (nI s.at_))),(1000004,.arr 3 1 (BZ (nI P))),(1000005,.arr 3 1 (BZ (nI s.held))),(1000006,.arr 3 1 (BZ s.names))]
     λ h r=>∃m,(m∈nI (s.held.drop i)/\∀x∈nI (s.held.drop i),m<=x)/\h=[(1000000,.box [.p (.sl (Cj g)),.p (.sl (CO sh)),.ref 1000001 0 s.seen.length s.seen.length,.ref 1000002 0 s.low.length s.low.length,.ref 1000003 0 s.at_.length s.at_.length,
       .ref 1000004 0 pk P.length,.ref 1000005 0 i s.held.length,.p (.int .i64 (s.count:Nat)),.ref 1000006 0 s.names.length s.names.length]),
       (1000001,.arr 3 1 (BZ (nI s.seen))),(1000002,.arr 3 1 (BZ (nI s.low))),(1000003,.arr 3 1 (BZ (nI s.at_))),(1000004,.arr 3 1 (BZ (nI P))),(1000005,.arr 3 1 (BZ (nI s.held))),(1000006,.arr 3 1 (BZ (Fc s.names (s.held.drop i) m)))]/\r= .Dv []:=by
 refine B1 func155 rfl Ah6 (by simp[Tryz.f155]) ?_;unfold Sr.bx;have e1:=Aew (nI s.held) i (by rw[CH];exact hi) (by rw[CH];omega) (λ j hj=>by rw[DL,DL];have:=hn j hj;omega);rw[DL] at e1;obtain ⟨m,e2,WY,S3⟩:=Aqs (nI (s.held.drop i)) (by rw[CH];simp;omega) (by rw[CH];simp;omega);simp only[go_sem];refine PS rfl rfl (Aay _ _ _ e1) (by simp[GF,MA,ev,get,CH,BZ,AA]) ?_;rintro h' r ⟨rfl,rfl⟩;refine ⟨rfl,rfl,?_⟩;simp only[go_sem];have f1:(0:Int)<=(i:Int)/\(i:Int)<=(s.held.length:Int):=by omega
 have f2:((s.held.length:Int) - (i:Int)).toNat=s.held.length - i:=by omega
 simp only[go_sem,f1,Ab,Bx,f2];refine PS rfl rfl (Akc _ _ e2) ?_ ?_
 . simp[GF,MA,ev,get,CH,BZ,Arh,AA];simp[nI,List.map_drop]
 rintro h' r ⟨rfl,rfl⟩;refine ⟨rfl,rfl,?_⟩;simp only[go_sem,f1,Ab,Bx,f2];refine B7 (λ k=>⟨[(0,.ptr 1000000 0),(4,.p (.int .i64 (i:Nat))),(5,.p (.int .i64 m)),(26,.ref 1000005 i (s.held.length - i) s.held.length),(27,.p (.int .i64 ((s.held.length - i:Nat):Int))),(28,.p (.int .i64 (k:Nat)))],
     [(1000000,.box (s.bx g sh P pk)),(1000001,.arr 3 1 (BZ (nI s.seen))),(1000002,.arr 3 1 (BZ (nI s.low))),(1000003,.arr 3 1 (BZ (nI s.at_))),(1000004,.arr 3 1 (BZ (nI P))),(1000005,.arr 3 1 (BZ (nI s.held))),
      (1000006,.arr 3 1 (BZ (Fc s.names ((s.held.drop i).take k) m)))],49⟩) (λ k=>k<=s.held.length - i) (λ k=>s.held.length - i - k) 0 (AE _)
   ((BW (by simp[ZF,Sr.bx,Fc]))) ?_
 rintro k n hk ih;unfold Sr.bx;cases c1:decide ((k:Int)<((s.held.length - i:Nat):Int))
 . have f3:((i:Int) - 0).toNat=i:=by omega
   obtain rfl:k=s.held.length - i:=by have:=Ae c1;omega
   simp only[go_sem,c1,f1,f3];refine Cp ?_;have f4:(s.held.drop i).take (s.held.length - i)=s.held.drop i:=AA (by simp);simp only[go_sem,c1,f1,f3,f4];exact ⟨m,⟨WY,S3⟩,rfl⟩
 . have IF:k<s.held.length - i:=by simpa using Ad c1
   have f4:(0:Int)<=(k:Int)/\(k:Int)<((s.held.length - i:Nat):Int):=by omega
   have g1:=Cm (nI s.held) (i+k) (by rw[CH];omega);rw[DL] at g1;have hw:=hr _ (CF s.held (i+k) 0 (by omega));have f5:(0:Int)<=((s.held.getD (i+k) 0:Nat):Int)/\((s.held.getD (i+k) 0:Nat):Int)<(s.names.length:Int):=by omega
   have f6:IntKind.i64.wrap ((k:Int)+1)=((k+1:Nat):Int):=CA (by omega);have g2:=Cm (Fc s.names ((s.held.drop i).take k) m) (s.held.getD (i+k) 0) (by rw[H3];exact hw);simp only[go_sem,c1,f4,g1,g2,f5,Ab,f6];refine ih (k+1) _ (by omega) (by omega) ?_;have hd:(s.held.drop i).take (k+1)=(s.held.drop i).take k++[s.held.getD (i+k) 0]:=by
     rw[CI (s.held.drop i) k 0 (by simp;omega)];simp[List.getD]
   rw[hd,Zs];exact (BW (by simp[ZF,Sr.bx,Dj]))
structure FB where
 YV:Nat
 s:Sr
 v:Nat
 p1:Nat
 p2:Nat
def FB.st(g:List (List Int))(sh:List Bool)(b:FB):St:=⟨[(0,.ptr 1000000 0),(1,.p (.int .i64 (b.v:Nat)))],[
 (1000000,.box [.p (.sl (Cj g)),.p (.sl (CO sh)),.ref 1000001 0 b.s.seen.length b.s.seen.length,.ref 1000002 0 b.s.low.length b.s.low.length,.ref 1000003 0 b.s.at_.length b.s.at_.length,.ref 500005 0 b.s.path.length b.s.path.length,.ref 500006 0 b.s.held.length b.s.held.length,.p (.int .i64 (b.s.count:Nat)),.ref 1000006 0 b.s.names.length b.s.names.length]),(1000001,.arr 3 1 (BZ (nI b.s.seen))),(1000002,.arr 3 1 (BZ (nI b.s.low))),(1000003,.arr 3 1 (BZ (nI b.s.at_))),(1000004,.Fv (FL 1 b.p1)),(1000005,.Fv (FL 1 b.p2)),(1000006,.arr 3 1 (BZ b.s.names))
 ,(500005,.arr 3 1 (BZ (nI b.s.path))),(500006,.arr 3 1 (BZ (nI b.s.held)))],210⟩
theorem Asb(P:List Nat)(k:Nat):(BZ (nI P)).take k=BZ (nI (P.take k)):=by rw[L2,Are]
theorem Ap5(P:List Nat)(k:Nat)(h:k<=P.length):(BZ (nI (P.take k))).take k=BZ (nI (P.take k)):=AA (by rw[BY,CH];simp;omega)
theorem Tb(g:List (List Int))(sh:List Bool)(p1 p2 YV:Nat)(se lo ad P H:List Nat)(pk hk cn:Nat)(nm:List Int)(v:Nat)(hpk:pk<=P.length)(hhk:hk<=H.length):
   Wk ⟨[(0,.ptr 1000000 0),(1,.p (.int .i64 (v:Nat)))],[
     (1000000,.box [.p (.sl (Cj g)),.p (.sl (CO sh)),.ref 1000001 0 se.length se.length,.ref 1000002 0 lo.length lo.length,.ref 1000003 0 ad.length ad.length,.ref 500005 0 pk P.length,.ref 500006 0 hk H.length,.p (.int .i64 (cn:Nat)),.ref 1000006 0 nm.length nm.length]),(1000001,.arr 3 1 (BZ (nI se))),(1000002,.arr 3 1 (BZ (nI lo))),(1000003,.arr 3 1 (BZ (nI ad))),(1000004,.Fv (FL 1 p1)),(1000005,.Fv (FL 1 p2)),(1000006,.arr 3 1 (BZ nm))
     ,(500005,.arr 3 1 (BZ (nI P))),(500006,.arr 3 1 (BZ (nI H)))],210⟩ (FB.st g sh ⟨YV,⟨se,lo,ad,P.take pk,H.take hk,cn,nm⟩,v,p1,p2⟩):=by
 have l1:(P.take pk).length=pk:=by simp;omega
 have l2:(H.take hk).length=hk:=by simp;omega
 refine (E6 (id:=1000000) (j:=5) (q:=500005) (k:=pk) (es:=BZ (nI P)) 600005 rfl (by simp[CH,BY]) rfl (by rw[BY,CH];exact hpk) rfl).trans ?_;refine (BW (st1:=⟨[(0,.ptr 1000000 0),(1,.p (.int .i64 (v:Nat)))],[
     (1000000,.box [.p (.sl (Cj g)),.p (.sl (CO sh)),.ref 1000001 0 se.length se.length,.ref 1000002 0 lo.length lo.length,.ref 1000003 0 ad.length ad.length,.ref 600005 0 (P.take pk).length (P.take pk).length,.ref 500006 0 hk H.length,.p (.int .i64 (cn:Nat)),.ref 1000006 0 nm.length nm.length]),(1000001,.arr 3 1 (BZ (nI se))),(1000002,.arr 3 1 (BZ (nI lo))),(1000003,.arr 3 1 (BZ (nI ad))),(1000004,.Fv (FL 1 p1)),(1000005,.Fv (FL 1 p2)),(1000006,.arr 3 1 (BZ nm))
     ,(600005,.arr 3 1 (BZ (nI (P.take pk)))),(500006,.arr 3 1 (BZ (nI H)))],210⟩) (by simp[ZF,Asb,l1,l2])).trans ?_
 refine (E6 (id:=1000000) (j:=5) (q:=600005) (k:=pk) (es:=BZ (nI (P.take pk))) 500005 rfl (by simp[CH,BY,l1]) rfl (by rw[BY,CH,l1];exact Ai _) rfl).trans ?_;refine (E6 (id:=1000000) (j:=6) (q:=500006) (k:=hk) (es:=BZ (nI H)) 600006 rfl (by simp[CH,BY]) rfl (by rw[BY,CH];exact hhk) rfl).trans ?_;refine (BW (st1:=⟨[(0,.ptr 1000000 0),(1,.p (.int .i64 (v:Nat)))],[
     (1000000,.box [.p (.sl (Cj g)),.p (.sl (CO sh)),.ref 1000001 0 se.length se.length,.ref 1000002 0 lo.length lo.length,.ref 1000003 0 ad.length ad.length,.ref 500005 0 (P.take pk).length (P.take pk).length,.ref 600006 0 (H.take hk).length (H.take hk).length,.p (.int .i64 (cn:Nat)),.ref 1000006 0 nm.length nm.length]),(1000001,.arr 3 1 (BZ (nI se))),(1000002,.arr 3 1 (BZ (nI lo))),(1000003,.arr 3 1 (BZ (nI ad))),(1000004,.Fv (FL 1 p1)),(1000005,.Fv (FL 1 p2)),(1000006,.arr 3 1 (BZ nm))
     ,(500005,.arr 3 1 (BZ (nI (P.take pk)))),(600006,.arr 3 1 (BZ (nI (H.take hk))))],210⟩) (by simp[ZF,Asb,Ap5 P pk hpk,l1,l2])).trans ?_
 refine (E6 (id:=1000000) (j:=6) (q:=600006) (k:=hk) (es:=BZ (nI (H.take hk))) 500006 rfl (by simp[CH,BY,l2]) rfl (by rw[BY,CH,l2];exact Ai _) rfl).trans ?_;exact (BW (by simp[ZF,FB.st,Asb,Ap5 P pk hpk,Ap5 H hk hhk,l1,l2]))
theorem Aio(g:List (List Int))(sh:List Bool)(_p1 _p2 YV:Nat)(se lo ad P H:List Nat)(pk hk cn:Nat)(nm:List Int)(v:Nat)(hpk:pk<=P.length)(hhk:hk<=H.length):
   Wk ⟨[(0,.ptr 1000000 0),(1,.p (.int .i64 (v:Nat)))],[
     (1000000,.box [.p (.sl (Cj g)),.p (.sl (CO sh)),.ref 1000001 0 se.length se.length,.ref 1000002 0 lo.length lo.length,.ref 1000003 0 ad.length ad.length,.ref 1000004 0 pk P.length,.ref 1000005 0 hk H.length,.p (.int .i64 (cn:Nat)),.ref 1000006 0 nm.length nm.length]),(1000001,.arr 3 1 (BZ (nI se))),(1000002,.arr 3 1 (BZ (nI lo))),(1000003,.arr 3 1 (BZ (nI ad))),(1000004,.arr 3 1 (BZ (nI P))),(1000005,.arr 3 1 (BZ (nI H))),(1000006,.arr 3 1 (BZ nm))
     ],210⟩ (FB.st g sh ⟨YV,⟨se,lo,ad,P.take pk,H.take hk,cn,nm⟩,v,P.length+1,H.length+1⟩):=by
 have l1:(P.take pk).length=pk:=by simp;omega
 have l2:(H.take hk).length=hk:=by simp;omega
 refine (E6 (id:=1000000) (j:=5) (q:=1000004) (k:=pk) (es:=BZ (nI P)) 500005 rfl (by simp[CH,BY]) rfl (by rw[BY,CH];exact hpk) rfl).trans ?_;refine (E6 (id:=1000000) (j:=6) (q:=1000005) (k:=hk) (es:=BZ (nI H)) 500006 rfl (by simp[CH,BY]) rfl (by rw[BY,CH];exact hhk) rfl).trans ?_;exact (BW (by simp[ZF,FB.st,Asb,l1,l2,CH,BY]))
structure FI(g:List (List Int))(sh:List Bool)(s0:Sr)(v0:Nat)(b:FB):Prop where
 tj:TJ g sh (if b.YV=0 then λ w=>w=b.v else Qg) b.s
 cu:b.s.count+Mg g b.s=g.length
 mo:∀x,s0.sn x≠0->b.s.sn x≠0
 v0:b.s.sn v0≠0
 at0:b.YV=0->b.v<g.length/\sh.getD b.v false=false/\b.s.sn b.v=0/\∀p∈b.s.path,I8 g sh p b.v
 at1:b.YV≠0->b.YV=1/\∃ps,b.s.path=ps++[b.v]
 pl:b.s.path.length+Mg g b.s<=g.length
 hl:b.s.held.length+Mg g b.s<=g.length
theorem TJ.VR{g:List (List Int)}{sh:List Bool}{s:Sr}(h:TJ g sh Qg s)(p:Nat->Prop):TJ g sh p s:=
 ⟨h.l1,h.l2,h.l3,h.l4,h.rng,h.z7,h.inj,h.YU,h.at0,h.atl,h.N8,h.hso,h.Vz,h.pso,h.Tm,h.nmc,h.fin,λ x hx k hk w hw ho=>⟨λ e=>((h.edg x hx k hk w hw ho).1 e).elim,(h.edg x hx k hk w hw ho).2⟩,h.low,h.rch,h.own,h.anc,h.nmx⟩
def Sr.inc(s:Sr)(v:Nat):Sr:={s with at_:=s.at_.set v (s.ad v+1)}
def Sr.lo1(s:Sr)(v L:Nat):Sr:={s with low:=s.low.set v L}
theorem Ac1{s:Sr}{v:Nat}(hv:v<s.at_.length)(x:Nat):(s.inc v).ad x=if x=v then s.ad v+1 else s.ad x:=Fg _ _ _ _ _ hv
theorem Auw{s:Sr}{v L:Nat}(hv:v<s.low.length)(x:Nat):(s.lo1 v L).lw x=if x=v then L else s.lw x:=Fg _ _ _ _ _ hv
section
variable {g:List (List Int)} {sh:List Bool} {s0 s:Sr} {v0 v w p1 p2:Nat}
theorem On(h:FI g sh s0 v0 ⟨1,s,v,p1,p2⟩)(hk:s.ad v<(g.getD v []).length)(hw:(g.getD v []).getD (s.ad v) 0=(w:Int))(hq:sh.getD w false=false->s.sn w≠0/\w∉s.held)(q1 q2:Nat):
   FI g sh s0 v0 ⟨1,s.inc v,v,q1,q2⟩/\FM g (s.inc v)<FM g s:=by
 obtain ⟨tj,cu,mo,XI,_,at1,pl,hl⟩:=h;simp only at pl hl;obtain ⟨_,ps,hp⟩:=at1 (show (1:Nat)≠0 by decide)
 replace tj:TJ g sh Qg s:=tj
 replace hp:s.path=ps++[v]:=hp
 obtain ⟨hvp,Q4,Ml,_⟩:=tj.last hp;have e3:=Ac1 (s:=s) (v:=v) (by rw[tj.l3];exact Ml);have h1:TJ g sh Qg (s.inc v):=tj.step (L:=s.lw v) hp hk hw rfl (λ x=>by show s.lw x=_;split<;>simp_all) rfl e3 (by simp[Sr.inc]) rfl rfl rfl rfl (Ai _) (tj.low v Q4).2
   λ ho=>⟨λ e=>absurd e (hq ho).1,λ hm=>absurd hm (hq ho).2⟩
 have h2:=Rl (g:=g) (s:=s) (s':=s.inc v) Ml hk e3;have h3:Mg g (s.inc v)=Mg g s:=Im rfl;refine ⟨⟨h1,by show s.count+_=_;rw[h3];exact cu,mo,XI,λ h=>absurd h (show (1:Nat)≠0 by decide),λ _=>⟨rfl,ps,hp⟩,by rw[h3];exact pl,by rw[h3];exact hl⟩,?_⟩;unfold FM;rw[h3];show _+_+s.path.length<_;omega
theorem YR(h:FI g sh s0 v0 ⟨1,s,v,p1,p2⟩)(hk:s.ad v<(g.getD v []).length)(hw:(g.getD v []).getD (s.ad v) 0=(w:Int))(hwn:w<g.length)(ho:sh.getD w false=false)(hs:s.sn w=0)(q1 q2:Nat):
   FI g sh s0 v0 ⟨0,s.inc v,w,q1,q2⟩/\FM g (s.inc v)<FM g s:=by
 obtain ⟨tj,cu,mo,XI,_,at1,pl,hl⟩:=h;simp only at pl hl;obtain ⟨_,ps,hp⟩:=at1 (show (1:Nat)≠0 by decide)
 replace tj:TJ g sh Qg s:=tj
 replace hp:s.path=ps++[v]:=hp
 obtain ⟨hvp,Q4,Ml,_⟩:=tj.last hp;have e3:=Ac1 (s:=s) (v:=v) (by rw[tj.l3];exact Ml);have hwh:w∉s.held:=λ hm=>((tj.N8 w).1 hm).1 hs;have h1:TJ g sh (λ x=>x=w) (s.inc v):=tj.step (L:=s.lw v) hp hk hw rfl (λ x=>by show s.lw x=_;split<;>simp_all) rfl e3 (by simp[Sr.inc]) rfl rfl rfl rfl (Ai _) (tj.low v Q4).2
   λ _=>⟨λ _=>rfl,λ hm=>absurd hm hwh⟩
 have h2:=Rl (g:=g) (s:=s) (s':=s.inc v) Ml hk e3;have h3:Mg g (s.inc v)=Mg g s:=Im rfl;have he:Ed g sh v w:=⟨by rw[<-hw,getD_eq hk];exact AN hk,ho⟩;refine ⟨⟨h1,by show s.count+_=_;rw[h3];exact cu,mo,XI,λ _=>⟨hwn,ho,hs,λ p KF=>?_⟩,λ h=>absurd rfl h,by rw[h3];exact pl,by rw[h3];exact hl⟩,?_⟩
 . exact (tj.rch p KF v Q4 ((tj.last hp).2.2.2.2.1 p KF)).tail he
 . unfold FM;rw[h3];show _+_+s.path.length<_;omega
theorem YQ(h:FI g sh s0 v0 ⟨1,s,v,p1,p2⟩)(hk:s.ad v<(g.getD v []).length)(hw:(g.getD v []).getD (s.ad v) 0=(w:Int))(ho:sh.getD w false=false)(hs:s.sn w≠0)(hn:s.nm w<0)(q1 q2:Nat):
   FI g sh s0 v0 ⟨1,(s.inc v).lo1 v (min (s.lw v) (s.sn w)),v,q1,q2⟩/\FM g ((s.inc v).lo1 v (min (s.lw v) (s.sn w)))<FM g s:=by
 obtain ⟨tj,cu,mo,XI,_,at1,pl,hl⟩:=h;simp only at pl hl;obtain ⟨_,ps,hp⟩:=at1 (show (1:Nat)≠0 by decide)
 replace tj:TJ g sh Qg s:=tj
 replace hp:s.path=ps++[v]:=hp
 obtain ⟨hvp,Q4,Ml,_⟩:=tj.last hp;have e3:=Ac1 (s:=s) (v:=v) (by rw[tj.l3];exact Ml);have hwh:w∈s.held:=(tj.N8 w).2 ⟨hs,hn⟩;have he:Ed g sh v w:=⟨by rw[<-hw,getD_eq hk];exact AN hk,ho⟩;obtain ⟨_,u,Fq,KE,hu3⟩:=tj.low v Q4;have h1:TJ g sh Qg ((s.inc v).lo1 v (min (s.lw v) (s.sn w))):=tj.step (L:=min (s.lw v) (s.sn w)) hp hk hw rfl (λ x=>Auw (s:=s.inc v) (by show v<s.low.length;rw[tj.l2];exact Ml) x) (by simp[Sr.lo1,Sr.inc]) e3 (by simp[Sr.inc,Sr.lo1]) rfl rfl rfl rfl (Nat.min_le_left _ _)
   (by
     rcases Nat.le_total (s.lw v) (s.sn w) with h4 | h4
     . exact ⟨u,Fq,by rw[Nat.min_eq_left h4];exact KE,hu3⟩
     . exact ⟨w,hwh,by rw[Nat.min_eq_right h4],(I8.refl v).tail he⟩)
   λ _=>⟨λ e=>absurd e hs,λ _=>Nat.min_le_right _ _⟩
 have h2:=Rl (g:=g) (s:=s) (s':=(s.inc v).lo1 v (min (s.lw v) (s.sn w))) Ml hk e3;have h3:Mg g ((s.inc v).lo1 v (min (s.lw v) (s.sn w)))=Mg g s:=Im rfl;refine ⟨⟨h1,by show s.count+_=_;rw[h3];exact cu,mo,XI,λ h=>absurd h (show (1:Nat)≠0 by decide),λ _=>⟨rfl,ps,hp⟩,by rw[h3];exact pl,by rw[h3];exact hl⟩,?_⟩;unfold FM;rw[h3];show _+_+s.path.length<_;omega
theorem Aax(ws:List Nat)(m:Int):∀(l:List Int) (x:Nat) (d:Int),(∀w∈ws,w<l.length)->(Fc l ws m).getD x d=if x∈ws then m else l.getD x d:=by
 induction ws with
 | nil=>intro l x d _;simp[Fc]
 | cons w r ih=>
   intro l x d h;have:=ih (l.set w m) x d (λ y hy=>by rw[Bz];exact h y (by simp[hy]));simp only[Fc,Bs] at this ⊢;rw[this,Fg _ _ _ _ _ (h w (by simp))];by_cases h1:x∈r
   . simp[h1]
   . by_cases h2:x=w
     . simp[h1,h2]
     . simp[h1,h2]
theorem LW(tj:TJ g sh Qg s){i:Nat}(hi:i<s.held.length)(hv:s.held.getD i 0=v):(∀x,x∈s.held.take i↔x∈s.held/\s.sn x<s.sn v)/\(∀x,x∈s.held.drop i↔x∈s.held/\s.sn v<=s.sn x)/\∀j,j<i->s.held.getD j 0≠s.held.getD i 0:=by
 have hso:=List.pairwise_iff_getElem.1 tj.hso;have Us:s.held[i]=v:=by rw[<-hv,getD_eq hi]
 have lt:∀a b (ha:a<s.held.length) (hb:b<s.held.length),a<b->s.sn s.held[a] <s.sn s.held[b]:=λ a b ha hb V5=>hso a b ha hb V5;refine ⟨λ x=>⟨λ hx=>?_,λ ⟨h1,h2⟩=>?_⟩,λ x=>⟨λ hx=>?_,λ ⟨h1,h2⟩=>?_⟩,λ j hj e=>?_⟩
 . obtain ⟨k,hk,rfl⟩:=AD.1 hx;rw[List.getElem_take];have IF:k<i:=by simp at hk;omega
   exact ⟨AN _,by rw[<-Us];exact lt k i (by omega) hi IF⟩
 . obtain ⟨k,hk,rfl⟩:=AD.1 h1;rcases Nat.lt_or_ge k i with h3 | h3
   . exact AD.2 ⟨k,by simp;omega,by rw[List.getElem_take]⟩
   . rcases Nat.eq_or_lt_of_le h3 with h4 | h4
     . subst h4;rw[Us] at h2;omega
     . have:=lt i k hi hk h4;rw[Us] at this;omega
 . obtain ⟨k,hk,rfl⟩:=AD.1 hx;rw[List.getElem_drop];have IF:i+k<s.held.length:=by simp at hk;omega
   refine ⟨AN _,?_⟩;rcases BT k with h4 | h4
   . subst h4;simp only[Bu];rw[Us];exact Ai _
   . have:=lt i (i+k) hi IF (by omega);rw[Us] at this;omega
 . obtain ⟨k,hk,rfl⟩:=AD.1 h1;rcases Nat.lt_or_ge k i with h3 | h3
   . have:=lt k i hk hi h3;rw[Us] at this;omega
   . exact AD.2 ⟨k - i,by simp;omega,by rw[List.getElem_drop];congr 1;omega⟩
 . rw[getD_eq (show j<s.held.length by omega),getD_eq hi] at e;have:=lt j i (by omega) hi hj;rw[e] at this;omega
def Sr.S1(s:Sr)(ps:List Nat)(t L:Nat):Sr:={s with path:=ps,low:=s.low.set t L}
def Sr.H5(s:Sr)(ps:List Nat)(i:Nat)(m:Int):Sr:={s with path:=ps,held:=s.held.take i,names:=Fc s.names (s.held.drop i) m}
theorem TJ.H5(tj:TJ g sh Qg s){ps:List Nat}(hp:s.path=ps++[v])(ha:s.ad v=(g.getD v []).length)(hl:s.lw v=s.sn v){i:Nat}(hi:i<s.held.length)(hv:s.held.getD i 0=v){m:Int}(hm:m∈nI (s.held.drop i))(j6:∀x∈nI (s.held.drop i),m<=x):
   TJ g sh Qg (s.H5 ps i m):=by
 obtain ⟨a1,a2,_⟩:=LW tj hi hv;obtain ⟨y0,YX,rfl⟩:∃y0:Nat,y0∈s.held.drop i/\m=(y0:Int):=by
   simp only[nI,AU] at hm;obtain ⟨y,h1,h2⟩:=hm;exact ⟨y,h1,h2.symm⟩
 refine tj.complete (s':=s.H5 ps i (y0:Int)) hp ha hl ((a2 y0).1 YX) (λ z hz1 hz2=>?_) rfl rfl rfl rfl a1 (tj.hso.sublist (List.take_sublist _ _)) rfl (λ x=>?_) (by simp[Sr.H5,H3])
 . have:=j6 (z:Int) ((Auu _ z).2 ((a2 z).2 ⟨hz1,hz2⟩));omega
 . have h1:=Aax (s.held.drop i) (y0:Int) s.names x (-1) (λ w hw=>by rw[tj.l4];exact (tj.YU w ((tj.N8 w).1 ((a2 w).1 hw).1).1).1)
   show (Fc s.names (s.held.drop i) (y0:Int)).getD x (-1)=_
   rw[h1];by_cases h2:x∈s.held.drop i
   . rw[if_pos h2,if_pos ((a2 x).1 h2)]
   . rw[if_neg h2,if_neg (λ h=>h2 ((a2 x).2 h))];rfl
theorem FI.back(h:FI g sh s0 v0 ⟨1,s,v,p1,p2⟩){ps:List Nat}{t:Nat}(hp:s.path=ps++[t]++[v])(ha:s.ad v=(g.getD v []).length)(hl:s.lw v≠s.sn v)(q1 q2:Nat):
   FI g sh s0 v0 ⟨1,s.S1 (ps++[t]) t (min (s.lw t) (s.lw v)),t,q1,q2⟩/\FM g (s.S1 (ps++[t]) t (min (s.lw t) (s.lw v)))<FM g s:=by
 obtain ⟨tj,cu,mo,XI,_,at1,pl,hhl⟩:=h;simp only at pl hhl
 replace tj:TJ g sh Qg s:=tj
 have htp:t∈s.path:=by rw[hp];simp
 have htn:=(tj.YU t ((tj.N8 t).1 (tj.Vz t htp)).1).1;have h1:TJ g sh Qg (s.S1 (ps++[t]) t (min (s.lw t) (s.lw v))):=tj.back hp ha hl rfl (λ x=>Fg _ _ _ _ _ (by rw[tj.l2];exact htn)) (by simp[Sr.S1]) rfl rfl rfl rfl rfl;have h2:Rn g (s.S1 (ps++[t]) t (min (s.lw t) (s.lw v)))=Rn g s:=Rm rfl;have h3:Mg g (s.S1 (ps++[t]) t (min (s.lw t) (s.lw v)))=Mg g s:=Im rfl;have h4:s.path.length=(ps++[t]).length+1:=by rw[hp];simp
 refine ⟨⟨h1,by show s.count+_=_;rw[h3];exact cu,mo,XI,λ h=>absurd h (show (1:Nat)≠0 by decide),λ _=>⟨rfl,ps,rfl⟩,by rw[h3];show (ps++[t]).length+_<=_;omega,by rw[h3];exact hhl⟩,?_⟩;unfold FM;rw[h2,h3];show _+_+(ps++[t]).length<_;omega
theorem FI.comp(h:FI g sh s0 v0 ⟨1,s,v,p1,p2⟩){ps:List Nat}{t:Nat}(hp:s.path=ps++[t]++[v])(ha:s.ad v=(g.getD v []).length)(hl:s.lw v=s.sn v){i:Nat}(hi:i<s.held.length)(hv:s.held.getD i 0=v){m:Int}(hm:m∈nI (s.held.drop i))(j6:∀x∈nI (s.held.drop i),m<=x)(q1 q2:Nat):
   FI g sh s0 v0 ⟨1,s.H5 (ps++[t]) i m,t,q1,q2⟩/\FM g (s.H5 (ps++[t]) i m)<FM g s/\min (s.lw t) (s.lw v)=s.lw t:=by
 obtain ⟨tj,cu,mo,XI,_,at1,pl,hhl⟩:=h;simp only at pl hhl
 replace tj:TJ g sh Qg s:=tj
 have h1:=tj.H5 hp ha hl hi hv hm j6;have htp:t∈s.path:=by rw[hp];simp
 have Cv:=(tj.last hp).2.2.2.2.2.1 t (by simp);have hlo:=(tj.low t (tj.Vz t htp)).1;have h2:Rn g (s.H5 (ps++[t]) i m)=Rn g s:=Rm rfl;have h3:Mg g (s.H5 (ps++[t]) i m)=Mg g s:=Im rfl;have h4:s.path.length=(ps++[t]).length+1:=by rw[hp];simp
 have h5:(s.held.take i).length<=s.held.length:=by simp;omega
 refine ⟨⟨h1,by show s.count+_=_;rw[h3];exact cu,mo,XI,λ h=>absurd h (show (1:Nat)≠0 by decide),λ _=>⟨rfl,ps,rfl⟩,by rw[h3];show (ps++[t]).length+_<=_;omega,by rw[h3];show (s.held.take i).length+_<=_;omega⟩,?_,by omega⟩;unfold FM;rw[h2,h3];show _+_+(ps++[t]).length<_;omega
theorem Nz(hv:v<g.length)(hl:s.seen.length=g.length)(h0:s.sn v=0):FM g (s.enter v)<FM g s/\(s.enter v).count+Mg g (s.enter v)=s.count+Mg g s/\Mg g (s.enter v)+1=Mg g s:=by
 have h1:=Aem hv hl h0;have h2:Rn g (s.enter v)=Rn g s:=Rm rfl;have h3:(s.enter v).path.length=s.path.length+1:=by simp[Sr.enter]
 have h4:(s.enter v).count=s.count+1:=rfl;refine ⟨?_,by omega,h1⟩;unfold FM;omega
theorem FI.enter(tj:TJ g sh (λ w=>w=v) s)(cu:s.count+Mg g s=g.length)(mo:∀x,s0.sn x≠0->s.sn x≠0)(Q5:v0=v∨s.sn v0≠0)(hv:v<g.length)(ho:sh.getD v false=false)(h0:s.sn v=0)(hp:∀p∈s.path,I8 g sh p v)
   (pl:s.path.length+Mg g s<=g.length) (hhl:s.held.length+Mg g s<=g.length) (q1 q2:Nat):FI g sh s0 v0 ⟨1,s.enter v,v,q1,q2⟩:=by
 obtain ⟨_,h2,h3⟩:=Nz hv tj.l1 h0;have Er:∀w,(s.enter v).sn w=if w=v then s.count+1 else s.sn w:=λ w=>Fg _ _ _ _ _ (by rw[tj.l1];exact hv)
 refine ⟨tj.enter hv ho h0 hp,by show (s.enter v).count+Mg g (s.enter v)=g.length;omega,λ x hx=>?_,?_,λ h=>absurd h (show (1:Nat)≠0 by decide),λ _=>⟨rfl,s.path,rfl⟩,?_,?_⟩
 . show (s.enter v).sn x≠0
   rw[Er];split
   . omega
   . exact mo x hx
 . show (s.enter v).sn v0≠0
   rw[Er];split
   . omega
   . rcases Q5 with h | h
     . contradiction
     . exact h
 . show (s.enter v).path.length+_<=_
   simp only[Sr.enter,Aq,An,Ax] at h3 ⊢;omega
 . show (s.enter v).held.length+_<=_
   simp only[Sr.enter,Aq,An,Ax] at h3 ⊢;omega
end
def Az0(g:List (List Int))(sh:List Bool)(s0:Sr)(v0:Nat)(h:Hp):Prop:=∃(s:Sr) (P H:List Nat),TJ g sh Qg s/\s.path=[]/\s.held=[]/\s.count+Mg g s=g.length/\(∀x,s0.sn x≠0->s.sn x≠0)/\s.sn v0≠0/\
 (h=[(1000000,.box [.p (.sl (Cj g)),.p (.sl (CO sh)),.ref 1000001 0 g.length g.length,.ref 1000002 0 g.length g.length,.ref 1000003 0 g.length g.length,.ref 1000004 0 0 P.length,.ref 1000005 0 0 H.length,.p (.int .i64 (s.count:Nat)),.ref 1000006 0 g.length g.length]),(1000001,.arr 3 1 (BZ (nI s.seen))),(1000002,.arr 3 1 (BZ (nI s.low))),(1000003,.arr 3 1 (BZ (nI s.at_))),
   (1000004,.arr 3 1 (BZ (nI P))),(1000005,.arr 3 1 (BZ (nI H))),(1000006,.arr 3 1 (BZ s.names))]∨
  ∃p1 p2,h=[(1000000,.box [.p (.sl (Cj g)),.p (.sl (CO sh)),.ref 1000001 0 g.length g.length,.ref 1000002 0 g.length g.length,.ref 1000003 0 g.length g.length,.ref 0 0 0 P.length,.ref 1 0 0 H.length,.p (.int .i64 (s.count:Nat)),.ref 1000006 0 g.length g.length]),(1000001,.arr 3 1 (BZ (nI s.seen))),(1000002,.arr 3 1 (BZ (nI s.low))),(1000003,.arr 3 1 (BZ (nI s.at_))),
   (1000004,.Fv (FL 1 p1)),(1000005,.Fv (FL 1 p2)),(1000006,.arr 3 1 (BZ s.names)),(0,.arr 3 1 (BZ (nI P))),(1,.arr 3 1 (BZ (nI H)))])
theorem As2(g:List (List Int))(sh:List Bool)(s0:Sr)(v0:Nat)(hg:g.length<=24)(Dq:∀r∈g,r.length<=10000000)(H9:sh.length=g.length)(hT:TJ g sh Qg s0)(hpa:s0.path=[])(hhe:s0.held=[])(hcu:s0.count+Mg g s0=g.length)
   (hv:v0<g.length) (hvo:sh.getD v0 false=false) (Q5:s0.sn v0=0):
   B2 prog 118 [.ptr 1000000 0,.p (.int .i64 (v0:Nat))]
     [(1000000,.box (s0.bx g sh s0.path s0.path.length)),(1000001,.arr 3 1 (BZ (nI s0.seen))),(1000002,.arr 3 1 (BZ (nI s0.low))),(1000003,.arr 3 1 (BZ (nI s0.at_))),(1000004,.arr 3 1 (BZ (nI s0.path))),(1000005,.arr 3 1 (BZ (nI s0.held))),(1000006,.arr 3 1 (BZ s0.names))]
     λ h r=>Az0 g sh s0 v0 h/\r= .Dv []:=by
 refine B1 func118 rfl Ahp (by simp[Tryz.f118]) ?_;unfold Sr.bx;simp only[go_sem];refine SS FB.YV (FB.st g sh) (FI g sh s0 v0) (λ b=>FM g b.s) (FM g s0) ?_ ?_
 . intro n ih;obtain ⟨s,rfl⟩:∃s,s=s0:=⟨s0,rfl⟩;obtain ⟨v,rfl⟩:∃v,v=v0:=⟨v0,rfl⟩;have tj:=hT.VR (λ w=>w=v);have cu:=hcu;have Ml:=hv;have Age:=hvo;have hvz:=Q5;have hpv:∀p∈s.path,I8 g sh p v:=by rw[hpa];intro p hp;cases hp
   have pl:s.path.length+Mg g s<=g.length:=by rw[hpa];have:=Ajt g s;simpa using this
   have hhl:s.held.length+Mg g s<=g.length:=by rw[hhe];have:=Ajt g s;simpa using this
   have l1:=tj.l1;have l2:=tj.l2;have Cv:=(Nz Ml tj.l1 hvz).1;have hI1:FI g sh s v ⟨1,s.enter v,v,0,0⟩:=FI.enter tj cu (λ _ h=>h) (.inl rfl) Ml Age hvz hpv pl hhl 0 0;have i1:(0:Int)<=(v:Int)/\(v:Int)<(g.length:Int):=by omega
   have hwc:IntKind.i64.wrap ((s.count:Int)+1)=((s.count+1:Nat):Int):=CA (by omega);have gn0:(BZ (nI s.seen)).getD v []=[.int .i64 (s.sn v:Nat)]:=by rw[Cm (nI s.seen) v (by rw[CH];omega),DL];rfl
   have gl0:(BZ (nI s.low)).getD v []=[.int .i64 (s.lw v:Nat)]:=by rw[Cm (nI s.low) v (by rw[CH];omega),DL];rfl
   have i1s:(0:Int)<=(v:Int)/\(v:Int)<(s.seen.length:Int):=by omega
   have i1l:(0:Int)<=(v:Int)/\(v:Int)<(s.low.length:Int):=by omega
   have hpb:s.path.length+1<=24/\s.held.length+1<=24:=by have:=(Nz (g:=g) Ml l1 hvz).2.2;omega
   simp only[go_sem,hwc];refine CG mixed (p:=[(0,0),(1,0),(2,0),(3,0),(4,0),(5,0),(6,0),(7,0),(8,0),(9,0),(10,0),(11,0),(12,0),(13,0),(14,0),(15,0),(16,0),(17,0),(18,0),(19,4),(20,4),(21,4)]) (by kernel_rfl) (by simp[C8,get]) ?_;simp only[go_sem,hwc,Ab,i1s,i1l,gn0,gl0];refine Dp [(1000000,.box [.p (.sl (Cj g)),.p (.sl (CO sh)),.ref 1000001 0 s.seen.length s.seen.length,.ref 1000002 0 s.low.length s.low.length,.ref 1000003 0 s.at_.length s.at_.length,.ref 1000004 0 s.path.length s.path.length,.ref 1000005 0 s.held.length s.held.length,.p (.int .i64 ((s.count+1:Nat):Int)),.ref 1000006 0 s.names.length s.names.length])] mixed (p:=[(0,0),(1,0),(2,0),(3,0),(4,0),(5,0),(6,0),(9,0),(10,0),(11,0),(12,0),(13,0),(7,1),(14,1),(8,2),(15,2),(16,0),(17,0),(18,4),(19,4),(20,4),(21,4)]) (by kernel_rfl) (by simp[C8,get]) ?_;simp only[go_sem];refine ⟨⟨Dy _ _ rfl,by omega,by omega⟩,⟨Dy _ _ rfl,by omega,by omega⟩,?_⟩;obtain ⟨s1,Lw⟩:∃s1,s1=s.enter v:=⟨_,rfl⟩;have q1:s.seen.set v (s.count+1)=s1.seen:=by rw[Lw];rfl
   have q2:s.low.set v (s.count+1)=s1.low:=by rw[Lw];rfl
   have q3:s.at_=s1.at_:=by rw[Lw];rfl
   have q4:s.path++[v]=s1.path:=by rw[Lw];rfl
   have q5:s.held++[v]=s1.held:=by rw[Lw];rfl
   have q6:s.count+1=s1.count:=by rw[Lw];rfl
   have q7:s.names=s1.names:=by rw[Lw];rfl
   have q8:s.seen.length=s1.seen.length:=by rw[Lw];simp[Sr.enter]
   have q9:s.low.length=s1.low.length:=by rw[Lw];simp[Sr.enter]
   have q10:s.path.length+1=s1.path.length:=by rw[Lw];simp[Sr.enter]
   have q11:s.held.length+1=s1.held.length:=by rw[Lw];simp[Sr.enter]
   simp only[q1,q2];simp only[q3,q4,q5,q6,q7,q8,q9,q10,q11];rw[<-Lw] at hI1 Cv;have W3:=hI1;obtain ⟨tj,cu,mo,XI,_,at1,pl,hhl⟩:=hI1;simp only at cu mo XI pl hhl
   replace tj:TJ g sh Qg s1:=tj
   obtain ⟨_,ps,hp⟩:=at1 (show (1:Nat)≠0 by decide)
   replace hp:s1.path=ps++[v]:=hp
   obtain ⟨hvp,Q4,Ml,Age,Uy,hps,Arr⟩:=tj.last hp;have l1:=tj.l1;have l2:=tj.l2;have l3:=tj.l3;have l4:=tj.l4;have i1:(0:Int)<=(v:Int)/\(v:Int)<(g.length:Int):=by omega
   have ga:(BZ (nI s1.at_)).getD v []=[.int .i64 (s1.ad v:Nat)]:=by rw[Cm (nI s1.at_) v (by rw[CH];omega),DL];rfl
   have gg:=Gx g v Ml;refine CG mixed (p:=[(0,0),(1,0),(2,0),(3,0),(4,0),(5,0),(6,0),(7,0),(8,0),(9,0),(10,0),(11,0),(12,0),(13,0),(14,0),(15,0)]) (by kernel_rfl) (by simp[C8,get]) ?_;simp only[go_sem,Ab,l1,l2,l3,l4,i1,ga,gg];cases c1:decide ((s1.ad v:Int)<((g.getD v []).length:Int))
   . simp only[go_sem,c1];refine CG mixed (p:=[(0,0),(1,0),(2,0),(3,0),(4,0),(5,0),(6,0),(7,0),(8,0),(9,0),(10,0),(11,0),(12,0),(13,0),(14,3)]) (by kernel_rfl) (by simp[C8,get]) ?_;have hpl:s1.path.length=ps.length+1:=by rw[hp];simp
     have VW:IntKind.i64.wrap ((s1.path.length:Int) - 1)=((ps.length:Nat):Int):=by rw[hpl,B3 (by omega) (by omega)];omega
     have hw2:(0:Int)<=((ps.length:Nat):Int)/\((ps.length:Nat):Int)<=(s1.path.length:Int):=by omega
     have hw3:(((ps.length:Nat):Int) - 0).toNat=ps.length:=by omega
     have gl:(BZ (nI s1.low)).getD v []=[.int .i64 (s1.lw v:Nat)]:=by rw[Cm (nI s1.low) v (by rw[CH];omega),DL];rfl
     have gnv:(BZ (nI s1.seen)).getD v []=[.int .i64 (s1.sn v:Nat)]:=by rw[Cm (nI s1.seen) v (by rw[CH];omega),DL];rfl
     simp only[go_sem,Ab,l1,l2,l3,l4,VW,hw2,hw3];refine CG mixed (p:=[(0,0),(1,0),(2,0),(3,0),(4,0),(5,0),(6,0),(7,0),(8,0),(9,0),(10,0),(11,0),(12,0),(13,0),(14,0)]) (by kernel_rfl) (by simp[C8,get]) ?_;simp only[go_sem,Ab,l1,l2,l3,l4,i1,gl,gnv];have Hx:s1.ad v=(g.getD v []).length:=by have:=Ae c1;have:=tj.atl v;omega
     rcases List.eq_nil_or_concat ps with rfl | ⟨Hi,t,Am8⟩
     . have hlr:=tj.root (v:=v) (by simpa using hp);have c5:decide ((s1.lw v:Int)=(s1.sn v:Int))=true:=Ag (by omega);obtain ⟨i,hi,Qz⟩:=AD.1 Q4;rw[<-getD_eq (x:=0) hi] at Qz;have hc:=Hr g sh s1 s1.path 0 i hi (by omega) (LW tj hi Qz).2.2 (λ w hw=>by rw[l4];exact (tj.YU w ((tj.N8 w).1 hw).1).1);simp only[Sr.bx,l1,l2,l3,l4,Qz] at hc;simp only[go_sem,c5];refine Em hc ?_;rintro h' r ⟨m,⟨WY,S3⟩,rfl,rfl⟩;have hT':=tj.H5 (ps:=[]) hp Hx hlr hi Qz WY S3;have C6:i=0:=by
         rcases BT i with h | h
         . exact h
         . obtain ⟨p,h3,_⟩:=hT'.anc (s1.held.getD 0 0) (by show _∈s1.held.take i;rw[getD_eq (show 0<s1.held.length by omega)];exact AD.2 ⟨0,by simp;omega,by rw[List.getElem_take]⟩);cases h3
       subst C6;simp only[go_sem];refine Cp ?_;simp only[go_sem];exact ⟨s1.H5 [] 0 m,s1.path,s1.held,hT',rfl,by simp[Sr.H5],by show s1.count+_=_;rw[Im (s':=s1.H5 [] 0 m) (s:=s1) rfl];exact cu,mo,XI,.inl rfl⟩
     . obtain rfl:ps=Hi++[t]:=by rw[Am8,List.concat_eq_append]
       have htp:t∈s1.path:=by rw[hp];simp
       have htn:=(tj.YU t ((tj.N8 t).1 (tj.Vz t htp)).1).1;have c6:decide ((0:Int)<(((Hi++[t]).length:Nat):Int))=true:=Ag (by simp);have hw4:IntKind.i64.wrap ((((Hi++[t]).length:Nat):Int) - 1)=((Hi.length:Nat):Int):=by rw[B3 (by omega) (by omega)];simp
       have i5:(0:Int)<=((Hi.length:Nat):Int)/\((Hi.length:Nat):Int)<(((Hi++[t]).length:Nat):Int):=by simp;omega
       have gp:(BZ (nI s1.path)).getD Hi.length []=[.int .i64 (t:Nat)]:=by
         rw[Cm (nI s1.path) Hi.length (by rw[CH,hp];simp),DL,hp];simp[List.getD]
       have i6:(0:Int)<=(t:Int)/\(t:Int)<(g.length:Int):=by omega
       have gt:(BZ (nI s1.low)).getD t []=[.int .i64 (s1.lw t:Nat)]:=by rw[Cm (nI s1.low) t (by rw[CH];omega),DL];rfl
       have Ux:(if (s1.lw v:Int)<(s1.lw t:Int) then (s1.lw v:Int) else (s1.lw t:Int))=((min (s1.lw t) (s1.lw v):Nat):Int):=by split<;>omega
       have hcp:s1.path.take (Hi++[t]).length=Hi++[t]:=by rw[hp,List.take_left' rfl]
       cases c5:decide ((s1.lw v:Int)=(s1.sn v:Int))
       . have Dt:s1.lw v≠s1.sn v:=by have:=Ae c5;omega
         simp only[go_sem,c5];simp only[go_sem,c6];refine CG mixed (p:=[(0,0),(1,0),(2,0),(3,0),(4,0),(5,0),(6,0),(7,0),(8,0),(9,0),(10,0),(11,0),(12,0),(13,0),(14,0)]) (by kernel_rfl) (by simp[C8,get]) ?_;simp only[go_sem,Ab,hw4,i5,gp];refine CG mixed (p:=[(0,0),(1,0),(2,0),(3,0),(4,0),(5,0),(6,0),(7,0),(8,0),(9,0),(10,0),(11,0),(12,0),(13,0),(14,0),(15,0),(16,0),(17,0),(18,0),(19,0),(20,0),(21,3)]) (by kernel_rfl) (by simp[C8,get]) ?_;simp only[go_sem,Ab,l1,l2,l3,l4,i6,i1,gt,gl,Ux];obtain ⟨k1,k2⟩:=FI.back W3 hp Hx Dt (s1.path.length+1) (s1.held.length+1);refine ih ⟨1,s1.S1 (Hi++[t]) t (min (s1.lw t) (s1.lw v)),t,(s1.path.length+1),(s1.held.length+1)⟩ _ k1 (Nat.lt_trans k2 Cv) ?_;have e:(⟨s1.seen,s1.low.set t (min (s1.lw t) (s1.lw v)),s1.at_,s1.path.take (Hi++[t]).length,s1.held.take s1.held.length,s1.count,s1.names⟩:Sr)=s1.S1 (Hi++[t]) t (min (s1.lw t) (s1.lw v)):=by rw[hcp,Ar];rfl
         rw[<-e];refine Wk.trans ?_ (Aio g sh 0 0 1 s1.seen (s1.low.set t (min (s1.lw t) (s1.lw v))) s1.at_ s1.path s1.held (Hi++[t]).length s1.held.length s1.count s1.names t (by omega) (Ai _));exact (BW (by simp[ZF,CH,Dj,l1,l2,l3,l4]))
       . have hlr:s1.lw v=s1.sn v:=by have:=Ad c5;omega
         obtain ⟨i,hi,Qz⟩:=AD.1 Q4;rw[<-getD_eq (x:=0) hi] at Qz;have hc:=Hr g sh s1 s1.path (Hi++[t]).length i hi (by omega) (LW tj hi Qz).2.2 (λ w hw=>by rw[l4];exact (tj.YU w ((tj.N8 w).1 hw).1).1);simp only[Sr.bx,l1,l2,l3,l4,Qz] at hc;simp only[go_sem,c5];refine Em hc ?_;rintro h' r ⟨m,⟨WY,S3⟩,rfl,rfl⟩;obtain ⟨k1,k2,k3⟩:=FI.comp W3 hp Hx hlr hi Qz WY S3 (s1.path.length+1) (s1.held.length+1);rw[k3] at Ux;have hls:s1.low.set t (s1.lw t)=s1.low:=by
           apply List.ext_getElem (by simp);intro j h1 h2;rw[List.getElem_set];split
           . rename_i e;subst e;exact getD_eq h2
           . rfl
         simp only[go_sem];simp only[go_sem,c6];refine CG mixed (p:=[(0,0),(1,0),(2,0),(3,0),(4,0),(5,0),(6,0),(7,0),(8,0),(9,0),(10,0),(11,0),(12,0),(13,0),(14,0)]) (by kernel_rfl) (by simp[C8,get]) ?_;simp only[go_sem,Ab,hw4,i5,gp];refine CG mixed (p:=[(0,0),(1,0),(2,0),(3,0),(4,0),(5,0),(6,0),(7,0),(8,0),(9,0),(10,0),(11,0),(12,0),(13,0),(14,0),(15,0),(16,0),(17,0),(18,0),(19,0),(20,0),(21,3)]) (by kernel_rfl) (by simp[C8,get]) ?_;simp only[go_sem,Ab,l1,l2,l3,l4,i6,i1,gt,gl,Ux,hls];refine ih ⟨1,s1.H5 (Hi++[t]) i m,t,(s1.path.length+1),(s1.held.length+1)⟩ _ k1 (Nat.lt_trans k2 Cv) ?_;have e:(⟨s1.seen,s1.low,s1.at_,s1.path.take (Hi++[t]).length,s1.held.take i,s1.count,Fc s1.names (s1.held.drop i) m⟩:Sr)=s1.H5 (Hi++[t]) i m:=by rw[hcp];rfl
         rw[<-e];refine Wk.trans ?_ (Aio g sh 0 0 1 s1.seen s1.low s1.at_ s1.path s1.held (Hi++[t]).length i s1.count (Fc s1.names (s1.held.drop i) m) t (by omega) (by omega));exact (BW (by simp[ZF,CH,Dj,l1,l2,l3,l4,H3,hls]))
   . have hk:s1.ad v<(g.getD v []).length:=by have:=Ad c1;omega
     obtain ⟨w,hw,hwn⟩:=tj.rng v _ hk;have gw:(BZ (g.getD v [])).getD (s1.ad v) []=[.int .i64 (w:Nat)]:=by rw[Cm _ _ hk,hw]
     have i2:(0:Int)<=(s1.ad v:Int)/\(s1.ad v:Int)<((g.getD v []).length:Int):=by omega
     have i3:(0:Int)<=(w:Int)/\(w:Int)<(g.length:Int):=by omega
     have hrl:(g.getD v []).length<=10000000:=Dq _ (by rw[gde Ml];exact AN Ml);have hwr:IntKind.i64.wrap ((s1.ad v:Int)+1)=((s1.ad v+1:Nat):Int):=CA (by omega);have gs:(CO sh).getD w []=[.bool (sh.getD w false)]:=G1 sh w (by omega);have gn:(BZ (nI s1.seen)).getD w []=[.int .i64 (s1.sn w:Nat)]:=by rw[Cm (nI s1.seen) w (by rw[CH];omega),DL];rfl
     have gnm:(BZ s1.names).getD w []=[.int .i64 (s1.nm w)]:=by rw[Cm s1.names w (by omega)];simp[Sr.nm,List.getD,show w<s1.names.length by omega]
     simp only[go_sem,c1];refine CG mixed (p:=[(0,0),(1,0),(2,0),(3,0),(4,0),(5,0),(6,0),(7,0),(8,0),(9,0),(10,0),(11,0),(12,0),(13,0),(14,0),(15,0),(16,0)]) (by kernel_rfl) (by simp[C8,get]) ?_;simp only[go_sem,Ab,l1,l2,l3,l4,i1,ga,gg,i2,gw,i3,hwr,gs,H9];cases c2:sh.getD w false;rotate_left
     . simp only[go_sem,c2];obtain ⟨k1,k2⟩:=On W3 hk hw (λ h=>by rw[h] at c2;cases c2) (s1.path.length+1) (s1.held.length+1);refine ih ⟨1,s1.inc v,v,(s1.path.length+1),(s1.held.length+1)⟩ _ k1 (Nat.lt_trans k2 Cv) ?_;rw[show s1.inc v=(⟨s1.seen,s1.low,s1.at_.set v (s1.ad v+1),s1.path.take s1.path.length,s1.held.take s1.held.length,s1.count,s1.names⟩:Sr) by rw[Ar,Ar];rfl];refine Wk.trans ?_ (Aio g sh 0 0 1 s1.seen s1.low (s1.at_.set v (s1.ad v+1)) s1.path s1.held s1.path.length s1.held.length s1.count s1.names v (Ai _) (Ai _));exact (BW (by simp[ZF,CH,Dj,l1,l2,l3,l4]))
     . simp only[go_sem,c2];simp only[go_sem,c2,Ab,l1,i3,gn];cases c3:decide ((s1.sn w:Int)=0);rotate_left
       . simp only[go_sem,c3];obtain ⟨k1,k2⟩:=YR W3 hk hw hwn c2 (by have:=Ad c3;omega) (s1.path.length+1) (s1.held.length+1);refine ih ⟨0,s1.inc v,w,(s1.path.length+1),(s1.held.length+1)⟩ _ k1 (Nat.lt_trans k2 Cv) ?_;rw[show s1.inc v=(⟨s1.seen,s1.low,s1.at_.set v (s1.ad v+1),s1.path.take s1.path.length,s1.held.take s1.held.length,s1.count,s1.names⟩:Sr) by rw[Ar,Ar];rfl];refine Wk.trans ?_ (Aio g sh 0 0 0 s1.seen s1.low (s1.at_.set v (s1.ad v+1)) s1.path s1.held s1.path.length s1.held.length s1.count s1.names w (Ai _) (Ai _));exact (BW (by simp[ZF,CH,Dj,l1,l2,l3,l4]))
       have h3:s1.sn w≠0:=by have:=Ae c3;omega
       simp only[go_sem,c3];simp only[go_sem,c3,Ab,l4,i3,gnm];cases c4:decide (s1.nm w<0)
       . simp only[go_sem,c4];obtain ⟨k1,k2⟩:=On W3 hk hw (λ _=>⟨h3,λ hm=>by have:=((tj.N8 w).1 hm).2;have:=Ae c4;omega⟩) (s1.path.length+1) (s1.held.length+1);refine ih ⟨1,s1.inc v,v,(s1.path.length+1),(s1.held.length+1)⟩ _ k1 (Nat.lt_trans k2 Cv) ?_;rw[show s1.inc v=(⟨s1.seen,s1.low,s1.at_.set v (s1.ad v+1),s1.path.take s1.path.length,s1.held.take s1.held.length,s1.count,s1.names⟩:Sr) by rw[Ar,Ar];rfl];refine Wk.trans ?_ (Aio g sh 0 0 1 s1.seen s1.low (s1.at_.set v (s1.ad v+1)) s1.path s1.held s1.path.length s1.held.length s1.count s1.names v (Ai _) (Ai _));exact (BW (by simp[ZF,CH,Dj,l1,l2,l3,l4]))
       . have h4:=Ad c4;have gl:(BZ (nI s1.low)).getD v []=[.int .i64 (s1.lw v:Nat)]:=by rw[Cm (nI s1.low) v (by rw[CH];omega),DL];rfl
         simp only[go_sem,c4];refine CG mixed (p:=[(0,0),(1,0),(2,0),(3,0),(4,0),(5,0),(6,0),(7,0),(8,0),(9,0),(10,0),(11,0),(12,0),(13,0),(14,0),(15,0),(16,0),(17,0),(18,0),(19,0),(20,0),(21,3)]) (by kernel_rfl) (by simp[C8,get]) ?_;have hmn:(if (s1.sn w:Int)<(s1.lw v:Int) then (s1.sn w:Int) else (s1.lw v:Int))=((min (s1.lw v) (s1.sn w):Nat):Int):=by split<;>omega
         simp only[go_sem,Ab,l1,l2,l3,l4,i1,i3,gl,gn,hmn];obtain ⟨k1,k2⟩:=YQ W3 hk hw c2 h3 h4 (s1.path.length+1) (s1.held.length+1);refine ih ⟨1,(s1.inc v).lo1 v (min (s1.lw v) (s1.sn w)),v,(s1.path.length+1),(s1.held.length+1)⟩ _ k1 (Nat.lt_trans k2 Cv) ?_;rw[show (s1.inc v).lo1 v (min (s1.lw v) (s1.sn w))=(⟨s1.seen,s1.low.set v (min (s1.lw v) (s1.sn w)),s1.at_.set v (s1.ad v+1),s1.path.take s1.path.length,s1.held.take s1.held.length,s1.count,s1.names⟩:Sr) by rw[Ar,Ar];rfl];refine Wk.trans ?_ (Aio g sh 0 0 1 s1.seen (s1.low.set v (min (s1.lw v) (s1.sn w))) (s1.at_.set v (s1.ad v+1)) s1.path s1.held s1.path.length s1.held.length s1.count s1.names v (Ai _) (Ai _));exact (BW (by simp[ZF,CH,Dj,l1,l2,l3,l4]))
 . rintro ⟨YV,s,v,p1,p2⟩ n hI ih;have W3:=hI;obtain ⟨tj,cu,mo,XI,at0,at1,pl,hhl⟩:=hI;simp only at tj cu mo XI at0 at1 pl hhl;by_cases hl:YV=0
   . subst hl;obtain ⟨Ml,Age,hvz,hpv⟩:=at0 rfl
     replace tj:TJ g sh (λ w=>w=v) s:=tj
     have l1:=tj.l1;have l2:=tj.l2;have Cv:=(Nz Ml tj.l1 hvz).1;have hI1:FI g sh s0 v0 ⟨1,s.enter v,v,p1,p2⟩:=FI.enter tj cu mo (.inr XI) Ml Age hvz hpv pl hhl p1 p2;refine ⟨_,rfl,?_⟩;unfold FB.st;have i1:(0:Int)<=(v:Int)/\(v:Int)<(g.length:Int):=by omega
     have hwc:IntKind.i64.wrap ((s.count:Int)+1)=((s.count+1:Nat):Int):=CA (by omega);have gn0:(BZ (nI s.seen)).getD v []=[.int .i64 (s.sn v:Nat)]:=by rw[Cm (nI s.seen) v (by rw[CH];omega),DL];rfl
     have gl0:(BZ (nI s.low)).getD v []=[.int .i64 (s.lw v:Nat)]:=by rw[Cm (nI s.low) v (by rw[CH];omega),DL];rfl
     have i1s:(0:Int)<=(v:Int)/\(v:Int)<(s.seen.length:Int):=by omega
     have i1l:(0:Int)<=(v:Int)/\(v:Int)<(s.low.length:Int):=by omega
     have hpb:s.path.length+1<=24/\s.held.length+1<=24:=by have:=(Nz (g:=g) Ml l1 hvz).2.2;omega
     simp only[go_sem,hwc];refine CG mixed (p:=[(0,0),(1,0),(2,0),(3,0),(4,0),(5,0),(6,0),(7,0),(8,0),(9,0),(10,0),(11,0),(12,0),(13,0),(14,0),(15,0),(16,0),(17,0),(18,0),(19,4),(20,4),(21,4)]) (by kernel_rfl) (by simp[C8,get]) ?_;simp only[go_sem,hwc,Ab,i1s,i1l,gn0,gl0];refine Dp [(1000000,.box [.p (.sl (Cj g)),.p (.sl (CO sh)),.ref 1000001 0 s.seen.length s.seen.length,.ref 1000002 0 s.low.length s.low.length,.ref 1000003 0 s.at_.length s.at_.length,.ref 500005 0 s.path.length s.path.length,.ref 500006 0 s.held.length s.held.length,.p (.int .i64 ((s.count+1:Nat):Int)),.ref 1000006 0 s.names.length s.names.length])] mixed (p:=[(0,0),(1,0),(2,0),(3,0),(4,0),(5,0),(6,0),(9,0),(10,0),(11,0),(12,0),(13,0),(7,1),(14,1),(8,2),(15,2),(16,0),(17,0),(18,4),(19,4),(20,4),(21,4)]) (by kernel_rfl) (by simp[C8,get]) ?_;simp only[go_sem];refine ⟨⟨Dy _ _ rfl,by omega,by omega⟩,⟨Dy _ _ rfl,by omega,by omega⟩,?_⟩;obtain ⟨s1,Lw⟩:∃s1,s1=s.enter v:=⟨_,rfl⟩;have q1:s.seen.set v (s.count+1)=s1.seen:=by rw[Lw];rfl
     have q2:s.low.set v (s.count+1)=s1.low:=by rw[Lw];rfl
     have q3:s.at_=s1.at_:=by rw[Lw];rfl
     have q4:s.path++[v]=s1.path:=by rw[Lw];rfl
     have q5:s.held++[v]=s1.held:=by rw[Lw];rfl
     have q6:s.count+1=s1.count:=by rw[Lw];rfl
     have q7:s.names=s1.names:=by rw[Lw];rfl
     have q8:s.seen.length=s1.seen.length:=by rw[Lw];simp[Sr.enter]
     have q9:s.low.length=s1.low.length:=by rw[Lw];simp[Sr.enter]
     have q10:s.path.length+1=s1.path.length:=by rw[Lw];simp[Sr.enter]
     have q11:s.held.length+1=s1.held.length:=by rw[Lw];simp[Sr.enter]
     simp only[q1,q2];simp only[q3,q4,q5,q6,q7,q8,q9,q10,q11];rw[<-Lw] at hI1 Cv;have W3:=hI1;obtain ⟨tj,cu,mo,XI,_,at1,pl,hhl⟩:=hI1;simp only at cu mo XI pl hhl
     replace tj:TJ g sh Qg s1:=tj
     obtain ⟨_,ps,hp⟩:=at1 (show (1:Nat)≠0 by decide)
     replace hp:s1.path=ps++[v]:=hp
     obtain ⟨hvp,Q4,Ml,Age,Uy,hps,Arr⟩:=tj.last hp;have l1:=tj.l1;have l2:=tj.l2;have l3:=tj.l3;have l4:=tj.l4;have i1:(0:Int)<=(v:Int)/\(v:Int)<(g.length:Int):=by omega
     have ga:(BZ (nI s1.at_)).getD v []=[.int .i64 (s1.ad v:Nat)]:=by rw[Cm (nI s1.at_) v (by rw[CH];omega),DL];rfl
     have gg:=Gx g v Ml;refine CG mixed (p:=[(0,0),(1,0),(2,0),(3,0),(4,0),(5,0),(6,0),(7,0),(8,0),(9,0),(10,0),(11,0),(12,0),(13,0),(14,0),(15,0)]) (by kernel_rfl) (by simp[C8,get]) ?_;simp only[go_sem,Ab,l1,l2,l3,l4,i1,ga,gg];cases c1:decide ((s1.ad v:Int)<((g.getD v []).length:Int))
     . simp only[go_sem,c1];refine CG mixed (p:=[(0,0),(1,0),(2,0),(3,0),(4,0),(5,0),(6,0),(7,0),(8,0),(9,0),(10,0),(11,0),(12,0),(13,0),(14,3)]) (by kernel_rfl) (by simp[C8,get]) ?_;have hpl:s1.path.length=ps.length+1:=by rw[hp];simp
       have VW:IntKind.i64.wrap ((s1.path.length:Int) - 1)=((ps.length:Nat):Int):=by rw[hpl,B3 (by omega) (by omega)];omega
       have hw2:(0:Int)<=((ps.length:Nat):Int)/\((ps.length:Nat):Int)<=(s1.path.length:Int):=by omega
       have hw3:(((ps.length:Nat):Int) - 0).toNat=ps.length:=by omega
       have gl:(BZ (nI s1.low)).getD v []=[.int .i64 (s1.lw v:Nat)]:=by rw[Cm (nI s1.low) v (by rw[CH];omega),DL];rfl
       have gnv:(BZ (nI s1.seen)).getD v []=[.int .i64 (s1.sn v:Nat)]:=by rw[Cm (nI s1.seen) v (by rw[CH];omega),DL];rfl
       simp only[go_sem,Ab,l1,l2,l3,l4,VW,hw2,hw3];refine CG mixed (p:=[(0,0),(1,0),(2,0),(3,0),(4,0),(5,0),(6,0),(7,0),(8,0),(9,0),(10,0),(11,0),(12,0),(13,0),(14,0)]) (by kernel_rfl) (by simp[C8,get]) ?_;simp only[go_sem,Ab,l1,l2,l3,l4,i1,gl,gnv];have Hx:s1.ad v=(g.getD v []).length:=by have:=Ae c1;have:=tj.atl v;omega
       rcases List.eq_nil_or_concat ps with rfl | ⟨Hi,t,Am8⟩
       . have hlr:=tj.root (v:=v) (by simpa using hp);have c5:decide ((s1.lw v:Int)=(s1.sn v:Int))=true:=Ag (by omega);obtain ⟨i,hi,Qz⟩:=AD.1 Q4;rw[<-getD_eq (x:=0) hi] at Qz;have hc:=Hr g sh s1 s1.path 0 i hi (by omega) (LW tj hi Qz).2.2 (λ w hw=>by rw[l4];exact (tj.YU w ((tj.N8 w).1 hw).1).1);simp only[Sr.bx,l1,l2,l3,l4,Qz] at hc;simp only[go_sem,c5];refine Em hc ?_;rintro h' r ⟨m,⟨WY,S3⟩,rfl,rfl⟩;have hT':=tj.H5 (ps:=[]) hp Hx hlr hi Qz WY S3;have C6:i=0:=by
           rcases BT i with h | h
           . exact h
           . obtain ⟨p,h3,_⟩:=hT'.anc (s1.held.getD 0 0) (by show _∈s1.held.take i;rw[getD_eq (show 0<s1.held.length by omega)];exact AD.2 ⟨0,by simp;omega,by rw[List.getElem_take]⟩);cases h3
         subst C6;simp only[go_sem];refine Cp ?_;simp only[go_sem];exact ⟨s1.H5 [] 0 m,s1.path,s1.held,hT',rfl,by simp[Sr.H5],by show s1.count+_=_;rw[Im (s':=s1.H5 [] 0 m) (s:=s1) rfl];exact cu,mo,XI,.inr ⟨p1,p2,rfl⟩⟩
       . obtain rfl:ps=Hi++[t]:=by rw[Am8,List.concat_eq_append]
         have htp:t∈s1.path:=by rw[hp];simp
         have htn:=(tj.YU t ((tj.N8 t).1 (tj.Vz t htp)).1).1;have c6:decide ((0:Int)<(((Hi++[t]).length:Nat):Int))=true:=Ag (by simp);have hw4:IntKind.i64.wrap ((((Hi++[t]).length:Nat):Int) - 1)=((Hi.length:Nat):Int):=by rw[B3 (by omega) (by omega)];simp
         have i5:(0:Int)<=((Hi.length:Nat):Int)/\((Hi.length:Nat):Int)<(((Hi++[t]).length:Nat):Int):=by simp;omega
         have gp:(BZ (nI s1.path)).getD Hi.length []=[.int .i64 (t:Nat)]:=by
           rw[Cm (nI s1.path) Hi.length (by rw[CH,hp];simp),DL,hp];simp[List.getD]
         have i6:(0:Int)<=(t:Int)/\(t:Int)<(g.length:Int):=by omega
         have gt:(BZ (nI s1.low)).getD t []=[.int .i64 (s1.lw t:Nat)]:=by rw[Cm (nI s1.low) t (by rw[CH];omega),DL];rfl
         have Ux:(if (s1.lw v:Int)<(s1.lw t:Int) then (s1.lw v:Int) else (s1.lw t:Int))=((min (s1.lw t) (s1.lw v):Nat):Int):=by split<;>omega
         have hcp:s1.path.take (Hi++[t]).length=Hi++[t]:=by rw[hp,List.take_left' rfl]
         cases c5:decide ((s1.lw v:Int)=(s1.sn v:Int))
         . have Dt:s1.lw v≠s1.sn v:=by have:=Ae c5;omega
           simp only[go_sem,c5];simp only[go_sem,c6];refine CG mixed (p:=[(0,0),(1,0),(2,0),(3,0),(4,0),(5,0),(6,0),(7,0),(8,0),(9,0),(10,0),(11,0),(12,0),(13,0),(14,0)]) (by kernel_rfl) (by simp[C8,get]) ?_;simp only[go_sem,Ab,hw4,i5,gp];refine CG mixed (p:=[(0,0),(1,0),(2,0),(3,0),(4,0),(5,0),(6,0),(7,0),(8,0),(9,0),(10,0),(11,0),(12,0),(13,0),(14,0),(15,0),(16,0),(17,0),(18,0),(19,0),(20,0),(21,3)]) (by kernel_rfl) (by simp[C8,get]) ?_;simp only[go_sem,Ab,l1,l2,l3,l4,i6,i1,gt,gl,Ux];obtain ⟨k1,k2⟩:=FI.back W3 hp Hx Dt p1 p2;refine ih ⟨1,s1.S1 (Hi++[t]) t (min (s1.lw t) (s1.lw v)),t,p1,p2⟩ _ k1 (Nat.lt_trans k2 Cv) ?_;have e:(⟨s1.seen,s1.low.set t (min (s1.lw t) (s1.lw v)),s1.at_,s1.path.take (Hi++[t]).length,s1.held.take s1.held.length,s1.count,s1.names⟩:Sr)=s1.S1 (Hi++[t]) t (min (s1.lw t) (s1.lw v)):=by rw[hcp,Ar];rfl
           rw[<-e];refine Wk.trans ?_ (Tb g sh p1 p2 1 s1.seen (s1.low.set t (min (s1.lw t) (s1.lw v))) s1.at_ s1.path s1.held (Hi++[t]).length s1.held.length s1.count s1.names t (by omega) (Ai _));exact (BW (by simp[ZF,CH,Dj,l1,l2,l3,l4]))
         . have hlr:s1.lw v=s1.sn v:=by have:=Ad c5;omega
           obtain ⟨i,hi,Qz⟩:=AD.1 Q4;rw[<-getD_eq (x:=0) hi] at Qz;have hc:=Hr g sh s1 s1.path (Hi++[t]).length i hi (by omega) (LW tj hi Qz).2.2 (λ w hw=>by rw[l4];exact (tj.YU w ((tj.N8 w).1 hw).1).1);simp only[Sr.bx,l1,l2,l3,l4,Qz] at hc;simp only[go_sem,c5];refine Em hc ?_;rintro h' r ⟨m,⟨WY,S3⟩,rfl,rfl⟩;obtain ⟨k1,k2,k3⟩:=FI.comp W3 hp Hx hlr hi Qz WY S3 p1 p2;rw[k3] at Ux;have hls:s1.low.set t (s1.lw t)=s1.low:=by
             apply List.ext_getElem (by simp);intro j h1 h2;rw[List.getElem_set];split
             . rename_i e;subst e;exact getD_eq h2
             . rfl
           simp only[go_sem];simp only[go_sem,c6];refine CG mixed (p:=[(0,0),(1,0),(2,0),(3,0),(4,0),(5,0),(6,0),(7,0),(8,0),(9,0),(10,0),(11,0),(12,0),(13,0),(14,0)]) (by kernel_rfl) (by simp[C8,get]) ?_;simp only[go_sem,Ab,hw4,i5,gp];refine CG mixed (p:=[(0,0),(1,0),(2,0),(3,0),(4,0),(5,0),(6,0),(7,0),(8,0),(9,0),(10,0),(11,0),(12,0),(13,0),(14,0),(15,0),(16,0),(17,0),(18,0),(19,0),(20,0),(21,3)]) (by kernel_rfl) (by simp[C8,get]) ?_;simp only[go_sem,Ab,l1,l2,l3,l4,i6,i1,gt,gl,Ux,hls];refine ih ⟨1,s1.H5 (Hi++[t]) i m,t,p1,p2⟩ _ k1 (Nat.lt_trans k2 Cv) ?_;have e:(⟨s1.seen,s1.low,s1.at_,s1.path.take (Hi++[t]).length,s1.held.take i,s1.count,Fc s1.names (s1.held.drop i) m⟩:Sr)=s1.H5 (Hi++[t]) i m:=by rw[hcp];rfl
           rw[<-e];refine Wk.trans ?_ (Tb g sh p1 p2 1 s1.seen s1.low s1.at_ s1.path s1.held (Hi++[t]).length i s1.count (Fc s1.names (s1.held.drop i) m) t (by omega) (by omega));exact (BW (by simp[ZF,CH,Dj,l1,l2,l3,l4,H3,hls]))
     . have hk:s1.ad v<(g.getD v []).length:=by have:=Ad c1;omega
       obtain ⟨w,hw,hwn⟩:=tj.rng v _ hk;have gw:(BZ (g.getD v [])).getD (s1.ad v) []=[.int .i64 (w:Nat)]:=by rw[Cm _ _ hk,hw]
       have i2:(0:Int)<=(s1.ad v:Int)/\(s1.ad v:Int)<((g.getD v []).length:Int):=by omega
       have i3:(0:Int)<=(w:Int)/\(w:Int)<(g.length:Int):=by omega
       have hrl:(g.getD v []).length<=10000000:=Dq _ (by rw[gde Ml];exact AN Ml);have hwr:IntKind.i64.wrap ((s1.ad v:Int)+1)=((s1.ad v+1:Nat):Int):=CA (by omega);have gs:(CO sh).getD w []=[.bool (sh.getD w false)]:=G1 sh w (by omega);have gn:(BZ (nI s1.seen)).getD w []=[.int .i64 (s1.sn w:Nat)]:=by rw[Cm (nI s1.seen) w (by rw[CH];omega),DL];rfl
       have gnm:(BZ s1.names).getD w []=[.int .i64 (s1.nm w)]:=by rw[Cm s1.names w (by omega)];simp[Sr.nm,List.getD,show w<s1.names.length by omega]
       simp only[go_sem,c1];refine CG mixed (p:=[(0,0),(1,0),(2,0),(3,0),(4,0),(5,0),(6,0),(7,0),(8,0),(9,0),(10,0),(11,0),(12,0),(13,0),(14,0),(15,0),(16,0)]) (by kernel_rfl) (by simp[C8,get]) ?_;simp only[go_sem,Ab,l1,l2,l3,l4,i1,ga,gg,i2,gw,i3,hwr,gs,H9];cases c2:sh.getD w false;rotate_left
       . simp only[go_sem,c2];obtain ⟨k1,k2⟩:=On W3 hk hw (λ h=>by rw[h] at c2;cases c2) p1 p2;refine ih ⟨1,s1.inc v,v,p1,p2⟩ _ k1 (Nat.lt_trans k2 Cv) ?_;rw[show s1.inc v=(⟨s1.seen,s1.low,s1.at_.set v (s1.ad v+1),s1.path.take s1.path.length,s1.held.take s1.held.length,s1.count,s1.names⟩:Sr) by rw[Ar,Ar];rfl];refine Wk.trans ?_ (Tb g sh p1 p2 1 s1.seen s1.low (s1.at_.set v (s1.ad v+1)) s1.path s1.held s1.path.length s1.held.length s1.count s1.names v (Ai _) (Ai _));exact (BW (by simp[ZF,CH,Dj,l1,l2,l3,l4]))
       . simp only[go_sem,c2];simp only[go_sem,c2,Ab,l1,i3,gn];cases c3:decide ((s1.sn w:Int)=0);rotate_left
         . simp only[go_sem,c3];obtain ⟨k1,k2⟩:=YR W3 hk hw hwn c2 (by have:=Ad c3;omega) p1 p2;refine ih ⟨0,s1.inc v,w,p1,p2⟩ _ k1 (Nat.lt_trans k2 Cv) ?_;rw[show s1.inc v=(⟨s1.seen,s1.low,s1.at_.set v (s1.ad v+1),s1.path.take s1.path.length,s1.held.take s1.held.length,s1.count,s1.names⟩:Sr) by rw[Ar,Ar];rfl];refine Wk.trans ?_ (Tb g sh p1 p2 0 s1.seen s1.low (s1.at_.set v (s1.ad v+1)) s1.path s1.held s1.path.length s1.held.length s1.count s1.names w (Ai _) (Ai _));exact (BW (by simp[ZF,CH,Dj,l1,l2,l3,l4]))
         have h3:s1.sn w≠0:=by have:=Ae c3;omega
         simp only[go_sem,c3];simp only[go_sem,c3,Ab,l4,i3,gnm];cases c4:decide (s1.nm w<0)
         . simp only[go_sem,c4];obtain ⟨k1,k2⟩:=On W3 hk hw (λ _=>⟨h3,λ hm=>by have:=((tj.N8 w).1 hm).2;have:=Ae c4;omega⟩) p1 p2;refine ih ⟨1,s1.inc v,v,p1,p2⟩ _ k1 (Nat.lt_trans k2 Cv) ?_;rw[show s1.inc v=(⟨s1.seen,s1.low,s1.at_.set v (s1.ad v+1),s1.path.take s1.path.length,s1.held.take s1.held.length,s1.count,s1.names⟩:Sr) by rw[Ar,Ar];rfl];refine Wk.trans ?_ (Tb g sh p1 p2 1 s1.seen s1.low (s1.at_.set v (s1.ad v+1)) s1.path s1.held s1.path.length s1.held.length s1.count s1.names v (Ai _) (Ai _));exact (BW (by simp[ZF,CH,Dj,l1,l2,l3,l4]))
         . have h4:=Ad c4;have gl:(BZ (nI s1.low)).getD v []=[.int .i64 (s1.lw v:Nat)]:=by rw[Cm (nI s1.low) v (by rw[CH];omega),DL];rfl
           simp only[go_sem,c4];refine CG mixed (p:=[(0,0),(1,0),(2,0),(3,0),(4,0),(5,0),(6,0),(7,0),(8,0),(9,0),(10,0),(11,0),(12,0),(13,0),(14,0),(15,0),(16,0),(17,0),(18,0),(19,0),(20,0),(21,3)]) (by kernel_rfl) (by simp[C8,get]) ?_;have hmn:(if (s1.sn w:Int)<(s1.lw v:Int) then (s1.sn w:Int) else (s1.lw v:Int))=((min (s1.lw v) (s1.sn w):Nat):Int):=by split<;>omega
           simp only[go_sem,Ab,l1,l2,l3,l4,i1,i3,gl,gn,hmn];obtain ⟨k1,k2⟩:=YQ W3 hk hw c2 h3 h4 p1 p2;refine ih ⟨1,(s1.inc v).lo1 v (min (s1.lw v) (s1.sn w)),v,p1,p2⟩ _ k1 (Nat.lt_trans k2 Cv) ?_;rw[show (s1.inc v).lo1 v (min (s1.lw v) (s1.sn w))=(⟨s1.seen,s1.low.set v (min (s1.lw v) (s1.sn w)),s1.at_.set v (s1.ad v+1),s1.path.take s1.path.length,s1.held.take s1.held.length,s1.count,s1.names⟩:Sr) by rw[Ar,Ar];rfl];refine Wk.trans ?_ (Tb g sh p1 p2 1 s1.seen (s1.low.set v (min (s1.lw v) (s1.sn w))) (s1.at_.set v (s1.ad v+1)) s1.path s1.held s1.path.length s1.held.length s1.count s1.names v (Ai _) (Ai _));exact (BW (by simp[ZF,CH,Dj,l1,l2,l3,l4]))
   . obtain ⟨rfl,ps,hp⟩:=at1 hl;rw[if_neg hl] at tj;refine ⟨_,rfl,?_⟩;obtain ⟨hvp,Q4,Ml,Age,Uy,hps,Arr⟩:=tj.last hp;unfold FB.st;simp only[go_sem];have l1:=tj.l1;have l2:=tj.l2;have l3:=tj.l3;have l4:=tj.l4;have i1:(0:Int)<=(v:Int)/\(v:Int)<(g.length:Int):=by omega
     have ga:(BZ (nI s.at_)).getD v []=[.int .i64 (s.ad v:Nat)]:=by rw[Cm (nI s.at_) v (by rw[CH];omega),DL];rfl
     have gg:=Gx g v Ml;refine CG mixed (p:=[(0,0),(1,0),(2,0),(3,0),(4,0),(5,0),(6,0),(7,0),(8,0),(9,0),(10,0),(11,0),(12,0),(13,0),(14,0),(15,0)]) (by kernel_rfl) (by simp[C8,get]) ?_;simp only[go_sem,Ab,l1,l2,l3,l4,i1,ga,gg];cases c1:decide ((s.ad v:Int)<((g.getD v []).length:Int))
     . simp only[go_sem,c1];refine CG mixed (p:=[(0,0),(1,0),(2,0),(3,0),(4,0),(5,0),(6,0),(7,0),(8,0),(9,0),(10,0),(11,0),(12,0),(13,0),(14,3)]) (by kernel_rfl) (by simp[C8,get]) ?_;have hpl:s.path.length=ps.length+1:=by rw[hp];simp
       have VW:IntKind.i64.wrap ((s.path.length:Int) - 1)=((ps.length:Nat):Int):=by rw[hpl,B3 (by omega) (by omega)];omega
       have hw2:(0:Int)<=((ps.length:Nat):Int)/\((ps.length:Nat):Int)<=(s.path.length:Int):=by omega
       have hw3:(((ps.length:Nat):Int) - 0).toNat=ps.length:=by omega
       have gl:(BZ (nI s.low)).getD v []=[.int .i64 (s.lw v:Nat)]:=by rw[Cm (nI s.low) v (by rw[CH];omega),DL];rfl
       have gnv:(BZ (nI s.seen)).getD v []=[.int .i64 (s.sn v:Nat)]:=by rw[Cm (nI s.seen) v (by rw[CH];omega),DL];rfl
       simp only[go_sem,Ab,l1,l2,l3,l4,VW,hw2,hw3];refine CG mixed (p:=[(0,0),(1,0),(2,0),(3,0),(4,0),(5,0),(6,0),(7,0),(8,0),(9,0),(10,0),(11,0),(12,0),(13,0),(14,0)]) (by kernel_rfl) (by simp[C8,get]) ?_;simp only[go_sem,Ab,l1,l2,l3,l4,i1,gl,gnv];have Hx:s.ad v=(g.getD v []).length:=by have:=Ae c1;have:=tj.atl v;omega
       rcases List.eq_nil_or_concat ps with rfl | ⟨Hi,t,Am8⟩
       . have hlr:=tj.root (v:=v) (by simpa using hp);have c5:decide ((s.lw v:Int)=(s.sn v:Int))=true:=Ag (by omega);obtain ⟨i,hi,Qz⟩:=AD.1 Q4;rw[<-getD_eq (x:=0) hi] at Qz;have hc:=Hr g sh s s.path 0 i hi (by omega) (LW tj hi Qz).2.2 (λ w hw=>by rw[l4];exact (tj.YU w ((tj.N8 w).1 hw).1).1);simp only[Sr.bx,l1,l2,l3,l4,Qz] at hc;simp only[go_sem,c5];refine Em hc ?_;rintro h' r ⟨m,⟨WY,S3⟩,rfl,rfl⟩;have hT':=tj.H5 (ps:=[]) hp Hx hlr hi Qz WY S3;have C6:i=0:=by
           rcases BT i with h | h
           . exact h
           . obtain ⟨p,h3,_⟩:=hT'.anc (s.held.getD 0 0) (by show _∈s.held.take i;rw[getD_eq (show 0<s.held.length by omega)];exact AD.2 ⟨0,by simp;omega,by rw[List.getElem_take]⟩);cases h3
         subst C6;simp only[go_sem];refine Cp ?_;simp only[go_sem];exact ⟨s.H5 [] 0 m,s.path,s.held,hT',rfl,by simp[Sr.H5],by show s.count+_=_;rw[Im (s':=s.H5 [] 0 m) (s:=s) rfl];exact cu,mo,XI,.inr ⟨p1,p2,rfl⟩⟩
       . obtain rfl:ps=Hi++[t]:=by rw[Am8,List.concat_eq_append]
         have htp:t∈s.path:=by rw[hp];simp
         have htn:=(tj.YU t ((tj.N8 t).1 (tj.Vz t htp)).1).1;have c6:decide ((0:Int)<(((Hi++[t]).length:Nat):Int))=true:=Ag (by simp);have hw4:IntKind.i64.wrap ((((Hi++[t]).length:Nat):Int) - 1)=((Hi.length:Nat):Int):=by rw[B3 (by omega) (by omega)];simp
         have i5:(0:Int)<=((Hi.length:Nat):Int)/\((Hi.length:Nat):Int)<(((Hi++[t]).length:Nat):Int):=by simp;omega
         have gp:(BZ (nI s.path)).getD Hi.length []=[.int .i64 (t:Nat)]:=by
           rw[Cm (nI s.path) Hi.length (by rw[CH,hp];simp),DL,hp];simp[List.getD]
         have i6:(0:Int)<=(t:Int)/\(t:Int)<(g.length:Int):=by omega
         have gt:(BZ (nI s.low)).getD t []=[.int .i64 (s.lw t:Nat)]:=by rw[Cm (nI s.low) t (by rw[CH];omega),DL];rfl
         have Ux:(if (s.lw v:Int)<(s.lw t:Int) then (s.lw v:Int) else (s.lw t:Int))=((min (s.lw t) (s.lw v):Nat):Int):=by split<;>omega
         have hcp:s.path.take (Hi++[t]).length=Hi++[t]:=by rw[hp,List.take_left' rfl]
         cases c5:decide ((s.lw v:Int)=(s.sn v:Int))
         . have Dt:s.lw v≠s.sn v:=by have:=Ae c5;omega
           simp only[go_sem,c5];simp only[go_sem,c6];refine CG mixed (p:=[(0,0),(1,0),(2,0),(3,0),(4,0),(5,0),(6,0),(7,0),(8,0),(9,0),(10,0),(11,0),(12,0),(13,0),(14,0)]) (by kernel_rfl) (by simp[C8,get]) ?_;simp only[go_sem,Ab,hw4,i5,gp];refine CG mixed (p:=[(0,0),(1,0),(2,0),(3,0),(4,0),(5,0),(6,0),(7,0),(8,0),(9,0),(10,0),(11,0),(12,0),(13,0),(14,0),(15,0),(16,0),(17,0),(18,0),(19,0),(20,0),(21,3)]) (by kernel_rfl) (by simp[C8,get]) ?_;simp only[go_sem,Ab,l1,l2,l3,l4,i6,i1,gt,gl,Ux];obtain ⟨k1,k2⟩:=FI.back W3 hp Hx Dt p1 p2;refine ih ⟨1,s.S1 (Hi++[t]) t (min (s.lw t) (s.lw v)),t,p1,p2⟩ _ k1 k2 ?_;have e:(⟨s.seen,s.low.set t (min (s.lw t) (s.lw v)),s.at_,s.path.take (Hi++[t]).length,s.held.take s.held.length,s.count,s.names⟩:Sr)=s.S1 (Hi++[t]) t (min (s.lw t) (s.lw v)):=by rw[hcp,Ar];rfl
           rw[<-e];refine Wk.trans ?_ (Tb g sh p1 p2 1 s.seen (s.low.set t (min (s.lw t) (s.lw v))) s.at_ s.path s.held (Hi++[t]).length s.held.length s.count s.names t (by omega) (Ai _));exact (BW (by simp[ZF,CH,Dj,l1,l2,l3,l4]))
         . have hlr:s.lw v=s.sn v:=by have:=Ad c5;omega
           obtain ⟨i,hi,Qz⟩:=AD.1 Q4;rw[<-getD_eq (x:=0) hi] at Qz;have hc:=Hr g sh s s.path (Hi++[t]).length i hi (by omega) (LW tj hi Qz).2.2 (λ w hw=>by rw[l4];exact (tj.YU w ((tj.N8 w).1 hw).1).1);simp only[Sr.bx,l1,l2,l3,l4,Qz] at hc;simp only[go_sem,c5];refine Em hc ?_;rintro h' r ⟨m,⟨WY,S3⟩,rfl,rfl⟩;obtain ⟨k1,k2,k3⟩:=FI.comp W3 hp Hx hlr hi Qz WY S3 p1 p2;rw[k3] at Ux;have hls:s.low.set t (s.lw t)=s.low:=by
             apply List.ext_getElem (by simp);intro j h1 h2;rw[List.getElem_set];split
             . rename_i e;subst e;exact getD_eq h2
             . rfl
           simp only[go_sem];simp only[go_sem,c6];refine CG mixed (p:=[(0,0),(1,0),(2,0),(3,0),(4,0),(5,0),(6,0),(7,0),(8,0),(9,0),(10,0),(11,0),(12,0),(13,0),(14,0)]) (by kernel_rfl) (by simp[C8,get]) ?_;simp only[go_sem,Ab,hw4,i5,gp];refine CG mixed (p:=[(0,0),(1,0),(2,0),(3,0),(4,0),(5,0),(6,0),(7,0),(8,0),(9,0),(10,0),(11,0),(12,0),(13,0),(14,0),(15,0),(16,0),(17,0),(18,0),(19,0),(20,0),(21,3)]) (by kernel_rfl) (by simp[C8,get]) ?_;simp only[go_sem,Ab,l1,l2,l3,l4,i6,i1,gt,gl,Ux,hls];refine ih ⟨1,s.H5 (Hi++[t]) i m,t,p1,p2⟩ _ k1 k2 ?_;have e:(⟨s.seen,s.low,s.at_,s.path.take (Hi++[t]).length,s.held.take i,s.count,Fc s.names (s.held.drop i) m⟩:Sr)=s.H5 (Hi++[t]) i m:=by rw[hcp];rfl
           rw[<-e];refine Wk.trans ?_ (Tb g sh p1 p2 1 s.seen s.low s.at_ s.path s.held (Hi++[t]).length i s.count (Fc s.names (s.held.drop i) m) t (by omega) (by omega));exact (BW (by simp[ZF,CH,Dj,l1,l2,l3,l4,H3,hls]))
     . have hk:s.ad v<(g.getD v []).length:=by have:=Ad c1;omega
       obtain ⟨w,hw,hwn⟩:=tj.rng v _ hk;have gw:(BZ (g.getD v [])).getD (s.ad v) []=[.int .i64 (w:Nat)]:=by rw[Cm _ _ hk,hw]
       have i2:(0:Int)<=(s.ad v:Int)/\(s.ad v:Int)<((g.getD v []).length:Int):=by omega
       have i3:(0:Int)<=(w:Int)/\(w:Int)<(g.length:Int):=by omega
       have hrl:(g.getD v []).length<=10000000:=Dq _ (by rw[gde Ml];exact AN Ml);have hwr:IntKind.i64.wrap ((s.ad v:Int)+1)=((s.ad v+1:Nat):Int):=CA (by omega);have gs:(CO sh).getD w []=[.bool (sh.getD w false)]:=G1 sh w (by omega);have gn:(BZ (nI s.seen)).getD w []=[.int .i64 (s.sn w:Nat)]:=by rw[Cm (nI s.seen) w (by rw[CH];omega),DL];rfl
       have gnm:(BZ s.names).getD w []=[.int .i64 (s.nm w)]:=by rw[Cm s.names w (by omega)];simp[Sr.nm,List.getD,show w<s.names.length by omega]
       simp only[go_sem,c1];refine CG mixed (p:=[(0,0),(1,0),(2,0),(3,0),(4,0),(5,0),(6,0),(7,0),(8,0),(9,0),(10,0),(11,0),(12,0),(13,0),(14,0),(15,0),(16,0)]) (by kernel_rfl) (by simp[C8,get]) ?_;simp only[go_sem,Ab,l1,l2,l3,l4,i1,ga,gg,i2,gw,i3,hwr,gs,H9];cases c2:sh.getD w false;rotate_left
       . simp only[go_sem,c2];obtain ⟨k1,k2⟩:=On W3 hk hw (λ h=>by rw[h] at c2;cases c2) p1 p2;refine ih ⟨1,s.inc v,v,p1,p2⟩ _ k1 k2 ?_;rw[show s.inc v=(⟨s.seen,s.low,s.at_.set v (s.ad v+1),s.path.take s.path.length,s.held.take s.held.length,s.count,s.names⟩:Sr) by rw[Ar,Ar];rfl];refine Wk.trans ?_ (Tb g sh p1 p2 1 s.seen s.low (s.at_.set v (s.ad v+1)) s.path s.held s.path.length s.held.length s.count s.names v (Ai _) (Ai _));exact (BW (by simp[ZF,CH,Dj,l1,l2,l3,l4]))
       . simp only[go_sem,c2];simp only[go_sem,c2,Ab,l1,i3,gn];cases c3:decide ((s.sn w:Int)=0);rotate_left
         . simp only[go_sem,c3];obtain ⟨k1,k2⟩:=YR W3 hk hw hwn c2 (by have:=Ad c3;omega) p1 p2;refine ih ⟨0,s.inc v,w,p1,p2⟩ _ k1 k2 ?_;rw[show s.inc v=(⟨s.seen,s.low,s.at_.set v (s.ad v+1),s.path.take s.path.length,s.held.take s.held.length,s.count,s.names⟩:Sr) by rw[Ar,Ar];rfl];refine Wk.trans ?_ (Tb g sh p1 p2 0 s.seen s.low (s.at_.set v (s.ad v+1)) s.path s.held s.path.length s.held.length s.count s.names w (Ai _) (Ai _));exact (BW (by simp[ZF,CH,Dj,l1,l2,l3,l4]))
         have h3:s.sn w≠0:=by have:=Ae c3;omega
         simp only[go_sem,c3];simp only[go_sem,c3,Ab,l4,i3,gnm];cases c4:decide (s.nm w<0)
         . simp only[go_sem,c4];obtain ⟨k1,k2⟩:=On W3 hk hw (λ _=>⟨h3,λ hm=>by have:=((tj.N8 w).1 hm).2;have:=Ae c4;omega⟩) p1 p2;refine ih ⟨1,s.inc v,v,p1,p2⟩ _ k1 k2 ?_;rw[show s.inc v=(⟨s.seen,s.low,s.at_.set v (s.ad v+1),s.path.take s.path.length,s.held.take s.held.length,s.count,s.names⟩:Sr) by rw[Ar,Ar];rfl];refine Wk.trans ?_ (Tb g sh p1 p2 1 s.seen s.low (s.at_.set v (s.ad v+1)) s.path s.held s.path.length s.held.length s.count s.names v (Ai _) (Ai _));exact (BW (by simp[ZF,CH,Dj,l1,l2,l3,l4]))
         . have h4:=Ad c4;have gl:(BZ (nI s.low)).getD v []=[.int .i64 (s.lw v:Nat)]:=by rw[Cm (nI s.low) v (by rw[CH];omega),DL];rfl
           simp only[go_sem,c4];refine CG mixed (p:=[(0,0),(1,0),(2,0),(3,0),(4,0),(5,0),(6,0),(7,0),(8,0),(9,0),(10,0),(11,0),(12,0),(13,0),(14,0),(15,0),(16,0),(17,0),(18,0),(19,0),(20,0),(21,3)]) (by kernel_rfl) (by simp[C8,get]) ?_;have hmn:(if (s.sn w:Int)<(s.lw v:Int) then (s.sn w:Int) else (s.lw v:Int))=((min (s.lw v) (s.sn w):Nat):Int):=by split<;>omega
           simp only[go_sem,Ab,l1,l2,l3,l4,i1,i3,gl,gn,hmn];obtain ⟨k1,k2⟩:=YQ W3 hk hw c2 h3 h4 p1 p2;refine ih ⟨1,(s.inc v).lo1 v (min (s.lw v) (s.sn w)),v,p1,p2⟩ _ k1 k2 ?_;rw[show (s.inc v).lo1 v (min (s.lw v) (s.sn w))=(⟨s.seen,s.low.set v (min (s.lw v) (s.sn w)),s.at_.set v (s.ad v+1),s.path.take s.path.length,s.held.take s.held.length,s.count,s.names⟩:Sr) by rw[Ar,Ar];rfl];refine Wk.trans ?_ (Tb g sh p1 p2 1 s.seen (s.low.set v (min (s.lw v) (s.sn w))) (s.at_.set v (s.ad v+1)) s.path s.held s.path.length s.held.length s.count s.names v (Ai _) (Ai _));exact (BW (by simp[ZF,CH,Dj,l1,l2,l3,l4]))
structure NB where
 k:Nat
 s:Sr
def NB.st(g:List (List Int))(sh:List Bool)(b:NB):St:=⟨[(1,.p (.sl (CO sh))),(8,.ptr 30 0),(31,.p (.int .i64 (g.length:Nat))),(32,.p (.int .i64 (b.k:Nat)))],
 [(30,.box [.p (.sl (Cj g)),.p (.sl (CO sh)),.ref 21 0 g.length g.length,.ref 23 0 g.length g.length,.ref 25 0 g.length g.length,.ref 40005 0 0 0,.ref 40006 0 0 0,.p (.int .i64 (b.s.count:Nat)),.ref 10028 0 g.length g.length]),
  (25,.arr 3 1 (BZ (nI b.s.at_))),(23,.arr 3 1 (BZ (nI b.s.low))),(21,.arr 3 1 (BZ (nI b.s.seen))),(10028,.arr 3 1 (BZ b.s.names)),(40005,.arr 3 1 []),(40006,.arr 3 1 [])],58⟩
def Zv(n:Nat):Sr:=⟨List.replicate n 0,List.replicate n 0,List.replicate n 0,[],[],0,List.replicate n (-1)⟩
def NIc(g:List (List Int))(sh:List Bool)(b:NB):Prop:=b.k<=g.length/\TJ g sh Qg b.s/\b.s.path=[]/\b.s.held=[]/\b.s.count+Mg g b.s=g.length/\∀x,x<b.k->sh.getD x false=false->b.s.sn x≠0
theorem Aut(n:Nat):nI (List.replicate n 0)=List.replicate n 0:=by simp[nI]
theorem Az8(g:List (List Int))(sh:List Bool)(k:Nat)(s:Sr)(P H:List Nat):Wk ⟨[(1,.p (.sl (CO sh))),(8,.ptr 30 0),(31,.p (.int .i64 (g.length:Nat))),(32,.p (.int .i64 (k:Nat)))],
     [(30,.box [.p (.sl (Cj g)),.p (.sl (CO sh)),.ref 21 0 g.length g.length,.ref 23 0 g.length g.length,.ref 25 0 g.length g.length,.ref 10052 0 0 P.length,.ref 20052 0 0 H.length,.p (.int .i64 (s.count:Nat)),.ref 10028 0 g.length g.length]),
      (25,.arr 3 1 (BZ (nI s.at_))),(23,.arr 3 1 (BZ (nI s.low))),(21,.arr 3 1 (BZ (nI s.seen))),(10028,.arr 3 1 (BZ s.names)),(10052,.arr 3 1 (BZ (nI P))),(20052,.arr 3 1 (BZ (nI H)))],58⟩ (NB.st g sh ⟨k,s⟩):=by
 refine (E6 (id:=30) (j:=5) (q:=10052) (k:=0) (es:=BZ (nI P)) 40005 rfl (by simp[CH,BY]) rfl (AE _) rfl).trans ?_;refine (E6 (id:=30) (j:=6) (q:=20052) (k:=0) (es:=BZ (nI H)) 40006 rfl (by simp[CH,BY]) rfl (AE _) rfl).trans ?_;exact (BW (by simp[ZF,NB.st,CH,BY,List.take_zero]))
theorem Bd0(g:List (List Int))(sh:List Bool)(k:Nat)(s:Sr)(P H:List Nat):Wk ⟨[(1,.p (.sl (CO sh))),(8,.ptr 30 0),(31,.p (.int .i64 (g.length:Nat))),(32,.p (.int .i64 (k:Nat)))],
     [(30,.box [.p (.sl (Cj g)),.p (.sl (CO sh)),.ref 21 0 g.length g.length,.ref 23 0 g.length g.length,.ref 25 0 g.length g.length,.ref 40005 0 0 P.length,.ref 40006 0 0 H.length,.p (.int .i64 (s.count:Nat)),.ref 10028 0 g.length g.length]),
      (25,.arr 3 1 (BZ (nI s.at_))),(23,.arr 3 1 (BZ (nI s.low))),(21,.arr 3 1 (BZ (nI s.seen))),(10028,.arr 3 1 (BZ s.names)),(40005,.arr 3 1 (BZ (nI P))),(40006,.arr 3 1 (BZ (nI H)))],58⟩ (NB.st g sh ⟨k,s⟩):=by
 refine (E6 (id:=30) (j:=5) (q:=40005) (k:=0) (es:=BZ (nI P)) 10052 rfl (by simp[CH,BY]) rfl (AE _) rfl).trans ?_;refine (E6 (id:=30) (j:=6) (q:=40006) (k:=0) (es:=BZ (nI H)) 20052 rfl (by simp[CH,BY]) rfl (AE _) rfl).trans ?_;refine Wk.trans ?_ (Az8 g sh k s [] []);exact (BW (by simp[ZF,CH,BY,List.take_zero,nI,BZ]))
theorem Air(g:List (List Int))(sh:List Bool)(hg:g.length<=24)(Dq:∀r∈g,r.length<=10000000)(H9:sh.length=g.length)(hc:EY g sh=some 0)(h00:NIc g sh ⟨0,Zv g.length⟩):
   B2 prog 67 [.p (.sl (Cj g)),.p (.sl (CO sh))] [] λ h d=>∃s,(TJ g sh Qg s/\s.path=[]/\s.held=[]/\∀x,x<g.length->sh.getD x false=false->s.sn x≠0)/\h=[(0,.arr 3 1 (BZ s.names))]/\d= .Dv [.ref 0 0 g.length g.length,.p (.int .i64 0)]:=by
 have h0:(0:Int)<=((g.length:Nat):Int):=by omega
 refine B1 func67 rfl o8 (by simp[Tryz.f67]) ?_;simp only[go_sem];refine Cq ((Vg g sh 0 hc)) ?_;simp only[go_sem];refine CG mixed (p:=[(0,0),(1,0),(2,0),(4,0),(6,0),(9,0),(3,1),(5,1),(7,1),(8,1),(10,2),(11,0),(12,1),(13,0)]) (by kernel_rfl) (by simp[C8,get]) ?_;have hle:((g.length:Nat):Int)<=((g.length:Nat):Int):=Bx _;have hl8:((g.length:Nat):Int)*8<=140737488355328:=by omega
 have hl1:((g.length:Nat):Int)<=140737488355328:=by omega
 simp only[go_sem,h0,hle,hl8,hl1];refine Gq ((Aqx g.length hg)) ?_;simp only[go_sem,h0];refine B7 (NB.st g sh) (NIc g sh) (λ b=>g.length - b.k) ⟨0,Zv g.length⟩ h00 ?_ ?_
 . refine (DC (id:=30) (j:=5) (q:=40005) (sz:=1) 3 rfl rfl rfl (by decide)).trans ?_;refine (DC (id:=30) (j:=6) (q:=40006) (sz:=1) 3 rfl rfl rfl (by decide)).trans ?_;exact (BW (by simp[ZF,NB.st,Zv,Aut]))
 rintro ⟨k,s⟩ m ⟨hk,hT,hpa,hhe,hcu,hse⟩ ih;simp only at hk hT hpa hhe hcu hse;unfold NB.st;cases c1:decide ((k:Int)<((g.length:Nat):Int))
 . obtain rfl:k=g.length:=by have:=Ae c1;omega
   have hl:=hT.l4;simp only[go_sem,c1,hl];refine Cp ?_;simp only[go_sem,c1,hl];exact ⟨s,⟨hT,hpa,hhe,hse⟩,rfl⟩
 . have IF:k<g.length:=by simpa using Ad c1
   have h4:(0:Int)<=(k:Int)/\(k:Int)<((g.length:Nat):Int):=by omega
   have h5:(0:Int)<=(k:Int)/\(k:Int)<((sh.length:Nat):Int):=by omega
   have f1:=G1 sh k (by omega);have g1:=Cm (nI s.seen) k (by rw[CH,hT.l1];exact IF);rw[DL] at g1;have lse:(nI s.seen).length=g.length:=by rw[CH,hT.l1]
   cases c2:sh.getD k false
   . rw[c2] at f1;cases c3:decide (((s.seen.getD k 0:Nat):Int)=0)
     . simp only[go_sem,c1,h4,h5,H9,f1,g1,c3,lse];have Hk:s.sn k≠0:=λ h=>by have:=Ae c3;unfold Sr.sn at h;omega
       refine ih ⟨k+1,s⟩ _ ⟨IF,hT,hpa,hhe,hcu,?_⟩ (by simp only;omega) ?_
       . simp only;intro x hx hxo;rcases AF.1 hx with h1 | rfl
         . exact hse x h1 hxo
         . exact Hk
       . rw[CA (by omega)];exact (BW (by simp[ZF,NB.st]))
     . have Hk:s.sn k=0:=by have:=Ad c3;unfold Sr.sn;omega
       have No:=As2 g sh s k hg Dq H9 hT hpa hhe hcu IF c2 Hk;unfold Sr.bx at No;rw[hpa,hhe,hT.l1,hT.l2,hT.l3,hT.l4] at No;simp only[go_sem,c1,h4,h5,H9,f1,g1,c3,lse];refine Em No ?_;rintro h' r ⟨⟨s',P,H,hT',hp',hh',Ayi,Ay4,Bbd,OP⟩,rfl⟩;have Axr:∀x,x<k+1->sh.getD x false=false->s'.sn x≠0:=by
         intro x hx hxo;rcases AF.1 hx with h1 | rfl
         . exact Ay4 x (hse x h1 hxo)
         . exact Bbd
       rcases OP with rfl | ⟨p1,p2,rfl⟩
       . simp only[go_sem];refine ih ⟨k+1,s'⟩ _ ⟨IF,hT',hp',hh',Ayi,Axr⟩ (by simp only;omega) ?_;rw[CA (by omega)];exact Wk.trans (BW (by simp[ZF,])) (Bd0 g sh (k+1) s' P H)
       . simp only[go_sem];refine ih ⟨k+1,s'⟩ _ ⟨IF,hT',hp',hh',Ayi,Axr⟩ (by simp only;omega) ?_;rw[CA (by omega)];exact Wk.trans (BW (by simp[ZF,])) (Az8 g sh (k+1) s' P H)
   . rw[c2] at f1;simp only[go_sem,c1,h4,h5,H9,f1,g1];refine ih ⟨k+1,s⟩ _ ⟨IF,hT,hpa,hhe,hcu,?_⟩ (by simp only;omega) ?_
     . simp only;intro x hx hxo;rcases AF.1 hx with h1 | rfl
       . exact hse x h1 hxo
       . rw[c2] at hxo;cases hxo
     . rw[CA (by omega)];exact (BW (by simp[ZF,NB.st]))
theorem Akl(n v:Nat):(List.replicate n 0:List Nat).getD v 0=0:=by
 simp only[List.getD,Bo];split<;>rfl
theorem Ax5(n v:Nat):(List.replicate n (-1):List Int).getD v (-1)=-1:=by
 simp only[List.getD,Bo];split<;>rfl
theorem TJ.init(g:List (List Int))(sh:List Bool)(hr:∀v k,k<(g.getD v []).length->∃w:Nat,(g.getD v []).getD k 0=(w:Int)/\w<g.length):TJ g sh Qg (Zv g.length):=by
 have sn0:∀v,(Zv g.length).sn v=0:=λ v=>Akl _ v;have ad0:∀v,(Zv g.length).ad v=0:=λ v=>Akl _ v;have nm0:∀v,(Zv g.length).nm v=-1:=λ v=>Ax5 _ v;have hh:(Zv g.length).held=[]:=rfl;have hp:(Zv g.length).path=[]:=rfl;refine ⟨by simp[Zv],by simp[Zv],by simp[Zv],by simp[Zv],hr,?_,?_,?_,?_,?_,?_,?_,?_,?_,?_,?_,?_,?_,?_,?_,?_,?_,?_⟩
 . intro v;rw[sn0];exact AE _
 . intro v w _ h;exact absurd (sn0 v) h
 . intro v h;exact absurd (sn0 v) h
 . intro v _;exact ad0 v
 . intro v;rw[ad0];exact AE _
 . intro v;rw[hh,sn0];simp
 . rw[hh];exact List.Pairwise.nil
 . rw[hp];intro p h;cases h
 . rw[hp];exact List.Pairwise.nil
 . intro v h;rw[nm0] at h;omega
 . intro v w h;rw[nm0] at h;omega
 . rw[hh];intro x h;cases h
 . rw[hh];intro x h;cases h
 . rw[hh];intro x h;cases h
 . rw[hp];intro p h;cases h
 . rw[hp];intro p h;cases h
 . rw[hh];intro x h;cases h
 . intro v _;exact nm0 v
theorem TJ.done{g:List (List Int)}{sh:List Bool}{s:Sr}(h:TJ g sh Qg s)(hh:s.held=[])(ha:∀x,x<g.length->sh.getD x false=false->s.sn x≠0)(v:Nat)(hv:v<g.length):
   (sh.getD v false=false->0<=s.nm v/\R6 g sh v (s.nm v))/\(sh.getD v false=true->s.nm v=-1):=by
 constructor
 . intro ho;have h1:=ha v hv ho;have h2:0<=s.nm v:=by
     rcases Int.lt_or_le (s.nm v) 0 with h3 | h3
     . have:=(h.N8 v).2 ⟨h1,h3⟩;rw[hh] at this;cases this
     . exact h3
   exact ⟨h2,(h.Tm v h2).2⟩
 . intro ho;refine h.nmx v ?_;rcases Int.lt_or_le (s.nm v) 0 with h3 | h3
   . exact h3
   . have:=(h.YU v (h.Tm v h3).1).2;rw[ho] at this;cases this
theorem Ak0(n:Nat):(VH n λ _=>1)=n:=by
 induction n with
 | zero=>rfl
 | succ n ih=>rw[Ji,ih]
theorem Ael(g:List (List Int)):Mg g (Zv g.length)=g.length:=by
 unfold Mg;have e:∀v,(Zv g.length).sn v=0:=λ v=>Akl _ v;simp only[e,AP];exact Ak0 _
theorem Apz(g:List (List Int))(sh:List Bool)(hr:∀v k,k<(g.getD v []).length->∃w:Nat,(g.getD v []).getD k 0=(w:Int)/\w<g.length):NIc g sh ⟨0,Zv g.length⟩:=by
 refine ⟨AE _,TJ.init g sh hr,rfl,rfl,?_,λ x hx=>absurd hx (A0 _)⟩
 show 0+Mg g (Zv g.length)=g.length
 rw[Ael];omega
def HI(g:List (List Int))(sh:List Bool)(l:List Int):Prop:=l.length=g.length/\∀v,v<g.length->(sh.getD v false=false->0<=l.getD v (-1)/\R6 g sh v (l.getD v (-1)))/\(sh.getD v false=true->l.getD v (-1)=-1)
theorem Aft(g:List (List Int))(sh:List Bool)(Dq:∀r∈g,r.length<=2000000)(hc:EY g sh=some 0):
   B2 prog 67 [.p (.sl (Cj g)),.p (.sl (CO sh))] [] λ h d=>∃l,HI g sh l/\h=[(0,.arr 3 1 (BZ l))]/\d= .Dv [.ref 0 0 g.length g.length,.p (.int .i64 0)]:=by
 have hr:∀v,v<g.length->(g.getD v []).length<=2000000:=λ v hv=>Dq _ (by rw[List.getD,Az hv];exact AN hv);obtain ⟨h1,h2,h3⟩:=Ait hr hc;refine B2.mono (Air g sh h1 (λ r hm=>Bp (Dq r hm) (by omega)) h2 hc (Apz g sh h3)) ?_;rintro h d ⟨s,⟨hT,_,hh,ha⟩,rfl,rfl⟩;exact ⟨s.names,⟨hT.l4,λ v hv=>hT.done hh ha v hv⟩,rfl,rfl⟩
theorem Afs(g:List (List Int))(sh:List Bool)(e:Int)(he:e≠0)(hc:EY g sh=some e):
   B2 prog 67 [.p (.sl (Cj g)),.p (.sl (CO sh))] [] λ h d=>h=[]/\d= .Dv [.p (.sl []),.p (.int .i64 e)]:=by
 refine B1 func67 rfl o8 (by simp[Tryz.f67]) ?_;simp only[go_sem];refine Cq ((Vg g sh e hc)) ?_;have c1:decide (e=0)=false:=Ah he;simp only[go_sem,c1];all_goals (try refine BX ?_)
 all_goals (try simp only[go_sem,c1])
theorem Afq(g:List (List Int))(sh:List Bool)(Dq:∀r∈g,r.length<=2000000)(hc:EY g sh=some 0):
   B2 prog 67 [.p (.sl (Cj g)),.p (.sl (CO sh))] [] λ h d=>∃l,HI g sh l/\h=[]/\d= .Dv [.p (.sl (BZ l)),.p (.int .i64 0)]:=by
 refine B2.seal (Aft g sh Dq hc) ?_;rintro h d ⟨l,hl,rfl,rfl⟩;have h1:=hl.1;have h2:(BZ l).length=g.length:=by rw[BY,h1]
 have h3:(BZ l).take g.length=BZ l:=by rw[<-h2];exact Ar
 refine R3 ?_;simp only[go_sem,h2,h3,Rs.all,P9,AH,BE];exact ⟨l,hl,rfl⟩
theorem R6.uniq{g:List (List Int)}{sh:List Bool}{v:Nat}{x y:Int}(h:R6 g sh v x)(k:R6 g sh v y):x=y:=by
 obtain ⟨a,rfl,a1,a2,a3⟩:=h;obtain ⟨b,rfl,b1,b2,b3⟩:=k;have h1:=a3 b b1 b2;have h2:=b3 a a1 a2;omega
theorem HI.uniq{g:List (List Int)}{sh:List Bool}{l m:List Int}(h:HI g sh l)(k:HI g sh m):l=m:=by
 apply List.ext_getElem (by rw[h.1,k.1]);intro v hv Us;have hg:v<g.length:=by rw[<-h.1];exact hv
 have e1:l.getD v (-1)=l[v]:=by simp[List.getD,hv]
 have e2:m.getD v (-1)=m[v]:=by simp[List.getD,Us]
 have h1:=h.2 v hg;have h2:=k.2 v hg;rw[e1] at h1;rw[e2] at h2;cases c:sh.getD v false with
 | true=>rw[h1.2 c,h2.2 c]
 | false=>exact (h1.1 c).2.uniq (h2.1 c).2
def Fz(g:List (List Int))(sh:List Bool):List Int:=open Classical in if h:∃l,HI g sh l then Classical.choose h else []
theorem Rz{g:List (List Int)}{sh:List Bool}{l:List Int}(h:HI g sh l):Fz g sh=l:=by
 unfold Fz;rw[dif_pos ⟨l,h⟩];exact (Classical.choose_spec (⟨l,h⟩:∃l,HI g sh l)).uniq h
theorem R6.ex{g:List (List Int)}{sh:List Bool}(v:Nat):∃x,R6 g sh v x:=by
 have key:∀n y,y<=n->I8 g sh v y->I8 g sh y v->∃x,R6 g sh v x:=by
   intro n
   induction n with
   | zero=>intro y hy h1 h2;exact ⟨(y:Int),y,rfl,h1,h2,λ z _ _=>by omega⟩
   | succ n ih=>
     intro y hy h1 h2;by_cases hz:∃z,z<y/\I8 g sh v z/\I8 g sh z v
     . obtain ⟨z,h3,h4,h5⟩:=hz;exact ih z (by omega) h4 h5
     . refine ⟨(y:Int),y,rfl,h1,h2,λ z h3 h4=>?_⟩;rcases Nat.lt_or_ge z y with h5 | h5
       . exact absurd ⟨z,h5,h3,h4⟩ hz
       . exact h5
 exact key v v (Ai _) (.refl v) (.refl v)
theorem VN{α:Type}(f:Nat->α)(n v:Nat)(hv:v<n)(d:α):((List.range n).map f).getD v d=f v:=by simp[List.getD,hv]
theorem HI.ex(g:List (List Int))(sh:List Bool):∃l,HI g sh l:=by
 refine ⟨(List.range g.length).map λ v=>if sh.getD v false=true then -1 else Classical.choose (R6.ex (g:=g) (sh:=sh) v),by simp,λ v hv=>?_⟩;rw[VN _ _ _ hv];have hs:=Classical.choose_spec (R6.ex (g:=g) (sh:=sh) v);constructor
 . intro h;rw[if_neg (by rw[h];decide)];obtain ⟨y,hy,_⟩:=id hs;exact ⟨by rw[hy];omega,hs⟩
 . intro h;rw[if_pos h]
theorem Ry(g:List (List Int))(sh:List Bool):HI g sh (Fz g sh):=by
 obtain ⟨l,h⟩:=HI.ex g sh;rw[Rz h];exact h
def JX(g:List (List Int))(sh:List Bool):Option (List Int×Int):=
 if ∀r∈g,r.length<=2000000 then (EY g sh).map λ e=>if e=0 then (Fz g sh,0) else ([],e) else none
theorem Acn(g:List (List Int))(sh:List Bool)(r:List Int×Int)(hr:JX g sh=some r):
   B2 prog 67 [.p (.sl (Cj g)),.p (.sl (CO sh))] [] λ h d=>h=[]/\d= .Dv [.p (.sl (BZ r.1)),.p (.int .i64 r.2)]:=by
 unfold JX at hr;split at hr
 case isFalse=>cases hr
 rename_i Dq;cases hc:EY g sh with
 | none=>rw[hc] at hr;cases hr
 | some e=>
   rw[hc] at hr;simp only[Bk,Al] at hr;subst hr;by_cases he:e=0
   . subst he;refine (Afq g sh Dq hc).mono ?_;rintro h d ⟨l,hl,rfl,rfl⟩;rw[if_pos rfl,Rz hl];exact ⟨rfl,rfl⟩
   . rw[if_neg he];refine (Afs g sh e he hc).mono ?_;rintro h d ⟨rfl,rfl⟩;exact ⟨rfl,rfl⟩
theorem E4(n:Nat)(b:Bool):(CO (List.replicate n b)).take n=CO (List.replicate n b):=by rw[AA];simp[CO]
structure FT where (Ix:Int) (HU:List Int) (Cs:Int) (cap:Int)
def Qp(s:List UInt8):Option (List Ln×Int×Int):=some (CN s)
theorem Abq(s:List UInt8)(r:List Ln×Int×Int)(h:Qp s=some r):B2 prog 29 [.p (.str s)] [] λ h d=>h=[]/\d= .Dv [.p (.sl (EG r.1)),.p (.int .i64 r.2.1),.p (.int .i64 r.2.2)]:=by cases h;exact Afx s
open Classical in noncomputable def lParse_v (l:List Ln):Option (List Dc×Int×Int):=if l.length<=10000000/\∀x∈l,x.fs.length<=10000000 then some (parseV l []) else none
theorem Abp(l:List Ln)(r:List Dc×Int×Int)(h:lParse_v l=some r):B2 prog 30 [.p (.sl (EG l))] [] λ h d=>h=[]/\d= .Dv [.p (.sl (DX r.1)),.p (.int .i64 r.2.1),.p (.int .i64 r.2.2)]:=by unfold lParse_v at h;split at h<;>cases h;rename_i hs;exact Afk l hs.1 hs.2
open Classical in noncomputable def lBuild_v (d:List Dc):Option (Nt×Int×Int):=if smallD d then some (nbuildV d) else none
theorem Abt(d:List Dc)(r:Nt×Int×Int)(h:lBuild_v d=some r):B2 prog 31 [.p (.sl (DX d))] [] λ h q=>h=[]/\q= .Dv [.agg [.p (.sl (CX r.1.blocks)),.p (.sl (Cj r.1.next)),.p (.sl (CR r.1.spurs)),.p (.sl (BZ r.1.B6)),.p (.int .i64 r.1.cq),.p (.int .i64 r.1.ca),.p (.int .i64 r.1.cd),.p (.int .i64 r.1.cp)],.p (.int .i64 r.2.1),.p (.int .i64 r.2.2)]:=by unfold lBuild_v at h;split at h<;>cases h;rename_i hs;exact Afp d hs
def Jp(a0:Nt):Int×Int->Option ((Int×Int)⊕((Int×Int)))
 | (v11,v12)=>cond (decide (v12<((a0.spurs.length:Nat):Int))) (Option.bind (CK a0.spurs v12) λ SU=>cond SU.CE (some (Sum.inl ((IntKind.i64.wrap (v11+SU.Cs)),(IntKind.i64.wrap (v12+1))))) (some (Sum.inl (v11,(IntKind.i64.wrap (v12+1)))))) (some (Sum.inr (v11,v12)))
def K2(a0:Nt):Option (FT×Int):=
 Option.bind (Gm (⟨a0.blocks,a0.next,a0.spurs,a0.B6,a0.cq,a0.ca,a0.cd,a0.cp⟩:Nt)) λ x1=>cond x1 (cond (decide (a0.next.length<10000000)) (Option.bind (Ns a0.next (List.replicate a0.next.length false)) λ (x5,x6,x7)=>Option.bind (CC (Jp a0) (0,0)) (λ (Th,v26)=>cond (decide (0<x5)) (some ((⟨x5,x6,Th,(if (IntKind.i64.wrap (x5 - 1))<Th then (IntKind.i64.wrap (x5 - 1)) else Th)⟩:FT),0)) (some ((⟨x5,x6,Th,Th⟩:FT),0)))) none) (some ((⟨0,[],0,0⟩:FT),20))
theorem Abs(a0:Nt)(r:FT×Int)(hr:K2 a0=some r):
   B2 prog 18 [.agg [.p (.sl (CX a0.blocks)),.p (.sl (Cj a0.next)),.p (.sl (CR a0.spurs)),.p (.sl (BZ a0.B6)),.p (.int .i64 a0.cq),.p (.int .i64 a0.ca),.p (.int .i64 a0.cd),.p (.int .i64 a0.cp)]] [] λ h d=>h=[]/\d= .Dv [.agg [.p (.int .i64 r.1.Ix),.p (.sl (BZ r.1.HU)),.p (.int .i64 r.1.Cs),.p (.int .i64 r.1.cap)],.p (.int .i64 r.2)]:=by
 refine B1 func18 rfl Aoi (by simp[Tryz.f18]) ?_;unfold K2 at hr;obtain ⟨x1,g2,hr⟩:=bE hr;try simp only[go_sem]
 refine Cq (Rw (⟨a0.blocks,a0.next,a0.spurs,a0.B6,a0.cq,a0.ca,a0.cd,a0.cp⟩:Nt) _ g2) ?_;cases c3:x1
 . simp only[c3,Aj] at hr;cases hr;(try simp only[go_sem,c3]);all_goals ((try refine BX ?_);(try simp only[go_sem,c3]);try first | rfl | exact ⟨rfl,rfl⟩ | (simp;done))
 simp only[c3,Ak] at hr;try simp only[go_sem,c3]
 refine CG mixed (p:=[(0,0),(1,0),(2,0),(3,0),(4,0),(5,1),(6,2),(7,0),(8,0),(9,0),(10,0),(11,0),(12,4),(13,4),(14,4)]) (by kernel_rfl) (by simp[C8,get]) ?_;obtain ⟨c4,hr⟩:=gE hr;try simp only[go_sem]
 refine ⟨by have:=Ad c4;omega,?_⟩;obtain ⟨⟨x5,x6,x7⟩,g8,hr⟩:=bE hr;try simp only[go_sem,E4]
 refine Gq (Acb a0.next (List.replicate a0.next.length false) _ g8) ?_;obtain ⟨e16,g17,hr⟩:=bE hr;try simp only[go_sem]
 refine CP g17 (λ q:Int×Int=>⟨[(2,.ptr 2 0),(4,.ptr 4 0),(25,.p (.sl (CR a0.spurs))),(26,.p (.int .i64 ((a0.spurs.length:Nat):Int))),(27,.p (.int .i64 q.2))],[(2,.box [.p (.int .i64 0),.cl [],.p (.int .i64 0),.p (.int .i64 0)]),(4,.box [.p (.int .i64 x5),.p (.sl (BZ x6)),.p (.int .i64 q.1),.p (.int .i64 0)])],54⟩) ((BW (by simp[ZF,ZE,E4,c3]))) ?_;rintro ⟨v11,v12⟩ m15 RQ Axh;rw[Jp.eq_1] at RQ;cases IX:decide (v12<((a0.spurs.length:Nat):Int))
 . simp only[IX,Aj] at RQ;simp only[Aa,B0] at RQ;cases RQ;(try dsimp only at hr);cases Jg:decide (0<x5)
   . simp only[Jg,Aj] at hr;cases hr;(try simp only[go_sem,IX,Jg]);all_goals ((try refine BX ?_);(try simp only[go_sem,IX,Jg]);try first | rfl | exact ⟨rfl,rfl⟩ | (simp;done))
   simp only[Jg,Ak] at hr;cases hr;(try simp only[go_sem,IX,Jg]);all_goals ((try refine BX ?_);(try simp only[go_sem,IX,Jg]);try first | rfl | exact ⟨rfl,rfl⟩ | (simp;done))
 simp only[IX,Ak] at RQ;obtain ⟨SU,g21,RQ⟩:=bK RQ;have f22:=B8 g21;have f23:(CR a0.spurs).getD (Int.toNat v12) []=[(.str SU.name),(.bool SU.CE),(.int .i64 SU.HL),(.int .i64 SU.out),(.int .i64 SU.Cs),(.int .i64 SU.base)]:=B9 _ g21;cases HN:SU.CE
 . simp only[HN,Aj] at RQ;simp only[Aa,B4] at RQ;(try simp only[go_sem,IX,f22,f23,HN]);exact Axh (v11,(IntKind.i64.wrap (v12+1))) _ RQ ((BW (by simp[ZF,ZE,E4,c3,HN])))
 simp only[HN,Ak] at RQ;simp only[Aa,B4] at RQ;try simp only[go_sem,IX,f22,f23,HN]
 exact Axh ((IntKind.i64.wrap (v11+SU.Cs)),(IntKind.i64.wrap (v12+1))) _ RQ ((BW (by simp[ZF,ZE,E4,c3,HN])))
def Jq(x2:List Int):Int->Option ((Int)⊕(Int⊕Bool))
 | v6=>cond (decide (v6<((x2.length:Nat):Int))) (Option.bind (CK x2 v6) λ KC=>cond (decide (KC=0)) (some (Sum.inl (IntKind.i64.wrap (v6+1)))) (some (Sum.inr (.inr ((true:Bool)))))) (some (Sum.inr (.inl v6)))
def K3(a0:Nt):Option (Bool):=
 cond (decide (a0.next.length<10000000)) (Option.bind (JX a0.next (List.replicate a0.next.length false)) λ (x2,x3)=>Option.bind (CC (Jq x2) 0) (λ | .inl Vx=>some false | .inr (r19)=>some r19)) none
theorem Abu(a0:Nt)(r:Bool)(hr:K3 a0=some r):
   B2 prog 32 [.agg [.p (.sl (CX a0.blocks)),.p (.sl (Cj a0.next)),.p (.sl (CR a0.spurs)),.p (.sl (BZ a0.B6)),.p (.int .i64 a0.cq),.p (.int .i64 a0.ca),.p (.int .i64 a0.cd),.p (.int .i64 a0.cp)]] [] λ h d=>h=[]/\d= .p (.bool r):=by
 refine B1 func32 rfl Ao7 (by simp[Tryz.f32]) ?_;unfold K3 at hr;try simp only[go_sem]
 refine CG mixed (p:=[(0,0),(1,0),(2,0),(3,0),(4,0),(5,1),(6,2),(7,0),(8,0),(9,0),(10,0),(11,0)]) (by kernel_rfl) (by simp[C8,get]) ?_;obtain ⟨c1,hr⟩:=gE hr;try simp only[go_sem]
 refine ⟨by have:=Ad c1;omega,?_⟩;obtain ⟨⟨x2,x3⟩,g4,hr⟩:=bE hr;try simp only[go_sem,E4]
 refine Gq (Acn a0.next (List.replicate a0.next.length false) _ g4) ?_;obtain ⟨e10,g11,hr⟩:=bE hr;try simp only[go_sem]
 refine CP g11 (λ q:Int=>⟨[(17,.p (.sl (BZ x2))),(18,.p (.int .i64 ((x2.length:Nat):Int))),(19,.p (.int .i64 q))],[],26⟩) ((BW (by simp[ZF,ZE,E4]))) ?_;rintro v6 m9 hh7 ih8;rw[Jq.eq_1] at hh7;cases c12:decide (v6<((x2.length:Nat):Int))
 . simp only[c12,Aj] at hh7;simp only[Aa,B0] at hh7;cases hh7;(try dsimp only at hr);cases hr;(try simp only[go_sem,c12]);all_goals ((try refine BX ?_);(try simp only[go_sem,c12]);try first | rfl | exact ⟨rfl,rfl⟩ | (simp;done))
 simp only[c12,Ak] at hh7;obtain ⟨KC,g14,hh7⟩:=bK hh7;have f15:=B8 g14;have f16:(BZ x2).getD (Int.toNat v6) []=[(.int .i64 KC)]:=B9 _ g14;cases Ik:decide (KC=0)
 . simp only[Ik,Aj] at hh7;simp only[Aa,B0] at hh7;cases hh7;(try dsimp only at hr);cases hr;(try simp only[go_sem,c12,f15,f16,Ik]);all_goals ((try refine BX ?_);(try simp only[go_sem,c12,f15,f16,Ik]);try first | rfl | exact ⟨rfl,rfl⟩ | (simp;done))
 simp only[Ik,Ak] at hh7;simp only[Aa,B4] at hh7;try simp only[go_sem,c12,f15,f16,Ik]
 exact ih8 (IntKind.i64.wrap (v6+1)) _ hh7 ((BW (by simp[ZF,ZE,E4])))
def Ih(a0:List UInt8):Option (Nt×FT×Int×Int):=
 Option.bind (Qp a0) λ (x1,x2,x3)=>cond (decide (x3=0)) (Option.bind (lParse_v x1) λ (x6,x7,x8)=>cond (decide (x8=0)) (Option.bind (lBuild_v x6) λ (Du,SV,KC)=>cond (decide (KC=0)) (Option.bind (K2 (⟨Du.blocks,Du.next,Du.spurs,Du.B6,Du.cq,Du.ca,Du.cd,Du.cp⟩:Nt)) λ (OX,KB)=>Option.bind (K3 (⟨Du.blocks,Du.next,Du.spurs,Du.B6,Du.cq,Du.ca,Du.cd,Du.cp⟩:Nt)) λ R9=>cond R9 (some ((⟨[],[],[],[],0,0,0,0⟩:Nt),(⟨0,[],0,0⟩:FT),SV,17)) (cond (decide (OX.cap<((Du.B6.length:Nat):Int))) (some ((⟨[],[],[],[],0,0,0,0⟩:Nt),(⟨0,[],0,0⟩:FT),SV,18)) (some ((⟨Du.blocks,Du.next,Du.spurs,Du.B6,Du.cq,Du.ca,Du.cd,Du.cp⟩:Nt),(⟨OX.Ix,OX.HU,OX.Cs,OX.cap⟩:FT),0,KB)))) (some ((⟨[],[],[],[],0,0,0,0⟩:Nt),(⟨0,[],0,0⟩:FT),SV,KC))) (some ((⟨[],[],[],[],0,0,0,0⟩:Nt),(⟨0,[],0,0⟩:FT),x7,x8))) (some ((⟨[],[],[],[],0,0,0,0⟩:Nt),(⟨0,[],0,0⟩:FT),x2,x3))
theorem RE(a0:List UInt8)(r:Nt×FT×Int×Int)(hr:Ih a0=some r):
   B2 prog 10 [.p (.str a0)] [] λ h d=>h=[]/\d= .Dv [.agg [.p (.sl (CX r.1.blocks)),.p (.sl (Cj r.1.next)),.p (.sl (CR r.1.spurs)),.p (.sl (BZ r.1.B6)),.p (.int .i64 r.1.cq),.p (.int .i64 r.1.ca),.p (.int .i64 r.1.cd),.p (.int .i64 r.1.cp)],.agg [.p (.int .i64 r.2.1.Ix),.p (.sl (BZ r.2.1.HU)),.p (.int .i64 r.2.1.Cs),.p (.int .i64 r.2.1.cap)],.p (.int .i64 r.2.2.1),.p (.int .i64 r.2.2.2)]:=by
 refine B1 func10 rfl Aop (by simp[Tryz.f10]) ?_;unfold Ih at hr;try simp only[go_sem]
 refine Ae9 1 ?_;obtain ⟨⟨x1,x2,x3⟩,g4,hr⟩:=bE hr;try simp only[go_sem]
 refine Cq (Abq a0 _ g4) ?_;cases c5:decide (x3=0)
 . simp only[c5,Aj] at hr;(try simp only[go_sem,c5]);refine Aad rfl ?_;cases hr;(try simp only[go_sem]);all_goals ((try refine BX ?_);(try simp only[go_sem]);try first | rfl | exact ⟨rfl,rfl⟩ | (simp;done))
 simp only[c5,Ak] at hr;obtain ⟨⟨x6,x7,x8⟩,g9,hr⟩:=bE hr;try simp only[go_sem,c5]
 refine Cq (Abp x1 _ g9) ?_;cases HY:decide (x8=0)
 . simp only[HY,Aj] at hr;(try simp only[go_sem,HY]);refine Aad rfl ?_;cases hr;(try simp only[go_sem]);all_goals ((try refine BX ?_);(try simp only[go_sem]);try first | rfl | exact ⟨rfl,rfl⟩ | (simp;done))
 simp only[HY,Ak] at hr;obtain ⟨⟨Du,SV,KC⟩,g14,hr⟩:=bE hr;try simp only[go_sem,HY]
 refine Cq (Abt x6 _ g14) ?_;cases HW:decide (KC=0)
 . simp only[HW,Aj] at hr;(try simp only[go_sem,HW]);refine Aad rfl ?_;cases hr;(try simp only[go_sem]);all_goals ((try refine BX ?_);(try simp only[go_sem]);try first | rfl | exact ⟨rfl,rfl⟩ | (simp;done))
 simp only[HW,Ak] at hr;obtain ⟨⟨OX,KB⟩,g18,hr⟩:=bE hr;try simp only[go_sem,HW]
 refine Cq (Abs (⟨Du.blocks,Du.next,Du.spurs,Du.B6,Du.cq,Du.ca,Du.cd,Du.cp⟩:Nt) _ g18) ?_;obtain ⟨R9,g20,hr⟩:=bE hr;try simp only[go_sem]
 refine Cq (Abu (⟨Du.blocks,Du.next,Du.spurs,Du.B6,Du.cq,Du.ca,Du.cd,Du.cp⟩:Nt) _ g20) ?_;cases MF:R9
 . simp only[MF,Aj] at hr;cases IW:decide (OX.cap<((Du.B6.length:Nat):Int))
   . simp only[IW,Aj] at hr;(try simp only[go_sem,MF,IW]);refine Dp [(7,.box [.p (.sl (CX Du.blocks)),.p (.sl (Cj Du.next)),.p (.sl (CR Du.spurs)),.p (.sl (BZ Du.B6)),.p (.int .i64 Du.cq),.p (.int .i64 Du.ca),.p (.int .i64 Du.cd),.p (.int .i64 Du.cp)]),(8,.box [.p (.int .i64 OX.Ix),.p (.sl (BZ OX.HU)),.p (.int .i64 OX.Cs),.p (.int .i64 OX.cap)])] mixed (p:=[(0,0),(1,0),(2,0),(3,2),(4,2),(5,0),(6,0)]) (by kernel_rfl) (by simp[C8,get]) ?_;cases hr;(try simp only[go_sem]);all_goals ((try refine BX ?_);(try simp only[go_sem]);try first | rfl | exact ⟨rfl,rfl⟩ | (simp;done))
   simp only[IW,Ak] at hr;(try simp only[go_sem,MF,IW]);refine Aad rfl ?_;cases hr;(try simp only[go_sem]);all_goals ((try refine BX ?_);(try simp only[go_sem]);try first | rfl | exact ⟨rfl,rfl⟩ | (simp;done))
 simp only[MF,Ak] at hr;try simp only[go_sem,MF]
 refine Aad rfl ?_;cases hr;try simp only[go_sem]
 all_goals ((try refine BX ?_);(try simp only[go_sem]);try first | rfl | exact ⟨rfl,rfl⟩ | (simp;done))
def F4:List Da->Int
 | []=>0
 | s::r=>(if s.CE=true then s.Cs else 0)+F4 r
theorem Se(l:List Da)(s:Da):F4 (l++[s])=F4 l+(if s.CE=true then s.Cs else 0):=by
 induction l with
 | nil=>simp[F4]
 | cons x r ih=>simp only[A6,F4,ih];omega
theorem TF{nb:Nat}{l:List Da}(h:EE nb l):∀k,k<=l.length->0<=F4 (l.take k)/\F4 (l.take k)<=4*k
 | 0,_=>by simp[F4]
 | k+1,hk=>by
   have h1:=TF h k (by omega);obtain ⟨_,_,_,_,h5,h6,_⟩:=h k (by omega);rw[CI l k Cu (by omega),Se];split<;>omega
def HQ(n:Nt):List Bool:=List.replicate n.next.length false
def RZ(n:Nt):FT:=
 let w:=FE n.next (HQ n)
 let s:=F4 n.spurs
 ⟨((w.length:Nat):Int),w,s,if 0<w.length/\((w.length:Nat):Int) - 1<s then ((w.length:Nat):Int) - 1 else s⟩
theorem Px{g:List (List Int)}(hg:DV g)(sh:List Bool):(FE g sh).length<=25:=by
 have:=Mq hg sh g.length (Ai _);rw[AA (by simp)] at this;exact this
theorem WR(n:Nt)(hs:F3 n):K2 n=some (if validN n then (RZ n,0) else (⟨0,[],0,0⟩,20)):=by
 unfold K2;have hv:=Al9 n hs;rw[show (⟨n.blocks,n.next,n.spurs,n.B6,n.cq,n.ca,n.cd,n.cp⟩:Nt)=n from rfl,hv];simp only[Aa];by_cases hn:validN n
 . obtain ⟨hg,_,hl⟩:=DN hn;have H8:EE n.blocks.length n.spurs:=hn.2.2.2.2.2.1;have h6:n.spurs.length<=6:=hn.2.1;have VC:=hg.1;rw[if_pos hn,Ag hn];have c1:decide (n.next.length<10000000)=true:=Ag (by omega);have hsl:CC (Jp n) (0,((0:Nat):Int))=some (F4 n.spurs,((n.spurs.length:Nat):Int)):=by
     refine Dk (step:=Jp n) n.spurs.length (λ k=>(F4 (n.spurs.take k),((k:Nat):Int))) _ (λ k hk=>?_) ?_
     . (try dsimp only);have hr:=TF H8 k (by omega);obtain ⟨_,_,_,_,h5,h6,_⟩:=H8 k hk;rw[Jp.eq_1];simp only[E1 hk,Ak,Cr _ _ Cu hk,Aa];rw[CI n.spurs k Cu hk,Se,CA (by omega)];cases hd:(n.spurs.getD k Cu).CE
       . simp only[Aj];simp
       . simp only[Ak,AP];rw[B3 (by omega) (by omega)]
     . (try dsimp only);rw[Jp.eq_1];simp only[FA,Aj];rw[Ar]
   simp only[Ak,c1];rw[Agm hg (by simp)];simp only[Aa];rw[show ((0:Int),(0:Int))=((0:Int),((0:Nat):Int)) from rfl,hsl];simp only[Aa];have hgl:=Px hg (List.replicate n.next.length false);unfold RZ HQ;dsimp only;by_cases c2:0<(FE n.next (List.replicate n.next.length false)).length
   . rw[Ag (show (0:Int)<(((FE n.next (List.replicate n.next.length false)).length:Nat):Int) by omega)];simp only[Ak];rw[B3 (by omega) (by omega)];by_cases c3:(((FE n.next (List.replicate n.next.length false)).length:Nat):Int) - 1<F4 n.spurs
     . rw[if_pos c3,if_pos ⟨c2,c3⟩]
     . rw[if_neg c3,if_neg (λ h=>c3 h.2)]
   . rw[Ah (show ¬(0:Int)<(((FE n.next (List.replicate n.next.length false)).length:Nat):Int) by omega)];simp only[Aj];rw[if_neg (λ h=>c2 h.1)]
 . rw[if_neg hn,Ah hn];simp only[Aj]
def PY(r:List UInt8):List UInt8:=[98,108,111,99,107,32,97,32,48,32,48,10,98,108,111,99,107,32,98,32,49,32,48,32,35,32,116,104,101,32,111,116,104,101,114,32,111,110,101,10,108,97,110,101,32,97,32,98,32,97,10,100,101,112,111,116,32,100,32,97,32,98,32,50,10]++r
def QO:List UInt8:=[114,111,98,111,116,32,100,32,50,10]
def QN:List UInt8:=[114,111,98,111,116,32,100,32,49,10,114,111,98,111,116,32,100,32,50,10]
def exN(l:List Int):Nt:=⟨[⟨[97],0,0⟩,⟨[98],1,0⟩],[[1],[0]],[⟨[100],true,0,1,2,2⟩],l,4,2,1,8⟩
theorem Bcu:(CN (PY QO)).2=(0,0):=by kernel_rfl
theorem Bct:(CN (PY QN)).2=(0,0):=by kernel_rfl
theorem Bcs:(parseV (CN (PY QO)).1 []).2=(0,0):=by kernel_rfl
theorem Bcr:(parseV (CN (PY QN)).1 []).2=(0,0):=by kernel_rfl
theorem Bcy:nbuildV (parseV (CN (PY QO)).1 []).1=(exN [3],0,0):=by kernel_rfl
theorem Bcx:nbuildV (parseV (CN (PY QN)).1 []).1=(exN [2,3],0,0):=by kernel_rfl
theorem Bcq:validN (exN [3]):=by decide
theorem Bcp:validN (exN [2,3]):=by decide
theorem Ae0{g:List (List Int)}(hg:DV g){v:Nat}(hv:v<g.length):VA g.length v (g.getD v []):=λ k hk=>by
 have h:=hg.2 v hv k hk;unfold JK at h;unfold okE;have h1:decide ((g.getD v []).getD k 0<0)=false:=Ah (by omega);have h2:decide ((g.length:Int)<=(g.getD v []).getD k 0)=false:=Ah (by omega);have h3:decide ((g.getD v []).getD k 0=(v:Int))=false:=Ah (by omega);rw[h1,h2,h3];by_cases c:k=0
 . rw[Ag c];rfl
 . have h4:decide ((g.getD v []).getD k 0<=(g.getD v []).getD (k - 1) 0)=false:=Ah (by have:=h.2.2.2 (by omega);omega);rw[h4];simp
theorem Aiw{g:List (List Int)}(hg:DV g){sh:List Bool}(H9:sh.length=g.length):JX g sh=some (Fz g sh,0):=by
 have Dq:∀v,v<g.length->(g.getD v []).length<=2000000:=λ v hv=>by have:=Ja hg hv;omega
 have DD:∀r∈g,r.length<=2000000:=λ r hr=>by
   obtain ⟨u,hu,rfl⟩:=AD.1 hr;have e1:g.getD u []=g[u]:=getD_eq hu;have:=Dq u hu;rw[e1] at this;exact this
 have hc:EY g sh=some 0:=by
   rw[Oi g sh Dq];have h1:=hg.1;have h2:∀v,v<g.length->VA g.length v (g.getD v []):=λ v hv=>Ae0 hg hv;rw[if_neg (by omega),if_pos (λ v hv=>Ag (h2 v hv)),if_pos H9]
 unfold JX;rw[if_pos DD,hc];rfl
theorem WS(n:Nt)(hg:DV n.next):K3 n=some (!(Fz n.next (HQ n)).all λ x=>decide (x=0)):=by
 have hn:=Ry n.next (HQ n)
 have h1:=hg.1;unfold K3;have c1:decide (n.next.length<10000000)=true:=Ag (by omega);simp only[c1,Ak];rw[Aiw hg (by simp)];simp only[Aa]
 change (Option.bind (CC (Jq (Fz n.next (HQ n))) 0) _)=_
 have hl:(Fz n.next (HQ n)).length<=24:=by rw[hn.1];exact h1
 generalize Fz n.next (HQ n)=l at hl
 have:=EM (step:=Jq l) l.length (λ k=>((k:Nat):Int)) (Sum.inl ((l.length:Nat):Int)) (Sum.inr true) (λ k=>decide (l.getD k 0=0)) (λ k hk _=>?_) (λ _=>?_)
 . rw[show ((0:Nat):Int)=0 from rfl] at this;rw[this];by_cases c:∀j,j<l.length->decide (l.getD j 0=0)=true
   . rw[if_pos c];have:(l.all λ x=>decide (x=0))=true:=by
       rw[AB];intro x hx;obtain ⟨j,hj,rfl⟩:=AD.1 hx;have e1:l.getD j 0=l[j]:=getD_eq hj;rw[<-e1];exact c j hj
     rw[this];rfl
   . rw[if_neg c];have:(l.all λ x=>decide (x=0))=false:=by
       cases h:l.all λ x=>decide (x=0)
       . rfl
       . rw[AB] at h;refine absurd (λ j hj=>?_) c;have e1:l.getD j 0=l[j]:=getD_eq hj;rw[e1];exact h _ (AN hj)
     rw[this];rfl
 . rw[Jq.eq_1];simp only[E1 hk,Ak,Cr _ _ 0 hk,Aa];rw[CA (by omega)];by_cases c:l.getD k 0=0
   . simp only[Ag c,Ak,AP]
   . simp only[Ah c,Aj];rfl
 . rw[Jq.eq_1];simp only[FA,Aj]
theorem Az5:Fz [[1],[0]] [false,false]=[0,0]:=by
 have h01:I8 [[1],[0]] [false,false] 0 1:= .tail (.refl 0) ⟨by simp,rfl⟩;have LX:I8 [[1],[0]] [false,false] 1 0:= .tail (.refl 1) ⟨by simp,rfl⟩;refine Rz ⟨rfl,λ v hv=>?_⟩;have Us:v=0∨v=1:=by simp only[An,Ax] at hv;omega
 rcases Us with rfl | rfl
 . exact ⟨λ _=>⟨by decide,0,rfl,.refl 0,.refl 0,λ z _ _=>AE z⟩,λ h=>by cases h⟩
 . exact ⟨λ _=>⟨by decide,0,rfl,LX,h01,λ z _ _=>AE z⟩,λ h=>by cases h⟩
theorem Az4:((CN (PY QO)).1.length<=100/\∀x∈(CN (PY QO)).1,x.fs.length<=100):=by
 have h:(decide ((CN (PY QO)).1.length<=100)&&(CN (PY QO)).1.all λ x=>decide (x.fs.length<=100))=true:=by kernel_rfl
 rw[As,AB] at h;exact ⟨Ad h.1,λ x hx=>Ad (h.2 x hx)⟩
theorem Az3:((CN (PY QN)).1.length<=100/\∀x∈(CN (PY QN)).1,x.fs.length<=100):=by
 have h:(decide ((CN (PY QN)).1.length<=100)&&(CN (PY QN)).1.all λ x=>decide (x.fs.length<=100))=true:=by kernel_rfl
 rw[As,AB] at h;exact ⟨Ad h.1,λ x hx=>Ad (h.2 x hx)⟩
theorem Bcw:smallD (parseV (CN (PY QO)).1 []).1:=by
 have h:(decide ((parseV (CN (PY QO)).1 []).1.length<=100)&&(parseV (CN (PY QO)).1 []).1.all λ x=>decide (x.names.length<=100)&&decide (x.Cb.length<=100))=true:=by kernel_rfl
 simp only[As,AB,Au] at h;exact ⟨by omega,λ x hx=>by have:=h.2 x hx;omega⟩
theorem Bcv:smallD (parseV (CN (PY QN)).1 []).1:=by
 have h:(decide ((parseV (CN (PY QN)).1 []).1.length<=100)&&(parseV (CN (PY QN)).1 []).1.all λ x=>decide (x.names.length<=100)&&decide (x.Cb.length<=100))=true:=by kernel_rfl
 simp only[As,AB,Au] at h;exact ⟨by omega,λ x hx=>by have:=h.2 x hx;omega⟩
theorem exC(l:List Int):RZ (exN l)=⟨2,[0,1],2,1⟩:=by
 have h:RZ (exN [])=⟨2,[0,1],2,1⟩:=by kernel_rfl
 exact h
theorem ZZ{s:List UInt8}{ls:List Ln}{d:List Dc}{n:Nt}(h1:CN s=(ls,0,0))(hl:ls.length<=100000/\∀x∈ls,x.fs.length<=100000)(h2:parseV ls []=(d,0,0))(hd:smallD d)(h3:nbuildV d=(n,0,0))(hv:validN n):
   Ih s=some (if ((Fz n.next (HQ n)).all λ x=>decide (x=0))=false then (⟨[],[],[],[],0,0,0,0⟩,⟨0,[],0,0⟩,0,17) else if (RZ n).cap<((n.B6.length:Nat):Int) then (⟨[],[],[],[],0,0,0,0⟩,⟨0,[],0,0⟩,0,18) else (n,RZ n,0,0)):=by
 have hs:=Ev hv;have hg:=(DN hv).1;unfold Ih Qp;rw[h1];simp only[Aa,BS,Ak];have hp:lParse_v ls=some (d,0,0):=by
   unfold lParse_v;rw[if_pos ⟨by omega,λ x hx=>by have:=hl.2 x hx;omega⟩,h2]
 have hb:lBuild_v d=some (n,0,0):=by
   unfold lBuild_v;rw[if_pos hd,h3]
 rw[hp];simp only[Aa,BS,Ak];rw[hb];simp only[Aa,BS,Ak];rw[show (⟨n.blocks,n.next,n.spurs,n.B6,n.cq,n.ca,n.cd,n.cp⟩:Nt)=n from rfl,WR n hs,if_pos hv,WS n hg];simp only[Aa];cases (Fz n.next (HQ n)).all λ x=>decide (x=0)
 . simp
 . simp only[Bool.not_true,Aj];rw[if_neg (by simp)];by_cases c:(RZ n).cap<((n.B6.length:Nat):Int)
   . rw[Ag c,if_pos c];rfl
   . rw[Ah c,if_neg c];rfl
theorem As6:Ih (PY QO)=some (exN [3],⟨2,[0,1],2,1⟩,0,0):=by
 rw[ZZ (ls:=(CN (PY QO)).1) (d:=(parseV (CN (PY QO)).1 []).1) (n:=exN [3]) (by rw[<-Bcu]) ⟨by have:=Az4.1;omega,λ x hx=>by have:=Az4.2 x hx;omega⟩ (by rw[<-Bcs]) Bcw Bcy Bcq,exC];rw[show Fz (exN [3]).next (HQ (exN [3]))=[0,0] from Az5];rfl
theorem As5:Ih (PY QN)=some (⟨[],[],[],[],0,0,0,0⟩,⟨0,[],0,0⟩,0,18):=by
 rw[ZZ (ls:=(CN (PY QN)).1) (d:=(parseV (CN (PY QN)).1 []).1) (n:=exN [2,3]) (by rw[<-Bct]) ⟨by have:=Az3.1;omega,λ x hx=>by have:=Az3.2 x hx;omega⟩ (by rw[<-Bcr]) Bcv Bcx Bcp,exC];rw[show Fz (exN [2,3]).next (HQ (exN [2,3]))=[0,0] from Az5];rfl
structure Gok(g:List (List Int))(sh:List Bool):Prop where
 n24:g.length<=24
 shl:sh.length=g.length
 rng:∀v k,k<(g.getD v []).length->∃w:Nat,(g.getD v []).getD k 0=(w:Int)/\w<g.length
 rl:∀v,(g.getD v []).length<=100000
theorem Gok.mem{g:List (List Int)}{sh:List Bool}(h:Gok g sh){v:Nat}{y:Int}(hy:y∈g.getD v []):∃w:Nat,y=(w:Int)/\w<g.length:=by
 obtain ⟨k,hk,rfl⟩:=AD.1 hy;have:=h.rng v k hk;rwa[getD_eq hk] at this
def VJ(sh:List Bool)(s:List Int×List Bool)(y:Int):List Int×List Bool:=
 if sh.getD y.toNat false=false/\s.2.getD y.toNat false=false then (s.1++[y],s.2.set y.toNat true) else s
structure Atu(sh:List Bool)(row:List Int)(s s':List Int×List Bool):Prop where
 len:s'.2.length=s.2.length
 mono:∀w,s.2.getD w false=true->s'.2.getD w false=true
 new:∀w:Nat,s'.2.getD w false=true->s.2.getD w false=true∨((w:Int)∈row/\sh.getD w false=false/\(w:Int)∈s'.1)
 sub:∀x∈s.1,x∈s'.1
 add:∀x∈s'.1,x∈s.1∨∃w:Nat,x=(w:Int)/\s'.2.getD w false=true
 all:∀w:Nat,(w:Int)∈row->sh.getD w false=false->s'.2.getD w false=true
 z7:s'.1.length+s'.2.count false=s.1.length+s.2.count false
 tl:s'.1.length<=s.1.length+row.length
theorem XR(sh:List Bool):∀(row:List Int) (s:List Int×List Bool),(∀y∈row,∃w:Nat,y=(w:Int)/\w<s.2.length)->Atu sh row s (row.foldl (VJ sh) s)
 | [],s,_=>⟨rfl,λ _ h=>h,λ _ h=> .inl h,λ _ h=>h,λ _ h=> .inl h,(λ w h=>by cases h),rfl,Ai _⟩
 | y::row,s,hr=>by
   obtain ⟨w0,rfl,MD⟩:=hr y (List.mem_cons_self);have Adt:(VJ sh s (w0:Int)).2.length=s.2.length:=by unfold VJ;split<;>simp
   have ih:=XR sh row (VJ sh s (w0:Int)) (λ y hy=>by rw[Adt];exact hr y (List.mem_cons_of_mem _ hy));rw[Bs];by_cases hc:sh.getD w0 false=false/\s.2.getD w0 false=false
   . have e:VJ sh s (w0:Int)=(s.1++[(w0:Int)],s.2.set w0 true):=by unfold VJ;rw[Ab,if_pos hc]
     have g0:∀w,(s.2.set w0 true).getD w false=if w=w0 then true else s.2.getD w false:=λ w=>Fg _ _ _ _ _ MD
     rw[e] at ih ⊢;refine ⟨by rw[ih.len];simp,λ w h=>ih.mono w (by rw[g0];split;rfl;exact h),λ w h=>?_,λ x hx=>ih.sub x (by simp[hx]),λ x hx=>?_,λ w hw ho=>?_,?_,?_⟩
     . rcases ih.new w h with h1 | ⟨h1,h2,h3⟩
       . simp only at h1;rw[g0] at h1;by_cases e1:w=w0
         . subst e1;exact .inr ⟨List.mem_cons_self,hc.1,ih.sub _ (by simp)⟩
         . rw[if_neg e1] at h1;exact .inl h1
       . exact .inr ⟨List.mem_cons_of_mem _ h1,h2,h3⟩
     . rcases ih.add x hx with h1 | h1
       . simp only[Aw,Ay] at h1;rcases h1 with h1 | rfl
         . exact .inl h1
         . exact .inr ⟨w0,rfl,ih.mono w0 (by simp only;rw[g0,if_pos rfl])⟩
       . exact .inr h1
     . rcases AG.1 hw with h1 | h1
       . have:w=w0:=by omega
         subst this;exact ih.mono w (by simp only;rw[g0,if_pos rfl])
       . exact ih.all w h1 ho
     . rw[ih.z7];simp only[Aq,An,Ax];rw[List.count_set MD];have e2:s.2[w0]=false:=by have:=hc.2;rwa[getD_eq MD] at this
       rw[e2];have:0<s.2.count false:=List.count_pos_iff.2 (by rw[<-e2];exact AN MD);simp;omega
     . have:=ih.tl;simp only[Aq,An,Ax] at this ⊢;omega
   . have e:VJ sh s (w0:Int)=s:=by unfold VJ;rw[Ab,if_neg hc]
     rw[e] at ih ⊢;refine ⟨ih.len,ih.mono,λ w h=>?_,ih.sub,ih.add,λ w hw ho=>?_,ih.z7,?_⟩
     . rcases ih.new w h with h1 | ⟨h1,h2,h3⟩
       . exact .inl h1
       . exact .inr ⟨List.mem_cons_of_mem _ h1,h2,h3⟩
     . rcases AG.1 hw with h1 | h1
       . have:w=w0:=by omega
         subst this;refine ih.mono w ?_;cases h9:s.2.getD w false with
         | true=>rfl
         | false=>exact absurd ⟨ho,h9⟩ hc
       . exact ih.all w h1 ho
     . have:=ih.tl;simp only[An];omega
structure SI(g:List (List Int))(sh:List Bool)(v:Nat)(t:List Int)(m:List Bool):Prop where
 mn:∀w,m.getD w false=true->w<g.length/\sh.getD w false=false/\I8 g sh v w
 tm:∀x∈t,∃w:Nat,x=(w:Int)/\m.getD w false=true
 mv:m.getD v false=true
 cl:∀u,m.getD u false=true->(u:Int)∉t->∀w,Ed g sh u w->m.getD w false=true
 ml:g.length<=m.length
theorem SI.step{g:List (List Int)}{sh:List Bool}{v u:Nat}{t t1:List Int}{m:List Bool}(hg:Gok g sh)(h:SI g sh v t m)(hu:(u:Int)∈t)(h1:∀x∈t,x=(u:Int)∨x∈t1)(h2:∀x∈t1,x∈t):
   Atu sh (g.getD u []) (t1,m) ((g.getD u []).foldl (VJ sh) (t1,m))/\SI g sh v ((g.getD u []).foldl (VJ sh) (t1,m)).1 ((g.getD u []).foldl (VJ sh) (t1,m)).2:=by
 have Y0:=XR sh (g.getD u []) (t1,m) (λ y hy=>by
   obtain ⟨w,e,hw⟩:=hg.mem hy;exact ⟨w,e,Nat.lt_of_lt_of_le hw h.ml⟩)
 generalize (g.getD u []).foldl (VJ sh) (t1,m)=s' at Y0 ⊢;obtain ⟨w0,MD,hmu⟩:=h.tm _ hu;have Bbb:w0=u:=by omega
 subst Bbb;refine ⟨Y0,λ w hw=>?_,λ x hx=>?_,Y0.mono v h.mv,λ u2 KE hn w hw=>?_,by rw[Y0.len];exact h.ml⟩
 . rcases Y0.new w hw with h3 | ⟨h3,h4,_⟩
   . exact h.mn w h3
   . obtain ⟨w2,e,Cv⟩:=hg.mem h3;have:w2=w:=by omega
     subst this;exact ⟨Cv,h4,(h.mn _ hmu).2.2.tail ⟨h3,h4⟩⟩
 . rcases Y0.add x hx with h3 | h3
   . obtain ⟨w,e,hw⟩:=h.tm x (h2 x h3);exact ⟨w,e,Y0.mono w hw⟩
   . exact h3
 . rcases Y0.new u2 KE with h3 | ⟨_,_,h5⟩
   . by_cases N9:(u2:Int)∈t
     . rcases h1 _ N9 with h4 | h4
       . have:u2=w0:=by omega
         subst this;exact Y0.all w hw.1 hw.2
       . exact absurd (Y0.sub _ h4) hn
     . exact Y0.mono w (h.cl u2 h3 N9 w hw)
   . exact absurd h5 hn
theorem SI.done{g:List (List Int)}{sh:List Bool}{v:Nat}{m:List Bool}(h:SI g sh v [] m)(w:Nat):m.getD w false=true↔I8 g sh v w:=by
 constructor
 . exact λ hw=>(h.mn w hw).2.2
 . intro hr
   induction hr with
   | refl=>exact h.mv
   | tail _ e ih=>exact h.cl _ ih (by simp) _ e
theorem SI.init{g:List (List Int)}{sh:List Bool}{v n:Nat}(hv:v<g.length)(hn:g.length<=n)(ho:sh.getD v false=false):SI g sh v [(v:Int)] ((List.replicate n false).set v true):=by
 have g0:∀w,((List.replicate n false).set v true).getD w false=if w=v then true else false:=λ w=>by
   rw[Fg _ _ _ _ _ (by simp;omega)];split
   . rfl
   . simp only[List.getD,Bo];split<;>rfl
 refine ⟨λ w hw=>?_,λ x hx=>?_,by rw[g0,if_pos rfl],λ u hu hn2=>?_,by simp;omega⟩
 . rw[g0] at hw;split at hw
   . rename_i e;subst e;exact ⟨hv,ho,.refl _⟩
   . cases hw
 . simp at hx;exact ⟨v,hx,by rw[g0,if_pos rfl]⟩
 . rw[g0] at hu;split at hu
   . rename_i e;subst e;exact absurd (by simp) hn2
   . cases hu
theorem Acf{α β:Type}(f:β->α->β)(l:List α)(i:Nat)(s:β)(d:α)(h:i<l.length):(l.take (i+1)).foldl f s=f ((l.take i).foldl f s) (l.getD i d):=by
 rw[CI l i d h,List.foldl_append];rfl
def YP(g:List (List Int)):Prop:=g.length<=24/\∀v,v<g.length->VA g.length v (g.getD v [])
theorem X1{n v:Nat}{r:List Int}(h:VA n v r){i:Nat}(hi:i<r.length):0<=r.getD i 0/\r.getD i 0<(n:Int)/\r.getD i 0≠(v:Int)/\(0<i->r.getD (i - 1) 0<r.getD i 0):=by
 have:=h i hi;unfold okE at this;simp only[As,Bool.or_eq_true,Bool.not_eq_true',Bn,Au] at this;obtain ⟨⟨⟨h1,h2⟩,h3⟩,h4⟩:=this;exact ⟨by omega,by omega,h3,λ h=>by omega⟩
theorem Al8{n v:Nat}{r:List Int}(h:VA n v r):∀i,i<r.length->(i:Int)<=r.getD i 0
 | 0,hi=>by have:=(X1 h hi).1;omega
 | i+1,hi=>by
   have h1:=Al8 h i (by omega);have h2:=(X1 h hi).2.2.2 (by omega);have e:i+1 - 1=i:=rfl;rw[e] at h2;omega
theorem Tk{n v:Nat}{r:List Int}(h:VA n v r):r.length<=n:=by
 rcases BT r.length with h0 | h0
 . omega
 . have h1:=Al8 h (r.length - 1) (by omega);have h2:=(X1 h (i:=r.length - 1) (by omega)).2.1;omega
theorem YP.ok{g:List (List Int)}{sh:List Bool}(h:YP g)(hs:sh.length=g.length):Gok g sh:=by
 refine ⟨h.1,hs,λ v k hk=>?_,λ v=>?_⟩
 . by_cases hv:v<g.length
   . have:=X1 (h.2 v hv) hk;exact ⟨((g.getD v []).getD k 0).toNat,by omega,by omega⟩
   . rw[List.getD,List.getElem?_eq_none (by omega)] at hk;exact absurd hk (A0 _)
 . by_cases hv:v<g.length
   . have:=Tk (h.2 v hv);have:=h.1;omega
   . rw[List.getD,List.getElem?_eq_none (by omega)];simp
theorem Aqt{g:List (List Int)}{r:List Int}(h:r∈g):∃v,v<g.length/\g.getD v []=r:=by
 obtain ⟨v,hv,rfl⟩:=AD.1 h;exact ⟨v,hv,getD_eq hv⟩
theorem YP.check{g:List (List Int)}{sh:List Bool}(h:YP g)(hs:sh.length=g.length):EY g sh=some 0:=by
 rw[Oi g sh (λ v hv=>by have:=Tk (h.2 v hv);have:=h.1;omega),if_neg (by have:=h.1;omega),if_pos (λ v hv=>Ag (h.2 v hv)),if_pos hs]
theorem YP.names{g:List (List Int)}{sh:List Bool}(h:YP g)(hs:sh.length=g.length):JX g sh=some (Fz g sh,0):=by
 unfold JX;rw[if_pos (λ r hr=>by
   obtain ⟨v,hv,rfl⟩:=Aqt hr;have:=Tk (h.2 v hv);have:=h.1;omega),h.check hs]
 rfl
theorem I8.lt{g:List (List Int)}{sh:List Bool}(hg:Gok g sh){v w:Nat}(h:I8 g sh v w)(hv:v<g.length):w<g.length:=by
 cases h with
 | refl=>exact hv
 | tail _ e=>
   obtain ⟨w2,e2,hw2⟩:=hg.mem e.1;omega
theorem HI.lt{g:List (List Int)}{sh:List Bool}(hg:Gok g sh){l:List Int}(h:HI g sh l){v:Nat}(hv:v<g.length):l.getD v (-1)<(g.length:Int):=by
 cases c:sh.getD v false with
 | true=>rw[(h.2 v hv).2 c];omega
 | false=>
   obtain ⟨_,y,e,h1,_⟩:=(h.2 v hv).1 c;rw[e];have:=h1.lt hg hv;omega
theorem HI.name{g:List (List Int)}{sh:List Bool}(hg:Gok g sh){nm:List Int}(hn:HI g sh nm){v:Nat}(hv:v<g.length)(h0:0<=nm.getD v (-1)):
   ∃y:Nat,nm.getD v (-1)=(y:Int)/\y<g.length/\sh.getD v false=false/\sh.getD y false=false/\nm.getD y (-1)=(y:Int)/\y<=v/\I8 g sh v y/\I8 g sh y v:=by
 have hvo:sh.getD v false=false:=by
   cases c:sh.getD v false with
   | true=>have:=(hn.2 v hv).2 c;omega
   | false=>rfl
 obtain ⟨_,y,e,h1,h2,h3⟩:=(hn.2 v hv).1 hvo;have hy:=h1.lt hg hv;have hyo:sh.getD y false=false:=by
   cases h1 with
   | refl=>exact hvo
   | tail _ e=>exact e.2
 refine ⟨y,e,hy,hvo,hyo,?_,h3 v (.refl v) (.refl v),h1,h2⟩;obtain ⟨_,h4⟩:=(hn.2 y hy).1 hyo;have h5:R6 g sh y (y:Int):=⟨y,rfl,.refl y,.refl y,λ z hz hz2=>h3 z (h1.trans hz) (hz2.trans h2)⟩;exact h4.uniq h5
theorem HI.same{g:List (List Int)}{sh:List Bool}{nm:List Int}(hn:HI g sh nm){v w:Nat}(hv:v<g.length)(hw:w<g.length)(hvo:sh.getD v false=false)(hwo:sh.getD w false=false)(h1:I8 g sh v w)(h2:I8 g sh w v):nm.getD v (-1)=nm.getD w (-1):=by
 obtain ⟨_,y,e,a1,a2,a3⟩:=(hn.2 v hv).1 hvo;have:R6 g sh w (y:Int):=⟨y,rfl,h2.trans a1,a2.trans h1,λ z b1 b2=>a3 z (h1.trans b1) (b2.trans h2)⟩;rw[e];exact this.uniq ((hn.2 w hw).1 hwo).2
theorem Abg{g:List (List Int)}{sh:List Bool}(hg:Gok g sh){nm:List Int}(hn:HI g sh nm){v w:Nat}(hv:v<g.length)(hw:w<g.length):
   ((sh.getD v false=false/\I8 g sh v w)/\(sh.getD w false=false/\I8 g sh w v))↔(0<=nm.getD v (-1)/\nm.getD v (-1)=nm.getD w (-1)):=by
 constructor
 . rintro ⟨⟨h1,h2⟩,h3,h4⟩;exact ⟨((hn.2 v hv).1 h1).1,hn.same hv hw h1 h3 h2 h4⟩
 . rintro ⟨h1,h2⟩;obtain ⟨y,ey,_,hvo,_,_,_,vy,yv⟩:=hn.name hg hv h1;obtain ⟨z,ez,_,hwo,_,_,_,wz,zw⟩:=hn.name hg hw (by rw[<-h2];exact h1);have:y=z:=by omega
   subst this;exact ⟨⟨hvo,vy.trans zw⟩,hwo,wz.trans yv⟩
def REp(g:List (List Int))(V K:Nat)(w:Nat)(x:Int):Prop:=∃v k:Nat,(v<V∨v=V/\k<K)/\v<g.length/\k<(g.getD v []).length/\(g.getD v []).getD k 0=(w:Int)/\x=(v:Int)
theorem REp.succ{g:List (List Int)}{V K:Nat}(hV:V<g.length)(hK:K<(g.getD V []).length)(w:Nat)(x:Int):REp g V (K+1) w x↔REp g V K w x∨((g.getD V []).getD K 0=(w:Int)/\x=(V:Int)):=by
 constructor
 . rintro ⟨v,k,h1,h2⟩;by_cases h3:v=V/\k=K
   . obtain ⟨rfl,rfl⟩:=h3;exact .inr h2.2.2
   . exact .inl ⟨v,k,by omega,h2⟩
 . rintro (⟨v,k,h1,h2⟩ | h2)
   . exact ⟨v,k,by omega,h2⟩
   . exact ⟨V,K,by omega,hV,hK,h2⟩
theorem REp.next{g:List (List Int)}{V:Nat}(w:Nat)(x:Int):REp g (V+1) 0 w x↔REp g V (g.getD V []).length w x:=by
 constructor
 . rintro ⟨v,k,h1,h2⟩;by_cases e:v=V
   . subst e;exact ⟨v,k,.inr ⟨rfl,h2.2.1⟩,h2⟩
   . exact ⟨v,k,by omega,h2⟩
 . rintro ⟨v,k,h1,h2⟩;exact ⟨v,k,by omega,h2⟩
def Aq0(g:List (List Int))(sh:List Bool):Prop:=(∃v,v<g.length/\sh.getD v false=false)/\∀v w,v<g.length->w<g.length->sh.getD v false=false->sh.getD w false=false->I8 g sh v w
theorem Zx(n v:Nat):(List.replicate n false).getD v false=false:=by
 simp only[List.getD,Bo];split<;>rfl
theorem Aj5{g:List (List Int)}(hv:YP g)(h1:0<g.length):(∀v,v<g.length->(Fz g (List.replicate g.length false)).getD v (-1)=0)↔Aq0 g (List.replicate g.length false):=by
 have hs:(List.replicate g.length false).length=g.length:=by simp
 have hg:=hv.ok hs;have hn:=Ry g (List.replicate g.length false);generalize H9:List.replicate g.length false=sh at*;have ho:∀v,sh.getD v false=false:=λ v=>by rw[<-H9];exact Zx _ _
 generalize Fz g sh=nm at hn ⊢;constructor
 . intro h;refine ⟨⟨0,h1,ho 0⟩,λ v w hv hw _ _=>?_⟩;have hm:=(Abg hg hn hv hw).2 ⟨by rw[h v hv];omega,by rw[h v hv,h w hw]⟩;exact hm.1.2
 . rintro ⟨_,DD⟩ v hv;obtain ⟨y,ey,hy,_,_,hyy,_,_,_⟩:=hn.name hg hv ((hn.2 v hv).1 (ho v)).1;obtain ⟨_,z,ez,_,_,hz⟩:=(hn.2 v hv).1 (ho v);have:=hz 0 (DD v 0 hv h1 (ho v) (ho 0)) (DD 0 v h1 hv (ho 0) (ho v));rw[ez];omega
theorem Ako(g:List (List Int))(sh:List Bool)(u:Nat)(hu:u<g.length)(t:List Int)(m:List Bool)(hm:m.length=sh.length)(hr:∀y∈g.getD u [],∃w:Nat,y=(w:Int)/\w<sh.length)(hl:(g.getD u []).length<=100000)(hb:t.length+m.count false<=100):
   CC (Hg g sh (u:Int)) (t,m,0)=some (((g.getD u []).foldl (VJ sh) (t,m)).1,((g.getD u []).foldl (VJ sh) (t,m)).2,(((g.getD u []).length:Nat):Int)):=by
 have hg:CK g (u:Int)=some (g.getD u []):=Cr g u [] hu;generalize g.getD u []=row at hr hl hg ⊢;have J5:∀y∈row,∃w:Nat,y=(w:Int)/\w<(t,m).2.length:=λ y hy=>by
   obtain ⟨w,e,hw⟩:=hr y hy;exact ⟨w,e,by simp only;omega⟩
 have h:=Dk (step:=Hg g sh (u:Int)) row.length (λ i=>(((row.take i).foldl (VJ sh) (t,m)).1,((row.take i).foldl (VJ sh) (t,m)).2,((i:Nat):Int)))
   ((row.foldl (VJ sh) (t,m)).1,(row.foldl (VJ sh) (t,m)).2,((row.length:Nat):Int)) ?_ ?_
 . simpa using h
 . intro i hi;have Y0:=XR sh (row.take i) (t,m) (λ y hy=>J5 y (Bv hy));have e1:=Acf (VJ sh) row i (t,m) 0 hi;rw[e1];generalize (row.take i).foldl (VJ sh) (t,m)=s at Y0 ⊢;have l1:=Y0.len;have l2:=Y0.z7;simp only at l1 l2;obtain ⟨w,ew,hw⟩:=hr (row.getD i 0) (by rw[getD_eq hi];exact AN hi);rw[Hg.eq_1,hg,Aa,E1 hi,Ak,Cr row i 0 hi,Aa,ew,Cr sh w false hw,Aa];unfold VJ;rw[Ab];cases c1:sh.getD w false
   . rw[Aj,Cr s.2 w false (by omega),Aa];cases c2:s.2.getD w false
     . rw[Aj,Ag (by omega),Ak,CA (by omega)];simp
     . rw[Ak,CA (by omega)];simp
   . rw[Ak,CA (by omega)];simp
 . simp only[Ar];rw[Hg.eq_1,hg,Aa,FA,Aj]
theorem Akn{g:List (List Int)}{sh:List Bool}(hg:Gok g sh){v:Nat}(t:List Int)(m:List Bool)(hm:m.length=g.length)(h:SI g sh v t m)(hb:t.length+m.count false<=30):
   ∃m',CC (KV g sh) (t,m)=some m'/\m'.length=g.length/\SI g sh v [] m':=by
 refine N3 (step:=KV g sh) (λ s=>s.2.length=g.length/\SI g sh v s.1 s.2/\s.1.length+s.2.count false<=30) (λ s=>s.1.length+s.2.count false) _ ?_ (t,m) ⟨hm,h,hb⟩;clear h hb hm t m;rintro ⟨t,m⟩ ⟨hm,h,hb⟩;simp only at hm h hb;rcases t with _ | ⟨x,t1⟩
 . exact ⟨_,OJ g sh m,hm,h⟩
 obtain ⟨u,rfl,hmu⟩:=h.tm x (by simp);have hu:=(h.mn u hmu).1;obtain ⟨Y0,hsi⟩:=h.step hg (t1:=t1) (u:=u) (by simp) (λ x hx=>by simpa using hx) (λ x hx=>by simp[hx]);simp only[An] at hb;have hc:=Y0.z7;simp only at hc;rw[MX,Ako g sh u hu t1 m (by rw[hm,hg.shl]) (λ y hy=>by rw[hg.shl];exact hg.mem hy) (hg.rl u) (by omega),Aa];refine ⟨_,rfl,⟨by simp only;rw[Y0.len];exact hm,hsi,?_⟩,?_⟩
 . dsimp only;omega
 . dsimp only;simp only[List.length_cons];omega
theorem Akm{g:List (List Int)}{sh:List Bool}(hg:Gok g sh)(v:Nat)(hv:v<g.length):∃m,KU g sh (v:Int)=some m/\m.length=g.length/\∀w,m.getD w false=true↔sh.getD v false=false/\I8 g sh v w:=by
 unfold KU;have h24:=hg.n24;rw[Ag (by omega),Ak,Cr sh v false (by rw[hg.shl];exact hv),Aa];have r0:∀w,(List.replicate g.length false).getD w false=false:=λ w=>by simp only[List.getD,Bo];split<;>rfl
 cases c:sh.getD v false
 . rw[Aj,Cr _ v false (by simp;omega),Aa,Ab];obtain ⟨m',h1,h2,h3⟩:=Akn hg [(v:Int)] ((List.replicate g.length false).set v true) (by simp) (SI.init hv (Ai _) c) (by
     have:=List.count_le_length (a:=false) (l:=(List.replicate g.length false).set v true);simp only[Bz,Bi] at this;simp only[An,Ax];omega)
   rw[h1];exact ⟨m',rfl,h2,λ w=>by rw[h3.done w];simp⟩
 . exact ⟨_,rfl,by simp,λ w=>by rw[r0];simp⟩
theorem Akz(g:List (List Int))(v:Nat)(hv:v<g.length)(hr:(g.getD v []).length<=2000000):CC (NZ g (v:Int)) 0=some (if VA g.length v (g.getD v []) then .inl (((g.getD v []).length:Nat):Int) else .inr false):=by
 have hg:CK g (v:Int)=some (g.getD v []):=Cr g v [] hv;generalize g.getD v []=r at hr hg ⊢;have h:=EM (step:=NZ g (v:Int)) r.length (λ i=>((i:Nat):Int)) (.inl ((r.length:Nat):Int)) (.inr false) (okE g.length v r) ?_ ?_
 . simpa [VA] using h
 . intro i hi _;rw[NZ.eq_1,hg,Aa,E1 hi,Ak,Cr r i 0 hi,Aa];unfold okE;cases c1:decide (r.getD i 0<0)
   . cases c2:decide ((g.length:Int)<=r.getD i 0)
     . cases c3:decide (r.getD i 0=(v:Int))
       . rcases i with _ | i
         . have c4:decide (0<(((0:Nat):Int)))=false:=by decide
           simp only[Aj,c4];rw[CA (by omega)];simp
         . have c4:decide (0<(((i+1:Nat):Int)))=true:=Ag (by omega);have e1:IntKind.i64.wrap (((i+1:Nat):Int) - 1)=((i:Nat):Int):=by
             simp[IntKind.wrap,IntKind.bits,IntKind.signed];omega
           simp only[Aj,Ak,c4,e1];rw[Cr r i 0 (by omega),Aa,CA (by omega)];have e2:i+1 - 1=i:=rfl;rw[e2];cases c5:decide (r.getD (i+1) 0<=r.getD i 0)<;>simp
       . simp
     . simp
   . simp
 . intro _;rw[NZ.eq_1,hg,Aa,FA,Aj]
theorem Ar0(g:List (List Int))(hr:∀v,v<g.length->(g.getD v []).length<=2000000):TW g=some (decide (g.length<=24/\∀v,v<g.length->VA g.length v (g.getD v []))):=by
 unfold TW;by_cases h1:24<((g.length:Nat):Int)
 . rw[Ag h1,Ak,Ah (by omega)]
 . rw[Ah h1,Aj];have h:=EM (step:=Qd g) g.length (λ i=>((i:Nat):Int)) (.inl ((g.length:Nat):Int)) (.inr false) (λ v=>decide (VA g.length v (g.getD v []))) ?_ ?_
   . rw[show (0:Int)=((0:Nat):Int) from rfl,h,Aa];by_cases h2:∀v,v<g.length->decide (VA g.length v (g.getD v []))=true
     . rw[if_pos h2,Ag ⟨by omega,λ v hv=>Ad (h2 v hv)⟩]
     . rw[if_neg h2,Ah (λ h3=>h2 λ v hv=>Ag (h3.2 v hv))]
   . intro v hv _;rw[Qd.eq_1,E1 hv,Ak,Akz g v hv (hr v hv),Aa];by_cases h2:VA g.length v (g.getD v [])
     . rw[if_pos h2,if_pos (Ag h2)];simp only;rw[CA (by omega)]
     . rw[if_neg h2,if_neg (by rw[Ah h2];simp)]
   . intro _;rw[Qd.eq_1,FA,Aj]
theorem ZH(g:List (List Int))(sh:List Bool)(hr:∀v,v<g.length->(g.getD v []).length<=2000000):TX g sh=EY g sh:=by
 unfold TX;rw[Ar0 g hr,Aa,Oi g sh hr];by_cases h1:24<g.length
 . rw[if_pos h1,Ah (by omega),Aj]
 . rw[if_neg h1];by_cases h2:∀v,v<g.length->VA g.length v (g.getD v [])
   . rw[Ag ⟨by omega,h2⟩,Ak,if_pos (λ v hv=>Ag (h2 v hv))];by_cases h3:sh.length=g.length
     . rw[if_pos h3,Ag (by omega),Ak]
     . rw[if_neg h3,Ah (by omega),Aj]
   . rw[Ah (λ h=>h2 h.2),Aj,if_neg (λ h=>h2 λ v hv=>Ad (h v hv))]
theorem Ar1{g:List (List Int)}(hv:YP g)(h0:0<g.length):∃r,Rp g (List.replicate g.length false)=some (r,0)/\(r=true↔Aq0 g (List.replicate g.length false)):=by
 classical
 have hs:(List.replicate g.length false).length=g.length:=by simp
 have hg:=hv.ok hs;have ho:∀v,(List.replicate g.length false).getD v false=false:=λ v=>Zx _ _;have hck:=ZH g (List.replicate g.length false) (λ v h=>by have:=Tk (hv.2 v h);have:=hv.1;omega);rw[hv.check hs] at hck;generalize H9:List.replicate g.length false=sh at*;have h24:=hv.1;have N9:∀v,v<g.length->∃m,KU g sh (v:Int)=some m/\CC (N0 g sh m) 0=some (if ∀w,w<g.length->I8 g sh v w then .inl ((g.length:Nat):Int) else .inr (false,0)):=by
   intro v Ml;obtain ⟨m,e1,e2,e3⟩:=Akm hg v Ml;refine ⟨m,e1,?_⟩;have h:=EM (step:=N0 g sh m) g.length (λ i=>((i:Nat):Int)) (.inl ((g.length:Nat):Int)) (.inr (false,0)) (λ w=>m.getD w false) ?_ ?_
   . rw[show (0:Int)=((0:Nat):Int) from rfl,h]
     congr 1
     have Aya:(∀j,j<g.length->m.getD j false=true)↔∀w,w<g.length->I8 g sh v w:=⟨λ h w hw=>((e3 w).1 (h w hw)).2,λ h w hw=>(e3 w).2 ⟨ho v,h w hw⟩⟩;by_cases hA:∀w,w<g.length->I8 g sh v w
     . rw[if_pos (Aya.2 hA),if_pos hA]
     . rw[if_neg (λ h=>hA (Aya.1 h)),if_neg hA];rfl
   . intro w hw _;rw[N0.eq_1,E1 hw,Ak,Cr sh w false (by omega),Aa,ho,Aj,Cr m w false (by omega),Aa];have ew:IntKind.i64.wrap ((w:Int)+1)=((w+1:Nat):Int):=CA (by omega);cases m.getD w false<;>simp[ew]
   . intro _;rw[N0.eq_1,FA,Aj]
 have h:=EM (step:=Qe g sh) g.length (λ i=>(((i:Nat):Int),((i:Nat):Int))) (.inl (((g.length:Nat):Int),((g.length:Nat):Int))) (.inr (false,0)) (λ v=>decide (∀w,w<g.length->I8 g sh v w)) ?_ ?_
 . unfold Rp;rw[hck,Aa,Ag rfl,Ak,show ((0:Int),(0:Int))=(((0:Nat):Int),((0:Nat):Int)) from rfl,h,Aa];by_cases hA:∀v,v<g.length->decide (∀w,w<g.length->I8 g sh v w)=true
   . rw[if_pos hA];refine ⟨_,rfl,?_⟩;rw[Au];exact ⟨λ _=>⟨⟨0,h0,ho 0⟩,λ v w hv' hw _ _=>Ad (hA v hv') w hw⟩,λ _=>by omega⟩
   . rw[if_neg hA];refine ⟨false,rfl,λ h=>(by cases h),λ hM=>(hA λ v hv'=>Ag λ w hw=>hM.2 v w hv' hw (ho v) (ho w)).elim⟩
 . intro v Ml _;obtain ⟨m,e1,e2⟩:=N9 v Ml;(try dsimp only);have ew:IntKind.i64.wrap ((v:Int)+1)=((v+1:Nat):Int):=CA (by omega);rw[Qe.eq_1,E1 Ml,Ak,Cr sh v false (by omega),Aa,ho,Aj,e1,Aa,e2,Aa];by_cases hA:∀w,w<g.length->I8 g sh v w
   . rw[if_pos hA,if_pos (Ag hA)];simp only[ew]
   . rw[if_neg hA,if_neg (by rw[Ah hA];simp)]
 . intro _;(try dsimp only);rw[Qe.eq_1,FA,Aj]
def N4(r:List UInt8):Option (List UInt8):=if r.length<=1000 then some (PY r) else none
theorem WQ(r s:List UInt8)(h:N4 r=some s):B2 prog 27 [.p (.str r)] [] λ h d=>h=[]/\d= .p (.str s):=by
 unfold N4 at h;split at h<;>cases h;rename_i hs;refine B1 func27 rfl Aob (by simp[Tryz.f27]) ?_;simp only[go_sem];refine ⟨by simp[maxLen];omega,?_⟩;simp only[go_sem,PY];rfl
def Qq:Option (Bool):=
 Option.bind (N4 [114,111,98,111,116,32,100,32,50,10]) λ x1=>Option.bind (Ih x1) λ (x3,x4,x5,x6)=>Option.bind (N4 [114,111,98,111,116,32,100,32,49,10,114,111,98,111,116,32,100,32,50,10]) λ x8=>Option.bind (Ih x8) λ (Tw,Du,SV,KC)=>cond (decide (x6=0)) (cond (decide (x5=0)) (cond (decide (x4.Ix=2)) (cond (decide (x4.cap=1)) (cond (decide (x4.Cs=2)) (cond (decide (((x3.B6.length:Nat):Int)=1)) (some (decide (KC=18))) (some false)) (some false)) (some false)) (some false)) (some false)) (some false)
theorem Abr(r:Bool)(hr:Qq=some r):
   B2 prog 8 [] [] λ h d=>h=[]/\d= .p (.bool r):=by
 refine B1 func8 rfl As8 (by simp[Tryz.f8]) ?_;unfold Qq at hr;obtain ⟨x1,g2,hr⟩:=bE hr;try simp only[go_sem]
 refine Cq (WQ [114,111,98,111,116,32,100,32,50,10] _ g2) ?_;obtain ⟨⟨x3,x4,x5,x6⟩,g7,hr⟩:=bE hr;try simp only[go_sem]
 refine Cq (RE x1 _ g7) ?_;obtain ⟨x8,g9,hr⟩:=bE hr;try simp only[go_sem]
 refine Cq (WQ [114,111,98,111,116,32,100,32,49,10,114,111,98,111,116,32,100,32,50,10] _ g9) ?_;obtain ⟨⟨Tw,Du,SV,KC⟩,g14,hr⟩:=bE hr;try simp only[go_sem]
 refine Cq (RE x8 _ g14) ?_;cases HW:decide (x6=0)
 . simp only[HW,Aj] at hr;cases hr;(try simp only[go_sem,HW]);all_goals ((try refine BX ?_);(try simp only[go_sem,HW]);try first | rfl | exact ⟨rfl,rfl⟩ | (simp;done))
 simp only[HW,Ak] at hr;cases IY:decide (x5=0)
 . simp only[IY,Aj] at hr;cases hr;(try simp only[go_sem,HW,IY]);all_goals ((try refine BX ?_);(try simp only[go_sem,HW,IY]);try first | rfl | exact ⟨rfl,rfl⟩ | (simp;done))
 simp only[IY,Ak] at hr;cases Ik:decide (x4.Ix=2)
 . simp only[Ik,Aj] at hr;cases hr;(try simp only[go_sem,HW,IY,Ik]);all_goals ((try refine BX ?_);(try simp only[go_sem,HW,IY,Ik]);try first | rfl | exact ⟨rfl,rfl⟩ | (simp;done))
 simp only[Ik,Ak] at hr;cases IX:decide (x4.cap=1)
 . simp only[IX,Aj] at hr;cases hr;(try simp only[go_sem,HW,IY,Ik,IX]);all_goals ((try refine BX ?_);(try simp only[go_sem,HW,IY,Ik,IX]);try first | rfl | exact ⟨rfl,rfl⟩ | (simp;done))
 simp only[IX,Ak] at hr;cases Jg:decide (x4.Cs=2)
 . simp only[Jg,Aj] at hr;cases hr;(try simp only[go_sem,HW,IY,Ik,IX,Jg]);all_goals ((try refine BX ?_);(try simp only[go_sem,HW,IY,Ik,IX,Jg]);try first | rfl | exact ⟨rfl,rfl⟩ | (simp;done))
 simp only[Jg,Ak] at hr;cases NK:decide (((x3.B6.length:Nat):Int)=1)
 . simp only[NK,Aj] at hr;cases hr;(try simp only[go_sem,HW,IY,Ik,IX,Jg,NK]);all_goals ((try refine BX ?_);(try simp only[go_sem,HW,IY,Ik,IX,Jg,NK]);try first | rfl | exact ⟨rfl,rfl⟩ | (simp;done))
 simp only[NK,Ak] at hr;cases hr;try simp only[go_sem,HW,IY,Ik,IX,Jg,NK]
 all_goals ((try refine BX ?_);(try simp only[go_sem,HW,IY,Ik,IX,Jg,NK]);try first | rfl | exact ⟨rfl,rfl⟩ | (simp;done))
theorem Ag0:Qq=some true:=by
 have t1:N4 [114,111,98,111,116,32,100,32,50,10]=some (PY QO):=rfl;have t2:N4 [114,111,98,111,116,32,100,32,49,10,114,111,98,111,116,32,100,32,50,10]=some (PY QN):=rfl;unfold Qq;rw[t1,t2];simp only[Aa];rw[As6,As5];rfl
theorem Abv:B2 prog 8 [] [] λ h d=>h=[]/\d= .p (.bool true):=Abr true Ag0
def NW(a0:FT)(a1:FT):Option (Bool):=
 cond (decide (a0.Ix=a1.Ix)) (Option.bind (E0 a0.HU a1.HU) λ x2=>cond x2 (cond (decide (a0.Cs=a1.Cs)) (some (decide (a0.cap=a1.cap))) (some false)) (some false)) (some false)
theorem Zu(a0:FT)(a1:FT)(r:Bool)(hr:NW a0 a1=some r):
   B2 prog 13 [.agg [.p (.int .i64 a0.Ix),.p (.sl (BZ a0.HU)),.p (.int .i64 a0.Cs),.p (.int .i64 a0.cap)],.agg [.p (.int .i64 a1.Ix),.p (.sl (BZ a1.HU)),.p (.int .i64 a1.Cs),.p (.int .i64 a1.cap)]] [] λ h d=>h=[]/\d= .p (.bool r):=by
 refine B1 func13 rfl Aom (by simp[Tryz.f13]) ?_;unfold NW at hr;cases c1:decide (a0.Ix=a1.Ix)
 . simp only[c1,Aj] at hr;cases hr;(try simp only[go_sem,c1]);all_goals ((try refine BX ?_);(try simp only[go_sem,c1]);try first | rfl | exact ⟨rfl,rfl⟩ | (simp;done))
 simp only[c1,Ak] at hr;obtain ⟨x2,g3,hr⟩:=bE hr;try simp only[go_sem,c1]
 refine Cq (IL a0.HU a1.HU _ g3) ?_;cases c4:x2
 . simp only[c4,Aj] at hr;cases hr;(try simp only[go_sem,c1,c4]);all_goals ((try refine BX ?_);(try simp only[go_sem,c1,c4]);try first | rfl | exact ⟨rfl,rfl⟩ | (simp;done))
 simp only[c4,Ak] at hr;cases c5:decide (a0.Cs=a1.Cs)
 . simp only[c5,Aj] at hr;cases hr;(try simp only[go_sem,c1,c4,c5]);all_goals ((try refine BX ?_);(try simp only[go_sem,c1,c4,c5]);try first | rfl | exact ⟨rfl,rfl⟩ | (simp;done))
 simp only[c5,Ak] at hr;cases hr;try simp only[go_sem,c1,c4,c5]
 all_goals ((try refine BX ?_);(try simp only[go_sem,c1,c4,c5]);try first | rfl | exact ⟨rfl,rfl⟩ | (simp;done))
def Nt.pd(n:Nt):List Pd:=[.sl (CX n.blocks),.sl (Cj n.next),.sl (CR n.spurs),.sl (BZ n.B6),.int .i64 n.cq,.int .i64 n.ca,.int .i64 n.cd,.int .i64 n.cp]
theorem dt{a:Prop}[Decidable a](h:a):decide a=true:=Ag h
theorem Km(l:List Int)(h:l.length<=10000000):E0 l l=some true:=by
 have hl:=Dk (step:=Gr l l) l.length (λ k=>(k:Int)) (Sum.inl ((l.length:Nat):Int))
   (λ k hk=>by
     rw[Gr.eq_1,E1 hk,Ak,Cr l k 0 hk];simp only[Aa];simp only[BS,Ak,Aa,Bool.and_self,beq_self_eq_true,eq_self_iff_true,A7];rw[CA (by omega)])
   (by rw[Gr.eq_1,FA,Aj])
 unfold E0;rw[dt rfl,Ak,show (0:Int)=((0:Nat):Int) from rfl,hl,Aa]
theorem TM(l:List (List Int))(h:l.length<=10000000)(h2:∀r∈l,r.length<=10000000):Gn l l=some true:=by
 have hl:=Dk (step:=FP l l) l.length (λ k=>(k:Int)) (Sum.inl ((l.length:Nat):Int))
   (λ k hk=>by
     rw[FP.eq_1,E1 hk,Ak,Cr l k [] hk];simp only[Aa];rw[Km _ (h2 _ (by rw[gde hk];exact AN hk))];simp only[Aa];rw[Ak,CA (by omega)])
   (by rw[FP.eq_1,FA,Aj])
 unfold Gn;rw[dt rfl,Ak,show (0:Int)=((0:Nat):Int) from rfl,hl,Aa]
theorem XS(n:Nt)(h1:n.blocks.length<=10000000)(h2:n.next.length<=10000000)(h3:∀r∈n.next,r.length<=10000000)(h4:n.spurs.length<=10000000)(h5:n.B6.length<=10000000):KJ n n=some true:=by
 have Uz:=Dk (step:=JB n n) n.blocks.length (λ k=>(k:Int)) (Sum.inl ((n.blocks.length:Nat):Int))
   (λ k hk=>by
     rw[JB.eq_1,E1 hk,Ak,Cr n.blocks k (n.blocks[k]'hk) hk];simp only[Aa];simp only[BS,Ak,Aa,Bool.and_self,beq_self_eq_true,eq_self_iff_true,A7];rw[CA (by omega)])
   (by rw[JB.eq_1,FA,Aj])
 have hl1:=Dk (step:=JC n n) n.spurs.length (λ k=>(k:Int)) (Sum.inl ((n.spurs.length:Nat):Int))
   (λ k hk=>by
     rw[JC.eq_1,E1 hk,Ak,Cr n.spurs k (n.spurs[k]'hk) hk];simp only[Aa];simp only[BS,Ak,Aa,Bool.and_self,beq_self_eq_true,eq_self_iff_true,A7];rw[CA (by omega)])
   (by rw[JC.eq_1,FA,Aj])
 unfold KJ;rw[dt rfl,Ak,TM _ h2 h3];simp only[Aa];simp only[BS,Ak,Aa,Bool.and_self,beq_self_eq_true,eq_self_iff_true,A7];rw[Km _ h5];simp only[BS,Ak,Aa,Bool.and_self,beq_self_eq_true,eq_self_iff_true,A7];rw[show (0:Int)=((0:Nat):Int) from rfl,Uz];simp only[Aa];rw[hl1];rfl
theorem filter_one{α:Type}(p:α->Bool)(x0:α):∀(l:List α) (j:Nat),j<l.length->p (l.getD j x0)=true->(∀k,k<l.length->k≠j->p (l.getD k x0)=false)->l.filter p=[l.getD j x0]
 | [],j,h,_,_=>by simp at h
 | x::r,0,_,h,hu=>by
   have hx:p x=true:=h;rw[List.filter_cons_of_pos hx];have:r.filter p=[]:=by
     rw[List.filter_eq_nil_iff];intro y hy;obtain ⟨k,hk,rfl⟩:=AD.1 hy;have:=hu (k+1) (by simp;omega) (by omega);rw[List.getD_cons_succ,gde hk] at this;simp[this]
   rw[this];rfl
 | x::r,j+1,hj,h,hu=>by
   have hx:p x=false:=hu 0 (by simp) (by omega);rw[List.filter_cons_of_neg (by simp[hx])];exact filter_one p x0 r j (by simpa using hj) (by simpa using h) (λ k hk Dt=>by have:=hu (k+1) (by simpa using hk) (by omega);simpa using this)
theorem Rf(nb:Nat)(l:List Da)(h:EE nb l):∀(b a:Nat),a<=b->b<=l.length->Di (l.take a)<=Di (l.take b)
 | 0,a,ha,_=>by
   have:a=0:=by omega
   subst this;exact Bx _
 | b+1,a,ha,hb=>by
   rcases Nat.lt_or_ge b a with h1 | h1
   . have:a=b+1:=by omega
     subst this;exact Bx _
   . have h2:=Rf nb l h b a h1 (by omega);have h3:=(h b (by omega)).2.2.2.2.1;rw[CI l b Cu (by omega),D9];omega
theorem Adp{nb:Nat}{l:List Da}(h:EE nb l){i:Nat}(hi:i<l.length){r:Int}(h1:WU r (l.getD i Cu)=true):(nb:Int)+Di (l.take i)<=r/\r<(nb:Int)+Di (l.take (i+1)):=by
 have h2:=(h i hi).2.2.2.2.2.2;rw[CI l i Cu hi,D9];simp only[WU,As,Au] at h1;rw[h2] at h1;omega
theorem Adq{nb:Nat}{l:List Da}(h:EE nb l){i j:Nat}(hi:i<l.length)(hj:j<l.length){r:Int}(h1:WU r (l.getD i Cu)=true)(h2:WU r (l.getD j Cu)=true):i=j:=by
 have a:=Adp h hi h1;have b:=Adp h hj h2;rcases Nat.lt_trichotomy i j with c | c | c
 . have:=Rf nb l h j (i+1) (by omega) (by omega);omega
 . exact c
 . have:=Rf nb l h i (j+1) (by omega) (by omega);omega
theorem Aki{nb:Nat}{sp:List Da}(h:EE nb sp){rb:List Int}(hr:ER sp rb){k:Nat}(hk:k<rb.length):
   ∃j,j<sp.length/\WU (rb.getD k 0) (sp.getD j Cu)=true/\(sp.getD j Cu).CE=true/\sp.filter (WU (rb.getD k 0))=[sp.getD j Cu]:=by
 have h1:=(hr k hk).1;rw[AV] at h1;obtain ⟨s,hs,h2⟩:=h1;obtain ⟨j,hj,rfl⟩:=AD.1 hs;have e:sp.getD j Cu=sp[j]:=gde hj;simp only[Mu,As] at h2;have h3:WU (rb.getD k 0) (sp.getD j Cu)=true:=by rw[e];simp only[WU,As];exact h2.2
 refine ⟨j,hj,h3,by rw[e];exact h2.1,filter_one _ _ _ j hj h3 λ i hi Dt=>?_⟩;cases c:WU (rb.getD k 0) (sp.getD i Cu)
 . rfl
 . exact (Dt (Adq h hi hj c h3)).elim
theorem Ain(n:Nt)(hb:Jh n)(i:Nat)(hi:i<=n.blocks.length):(I6 n i).length<=4*i:=by
 induction i with
 | zero=>simp[I6]
 | succ i ih=>
   rw[Vc,Aq];have h1:=ih (by omega);have h2:=(hb.2.2.2 i (by omega)).2.1;simp only[ZY,Ba];omega
theorem Aim(n:Nt)(H8:EE n.blocks.length n.spurs)(hr:ER n.spurs n.B6):∀k,k<=n.B6.length->(Lr n k).length=k:=by
 intro k
 induction k with
 | zero=>intro _;rfl
 | succ k ih=>
   intro hk;obtain ⟨j,_,_,_,hf⟩:=Aki H8 hr (show k<n.B6.length by omega);rw[Vb n k (by omega),Aq,ih (by omega),SY,Ar,hf];rfl
theorem Ail(n:Nt)(hv:validN n):(D2 n).length<=200/\∀x∈D2 n,x.names.length<=10/\x.Cb.length<=10:=by
 obtain ⟨hb,hs6,_,hr8,_,H8,Y1,_⟩:=hv;have I4:=Ain n hb n.blocks.length (Ai _);have h4:=Aim n H8 Y1 _ (Ai _);have Ac8:=hb.2.1;have e1:(Ls n).length=n.blocks.length:=by simp[Ls]
 have e3:(OU n).length=n.spurs.length:=by simp[OU]
 refine ⟨by rw[D2,GW,Gy];simp;omega,?_⟩;have key:∀(L:List Dc) (i:Nat),(∀x∈L,x.names.length<=10/\x.Cb.length<=10)->∀x∈Ht i L,x.names.length<=10/\x.Cb.length<=10:=by
   intro L
   induction L with
   | nil=>intro i _ x hx;simp[Ht] at hx
   | cons y r ih=>
     intro i h x hx;simp only[Ht,AG] at hx;rcases hx with rfl | hx
     . exact h y (by simp)
     . exact ih _ (λ z hz=>h z (by simp[hz])) x hx
 refine key _ _ λ x hx=>?_;simp only[Gy,Aw,Ay] at hx;rcases hx with (((hx | hx) | hx) | hx) | rfl
 . obtain ⟨b,_,rfl⟩:=AU.1 hx;simp[Te]
 . obtain ⟨i,_,hx⟩:=BU.1 hx;obtain ⟨b,_,rfl⟩:=AU.1 hx;simp[RD]
 . obtain ⟨b,_,rfl⟩:=AU.1 hx;simp[P5]
 . obtain ⟨i,_,hx⟩:=BU.1 hx;obtain ⟨b,_,rfl⟩:=AU.1 hx;simp[SZ]
 . simp
open Classical in
noncomputable def MO (n:Nt):Option Bool:=if F3 n then some (decide (validN n)) else none
theorem Wx(n:Nt)(h:F3 n):MO n=some (decide (validN n)):=by unfold MO;rw[if_pos h]
theorem Aaz(n:Nt)(r:Bool)(h:MO n=some r):B2 prog 46 [.agg [.p (.sl (CX n.blocks)),.p (.sl (Cj n.next)),.p (.sl (CR n.spurs)),.p (.sl (BZ n.B6)),.p (.int .i64 n.cq),.p (.int .i64 n.ca),.p (.int .i64 n.cd),.p (.int .i64 n.cp)]] [] λ h d=>h=[]/\d= .p (.bool r):=by
 by_cases hs:F3 n
 . rw[Wx n hs] at h;cases h;exact NT n hs
 . unfold MO at h;rw[if_neg hs] at h;cases h
open Classical in
noncomputable def Ti (n:Nt):Option (List Dc×Int):=if F3 n then some (if validN n then (D2 n,0) else ([],20)) else none
theorem Zz(n:Nt)(h:F3 n):Ti n=some (if validN n then (D2 n,0) else ([],20)):=by
 unfold Ti;rw[if_pos h]
theorem Af4(n:Nt)(hs:F3 n)(hn:¬validN n):B2 prog 53 [.agg n.cs] [] λ h r=>h=[]/\r= .Dv [.p (.sl (DX [])),.p (.int .i64 20)]:=by
 have hV:=NT n hs;rw[Ah hn] at hV;refine B1 func53 rfl p3 (by simp[Tryz.f53]) ?_;simp only[go_sem,Nt.cs];refine Cq ((hV)) ?_;simp only[go_sem];try (refine BX ?_)
 all_goals (try simp only[go_sem,DX])
 all_goals (try (first | rfl | exact ⟨rfl,rfl⟩ | (simp;done)))
theorem Af3(n:Nt)(r:List Dc×Int)(h:Ti n=some r):B2 prog 53 [.agg [.p (.sl (CX n.blocks)),.p (.sl (Cj n.next)),.p (.sl (CR n.spurs)),.p (.sl (BZ n.B6)),.p (.int .i64 n.cq),.p (.int .i64 n.ca),.p (.int .i64 n.cd),.p (.int .i64 n.cp)]] [] λ h d=>h=[]/\d= .Dv [.p (.sl (DX r.1)),.p (.int .i64 r.2)]:=by
 by_cases hs:F3 n
 . rw[Zz n hs] at h;by_cases hv:validN n
   . rw[if_pos hv] at h;cases h;exact s8 n hv
   . rw[if_neg hv] at h;cases h;exact Af4 n hs hv
 . unfold Ti at h;rw[if_neg hs] at h;cases h
def Ww(n:Nt):List UInt8×Int:=if validN n then (HA 1 ((D2 n).map PV),0) else ([],20)
theorem Ad4:∀(l:List (List UInt8)) (s:List UInt8),s∈l->s.length<=Lv l
 | x::r,s,h=>by
   rw[show x::r=[x]++r from rfl,Zi];rcases AG.1 h with rfl | h
   . have:s.length<=Lv [s]:=by simp[Lv]
     omega
   . have:=Ad4 r s h;omega
theorem Aks(n:Nt)(hs:F3 n):B2 prog 23 [.agg n.cs] [] λ h r=>h=[]/\r= .Dv [.p (.str (Ww n).1),.p (.int .i64 (Ww n).2)]:=by
 have hd:=Af3 n _ (Zz n hs);unfold Ww;refine B1 func23 rfl Aof (by simp[Tryz.f23]) ?_;simp only[go_sem,Nt.cs];refine Cq ((hd)) ?_;by_cases hv:validN n
 . rw[if_pos hv,if_pos hv];have hds:=s9 n hv;have Bc6:=(Ail n hv).2;obtain ⟨IN,OP,htl,V4,S2⟩:=Va n hv;have hfs:∀x∈(D2 n).map PV,∀s∈x.fs,s.length<=4000000:=λ x hx s hm=>by
     obtain ⟨y,hy,rfl⟩:=AU.1 hx;have h1:=(Xt y (IN y hy)).2.2;have h2:=Ad4 _ s hm;have h3:=Bc6 y hy;unfold wD at h1;omega
   have hf:=n7 (D2 n) [] IN;have FJ:=UM 2000000 (D2 n) [] hds.2 (by simp);rw[hf] at FJ;rw[Bl] at hf FJ;simp only[go_sem];refine Cq ((As4 (D2 n) (by omega) (λ x hx=>by have:=hds.2 x hx;omega))) ?_;rw[hf];have hlm:((D2 n).map λ x=>(⟨x.line,Gt x⟩:Ln))=(D2 n).map PV:=rfl;rw[hlm] at FJ ⊢;have hml:((D2 n).map PV).length=(D2 n).length:=by simp
   generalize (D2 n).map PV=ls at*;simp only[go_sem,Az1];refine Cq ((Alv ls ⟨by omega,λ x hx=>⟨by have:=S2 x hx;omega,by have:=S2 x hx;omega,hfs x hx⟩⟩)) ?_;have hj:Qr ls=(HA 1 ls,0):=by unfold Qr;rw[if_pos OP,if_neg (by omega)]
   simp only[go_sem,Atg,hj];refine BX ?_;simp only[go_sem]
 . rw[if_neg hv,if_neg hv];simp only[go_sem];refine BX ?_;simp only[go_sem]
theorem QX(l:List UInt8)(k:Nat)(x:UInt8):(EH l).set k [.int .u8 x.toNat]=EH (l.set k x):=by simp[EH,Br]
theorem L3(l:List UInt8):(EH l).length=l.length:=by simp[EH]
theorem Ae4(l:List UInt8)(k:Nat):((EH l)[k]?.getD []).tail=[]:=by
 unfold EH;rw[AS];cases l[k]?<;>rfl
def ML:List UInt8:=[97,98,48,49,32,45,10,35,115,100,122]
theorem Aav(l:List Int)(c1 c2 c3 c4:Int):B2 prog 9 [.p (.sl (BZ l)),.agg [.p (.int .i64 c1),.p (.int .i64 c2),.p (.int .i64 c3),.p (.int .i64 c4)]] [] λ h r=>h=[]/\∃s,r= .p (.str s):=by
 refine B1 func9 rfl As7 (by simp[Tryz.f9]) ?_;simp only[go_sem];refine Em (Alm l 0 6 (by omega) (by omega) (by omega)) ?_;rintro h' r ⟨at2,n,hat2,hn,rfl,rfl⟩;have hv:=hn.1;have hs:=Ev hv;have hsl:(Ww n).1.length<=6000:=by unfold Ww;rw[if_pos hv];exact (Va n hv).2.2.1
 simp only[go_sem,Dm,Nt.cs];refine Cq ((Aks n hs)) ?_;generalize (Ww n).1=s at*;simp only[go_sem];refine Ajg rfl rfl ti9 Aam ti5 rfl rfl (by omega) ?_;simp only[go_sem];refine B7 (λ q:Nat×List UInt8=>⟨[(3,.ptr 3 0),(8,.ref 21 0 q.2.length q.2.length),(9,.p (.str ML)),(10,.p (.int .i64 (q.1:Nat)))],[(21,.arr 5 1 (EH q.2)),(3,.box [.p (.int .i64 c1),.p (.int .i64 c2),.p (.int .i64 c3),.p (.int .i64 c4)])],58⟩)
   (λ q=>q.1<=2/\q.2.length<=6000) (λ q=>2 - q.1) (0,s) ⟨by omega,hsl⟩ (BW (by simp[ZF,ML])) ?_
 rintro ⟨i,b⟩ m ⟨hi,hb⟩ ih;simp only at hi hb;cases d1:decide ((i:Int)<2)
 . simp only[go_sem,d1];refine Ad0 rfl Aam ti9 ti5 rfl rfl ?_;simp only[go_sem];exact ⟨_,rfl⟩
 cases d2:decide (0<((b.length:Nat):Int))
 . simp only[go_sem,d1,d2,L3];refine Ad0 rfl Aam ti9 ti5 rfl rfl ?_;simp only[go_sem];exact ⟨_,rfl⟩
 have S6:0<b.length:=by have:=Ad d2;omega
 have hw:=Cd i (by omega);have h01:i=0∨i=1:=by have:=Ad d1;omega
 rcases h01 with rfl | rfl
 . skip
   obtain ⟨k0,Hn,hC0⟩:=RA c1 3 (by omega) (by omega);have hwI:IntKind.i64.wrap (0+1)=1:=rfl;simp only[go_sem,d1,d2,L3,Int.cast_ofNat_Int,Int.natCast_zero];refine Cq ((H7 c1 3 _ hC0)) ?_;simp only[go_sem];cases d3:decide ((k0:Int)=0)
   . simp only[go_sem,d3,hwI];refine ih (1,b) _ ⟨by simp,by simpa using hb⟩ (by simp) ?_
     (refine BW ?_;simp[ZF];done)
   simp only[go_sem,d3];refine Dp [(21,.arr 5 1 (EH b)),(3,.box [.p (.int .i64 c1),.p (.int .i64 c2),.p (.int .i64 c3),.p (.int .i64 c4)])] mixed (p:=[(0,0),(1,0),(2,0),(3,0),(4,0),(5,0),(6,0),(7,0),(9,0),(10,0),(11,0),(12,0),(13,0),(14,0),(15,0),(16,0),(8,2),(17,2),(18,0),(19,0),(20,4)]) (by kernel_rfl) (by simp[C8,get]) ?_;simp only[go_sem,L3];refine ⟨by decide,by decide,?_⟩;obtain ⟨k1,Pn,hC1⟩:=RA (IntKind.i64.wrap (c3.tdiv (IntKind.i64.wrap (1+0)))) b.length (by omega) (by omega);obtain ⟨k2,IF,hC2⟩:=RA (IntKind.i64.wrap (c4.tdiv (IntKind.i64.wrap (1+0)))) ML.length (by decide) (by decide);have i1:(0:Int)<=(k1:Int)/\(k1:Int)<(b.length:Int):=by omega
   have i2:(0:Int)<=(k2:Int)/\(k2:Int)<(ML.length:Int):=by omega
   refine Gq ((H7 _ _ _ hC1)) ?_;simp only[go_sem];refine Gq ((H7 _ _ _ hC2)) ?_;simp only[go_sem,L3,Ab,i1,i2,QX,hwI];refine ih (1,b.set k1 (ML.getD k2 0)) _ ⟨by simp,by simpa using hb⟩ (by simp) ?_
   (refine BW ?_;simp[ZF,Bz,Ae4,QX];done)
 . skip
   obtain ⟨k0,Hn,hC0⟩:=RA c2 3 (by omega) (by omega);have hwI:IntKind.i64.wrap (1+1)=2:=rfl;simp only[go_sem,d1,d2,L3,Int.cast_ofNat_Int,Int.natCast_zero];refine Cq ((H7 c2 3 _ hC0)) ?_;simp only[go_sem];cases d3:decide ((k0:Int)=0)
   . simp only[go_sem,d3,hwI];refine ih (2,b) _ ⟨by simp,by simpa using hb⟩ (by simp) ?_
     (refine BW ?_;simp[ZF];done)
   simp only[go_sem,d3];refine Dp [(21,.arr 5 1 (EH b)),(3,.box [.p (.int .i64 c1),.p (.int .i64 c2),.p (.int .i64 c3),.p (.int .i64 c4)])] mixed (p:=[(0,0),(1,0),(2,0),(3,0),(4,0),(5,0),(6,0),(7,0),(9,0),(10,0),(11,0),(12,0),(13,0),(14,0),(15,0),(16,0),(8,2),(17,2),(18,0),(19,0),(20,4)]) (by kernel_rfl) (by simp[C8,get]) ?_;simp only[go_sem,L3];refine ⟨by decide,by decide,?_⟩;obtain ⟨k1,Pn,hC1⟩:=RA (IntKind.i64.wrap (c3.tdiv (IntKind.i64.wrap (1+1)))) b.length (by omega) (by omega);obtain ⟨k2,IF,hC2⟩:=RA (IntKind.i64.wrap (c4.tdiv (IntKind.i64.wrap (1+1)))) ML.length (by decide) (by decide);have i1:(0:Int)<=(k1:Int)/\(k1:Int)<(b.length:Int):=by omega
   have i2:(0:Int)<=(k2:Int)/\(k2:Int)<(ML.length:Int):=by omega
   refine Gq ((H7 _ _ _ hC1)) ?_;simp only[go_sem];refine Gq ((H7 _ _ _ hC2)) ?_;simp only[go_sem,L3,Ab,i1,i2,QX,hwI];refine ih (2,b.set k1 (ML.getD k2 0)) _ ⟨by simp,by simpa using hb⟩ (by simp) ?_
   (refine BW ?_;simp[ZF,Bz,Ae4,QX];done)
def CM.Tm(b:CM):List (List UInt8):=b.bl.map Et.name++b.sp.map Da.name
structure VI(b:CM):Prop where
 xy:∀x∈b.bl,YS x
 nm:∀x∈b.Tm,C3 x=true
 nod:b.Tm.Nodup
 row:∀i,i<b.bl.length->(b.nx.getD i []).Nodup/\∀j∈b.nx.getD i [],0<=j/\j<(b.bl.length:Int)/\j≠(i:Int)
 io:∀s∈b.sp,0<=s.HL/\s.HL<(b.bl.length:Int)/\0<=s.out/\s.out<(b.bl.length:Int)
 pn:b.pl.Nodup
 pd:∀p∈b.pl,(b.sp.getD p.1.toNat Cu).CE=true/\p.2<=(b.sp.getD p.1.toNat Cu).Cs
 cf:IV b.cq b.ca b.cd b.cp
theorem WI{b:CM}(n:NI b){x:List UInt8}(h:¬b.Kp x=true):x∉b.Tm:=by
 rw[T9 n] at h;simp only[CM.Tm,Aw];cases c1:N5 (b.bl.map Et.name) x with
 | some i=>rw[c1] at h;exact absurd rfl h
 | none=>
   cases c2:N5 (b.sp.map Da.name) x with
   | some i=>rw[c1,c2] at h;exact absurd rfl h
   | none=>exact λ h1=>h1.elim (K4.1 c1) (K4.1 c2)
theorem VI.block{b:CM}(h:BI b)(n:NI b)(v:VI b)(d:Dc)(hn:C3 (d.names.getD 0 [])=true)(hx:YS ⟨d.names.getD 0 [],d.Cb.getD 0 0,d.Cb.getD 1 0⟩):VI (b.E5 d).2:=by
 unfold CM.E5;split
 . exact v
 . split
   . exact v
   . rename_i h1 h2;have PX:=WI n h1;have hP:∀(y:List UInt8),y∈(b.bl++[(⟨d.names.getD 0 [],d.Cb.getD 0 0,d.Cb.getD 1 0⟩:Et)]).map Et.name++b.sp.map Da.name↔y=d.names.getD 0 []∨y∈b.Tm:=by
       intro y;simp only[CM.Tm,Bg,AH,BE,Aw,Ay];constructor
       . rintro ((h | h) | h)<;>simp[h]
       . rintro (h | h | h)<;>simp[h]
     refine ⟨λ x HT=>?_,λ x HT=>?_,?_,λ i hi=>?_,λ s hs=>?_,v.pn,v.pd,v.cf⟩
     . rcases Aw.1 HT with HT | HT
       . exact v.xy x HT
       . rw[Ay.1 HT];exact hx
     . rcases (hP x).1 HT with rfl | HT
       . exact hn
       . exact v.nm x HT
     . have hv:=v.nod;simp only[CM.Tm] at hv PX ⊢;simp only[Bg,AH,BE,A9,List.singleton_append];rw[BQ] at hv ⊢;obtain ⟨a1,a2,a3⟩:=hv;simp only[Aw,not_or] at PX;refine ⟨a1,BD.2 ⟨PX.2,a2⟩,λ a ha c hc=>?_⟩;rcases AG.1 hc with rfl | hc
       . rintro rfl;exact PX.1 ha
       . exact a3 a ha c hc
     . simp only[Aq,An,Ax] at hi;by_cases hl:i<b.bl.length
       . have:(b.nx++[[]]).getD i []=b.nx.getD i []:=by simp only[List.getD];rw[AW (by rw[h.nn];exact hl)]
         rw[this];obtain ⟨r1,r2⟩:=v.row i hl;refine ⟨r1,λ j hj=>?_⟩;have:=r2 j hj;simp only[Aq,An,Ax];omega
       . have:(b.nx++[[]]).getD i []=[]:=by
           obtain rfl:i=b.nx.length:=by rw[h.nn];omega
           simp[List.getD]
         rw[this];exact ⟨List.nodup_nil,λ j hj=>by simp at hj⟩
     . have:=v.io s hs;simp only[Aq,An,Ax];omega
theorem VI.lane{b:CM}(h:BI b)(v:VI b)(x y:List UInt8):VI (b.Fw x y).2:=by
 unfold CM.Fw;split
 . rename_i i j h1 h2;split
   . exact v
   . split
     . exact v
     . split
       . exact v
       . rename_i h3 h4 h5;obtain ⟨p,rfl,hp⟩:=h.mb x i h1;obtain ⟨q,rfl,hq⟩:=h.mb y j h2;refine ⟨v.xy,v.nm,v.nod,λ k hk=>?_,v.io,v.pn,v.pd,v.cf⟩;simp only[Ab] at h4 ⊢;obtain ⟨r1,r2⟩:=v.row k hk;have hnn:=h.nn;by_cases e:p=k
         . subst e;have:(b.nx.set p (b.nx.getD p []++[(q:Int)])).getD p []=b.nx.getD p []++[(q:Int)]:=by
             simp[List.getD,show p<b.nx.length by omega]
           rw[this];refine ⟨?_,λ j hj=>?_⟩
           . rw[BQ];refine ⟨r1,by simp,λ a ha c hc=>?_⟩;rw[Ay.1 hc];rintro rfl;exact h4 ha
           . rcases Aw.1 hj with hj | hj
             . exact r2 j hj
             . rw[Ay.1 hj];omega
         . have:(b.nx.set p (b.nx.getD p []++[(q:Int)])).getD k []=b.nx.getD k []:=by
             simp[List.getD,BR,e]
           rw[this];exact ⟨r1,r2⟩
 . exact v
theorem VI.ZX:∀{l:List (List UInt8)} {b:CM},BI b->VI b->VI (b.Eh l).2
 | [],b,h,v=>v
 | [x],b,h,v=>v
 | x::y::r,b,h,v=>by
   simp only[CM.Eh];split
   . exact VI.ZX (h.lane x y) (v.lane h x y)
   . exact v.lane h x y
theorem VI.Auh{b:CM}(h:BI b)(n:NI b)(v:VI b)(d:Dc)(hn:C3 (d.names.getD 0 [])=true):VI (b.EO d).2:=by
 unfold CM.EO;split
 . exact v
 . rename_i h0;have PX:=WI n h0;split
   . rename_i i j g1 g2;split
     . exact v
     . split
       . exact v
       . split
         . exact v
         . rename_i h1 h2 h3;obtain ⟨p,rfl,hp⟩:=h.mb _ i g1;obtain ⟨q,rfl,hq⟩:=h.mb _ j g2;refine ⟨v.xy,λ x HT=>?_,?_,v.row,λ s hs=>?_,v.pn,λ p hp=>?_,v.cf⟩
           . simp only[CM.Tm,Bg,AH,BE,Aw,Ay] at HT;rcases HT with HT | HT | rfl
             . exact v.nm x (by simp only[CM.Tm,Aw];exact .inl HT)
             . exact v.nm x (by simp only[CM.Tm,Aw];exact .inr HT)
             . exact hn
           . have hv:=v.nod;simp only[CM.Tm] at hv PX ⊢;simp only[Bg,AH,BE,<-List.append_assoc];rw[BQ];refine ⟨hv,by simp,λ a ha c hc=>?_⟩;rw[Ay.1 hc];rintro rfl;exact PX ha
           . rcases Aw.1 hs with hs | hs
             . exact v.io s hs
             . rw[Ay.1 hs];simp only;omega
           . obtain ⟨⟨m,hm,hml⟩,_⟩:=h.pls p hp;have:=v.pd p hp;rw[hm] at this ⊢;simp only[Ab] at this ⊢;simp only[List.getD] at this ⊢;rw[AW hml];exact this
   . exact v
theorem VI.Akh{b:CM}(v:VI b)(d:Dc):VI (b.DM d).2:=by
 unfold CM.DM;split
 . exact v
 . rename_i i hi;split
   . exact v
   split
   . exact v
   split
   . exact v
   split
   . exact v
   split
   . exact v
   rename_i h1 h2 h3 h4 h5;refine ⟨v.xy,v.nm,v.nod,v.row,v.io,?_,λ p hp=>?_,v.cf⟩
   . simp only;rw[BQ];refine ⟨v.pn,by simp,λ a ha c hc=>?_⟩;rw[Ay.1 hc];rintro rfl;exact h4 ha
   . rcases Aw.1 hp with hp | hp
     . exact v.pd p hp
     . rw[Ay.1 hp];simp only[Au] at h3 ⊢;exact ⟨by simpa using h1,by omega⟩
theorem VI.config{b:CM}(v:VI b)(d:Dc):VI (b.D3 d).2:=by
 unfold CM.D3;split
 . exact v
 . split
   . exact v
   . rename_i h1 h2;refine ⟨v.xy,v.nm,v.nod,v.row,v.io,v.pn,v.pd,?_⟩;rw[Apb] at h2
     simpa using h2
theorem Zb{d:Dc}(h:Dh d=true):(∀x∈d.names,C3 x=true)/\∀x∈d.Cb,-9999<=x/\x<=9999:=by
 simp only[Dh,As,AB] at h;obtain ⟨_,_,_,h4,h5⟩:=h;refine ⟨h4,λ x hx=>?_⟩;have:=h5 x hx;simp only[Bool.not_eq_true',Bool.or_eq_false_iff,Bn] at this;omega
theorem VI.add{b:CM}(h:BI b)(n:NI b)(v:VI b)(d:Dc):VI (b.ED d).2:=by
 unfold CM.ED;split
 . exact v
 rename_i hv;have hv:Dh d=true:=by simpa using hv
 obtain ⟨⟨VW,hw2⟩,hnu,hna⟩:=MH hv;obtain ⟨hnm,S2⟩:=Zb hv;have nm0:1<=d.names.length->C3 (d.names.getD 0 [])=true:=λ h=>hnm _ (CF d.names 0 [] (by omega));have nu0:∀i,i<d.Cb.length->-9999<=d.Cb.getD i 0/\d.Cb.getD i 0<=9999:=λ i h=>S2 _ (CF d.Cb i 0 h);split
 . rename_i c;simp only[Au] at c;simp only[CD,c,AP] at hnu hna;have a:=nu0 0 (by omega);have c:=nu0 1 (by omega);exact v.block h n d (nm0 (by omega)) ⟨a.1,a.2,c.1,c.2⟩
 split
 . exact v.ZX h
 split
 . exact v.Akh d
 split
 . exact v.config d
 rename_i c1 c2 c3 c4;simp only[Au] at c1 c2 c3 c4;have:d.word=3∨d.word=4:=by omega
 simp only[CD,c1,c2,this,AP,Bb] at hnu hna;exact v.Auh h n d (nm0 (by omega))
theorem NI.add{b:CM}(h:BI b)(n:NI b)(d:Dc)(hd:d.names.length<=10000000/\d.Cb.length<=10000000)(h0:(b.ED d).1=0):NI (b.ED d).2:=by
 obtain ⟨_,_,h2⟩:=Al7 h n d hd;exact (h2 h0).2
theorem VI.Aab:∀(l:List Dc) {b:CM},smallD l->BI b->NI b->VI b->VI (Gb b l).2
 | [],b,_,h,n,v=>v
 | d::r,b,hs,h,n,v=>by
   simp only[Gb];split
   . rename_i h0;exact VI.Aab r ⟨by have:=hs.1;simp only[An] at this;omega,λ x hx=>hs.2 x (List.mem_cons_of_mem _ hx)⟩ (h.add d) (n.add h d (hs.2 d (by simp)) h0) (v.add h n d)
   . exact v
theorem VI.init:VI CM.init:=by
 refine ⟨by simp[CM.init],by simp[CM.init,CM.Tm],by simp[CM.init,CM.Tm],by simp[CM.init],by simp[CM.init],by simp[CM.init],by simp[CM.init],?_⟩
 show IV 4 2 1 8
 unfold IV;omega
theorem NI.Aab{l:List Dc}(hl:smallD l)(h:(Gb CM.init l).1=none):NI (Gb CM.init l).2:=(YK l hl l 0 CM.init BI.init NI.init rfl (AE _)).2 h
theorem Aby(l:List Int)(x:Int)(h:l.Nodup)(hx:x∉l):(Fs l x).Nodup:=by
 induction l with
 | nil=>simp[Fs]
 | cons y r ih=>
   simp only[Fs];obtain ⟨h1,h2⟩:=BD.1 h;split
   . exact BD.2 ⟨hx,h⟩
   . refine BD.2 ⟨?_,ih h2 (λ h=>hx (by simp[h]))⟩;rw[Qt];rintro (rfl | h3)
     . exact hx (by simp)
     . exact h1 h3
theorem OS:∀(l p:List Int),p.Pairwise (· <= ·)->p.Nodup->l.Nodup->(∀x∈l,x∉p)->(l.foldl Fs p).Pairwise (· <= ·)/\(l.foldl Fs p).Nodup
 | [],p,h1,h2,_,_=>⟨h1,h2⟩
 | x::r,p,h1,h2,h3,h4=>by
   obtain ⟨h5,h6⟩:=BD.1 h3;refine OS r (Fs p x) (Sw p x h1) (Aby p x h2 (h4 x (by simp))) h6 λ y hy=>?_;rw[Qt];rintro (rfl | h7)
   . exact h5 hy
   . exact h4 y (by simp[hy]) h7
theorem Ak8(l:List Int)(h:l.Nodup):(Dn l).Pairwise (· <= ·)/\(Dn l).Nodup:=OS l [] List.Pairwise.nil List.nodup_nil h (by simp)
theorem Ak9(l:List Int)(x:Int):x∈Dn l↔x∈l:=by rw[Dn,Ws];simp
theorem Ab0(nb i:Nat)(l:List Int)(h:l.Nodup)(h2:∀j∈l,0<=j/\j<(nb:Int)/\j≠(i:Int)):Ip nb i (Dn l):=by
 obtain ⟨h3,h4⟩:=Ak8 l h;intro k hk;have hm:(Dn l).getD k 0∈l:=(Ak9 l _).1 (CF _ k 0 hk);obtain ⟨a,b,c⟩:=h2 _ hm;refine ⟨a,b,c,λ Hn=>?_⟩;have e1:(Dn l).getD k 0=(Dn l)[k]:=gde hk;have Pn:k - 1<(Dn l).length:=by omega
 have e2:(Dn l).getD (k - 1) 0=(Dn l)[k - 1]:=gde Pn;rw[e1,e2];have h5:=List.pairwise_iff_getElem.1 h3 (k - 1) k Pn hk (by omega);have h6:(Dn l)[k - 1]≠(Dn l)[k]:=λ e=>by
   have:=(List.nodup_iff_pairwise_ne.1 h4);exact List.pairwise_iff_getElem.1 this (k - 1) k Pn hk (by omega) e
 omega
theorem TE{b:CM}(h:BI b)(v:VI b)(i:Nat)(hi:i<b.bl.length):Ip b.bl.length i ((b.nx.map Dn).getD i [])/\((b.nx.map Dn).getD i []).length<=4:=by
 have hn:=h.nn;rw[getD_map' Dn b.nx i [] [] (by omega)];obtain ⟨r1,r2⟩:=v.row i hi;exact ⟨Ab0 _ _ _ r1 r2,by rw[KI];exact h.row i⟩
theorem XO(n:Int)(sp:List Da)(ba:List Int)(h:ba.length=sp.length)(i:Nat)(hi:i<sp.length):(GK n sp ba).getD i Cu={sp.getD i Cu with base:=n+ba.getD i 0}:=by
 have h1:i<(GK n sp ba).length:=by rw[NV _ _ _ h];exact hi
 have h2:i<ba.length:=by omega
 rw[gde h1,gde hi,gde h2];simp[GK]
theorem Ad8(n:Int):∀(sp:List Da) (ba:List Int) (i:Nat),ba.length=sp.length->Di ((GK n sp ba).take i)=Di (sp.take i)
 | [],ba,i,h=>by simp[GK]
 | s::r,[],i,h=>by simp at h
 | s::r,x::t,0,h=>by simp
 | s::r,x::t,i+1,h=>by
   have:=Ad8 n r t i (by simpa using h);simp only[GK,List.zipWith_cons_cons,List.take_succ_cons,Di] at this ⊢;rw[this]
theorem ZP{sp:List Da}{i:Nat}(hi:i<sp.length){x:Int}(h1:(sp.getD i Cu).CE=true)(h2:(sp.getD i Cu).base<=x)(h3:x<(sp.getD i Cu).base+(sp.getD i Cu).Cs):sp.any (Mu x)=true:=by
 rw[AV];exact ⟨sp.getD i Cu,CF sp i Cu hi,by simp only[Mu,h1,A7,As,Au];exact ⟨h2,h3⟩⟩
theorem Afo{b:CM}(h:BI b)(n:NI b)(v:VI b)(h1:b.bl.length≠0)(h2:b.sp.any (·.CE)=true):validN b.net:=by
 have hnn:=h.nn;have VE:=h.nba;have hlen:(GK b.bl.length b.sp b.ba).length=b.sp.length:=NV _ _ _ VE;have H8:EE b.bl.length (GK b.bl.length b.sp b.ba):=by
   intro i hi;rw[hlen] at hi;have hm:=CF b.sp i Cu hi;rw[XO _ _ _ VE i hi,Ad8 _ _ _ _ VE];obtain ⟨a1,a2,a3,a4⟩:=v.io _ hm;obtain ⟨a5,a6⟩:=h.sps _ hm;exact ⟨a1,a2,a3,a4,a5,a6,by simp only;rw[n.ba i hi]⟩
 have hpl:∀p∈b.pl,∃m:Nat,p.1=(m:Int)/\m<b.sp.length/\PU (GK b.bl.length b.sp b.ba) p=((GK b.bl.length b.sp b.ba).getD m Cu).base+p.2 - 1/\1<=p.2/\p.2<=((GK b.bl.length b.sp b.ba).getD m Cu).Cs/\((GK b.bl.length b.sp b.ba).getD m Cu).CE=true:=by
   intro p hp;obtain ⟨⟨m,hm,hml⟩,hp1,KF⟩:=h.pls p hp;obtain ⟨OD,I4⟩:=v.pd p hp;rw[hm,Ab] at OD I4;refine ⟨m,hm,hml,by rw[PU,hm,Ab],hp1,?_,?_⟩<;>rw[XO _ _ _ VE m hml]
   . exact I4
   . exact OD
 refine ⟨⟨by show 1<=b.bl.length;omega,h.nb,by show (b.nx.map Dn).length=b.bl.length;simp[hnn],λ i hi=>⟨v.xy _ (CF b.bl i FR hi),(TE h v i hi).2,(TE h v i hi).1⟩⟩,?_,?_,?_,v.cf,H8,?_,?_⟩
 . show (GK b.bl.length b.sp b.ba).length<=6
   rw[hlen];exact h.ns
 . have e:Ds b.net=b.Tm:=by
     have:(GK b.bl.length b.sp b.ba).map Da.name=b.sp.map Da.name:=by
       apply List.ext_getElem (by simp[hlen]);intro i h1 h2;simp[GK]
     simp only[Ds,CM.net,CM.Tm,this]
   unfold IK;rw[e];intro i hi;exact ⟨v.nm _ (CF _ i [] hi),λ k hk=>(T4 _).1 v.nod i hi k hk⟩
 . show (b.pl.map _).length<=8
   simp only[Ba];exact h.np
 . have Bbn:(b.pl.map (PU (GK b.bl.length b.sp b.ba))).Nodup:=by
     have Po:∀p∈b.pl,∀q∈b.pl,PU (GK b.bl.length b.sp b.ba) p=PU (GK b.bl.length b.sp b.ba) q->p=q:=by
       intro p hp q hq he;obtain ⟨m,hm,hml,e1,a1,a2,_⟩:=hpl p hp;obtain ⟨k,hk,hkl,e2,c1,c2,_⟩:=hpl q hq;have i1:WU (PU (GK b.bl.length b.sp b.ba) p) ((GK b.bl.length b.sp b.ba).getD m Cu)=true:=by
         simp only[WU,As,Au];omega
       have i2:WU (PU (GK b.bl.length b.sp b.ba) p) ((GK b.bl.length b.sp b.ba).getD k Cu)=true:=by
         simp only[WU,As,Au];omega
       have:=Adq H8 (by omega) (by omega) i1 i2;subst this;obtain ⟨p1,p2⟩:=p;obtain ⟨q1,q2⟩:=q;simp only at hm hk e1 e2;rw[BV];exact ⟨by omega,by omega⟩
     refine List.pairwise_map.2 ?_;refine List.Pairwise.imp_of_mem ?_ (List.nodup_iff_pairwise_ne.1 v.pn);intro p q hp hq Dt he;exact Dt (Po p hp q hq he)
   intro i hi;have Ea:i<b.pl.length:=by simpa [CM.net] using hi
   obtain ⟨m,hm,hml,e1,a1,a2,a3⟩:=hpl _ (CF b.pl i (0,0) Ea)
   show (GK b.bl.length b.sp b.ba).any (Mu ((b.pl.map (PU (GK b.bl.length b.sp b.ba))).getD i 0))=true/\(b.pl.map (PU (GK b.bl.length b.sp b.ba))).getD i 0∉(b.pl.map (PU (GK b.bl.length b.sp b.ba))).take i
   refine ⟨?_,λ Fe=>?_⟩
   . rw[getD_map' _ b.pl i (0,0) 0 Ea];exact ZP (by rw[hlen];exact hml) a3 (by omega) (by omega)
   . obtain ⟨k,hk,he⟩:=AD.1 Fe;have hi3:i<(b.pl.map (PU (GK b.bl.length b.sp b.ba))).length:=by simpa using Ea
     rw[List.getElem_take,gde hi3] at he;have IF:k<i:=by simp at hk;omega
     exact List.pairwise_iff_getElem.1 (List.nodup_iff_pairwise_ne.1 Bbn) k i (by omega) hi3 IF he
 . show 0<((GK b.bl.length b.sp b.ba).filter Da.CE).length
   rw[AV] at h2;obtain ⟨s,hs,hd⟩:=h2;obtain ⟨i,hi,rfl⟩:=AD.1 hs;have hm:(GK b.bl.length b.sp b.ba).getD i Cu∈(GK b.bl.length b.sp b.ba).filter Da.CE:=by
     rw[List.mem_filter];refine ⟨CF _ i Cu (by rw[hlen];exact hi),?_⟩;rw[XO _ _ _ VE i hi,gde hi];exact hd
   exact List.length_pos_of_mem hm
theorem Vp:∀(l:List Dc) (b:CM) (x e:Int),(Gb b l).1=some (x,e)->e≠0
 | [],b,x,e,h=>by simp[Gb] at h
 | d::r,b,x,e,h=>by
   simp only[Gb] at h;split at h
   . exact Vp r _ x e h
   . rename_i h0;simp only[Al,BV] at h;rw[<-h.2];exact h0
theorem NN(d:List Dc)(hd:smallD d)(h:(nbuildV d).2.2=0):validN (nbuildV d).1:=by
 have h1:BI (Gb CM.init d).2:=BI.init.Aab d;have h3:VI (Gb CM.init d).2:=VI.Aab d hd BI.init NI.init VI.init;have h2:=NI.Aab hd;unfold nbuildV at h ⊢;rcases hb:Gb CM.init d with ⟨o,b⟩;rw[hb] at h h1 h2 h3;cases o with
 | some p=>
   obtain ⟨x,e⟩:=p;exact absurd h (Vp d CM.init x e (by rw[hb]))
 | none=>
   simp only at h ⊢;by_cases c1:b.bl.length=0
   . rw[Ag c1,if_pos rfl] at h;simp at h
   . by_cases c2:b.sp.any (·.CE)=false
     . rw[if_neg (by simpa using c1),if_pos c2] at h;simp at h
     . rw[if_neg (by simpa using c1),if_neg c2];exact Afo h1 (h2 rfl) h3 c1 (by simpa using c2)
theorem Adz{g:List (List Int)}(hg:DV g):YP g:=⟨hg.1,λ _ hv=>Ae0 hg hv⟩
theorem all_zero{g:List (List Int)}{l:List Int}(hl:l.length=g.length):(l.all λ x=>decide (x=0))=true↔∀v,v<g.length->l.getD v (-1)=0:=by
 rw[AB];constructor
 . intro h v hv;have e:l.getD v (-1)=l[v]'(by omega):=getD_eq (by omega);rw[e];exact Ad (h _ (AN _))
 . intro h x hx;obtain ⟨v,hv,rfl⟩:=AD.1 hx;have e:l.getD v (-1)=l[v]:=getD_eq hv;rw[<-e];exact Ag (h v (by omega))
end Go.Am
end
