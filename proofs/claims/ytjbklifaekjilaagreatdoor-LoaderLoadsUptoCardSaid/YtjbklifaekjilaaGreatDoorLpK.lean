/- Texts of this proof, what it rests on, merged: part K. -/
import Derived.Test.YtjbklifaekjilaaGreatDoorLpJ
noncomputable section
namespace Go.Am
open Go Go.Proofs
open Tryz
set_option maxRecDepth 100000
set_option linter.unusedVariables false
set_option linter.unusedSimpArgs false
set_option maxHeartbeats 2000000
def Aj6(n:Nt):Bool:=(Fz n.next (HQ n)).all λ x=>decide (x=0)
theorem Apt{n:Nt}(hv:validN n):Aj6 n=true↔Aq0 n.next (HQ n):=by
 obtain ⟨hg,_,hl⟩:=DN hv;have h1:0<n.next.length:=by have:=hv.1.1;omega
 unfold Aj6 HQ;rw[all_zero (Ry _ _).1,Aj5 (Adz hg) h1]
def LM:Nt:=⟨[],[],[],[],0,0,0,0⟩
def Tc:FT:=⟨0,[],0,0⟩
def Uf(n:Nt):Nt×FT×Int×Int:=if Aj6 n=false then (LM,Tc,0,17) else if (RZ n).cap<((n.B6.length:Nat):Int) then (LM,Tc,0,18) else (n,RZ n,0,0)
end Go.Am
end
noncomputable section
namespace Go.Am
open Go Go.Proofs
open Tryz
open Classical in noncomputable def rCells_v (n:Nt):Option Int:=if validN n then some (cellsV n) else none
set_option maxRecDepth 100000
set_option linter.unusedVariables false
set_option linter.unusedSimpArgs false
set_option maxHeartbeats 2000000
theorem Ab6(n:Nt)(r:Int)(h:rCells_v n=some r):B2 prog 49 [.agg [.p (.sl (CX n.blocks)),.p (.sl (Cj n.next)),.p (.sl (CR n.spurs)),.p (.sl (BZ n.B6)),.p (.int .i64 n.cq),.p (.int .i64 n.ca),.p (.int .i64 n.cd),.p (.int .i64 n.cp)]] [] λ h d=>h=[]/\d= .p (.int .i64 r):=by unfold rCells_v at h;split at h<;>cases h;rename_i hs;exact Aa2 n hs
open Classical in noncomputable def rSlots_v (n:Nt) (sh:List Bool):Option Int:=if validN n/\(sh.length:Int)=cellsV n then some (slotsV sh n.spurs) else none
theorem Ab2(n:Nt)(sh:List Bool)(r:Int)(h:rSlots_v n sh=some r):B2 prog 48 [.agg [.p (.sl (CX n.blocks)),.p (.sl (Cj n.next)),.p (.sl (CR n.spurs)),.p (.sl (BZ n.B6)),.p (.int .i64 n.cq),.p (.int .i64 n.ca),.p (.int .i64 n.cd),.p (.int .i64 n.cp)],.p (.sl (CO sh))] [] λ h d=>h=[]/\d= .p (.int .i64 r):=by unfold rSlots_v at h;split at h<;>cases h;rename_i hs;exact Zn n hs.1 sh hs.2
def MR(a0:Nt):Option (FT×Int):=
 Option.bind (MO (⟨a0.blocks,a0.next,a0.spurs,a0.B6,a0.cq,a0.ca,a0.cd,a0.cp⟩:Nt)) λ x1=>cond x1 (cond (decide (a0.blocks.length<10000000)) (Option.bind (MU a0.next (List.replicate a0.blocks.length false)) λ (x5,x6,x7)=>Option.bind (rCells_v (⟨a0.blocks,a0.next,a0.spurs,a0.B6,a0.cq,a0.ca,a0.cd,a0.cp⟩:Nt)) λ x9=>cond (decide (0<=x9)&&decide ((Int.toNat x9)<10000000)) (Option.bind (rSlots_v (⟨a0.blocks,a0.next,a0.spurs,a0.B6,a0.cq,a0.ca,a0.cd,a0.cp⟩:Nt) (List.replicate (Int.toNat x9) false)) λ SV=>cond (decide (0<x5)) (some ((⟨x5,x6,SV,(if SV<(IntKind.i64.wrap (x5 - 1)) then SV else (IntKind.i64.wrap (x5 - 1)))⟩:FT),0)) (some ((⟨x5,x6,SV,SV⟩:FT),0))) none) none) (some ((⟨0,[],0,0⟩:FT),20))
theorem Ab5(a0:Nt)(r:FT×Int)(hr:MR a0=some r):
   B2 prog 21 [.agg [.p (.sl (CX a0.blocks)),.p (.sl (Cj a0.next)),.p (.sl (CR a0.spurs)),.p (.sl (BZ a0.B6)),.p (.int .i64 a0.cq),.p (.int .i64 a0.ca),.p (.int .i64 a0.cd),.p (.int .i64 a0.cp)]] [] λ h d=>h=[]/\d= .Dv [.agg [.p (.int .i64 r.1.Ix),.p (.sl (BZ r.1.HU)),.p (.int .i64 r.1.Cs),.p (.int .i64 r.1.cap)],.p (.int .i64 r.2)]:=by
 refine B1 func21 rfl p8 (by simp[Tryz.f21]) ?_;unfold MR at hr;obtain ⟨x1,g2,hr⟩:=bE hr;try simp only[go_sem]
 refine Cq (Aaz (⟨a0.blocks,a0.next,a0.spurs,a0.B6,a0.cq,a0.ca,a0.cd,a0.cp⟩:Nt) _ g2) ?_;cases c3:x1
 . simp only[c3,Aj] at hr;cases hr;(try simp only[go_sem,c3]);all_goals ((try refine BX ?_);(try simp only[go_sem,c3]);try first | rfl | exact ⟨rfl,rfl⟩ | (simp;done))
 simp only[c3,Ak] at hr;try simp only[go_sem,c3]
 refine CG mixed (p:=[(0,0),(1,0),(2,0),(3,0),(4,0),(5,1),(6,2),(7,0),(8,0),(9,0),(10,0),(11,0),(12,0),(13,0)]) (by kernel_rfl) (by simp[C8,get]) ?_;obtain ⟨c4,hr⟩:=gE hr;try simp only[go_sem]
 refine ⟨by have:=Ad c4;omega,?_⟩;obtain ⟨⟨x5,x6,x7⟩,g8,hr⟩:=bE hr;try simp only[go_sem,E4]
 refine Gq (Ab8 a0.next (List.replicate a0.blocks.length false) _ g8) ?_;try simp only[go_sem]
 refine CG mixed (p:=[(0,0),(1,0),(2,0),(3,0),(8,1),(4,2),(5,1),(6,2),(7,0),(9,3)]) (by kernel_rfl) (by simp[C8,get]) ?_;obtain ⟨x9,g10,hr⟩:=bE hr;try simp only[go_sem]
 refine Gq (Ab6 (⟨a0.blocks,a0.next,a0.spurs,a0.B6,a0.cq,a0.ca,a0.cd,a0.cp⟩:Nt) _ g10) ?_;obtain ⟨c11,hr⟩:=gE hr;try simp only[go_sem]
 refine ⟨by simp only[As,Au] at c11;omega,?_⟩;obtain ⟨SV,g13,hr⟩:=bE hr;try simp only[go_sem,E4]
 refine J1 rfl rfl (Ab2 (⟨a0.blocks,a0.next,a0.spurs,a0.B6,a0.cq,a0.ca,a0.cd,a0.cp⟩:Nt) (List.replicate (Int.toNat x9) false) _ g13) (by simp[GF,MA,ev,get,AA,ZB]<;>rfl) ?_;rintro h' r ⟨rfl,rfl⟩;refine ⟨rfl,rfl,?_⟩;cases c14:decide (0<x5)
 . simp only[c14,Aj] at hr;cases hr;(try simp only[go_sem,c14]);all_goals ((try refine BX ?_);(try simp only[go_sem,c14]);try first | rfl | exact ⟨rfl,rfl⟩ | (simp;done))
 simp only[c14,Ak] at hr;cases hr;try simp only[go_sem,c14]
 all_goals ((try refine BX ?_);(try simp only[go_sem,c14]);try first | rfl | exact ⟨rfl,rfl⟩ | (simp;done))
end Go.Am
end
noncomputable section
namespace Go.Am
open Go Go.Proofs
open Tryz
set_option maxRecDepth 100000
set_option linter.unusedVariables false
set_option linter.unusedSimpArgs false
set_option maxHeartbeats 2000000
def TU(s:List UInt8):Option (List Ln×Int×Int):=some (CN s)
theorem Ab4(s:List UInt8)(r:List Ln×Int×Int)(h:TU s=some r):B2 prog 14 [.p (.str s)] [] λ h d=>h=[]/\d= .Dv [.p (.sl (EG r.1)),.p (.int .i64 r.2.1),.p (.int .i64 r.2.2)]:=by cases h;exact Afw s
open Classical in noncomputable def rParse_v (l:List Ln):Option (List Dc×Int×Int):=if l.length<=10000000/\∀x∈l,x.fs.length<=10000000 then some (parseV l []) else none
theorem Ab3(l:List Ln)(r:List Dc×Int×Int)(h:rParse_v l=some r):B2 prog 15 [.p (.sl (EG l))] [] λ h d=>h=[]/\d= .Dv [.p (.sl (DX r.1)),.p (.int .i64 r.2.1),.p (.int .i64 r.2.2)]:=by unfold rParse_v at h;split at h<;>cases h;rename_i hs;exact Afj l hs.1 hs.2
def Tj(a0:List UInt8):Option (Nt×FT×Int×Int):=
 Option.bind (TU a0) λ (x1,x2,x3)=>cond (decide (x3=0)) (Option.bind (rParse_v x1) λ (x6,x7,x8)=>cond (decide (x8=0)) (Option.bind (MS x6) λ (Du,SV,KC)=>cond (decide (KC=0)) (cond (decide (Du.blocks.length<10000000)) (Option.bind (Rp Du.next (List.replicate Du.blocks.length false)) λ (KB,PZ)=>cond KB (Option.bind (MR (⟨Du.blocks,Du.next,Du.spurs,Du.B6,Du.cq,Du.ca,Du.cd,Du.cp⟩:Nt)) λ (OW,x22)=>cond (decide (OW.cap<((Du.B6.length:Nat):Int))) (some ((⟨[],[],[],[],0,0,0,0⟩:Nt),(⟨0,[],0,0⟩:FT),0,18)) (some ((⟨Du.blocks,Du.next,Du.spurs,Du.B6,Du.cq,Du.ca,Du.cd,Du.cp⟩:Nt),(⟨OW.Ix,OW.HU,OW.Cs,OW.cap⟩:FT),0,0))) (some ((⟨[],[],[],[],0,0,0,0⟩:Nt),(⟨0,[],0,0⟩:FT),0,17))) none) (some ((⟨[],[],[],[],0,0,0,0⟩:Nt),(⟨0,[],0,0⟩:FT),SV,KC))) (some ((⟨[],[],[],[],0,0,0,0⟩:Nt),(⟨0,[],0,0⟩:FT),x7,x8))) (some ((⟨[],[],[],[],0,0,0,0⟩:Nt),(⟨0,[],0,0⟩:FT),x2,x3))
theorem Af7(a0:List UInt8)(r:Nt×FT×Int×Int)(hr:Tj a0=some r):
   B2 prog 11 [.p (.str a0)] [] λ h d=>h=[]/\d= .Dv [.agg [.p (.sl (CX r.1.blocks)),.p (.sl (Cj r.1.next)),.p (.sl (CR r.1.spurs)),.p (.sl (BZ r.1.B6)),.p (.int .i64 r.1.cq),.p (.int .i64 r.1.ca),.p (.int .i64 r.1.cd),.p (.int .i64 r.1.cp)],.agg [.p (.int .i64 r.2.1.Ix),.p (.sl (BZ r.2.1.HU)),.p (.int .i64 r.2.1.Cs),.p (.int .i64 r.2.1.cap)],.p (.int .i64 r.2.2.1),.p (.int .i64 r.2.2.2)]:=by
 refine B1 func11 rfl Aoo (by simp[Tryz.f11]) ?_;unfold Tj at hr;obtain ⟨⟨x1,x2,x3⟩,g4,hr⟩:=bE hr;try simp only[go_sem]
 refine Cq (Ab4 a0 _ g4) ?_;cases c5:decide (x3=0)
 . simp only[c5,Aj] at hr;cases hr;(try simp only[go_sem,c5]);all_goals ((try refine BX ?_);(try simp only[go_sem,c5]);try first | rfl | exact ⟨rfl,rfl⟩ | (simp;done))
 simp only[c5,Ak] at hr;obtain ⟨⟨x6,x7,x8⟩,g9,hr⟩:=bE hr;try simp only[go_sem,c5]
 refine Cq (Ab3 x1 _ g9) ?_;cases HY:decide (x8=0)
 . simp only[HY,Aj] at hr;cases hr;(try simp only[go_sem,HY]);all_goals ((try refine BX ?_);(try simp only[go_sem,HY]);try first | rfl | exact ⟨rfl,rfl⟩ | (simp;done))
 simp only[HY,Ak] at hr;obtain ⟨⟨Du,SV,KC⟩,g14,hr⟩:=bE hr;try simp only[go_sem,HY]
 refine Cq (Ab7 x6 _ g14) ?_;cases HW:decide (KC=0)
 . simp only[HW,Aj] at hr;cases hr;(try simp only[go_sem,HW]);all_goals ((try refine BX ?_);(try simp only[go_sem,HW]);try first | rfl | exact ⟨rfl,rfl⟩ | (simp;done))
 simp only[HW,Ak] at hr;try simp only[go_sem,HW]
 refine CG mixed (p:=[(0,0),(1,0),(2,0),(3,0),(4,0),(5,1),(6,2),(7,0),(8,0),(9,0),(10,0),(11,0)]) (by kernel_rfl) (by simp[C8,get]) ?_;obtain ⟨IY,hr⟩:=gE hr;try simp only[go_sem]
 refine ⟨by have:=Ad IY;omega,?_⟩;obtain ⟨⟨KB,PZ⟩,g19,hr⟩:=bE hr;try simp only[go_sem,E4]
 refine J1 rfl rfl (Al0 Du.next (List.replicate Du.blocks.length false) _ g19) (by simp[GF,MA,ev,get,AA,ZB]<;>rfl) ?_;rintro h' r ⟨rfl,rfl⟩;refine ⟨rfl,rfl,?_⟩;cases NK:KB
 . simp only[NK,Aj] at hr;cases hr;(try simp only[go_sem,NK]);all_goals ((try refine BX ?_);(try simp only[go_sem,NK]);try first | rfl | exact ⟨rfl,rfl⟩ | (simp;done))
 simp only[NK,Ak] at hr;obtain ⟨⟨OW,x22⟩,g23,hr⟩:=bE hr;try simp only[go_sem,NK]
 refine Cq (Ab5 (⟨Du.blocks,Du.next,Du.spurs,Du.B6,Du.cq,Du.ca,Du.cd,Du.cp⟩:Nt) _ g23) ?_;cases HN:decide (OW.cap<((Du.B6.length:Nat):Int))
 . simp only[HN,Aj] at hr;(try simp only[go_sem,HN]);refine Dp [(10,.box [.p (.sl (CX Du.blocks)),.p (.sl (Cj Du.next)),.p (.sl (CR Du.spurs)),.p (.sl (BZ Du.B6)),.p (.int .i64 Du.cq),.p (.int .i64 Du.ca),.p (.int .i64 Du.cd),.p (.int .i64 Du.cp)]),(13,.box [.p (.int .i64 OW.Ix),.p (.sl (BZ OW.HU)),.p (.int .i64 OW.Cs),.p (.int .i64 OW.cap)])] mixed (p:=[(0,0),(1,0),(2,2),(3,2),(4,0),(5,0)]) (by kernel_rfl) (by simp[C8,get]) ?_;cases hr;(try simp only[go_sem]);all_goals ((try refine BX ?_);(try simp only[go_sem]);try first | rfl | exact ⟨rfl,rfl⟩ | (simp;done))
 simp only[HN,Ak] at hr;cases hr;try simp only[go_sem,HN]
 all_goals ((try refine BX ?_);(try simp only[go_sem,HN]);try first | rfl | exact ⟨rfl,rfl⟩ | (simp;done))
theorem Ax6(c j:Nat):(List.replicate c false).getD j false=false:=by
 simp only[List.getD,Bo];split<;>rfl
theorem Zo(c:Nat)(l:List Da):slotsV (List.replicate c false) l=F4 l:=by
 induction l with
 | nil=>rfl
 | cons s r ih=>
   have ho:M5 (List.replicate c false) s=true:=by
     unfold M5;simp only[Ax6,Bool.not_false,A7,AB];intro _ _;trivial
   simp only[slotsV,F4,ih,ho,Bool.and_true]
theorem Af9(n:Nt)(hs:F3 n):MR n=some (if validN n then (RZ n,0) else (⟨0,[],0,0⟩,20)):=by
 unfold MR;have hv:=Wx n hs;rw[show (⟨n.blocks,n.next,n.spurs,n.B6,n.cq,n.ca,n.cd,n.cp⟩:Nt)=n from rfl,hv];simp only[Aa];by_cases hn:validN n
 . obtain ⟨hg,_,hl⟩:=DN hn;have H8:EE n.blocks.length n.spurs:=hn.2.2.2.2.2.1;have h6:n.spurs.length<=6:=hn.2.1;have VC:=hg.1;have Axm:=P4 H8;have S5:0<=cellsV n/\cellsV n<=100:=by unfold cellsV;omega
   rw[if_pos hn,Ag hn];have c1:decide (n.blocks.length<10000000)=true:=Ag (by omega);have hc:rCells_v n=some (cellsV n):=by unfold rCells_v;rw[if_pos hn]
   have hsl:rSlots_v n (List.replicate (cellsV n).toNat false)=some (F4 n.spurs):=by
     unfold rSlots_v;rw[if_pos ⟨hn,by rw[Bi];omega⟩,Zo]
   simp only[Ak,c1];rw[<-hl,Afc hg (by simp)];simp only[Aa];rw[hc];simp only[Aa];have c2:(decide (0<=cellsV n)&&decide ((cellsV n).toNat<10000000))=true:=by
     rw[Ag S5.1,Ag (show (cellsV n).toNat<10000000 by omega)];rfl
   simp only[c2,Ak];rw[hsl];simp only[Aa];have hgl:=Px hg (List.replicate n.next.length false);unfold RZ HQ;dsimp only;by_cases c2:0<(FE n.next (List.replicate n.next.length false)).length
   . rw[Ag (show (0:Int)<(((FE n.next (List.replicate n.next.length false)).length:Nat):Int) by omega)];simp only[Ak];rw[B3 (by omega) (by omega)];by_cases c3:(((FE n.next (List.replicate n.next.length false)).length:Nat):Int) - 1<F4 n.spurs
     . rw[if_neg (by omega),if_pos ⟨c2,c3⟩]
     . by_cases c4:F4 n.spurs<(((FE n.next (List.replicate n.next.length false)).length:Nat):Int) - 1
       . rw[if_pos c4,if_neg (λ h=>c3 h.2)]
       . rw[if_neg c4,if_neg (λ h=>c3 h.2)];have e:(((FE n.next (List.replicate n.next.length false)).length:Nat):Int) - 1=F4 n.spurs:=by omega
         rw[e]
   . rw[Ah (show ¬(0:Int)<(((FE n.next (List.replicate n.next.length false)).length:Nat):Int) by omega)];simp only[Aj];rw[if_neg (λ h=>c2 h.1)]
 . rw[if_neg hn,Ah hn];simp only[Aj]
theorem RT(s:List UInt8):(CN s).1.length<=6001/\∀x∈(CN s).1,x.fs.length<=6000:=by
 unfold CN;split
 . simp
 . rename_i h;have h1:=JA 10 s;have h2:s.count 10<=s.length:=List.count_le_length;have h3:=Sj 6000 (C2 10 s) 1 [] (λ t ht=>by have:=P6 10 s t ht;omega) (by simp);exact ⟨by have:=h3.1;simp at this;omega,h3.2⟩
theorem LK(s:List UInt8):smallD (parseV (CN s).1 []).1:=by
 have h1:=RT s;have h2:=Qf 6000 (CN s).1 [] h1.2 (by simp);exact ⟨by have:=h2.1;simp at this;omega,λ x hx=>by have:=h2.2 x hx;omega⟩
theorem Vh(d:List Dc)(h:(nbuildV d).2.2=0):(nbuildV d).2.1=0:=by
 unfold nbuildV at h ⊢;rcases hb:Gb CM.init d with ⟨o,b⟩;rw[hb] at h;cases o with
 | some p=>
   obtain ⟨x,e⟩:=p;exact absurd h (Vp d CM.init x e (by rw[hb]))
 | none=>
   simp only at h ⊢;split
   . rfl
   . split<;>rfl
def Ss(s:List UInt8):Nt×FT×Int×Int:=
 if (CN s).2.2≠0 then (LM,Tc,(CN s).2.1,(CN s).2.2)
 else if (parseV (CN s).1 []).2.2≠0 then (LM,Tc,(parseV (CN s).1 []).2.1,(parseV (CN s).1 []).2.2)
 else if (nbuildV (parseV (CN s).1 []).1).2.2≠0 then (LM,Tc,(nbuildV (parseV (CN s).1 []).1).2.1,(nbuildV (parseV (CN s).1 []).1).2.2)
 else Uf (nbuildV (parseV (CN s).1 []).1).1
theorem Arj{n:Nt}(hv:validN n):(Option.bind (K2 n) λ (OX,KB)=>Option.bind (K3 n) λ R9=>cond R9 (some ((⟨[],[],[],[],0,0,0,0⟩:Nt),(⟨0,[],0,0⟩:FT),(0:Int),(17:Int))) (cond (decide (OX.cap<((n.B6.length:Nat):Int))) (some ((⟨[],[],[],[],0,0,0,0⟩:Nt),(⟨0,[],0,0⟩:FT),(0:Int),(18:Int))) (some (n,(⟨OX.Ix,OX.HU,OX.Cs,OX.cap⟩:FT),(0:Int),KB))))=some (Uf n):=by
 rw[WR n (Ev hv),if_pos hv,WS n (DN hv).1];simp only[Aa];unfold Uf Aj6 LM Tc;cases (Fz n.next (HQ n)).all λ x=>decide (x=0)
 . simp
 . simp only[Bool.not_true,Aj];rw[if_neg (by simp)];by_cases c:(RZ n).cap<((n.B6.length:Nat):Int)
   . rw[Ag c,if_pos c];rfl
   . rw[Ah c,if_neg c];rfl
theorem Afz(s:List UInt8):Ih s=some (Ss s):=by
 have hs:=RT s;have hd:=LK s;have S6:=Vh (parseV (CN s).1 []).1;have hbv:=NN (parseV (CN s).1 []).1 hd;unfold Ih Qp Ss;have hp:lParse_v (CN s).1=some (parseV (CN s).1 []):=by
   unfold lParse_v;rw[if_pos ⟨by omega,λ x hx=>by have:=hs.2 x hx;omega⟩]
 rcases h1:CN s with ⟨ls,x,e⟩;rw[h1] at hs hd hp S6 hbv;simp only[Aa];dsimp only at hs hd hp S6 hbv;by_cases c1:e=0
 . rw[Ag c1,Ak,if_neg (λ h=>h c1),hp,Aa];rcases h2:parseV ls [] with ⟨d,y,f⟩;rw[h2] at hd S6 hbv;dsimp only at hd S6 hbv ⊢;by_cases c2:f=0
   . rw[Ag c2,Ak,if_neg (λ h=>h c2)];have hb:lBuild_v d=some (nbuildV d):=by unfold lBuild_v;rw[if_pos hd]
     rw[hb,Aa];rcases h3:nbuildV d with ⟨n,z,g⟩;rw[h3] at S6 hbv;dsimp only at S6 hbv ⊢;by_cases c3:g=0
     . rw[Ag c3,Ak,if_neg (λ h=>h c3),S6 c3];exact Arj (hbv c3)
     . rw[Ah c3,Aj,if_pos c3];rfl
   . rw[Ah c2,Aj,if_pos c2];rfl
 . rw[Ah c1,Aj,if_pos c1];rfl
theorem Aul{n:Nt}(hv:validN n):Rp n.next (List.replicate n.blocks.length false)=some (Aj6 n,0):=by
 obtain ⟨hg,_,hl⟩:=DN hv;have h1:0<n.next.length:=by have:=hv.1.1;omega
 obtain ⟨r,h2,h3⟩:=Ar1 (Adz hg) h1;rw[<-hl,h2,Bm.2 (h3.trans (Apt hv).symm)]
theorem Af8(s:List UInt8):Tj s=some (Ss s):=by
 have hs:=RT s;have hd:=LK s;have S6:=Vh (parseV (CN s).1 []).1;have hbv:=NN (parseV (CN s).1 []).1 hd;unfold Tj TU Ss;have hp:rParse_v (CN s).1=some (parseV (CN s).1 []):=by
   unfold rParse_v;rw[if_pos ⟨by omega,λ x hx=>by have:=hs.2 x hx;omega⟩]
 rcases h1:CN s with ⟨ls,x,e⟩;rw[h1] at hs hd hp S6 hbv;simp only[Aa];dsimp only at hs hd hp S6 hbv;by_cases c1:e=0
 . rw[Ag c1,Ak,if_neg (λ h=>h c1),hp,Aa];rcases h2:parseV ls [] with ⟨d,y,f⟩;rw[h2] at hd S6 hbv;dsimp only at hd S6 hbv ⊢;by_cases c2:f=0
   . rw[Ag c2,Ak,if_neg (λ h=>h c2),Af5 d hd,Aa];rcases h3:nbuildV d with ⟨n,z,g⟩;rw[h3] at S6 hbv;dsimp only at S6 hbv ⊢;by_cases c3:g=0
     . rw[Ag c3,Ak,if_neg (λ h=>h c3)];have hv:=hbv c3;have hb:=hv.1.2;rw[Ag (by omega),Ak,Aul hv,Aa];rw[show (⟨n.blocks,n.next,n.spurs,n.B6,n.cq,n.ca,n.cd,n.cp⟩:Nt)=n from rfl,Af9 n (Ev hv),if_pos hv];unfold Uf LM Tc;cases Aj6 n
       . simp
       . simp only[Ak,Aa];rw[if_neg (by simp)];by_cases c:(RZ n).cap<((n.B6.length:Nat):Int)
         . rw[Ag c,if_pos c];rfl
         . rw[Ah c,if_neg c];rfl
     . rw[Ah c3,Aj,if_pos c3];rfl
   . rw[Ah c2,Aj,if_pos c2];rfl
 . rw[Ah c1,Aj,if_pos c1];rfl
theorem ZS{n:Nt}(hv:validN n):F3 (Uf n).1/\(Uf n).2.1.HU.length<=10000000:=by
 have h0:F3 LM:=⟨by simp[LM],⟨by simp[LM],by simp[LM]⟩,by simp[LM],by simp[LM]⟩;unfold Uf;split
 . exact ⟨h0,by simp[Tc]⟩
 . split
   . exact ⟨h0,by simp[Tc]⟩
   . have:=Px (DN hv).1 (HQ n);exact ⟨Ev hv,by show (FE n.next (HQ n)).length<=10000000;omega⟩
theorem ZR(s:List UInt8):F3 (Ss s).1/\(Ss s).2.1.HU.length<=10000000:=by
 have h0:F3 LM:=⟨by simp[LM],⟨by simp[LM],by simp[LM]⟩,by simp[LM],by simp[LM]⟩;unfold Ss;split
 . exact ⟨h0,by simp[Tc]⟩
 . split
   . exact ⟨h0,by simp[Tc]⟩
   . split
     . exact ⟨h0,by simp[Tc]⟩
     . rename_i h;exact ZS (NN _ (LK s) (Decidable.not_not.1 h))
theorem VK{n:Nt}(hs:F3 n):KJ n n=some true:=XS n hs.1 hs.2.1.1 hs.2.1.2 hs.2.2.1 hs.2.2.2
theorem VL{c:FT}(h:c.HU.length<=10000000):NW c c=some true:=by unfold NW;rw[Km _ h];simp
theorem Ue(raw:List UInt8)(l:List Int)(c1 c2 c3 c4:Int):
   B2 prog 3 [.p (.str raw),.p (.sl (BZ l)),.agg [.p (.int .i64 c1),.p (.int .i64 c2),.p (.int .i64 c3),.p (.int .i64 c4)]] [] λ h r=>h=[]/\r= .p (.bool true):=by
 refine B1 func3 rfl Ae3 (by simp[Tryz.f3]) ?_;simp only[go_sem];refine Cq ((Abv)) ?_;simp only[go_sem];refine Em (Aav l c1 c2 c3 c4) ?_;rintro h' r ⟨rfl,s,rfl⟩;simp only[go_sem];refine B7 (λ i=>⟨[(7,.ref 23 0 2 2),(8,.p (.int .i64 (i:Nat)))],[(23,.arr 9 1 [[.str raw],[.str s]])],68⟩) (λ i=>i<=2) (λ i=>2 - i) 0 (by omega) (BW (by simp[ZF])) ?_;rintro i m hi ih;cases c1:decide ((i:Int)<2)
 . simp only[go_sem,c1]
 have Ea:(0:Int)<=(i:Int)/\(i:Int)<2:=by have:=Ad c1;omega
 obtain ⟨x,hg⟩:∃x,([[.str raw],[.str s]]:List (List Pd)).getD i []=[.str x]:=by
   have:i=0∨i=1:=by omega
   rcases this with rfl | rfl
   . exact ⟨raw,rfl⟩
   . exact ⟨s,rfl⟩
 have hw:=Cd i (by omega);have hL:=RE x _ (Afz x);have hR:=Af7 x _ (Af8 x);have Yi:=ZR x;generalize Ss x=q at hL hR Yi;have hN:=Zt q.1 q.1 true (VK Yi.1);have hC:=Zu q.2.1 q.2.1 true (VL Yi.2);simp only[go_sem,c1,Ab,Ea,hg];refine Cq ((hL)) ?_;simp only[go_sem,c1,Ab,Ea,hg];refine Cq ((hR)) ?_;simp only[go_sem];refine Cq ((hN)) ?_;simp only[go_sem];refine Cq ((hC)) ?_;simp only[go_sem,hw];refine ih (i+1) _ (by omega) (by omega) ?_
 (refine BW ?_;simp[ZF];done)
end Go.Am
end
